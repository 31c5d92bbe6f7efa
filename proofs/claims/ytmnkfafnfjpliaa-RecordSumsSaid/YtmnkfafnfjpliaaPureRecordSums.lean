/- RecordSums: a sum is that of all steps up to a second, and changes just at leaps, by their step; any right records, any second: no condition. -/
import Derived.Test.YtmnkfafnfjpliaaSmall12
import Derived.Test.YtmnkfafnfjpliaaRec3
import Derived.Test.YtmnkfafnfjpliaaRecQ
import Derived.Test.YtmnkfafnfjpliaaStmtRecordSums
namespace Go.Proofs.Ytmnkfafnfjpliaa.Pure
open Go.RowKit Go.Proofs.Ytmnkfafnfjpliaa.PAll Go.Proofs.YtmnkfafnfjpliaaW.PrintWords Go.Proofs.YtmnkfafnfjpliaaW.PrintLast
theorem ssum_bd (f : Int → Int) (t : Int) (hf : ∀ x, -1 ≤ f x ∧ f x ≤ 1) : ∀ (l : List RecP.R), -(l.length : Int) ≤ RecP.ssum f t l ∧ RecP.ssum f t l ≤ l.length := by
  intro l
  induction l with
  | nil => simp [RecP.ssum]
  | cons c l ih => simp only [RecP.ssum, List.length_cons]; have := hf c.at_; split <;> omega
theorem sums_loop (l : List S44) (hl : l.length ≤ 201) (R1 : RecP.G RecP.start (RecP.lp 0 (l.map toR))) (t : Int) (k : Nat) (rest : List S44) : ∀ (pre : List S44) (n : Int), l = pre ++ rest → -(pre.length : Int) ≤ n → n ≤ pre.length →
    epactlaw12_RecordSums.l0 (k + 1 + rest.length) l t true n (pre.length : Int) = epactlaw12_RecordSums.l0 (k + 1) l t true (n + RecP.ssum (fun x => RecP.sp 0 (RecP.lp 0 (l.map toR)) x) t (rest.map toR)) (l.length : Int) := by
  have bd := fun t => RecP.sp_bd (RecP.lp 0 (l.map toR)) RecP.start t R1
  have sc : RecP.start.corr = 0 := rfl
  rw [sc] at bd
  induction rest with
  | nil =>
    intro pre n e _ _
    have : l.length = pre.length := by rw [e]; simp
    simp only [List.map_nil, RecP.ssum, List.length_nil, Nat.add_zero, this]
    rw [show n + 0 = n by omega]
  | cons x rest ih =>
    intro pre n e b0 b1
    have hlen : l.length = pre.length + (rest.length + 1) := by rw [e]; simp
    have hr : rd_T44 l (pre.length : Int) = x := by rw [e]; exact rdr_at pre rest x
    have d0 : (toR x).at_ = x.f0 := rfl
    generalize hE : epactlaw12_RecordSums.l0 (k + 1) l t true (n + RecP.ssum (fun x => RecP.sp 0 (RecP.lp 0 (l.map toR)) x) t ((x :: rest).map toR)) (l.length : Int) = E
    obtain ⟨K, hK⟩ : ∃ K, K = k + rest.length + 1 := ⟨_, rfl⟩
    rw [List.length_cons, show k + 1 + (rest.length + 1) = K + 1 by omega]
    simp only [epactlaw12_RecordSums.l0]
    rw [if_pos (by omega), if_pos (by omega), hr, hK]
    subst hE
    simp only [List.map_cons, RecP.ssum, d0]
    rw [w64 (n := (pre.length : Int) + 1) (by omega) (by omega)]
    by_cases ht : x.f0 ≤ t
    · have := bd x.f0
      rw [if_pos ht, if_pos ht, rstep_law l (by omega) R1]
      simp only [Option.bind_some]
      rw [w64 (by omega) (by omega)]
      have := ih (pre ++ [x]) (n + RecP.sp 0 (RecP.lp 0 (l.map toR)) x.f0) (by rw [e]; simp) (by simp; omega) (by simp; omega)
      simp only [List.length_append, List.length_cons, List.length_nil] at this
      rw [show ((pre.length : Int) + 1) = ((pre.length + (0 + 1) : Nat) : Int) by omega, show k + rest.length + 1 = k + 1 + rest.length by omega, this]
      congr 1; omega
    · rw [if_neg ht, if_neg ht]
      have := ih (pre ++ [x]) n (by rw [e]; simp) (by simp; omega) (by simp; omega)
      simp only [List.length_append, List.length_cons, List.length_nil] at this
      rw [show ((pre.length : Int) + 1) = ((pre.length + (0 + 1) : Nat) : Int) by omega, show k + rest.length + 1 = k + 1 + rest.length by omega, this]
      congr 1; omega
theorem sums_j3 (l : List S44) (hl : l.length ≤ 201) (R1 : RecP.G RecP.start (RecP.lp 0 (l.map toR))) (t : Int) (k : Nat) (h0 : I64 t) (h1 : t ≠ -9223372036854775808) : epactlaw12_RecordSums.j3 (k + 2) l t true (RecP.sm 0 (RecP.lp 0 (l.map toR)) t) = some true := by
  have bd := RecP.sp_bd _ _ t R1
  have sb := RecP.sm_bd _ _ (t - 1) R1
  have st := RecP.sm_step _ _ t R1
  have ll := RecP.lp_len (l.map toR) RecP.start
  have sc : RecP.start.corr = 0 := rfl
  rw [sc] at bd sb st ll
  rw [List.length_map] at ll
  unfold I64 at h0
  simp only [epactlaw12_RecordSums.j3]
  rw [rstep_law l (by omega) R1, rsum_law l (by omega) R1, w64 (n := t - 1) (by omega) (by omega), rsum_law l (by omega) R1]
  simp only [Option.bind_some, if_true]
  rw [w64 (by omega) (by omega), if_pos st, if_pos (by omega), decide_eq_true (by omega)]
theorem sums_end (l : List S44) (R : RecP.Right (l.map toR)) (hl : l.length ≤ 201) (t : Int) (k : Nat) (h0 : I64 t) (h1 : t ≠ -9223372036854775808) :
    epactlaw12_RecordSums.l0 (k + 6) l t true (RecP.ssum (fun x => RecP.sp 0 (RecP.lp 0 (l.map toR)) x) t (l.map toR)) (l.length : Int) = some true := by
  have R1 := R.1
  have sc : RecP.start.corr = 0 := rfl
  have al := RecP.ssum_all _ R t
  have fin := sums_j3 l hl R1 t (k + 2) h0 h1
  have bd := fun t => RecP.sp_bd (RecP.lp 0 (l.map toR)) RecP.start t R1
  have sb := RecP.sm_bd _ _ t R1
  have ll := RecP.lp_len (l.map toR) RecP.start
  rw [sc] at bd sb ll
  rw [List.length_map] at ll
  generalize hN : RecP.ssum (fun x => RecP.sp 0 (RecP.lp 0 (l.map toR)) x) t (l.map toR) = N at al ⊢
  have no : N = RecP.sm 0 (RecP.lp 0 (l.map toR)) t → epactlaw12_RecordSums.j2 (k + 5) l t true N (l.length : Int) false = some true := by
    intro e
    simp only [epactlaw12_RecordSums.j2, Bool.false_eq_true, if_false]
    rw [e]; exact fin
  simp only [epactlaw12_RecordSums.l0]
  rw [if_neg (by omega)]
  cases he : RecP.ex 0 (l.map toR) with
  | none =>
    rw [he] at al
    have lvl := ex_no l he
    have mp := lv_map l
    rw [lvl] at mp
    by_cases h2 : (l.length : Int) > 1
    · rw [if_pos h2, w64 (by omega) (by omega), w64 (by omega) (by omega), if_pos (by omega), if_pos (by omega), if_pos (by omega), if_pos (by omega)]
      have pw := RecP.G_asc _ _ R1
      rw [← mp, List.pairwise_map] at pw
      have lt := List.pairwise_iff_getElem.mp pw (l.length - 2) (l.length - 1) (by omega) (by omega) (by omega)
      have g1 : rd_T44 l ((l.length : Int) - 1) = l[l.length - 1] := by
        unfold rd_T44; rw [show ((l.length : Int) - 1).toNat = l.length - 1 by omega]; simp [List.getD, show l.length - 1 < l.length by omega]
      have g2 : rd_T44 l ((l.length : Int) - 2) = l[l.length - 2] := by
        unfold rd_T44; rw [show ((l.length : Int) - 2).toNat = l.length - 2 by omega]; simp [List.getD, show l.length - 2 < l.length by omega]
      rw [g1, g2]
      have lt : (l[l.length - 2]).f0 < (l[l.length - 1]).f0 := lt
      rw [if_neg (by omega)]
      exact no (by simpa using al)
    · rw [if_neg h2]; exact no (by simpa using al)
  | some e =>
    rw [he] at al ll
    simp only [Option.isSome_some, if_true] at ll
    obtain ⟨e1, e2, e3⟩ := ex_at l e he
    have bh := (R.2.1 e he).2
    have lvm := lv_map l
    by_cases h2 : (l.length : Int) > 1
    · rw [if_pos h2, w64 (by omega) (by omega), w64 (by omega) (by omega), if_pos (by omega), if_pos (by omega), if_pos (by omega), if_pos (by omega)]
      rw [show ((l.length : Int) - 1) = ((lv l).length : Int) by omega, e2]
      have ne : RecP.lp 0 (l.map toR) ≠ [] := by intro h; rw [h] at ll; simp at ll; omega
      have g2 : (rd_T44 l ((l.length : Int) - 2)).f0 = (RecP.lastR RecP.start (RecP.lp 0 (l.map toR))).at_ := by
        rw [RecP.lastR_getD _ RecP.start ⟨0, 0⟩ ne]
        have : rd_T44 l ((l.length : Int) - 2) = rd_T44 (lv l) (((RecP.lp 0 (l.map toR)).length - 1 : Nat) : Int) := by
          unfold rd_T44 lv
          rw [show ((l.length : Int) - 2).toNat = (RecP.lp 0 (l.map toR)).length - 1 by omega, Int.toNat_natCast]
          have hlt : (RecP.lp 0 (l.map toR)).length - 1 < (RecP.lp 0 (l.map toR)).length := by
            have := List.length_pos_iff.mpr ne; omega
          simp [List.getD, hlt]
        rw [this]
        have q := rdr_map (lv l) ((RecP.lp 0 (l.map toR)).length - 1)
        rw [lvm] at q
        rw [q]; rfl
      rw [g2]
      by_cases q : e = (RecP.lastR RecP.start (RecP.lp 0 (l.map toR))).at_
      · rw [if_pos q]
        by_cases ht : e ≤ t
        · rw [decide_eq_true ht]
          simp only [if_pos ht] at al
          simp only [epactlaw12_RecordSums.j2, if_true]
          rw [w64 (by omega) (by omega), show ((l.length : Int) - 1) = ((lv l).length : Int) by omega, if_pos (by omega), if_pos (by omega), e2, rstep_law l (by omega) R1]
          simp only [Option.bind_some]
          have := bd e
          rw [w64 (by omega) (by omega), show N - RecP.sp 0 (RecP.lp 0 (l.map toR)) e = RecP.sm 0 (RecP.lp 0 (l.map toR)) t by omega]
          exact fin
        · rw [decide_eq_false ht]
          simp only [if_neg ht] at al
          exact no (by omega)
      · rw [if_neg q]
        have z : RecP.sp 0 (RecP.lp 0 (l.map toR)) e = 0 := by
          have := RecP.sp_behind (RecP.lp 0 (l.map toR)) RecP.start e (fun c hc => by
            have h := RecP.G_le_last _ _ R1 c hc
            omega)
          rwa [sc] at this
        have al : N = RecP.sm 0 (RecP.lp 0 (l.map toR)) t + (if e ≤ t then RecP.sp 0 (RecP.lp 0 (l.map toR)) e else 0) := al
        rw [z, ite_self] at al
        exact no (by omega)
    · rw [if_neg h2]
      have z : RecP.lp 0 (l.map toR) = [] := by
        have : (RecP.lp 0 (l.map toR)).length = 0 := by omega
        exact List.length_eq_zero_iff.mp this
      refine no ?_
      rw [z] at al ⊢
      simp only [RecP.sp, ite_self, RecP.sm] at al ⊢
      omega
theorem RecordSums : epactlaw12_RecordSums.Pure := by
  intro l t hw hm ht
  have hw := wr_of hw
  have ht := i64_of ht
  refine ⟨2002, ?_⟩
  unfold epactlaw12_RecordSums.f
  rw [small12 2002 (by omega)]
  simp only [Option.bind_some]
  have out : epactlaw12_RecordSums.j0 2002 l t true true = some true := by simp [epactlaw12_RecordSums.j0]
  by_cases h0 : (l.length : Int) > 300
  · rw [if_pos h0]; exact out
  · rw [if_neg h0, rright_law l (by omega) hw _ (by omega)]
    simp only [Option.bind_some]
    cases hr : ((RecP.check (l.map toR)).2 == 0) with
    | false => rw [if_neg (by simp)]; exact out
    | true =>
      obtain ⟨R, hn⟩ := rrn_of hr
      rw [if_pos rfl]
      by_cases hz : t = -9223372036854775808
      · rw [beq_iff_eq.mpr hz]; exact out
      · rw [beq_eq_false_iff_ne.mpr hz]
        clear out
        simp only [epactlaw12_RecordSums.j0, Bool.false_eq_true, if_false]
        have := sums_loop l hn R.1 t (2000 - l.length) l [] 0 rfl (by simp) (by simp)
        simp only [List.length_nil, Int.natCast_zero] at this
        rw [show 2000 - l.length + 1 + l.length = 2001 by omega] at this
        rw [this, show (0 : Int) + RecP.ssum (fun x => RecP.sp 0 (RecP.lp 0 (l.map toR)) x) t (l.map toR) = RecP.ssum (fun x => RecP.sp 0 (RecP.lp 0 (l.map toR)) x) t (l.map toR) by omega]
        have := sums_end l R hn t (1995 - l.length) ht hz
        rw [show 1995 - l.length + 6 = 2000 - l.length + 1 by omega] at this
        exact this
end Go.Proofs.Ytmnkfafnfjpliaa.Pure
