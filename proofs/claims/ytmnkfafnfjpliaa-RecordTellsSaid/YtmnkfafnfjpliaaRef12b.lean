/- The reference's Sum, Step and Same of records are the program's. -/
import Derived.Test.YtmnkfafnfjpliaaRef12
import Derived.Test.YtmnkfafnfjpliaaPAllx11
import Derived.Test.YtmnkfafnfjpliaaPAllx12
namespace Go.Proofs.Ytmnkfafnfjpliaa.Pure
open Go.RowKit Go.Proofs.Ytmnkfafnfjpliaa.PAll Go.Proofs.YtmnkfafnfjpliaaW.PrintWords Go.Proofs.YtmnkfafnfjpliaaW.PrintLast
set_option linter.unusedVariables false
set_option linter.unusedSimpArgs false
theorem rd_lv (l : List S44) (i : Nat) (h : i < (lv l).length) : rd_T44 l (i : Int) = rd_T44 (lv l) (i : Int) := by
  have h2 : i < (RecP.lp 0 (l.map toR)).length := by rw [← lv_len]; exact h
  unfold rd_T44 lv
  rw [Int.toNat_natCast]
  simp [List.getD, List.getElem?_take, h2]
theorem ref_sum_loop (l : List S44) (hl : l.length ≤ 400) (t : Int) (rest : List S44) : ∀ (pre : List S44) (a : RecP.R) (k : Nat), lv l = pre ++ rest → RecP.G a (rest.map toR) → rest.length < k →
    epactref12_Sum.l0 k l t a.corr (pre.length : Int) = some (RecP.sm a.corr (rest.map toR) t) := by
  have le := lv_le l
  induction rest with
  | nil =>
    intro pre a k e g hk
    obtain ⟨k, rfl⟩ : ∃ m, k = m + 1 := ⟨k - 1, by omega⟩
    have e' : (lv l).length = pre.length := by rw [e]; simp
    simp only [epactref12_Sum.l0]
    rw [ref_leaps_law l (by omega)]
    simp only [Option.bind_some]
    rw [if_neg (by omega)]; rfl
  | cons x rest ih =>
    intro pre a k e g hk
    simp only [List.length_cons] at hk
    obtain ⟨k, rfl⟩ : ∃ m, k = m + 1 := ⟨k - 1, by omega⟩
    have hlen : (lv l).length = pre.length + (rest.length + 1) := by rw [e]; simp
    have hr : rd_T44 l (pre.length : Int) = x := by rw [rd_lv l _ (by omega), e]; exact rdr_at pre rest x
    obtain ⟨g1, g2, g3, g4⟩ := g
    have d0 : (toR x).at_ = x.f0 := rfl
    have d1 : (toR x).corr = x.f1 := rfl
    simp only [epactref12_Sum.l0]
    rw [ref_leaps_law l (by omega)]
    simp only [Option.bind_some]
    rw [if_pos (by omega), if_pos (by omega), if_pos (by omega), hr, w64 (by omega) (by omega)]
    simp only [List.map_cons, RecP.sm, d0, d1]
    by_cases ht : x.f0 ≤ t
    · rw [if_pos ht, if_pos ht]
      have := ih (pre ++ [x]) (toR x) k (by rw [e]; simp) g4 (by omega)
      rw [d1] at this
      simp only [List.length_append, List.length_cons, List.length_nil] at this
      rw [show ((pre.length : Int) + 1) = ((pre.length + (0 + 1) : Nat) : Int) by omega]
      exact this
    · rw [if_neg ht, if_neg ht]
      have rest_none : ∀ (rest : List S44) (pre : List S44) (k : Nat) (n : Int), lv l = pre ++ rest → (∀ y ∈ rest, t < y.f0) → rest.length < k → epactref12_Sum.l0 k l t n (pre.length : Int) = some n := by
        intro rest
        induction rest with
        | nil =>
          intro pre k n e _ hk
          obtain ⟨k, rfl⟩ : ∃ m, k = m + 1 := ⟨k - 1, by omega⟩
          have e' : (lv l).length = pre.length := by rw [e]; simp
          simp only [epactref12_Sum.l0]
          rw [ref_leaps_law l (by omega)]
          simp only [Option.bind_some]
          rw [if_neg (by omega)]
        | cons y rest ih =>
          intro pre k n e hy hk
          simp only [List.length_cons] at hk
          obtain ⟨k, rfl⟩ : ∃ m, k = m + 1 := ⟨k - 1, by omega⟩
          have hlen : (lv l).length = pre.length + (rest.length + 1) := by rw [e]; simp
          have hr : rd_T44 l (pre.length : Int) = y := by rw [rd_lv l _ (by omega), e]; exact rdr_at pre rest y
          have := hy y (by simp)
          simp only [epactref12_Sum.l0]
          rw [ref_leaps_law l (by omega)]
          simp only [Option.bind_some]
          rw [if_pos (by omega), if_pos (by omega), if_pos (by omega), hr, if_neg (by omega), w64 (by omega) (by omega)]
          have := ih (pre ++ [y]) k n (by rw [e]; simp) (fun z hz => hy z (by simp [hz])) (by omega)
          simp only [List.length_append, List.length_cons, List.length_nil] at this
          rw [show ((pre.length : Int) + 1) = ((pre.length + (0 + 1) : Nat) : Int) by omega]
          exact this
      have := rest_none rest (pre ++ [x]) k a.corr (by rw [e]; simp) (fun y hy => by
        have := RecP.G_above _ _ g4 (toR y) (List.mem_map_of_mem hy)
        have : x.f0 + 2419199 ≤ y.f0 := this
        omega) (by omega)
      simp only [List.length_append, List.length_cons, List.length_nil] at this
      rw [show ((pre.length : Int) + 1) = ((pre.length + (0 + 1) : Nat) : Int) by omega]
      exact this
theorem ref_rsum_law (l : List S44) (hl : l.length ≤ 400) (h : RecP.G RecP.start (RecP.lp 0 (l.map toR))) (t : Int) (k : Nat) (hk : l.length < k) : epactref12_Sum.f k l t = some (RecP.sm 0 (RecP.lp 0 (l.map toR)) t) := by
  have le := lv_le l
  unfold epactref12_Sum.f
  have := ref_sum_loop l hl t (lv l) [] RecP.start k rfl (by rw [lv_map]; exact h) (by omega)
  simp only [List.length_nil, Int.natCast_zero, lv_map] at this
  exact this
theorem ref_step_loop (l : List S44) (hl : l.length ≤ 400) (G0 : RecP.G RecP.start (RecP.lp 0 (l.map toR))) (t : Int) (rest : List S44) : ∀ (pre : List S44) (a : RecP.R) (k : Nat), lv l = pre ++ rest → RecP.G a (rest.map toR) → (if pre.length = 0 then 0 else (rd_T44 l ((pre.length - 1 : Nat) : Int)).f1) = a.corr → -400 ≤ a.corr → a.corr ≤ 400 → rest.length < k →
    epactref12_Step.l0 k l t (pre.length : Int) = some (RecP.sp a.corr (rest.map toR) t) := by
  have le := lv_le l
  induction rest with
  | nil =>
    intro pre a k e g _ _ _ hk
    obtain ⟨k, rfl⟩ : ∃ m, k = m + 1 := ⟨k - 1, by omega⟩
    have e' : (lv l).length = pre.length := by rw [e]; simp
    simp only [epactref12_Step.l0]
    rw [ref_leaps_law l (by omega)]
    simp only [Option.bind_some]
    rw [if_neg (by omega)]; rfl
  | cons x rest ih =>
    intro pre a k e g hp b1 b2 hk
    simp only [List.length_cons] at hk
    obtain ⟨k, rfl⟩ : ∃ m, k = m + 1 := ⟨k - 1, by omega⟩
    have hlen : (lv l).length = pre.length + (rest.length + 1) := by rw [e]; simp
    have hr : rd_T44 l (pre.length : Int) = x := by rw [rd_lv l _ (by omega), e]; exact rdr_at pre rest x
    have cb := RecP.G_corr _ _ G0 (toR x) (by rw [← lv_map, e]; simp)
    rw [← lv_map, List.length_map] at cb
    obtain ⟨g1, g2, g3, g4⟩ := g
    have d0 : (toR x).at_ = x.f0 := rfl
    have d1 : (toR x).corr = x.f1 := rfl
    have sc : RecP.start.corr = 0 := rfl
    rw [d1, sc] at cb
    simp only [epactref12_Step.l0]
    rw [ref_leaps_law l (by omega)]
    simp only [Option.bind_some]
    rw [if_pos (by omega), if_pos (by omega), if_pos (by omega), hr]
    simp only [List.map_cons, RecP.sp, d0, d1]
    by_cases ht : x.f0 = t
    · rw [if_pos ht, ahead_law l pre.length (by omega) (by omega), hp]
      simp only [Option.bind_some]
      rw [if_pos (by omega), if_pos ht, w64 (by omega) (by omega)]
    · rw [if_neg ht, w64 (by omega) (by omega)]
      have hp' : rd_T44 l (((pre ++ [x]).length - 1 : Nat) : Int) = x := by
        rw [show (pre ++ [x]).length - 1 = pre.length by simp]; exact hr
      have := ih (pre ++ [x]) (toR x) k (by rw [e]; simp) g4 (by rw [if_neg (by simp), hp']; rfl) (by rw [d1]; omega) (by rw [d1]; omega) (by omega)
      rw [d1] at this
      simp only [List.length_append, List.length_cons, List.length_nil] at this
      rw [show ((pre.length : Int) + 1) = ((pre.length + (0 + 1) : Nat) : Int) by omega, this]
      by_cases h2 : x.f0 ≤ t
      · rw [if_pos h2, if_neg ht]
      · have := (RecP.sm_ahead _ _ t g4 (by rw [d0]; omega)).2
        rw [d1] at this
        rw [if_neg h2, this]
theorem ref_rstep_law (l : List S44) (hl : l.length ≤ 300) (h : RecP.G RecP.start (RecP.lp 0 (l.map toR))) (t : Int) (k : Nat) (hk : l.length < k) : epactref12_Step.f k l t = some (RecP.sp 0 (RecP.lp 0 (l.map toR)) t) := by
  have le := lv_le l
  unfold epactref12_Step.f
  have sc : RecP.start.corr = 0 := rfl
  have := ref_step_loop l (by omega) h t (lv l) [] RecP.start k rfl (by rw [lv_map]; exact h) (by simp [sc]) (by rw [sc]; omega) (by rw [sc]; omega) (by omega)
  simp only [List.length_nil, Int.natCast_zero, lv_map] at this
  exact this
theorem ref_same_loop (a b : List S44) (hl : a.length ≤ 9223372036854775806) (ra : List S44) : ∀ (pa pb rb : List S44) (k : Nat), a = pa ++ ra → b = pb ++ rb → pa.length = pb.length → ra.length = rb.length → ra.length < k →
    epactref12_Same.l0 k a b (pa.length : Int) = some (sameR ra rb) := by
  induction ra with
  | nil =>
    intro pa pb rb k ea eb hp hr hk
    obtain ⟨k, rfl⟩ : ∃ m, k = m + 1 := ⟨k - 1, by omega⟩
    have : a.length = pa.length := by rw [ea]; simp
    cases rb with
    | nil => simp only [epactref12_Same.l0]; rw [if_neg (by omega)]; rfl
    | cons y rb => simp at hr
  | cons x ra ih =>
    intro pa pb rb k ea eb hp hr hk
    cases rb with
    | nil => simp at hr
    | cons y rb =>
      simp only [List.length_cons] at hk hr
      obtain ⟨k, rfl⟩ : ∃ m, k = m + 1 := ⟨k - 1, by omega⟩
      have la : a.length = pa.length + (ra.length + 1) := by rw [ea]; simp
      have lb : b.length = pb.length + (rb.length + 1) := by rw [eb]; simp
      have hx : rd_T44 a (pa.length : Int) = x := by rw [ea]; exact rdr_at pa ra x
      have hy : rd_T44 b (pa.length : Int) = y := by rw [eb, hp]; exact rdr_at pb rb y
      simp only [epactref12_Same.l0, sameR]
      rw [if_pos (by omega), if_pos (by omega), if_pos (by omega), hx, hy]
      cases h0 : (x.f0 == y.f0) with
      | false => simp
      | true =>
        cases h1 : (x.f1 == y.f1) with
        | false => simp
        | true =>
          simp only [Bool.not_true, Bool.or_self, Bool.false_eq_true, if_false, Bool.and_self, Bool.true_and]
          have := ih (pa ++ [x]) (pb ++ [y]) rb k (by rw [ea]; simp) (by rw [eb]; simp) (by simp [hp]) (by omega) (by omega)
          simp only [List.length_append, List.length_cons, List.length_nil] at this
          rw [w64 (n := (pa.length : Int) + 1) (by omega) (by omega), show ((pa.length : Int) + 1) = ((pa.length + (0 + 1) : Nat) : Int) by omega]
          exact this
theorem ref_rsame_law (a b : List S44) (hl : a.length ≤ 9223372036854775806) (k : Nat) (hk : a.length < k) : epactref12_Same.f k a b = some (sameR a b) := by
  unfold epactref12_Same.f
  by_cases h : (a.length : Int) = (b.length : Int)
  · rw [if_pos h]
    have := ref_same_loop a b hl a [] [] b k rfl rfl rfl (by omega) hk
    simp only [List.length_nil, Int.natCast_zero] at this
    exact this
  · rw [if_neg h, sameR_len a b (by omega)]
end Go.Proofs.Ytmnkfafnfjpliaa.Pure
