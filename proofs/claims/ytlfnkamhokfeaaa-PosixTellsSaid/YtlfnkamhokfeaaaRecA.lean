/- What Expiry, Sum, Step and Table of the package record tell, in the words of plain lists. -/
import Derived.Test.YtlfnkamhokfeaaaRec
import Derived.Test.YtlfnkamhokfeaaaPAllx2
import Derived.Test.YtlfnkamhokfeaaaPAllx4
import Derived.Test.YtlfnkamhokfeaaaPAllx5
import Derived.Test.YtlfnkamhokfeaaaPAllx3
namespace Go.Proofs.Ytlfnkamhokfeaaa.Pure
open Go.RowKit Go.Proofs.Ytlfnkamhokfeaaa.PAll Go.Proofs.YtlfnkamhokfeaaaW.PrintWords Go.Proofs.YtlfnkamhokfeaaaW.PrintLast
set_option linter.unusedVariables false
set_option linter.unusedSimpArgs false
theorem mn_min (a b : Int) : mn a b = min a b := by unfold mn; omega
/-- the last record, and what it says when its sum is that of the one ahead -/
theorem lp_idx : ∀ (l : List RecP.R) (a : Int), 0 < l.length →
    ((l.getD (l.length - 1) ⟨0, 0⟩).corr = (if l.length = 1 then a else (l.getD (l.length - 2) ⟨0, 0⟩).corr) → (RecP.lp a l).length = l.length - 1 ∧ RecP.ex a l = some (l.getD (l.length - 1) ⟨0, 0⟩).at_) ∧
    (¬ (l.getD (l.length - 1) ⟨0, 0⟩).corr = (if l.length = 1 then a else (l.getD (l.length - 2) ⟨0, 0⟩).corr) → (RecP.lp a l).length = l.length ∧ RecP.ex a l = none) := by
  intro l
  induction l with
  | nil => intro a h; simp at h
  | cons c l ih =>
    intro a _
    cases l with
    | nil =>
      simp only [List.length_cons, List.length_nil, RecP.lp, RecP.ex, true_and]
      by_cases h : c.corr = a
      · simp [h]
      · simp [h]
    | cons d l =>
      have := ih c.corr (by simp)
      have e : RecP.lp a (c :: d :: l) = c :: RecP.lp c.corr (d :: l) := by rw [RecP.lp, if_neg (by simp)]
      have e2 : RecP.ex a (c :: d :: l) = RecP.ex c.corr (d :: l) := by rw [RecP.ex, if_neg (by simp)]
      rw [e, e2]
      have g1 : (c :: d :: l).getD ((c :: d :: l).length - 1) ⟨0, 0⟩ = (d :: l).getD ((d :: l).length - 1) ⟨0, 0⟩ := by
        rw [show (c :: d :: l).length - 1 = ((d :: l).length - 1) + 1 by simp, List.getD_cons_succ]
      have g2 : (if (c :: d :: l).length = 1 then a else ((c :: d :: l).getD ((c :: d :: l).length - 2) ⟨0, 0⟩).corr) = (if (d :: l).length = 1 then c.corr else ((d :: l).getD ((d :: l).length - 2) ⟨0, 0⟩).corr) := by
        rw [if_neg (by simp)]
        cases l with
        | nil => simp
        | cons f l => rw [if_neg (by simp), show (c :: d :: f :: l).length - 2 = ((d :: f :: l).length - 2) + 1 by simp, List.getD_cons_succ]
      rw [g1, g2]
      refine ⟨fun h => ?_, fun h => ?_⟩
      · have := this.1 h; simp only [List.length_cons] at this ⊢; exact ⟨by omega, this.2⟩
      · have := this.2 h; simp only [List.length_cons] at this ⊢; exact ⟨by omega, this.2⟩
theorem lp_take (l : List RecP.R) (a : RecP.R) : l.take (RecP.lp a.corr l).length = RecP.lp a.corr l := by
  have := RecP.lp_split l a
  conv => lhs; arg 2; rw [this]
  exact List.take_left
/-- the records but the expiry -/
def lv (l : List S40) : List S40 := l.take (RecP.lp 0 (l.map toR)).length
theorem lv_map (l : List S40) : (lv l).map toR = RecP.lp 0 (l.map toR) := by
  unfold lv; rw [List.map_take]; exact lp_take (l.map toR) RecP.start
theorem lv_len (l : List S40) : (lv l).length = (RecP.lp 0 (l.map toR)).length := by rw [← lv_map, List.length_map]
theorem lv_le (l : List S40) : (lv l).length ≤ l.length := by unfold lv; rw [List.length_take]; omega
theorem rdr_map (l : List S40) (i : Nat) : (l.map toR).getD i ⟨0, 0⟩ = toR (rd_T40 l (i : Int)) := by
  unfold rd_T40
  rw [Int.toNat_natCast]
  by_cases h : i < l.length
  · simp [List.getD, h]
  · have : l[i]? = none := List.getElem?_eq_none (by omega)
    simp [List.getD, this, toR, z40]
theorem leaps_law (l : List S40) (hl : l.length ≤ 9223372036854775806) (k : Nat) : record_leaps.f (k + 1) l = some (lv l) := by
  have hall : l = l.take l.length := by simp
  unfold record_leaps.f
  rw [w64 (by omega) (by omega)]
  cases l with
  | nil => simp [record_leaps.j0, lv]
  | cons c l =>
    have I := lp_idx ((c :: l).map toR) 0 (by simp)
    simp only [List.length_map] at I
    rw [rdr_map, rdr_map] at I
    have e1 : ∀ x : S40, (toR x).corr = x.f1 := fun _ => rfl
    rw [e1, e1] at I
    generalize hL : c :: l = L at I hall hl ⊢
    have hpos : 0 < L.length := by rw [← hL]; simp
    by_cases h1 : L.length = 1
    · rw [if_pos (by omega), if_pos (by omega)]
      rw [if_pos h1, h1] at I
      simp only [Nat.sub_self, Int.natCast_zero] at I
      obtain ⟨I1, I2⟩ := I
      rw [show ((L.length : Int) - 1) = 0 by omega]
      simp only [record_leaps.j0]
      by_cases hz : (rd_T40 L 0).f1 = 0
      · rw [if_pos (by simp [hz]), if_pos (by omega), if_pos (by omega)]
        unfold lv; rw [(I1 hz).1]; rfl
      · rw [if_neg (by simp [hz]), if_neg (by omega)]
        unfold lv; rw [(I2 hz).1, ← h1, ← hall]
    · rw [if_neg (by omega)]
      rw [if_neg h1] at I
      obtain ⟨I1, I2⟩ := I
      simp only [record_leaps.j0]
      rw [if_neg (by simp), if_pos (by omega), if_pos (by omega), if_pos (by omega), w64 (by omega) (by omega), if_pos (by omega), if_pos (by omega)]
      rw [show ((L.length : Int) - 1 - 1) = ((L.length - 2 : Nat) : Int) by omega, show ((L.length : Int) - 1) = ((L.length - 1 : Nat) : Int) by omega]
      by_cases hz : (rd_T40 L ((L.length - 1 : Nat) : Int)).f1 = (rd_T40 L ((L.length - 2 : Nat) : Int)).f1
      · rw [if_pos hz, if_pos (by omega)]
        unfold lv; rw [(I1 hz).1, Int.toNat_natCast]
      · rw [if_neg hz]
        unfold lv; rw [(I2 hz).1, ← hall]
/-- what an expiry says -/
def exOf : Option Int → Int × Bool
  | some e => (e, true)
  | none => (0, false)
theorem ex_at (l : List S40) (e : Int) (h : RecP.ex 0 (l.map toR) = some e) : (lv l).length < l.length ∧ (rd_T40 l ((lv l).length : Int)).f0 = e ∧ l.length = (lv l).length + 1 := by
  have ll := RecP.lp_len (l.map toR) RecP.start
  have sc : RecP.start.corr = 0 := rfl
  rw [sc, h, List.length_map, ← lv_len] at ll
  simp only [Option.isSome_some, if_true] at ll
  have sp := RecP.lp_split (l.map toR) RecP.start
  rw [sc, h] at sp
  have m := rdr_map l (lv l).length
  rw [sp, lv_len] at m
  simp only [List.getD_eq_getElem?_getD, List.getElem?_append_right (Nat.le_refl _), Nat.sub_self, List.getElem?_cons_zero, Option.getD_some] at m
  refine ⟨by omega, ?_, ll⟩
  rw [lv_len]
  have := congrArg RecP.R.at_ m
  exact this.symm
theorem ex_no (l : List S40) (h : RecP.ex 0 (l.map toR) = none) : lv l = l := by
  have ll := RecP.lp_len (l.map toR) RecP.start
  have sc : RecP.start.corr = 0 := rfl
  rw [sc, h, List.length_map] at ll
  simp only [Option.isSome_none, Bool.false_eq_true, if_false] at ll
  unfold lv; rw [show (RecP.lp 0 (l.map toR)).length = l.length by omega, List.take_length]
theorem rexpiry_law (l : List S40) (hl : l.length ≤ 9223372036854775806) (k : Nat) : record_Expiry.f (k + 1) l = some (exOf (RecP.ex 0 (l.map toR))) := by
  unfold record_Expiry.f
  rw [leaps_law l hl k]
  simp only [Option.bind_some]
  cases h : RecP.ex 0 (l.map toR) with
  | some e =>
    obtain ⟨h1, h2, _⟩ := ex_at l e h
    rw [if_pos (by omega), if_pos (by omega), h2]; rfl
  | none => rw [ex_no l h, if_neg (by omega)]; rfl
theorem asc_lv (l : List S40) (h : RecP.G RecP.start (RecP.lp 0 (l.map toR))) : (lv l).Pairwise (fun x y => x.f0 ≤ y.f0) := by
  have := RecP.G_asc _ _ h
  rw [← lv_map, List.pairwise_map] at this
  exact this.imp (fun {x y} h => by have : x.f0 < y.f0 := h; omega)
theorem count_map (l : List S40) (p : S40 → Bool) (q : RecP.R → Bool) (h : ∀ x, p x = q (toR x)) : l.countP p = (l.map toR).countP q := by
  rw [List.countP_map]
  congr 1
  funext x; exact h x
theorem rsum_law (l : List S40) (hl : l.length ≤ 400) (h : RecP.G RecP.start (RecP.lp 0 (l.map toR))) (t : Int) (k : Nat) : record_Sum.f (k + 1) l t = some (RecP.sm 0 (RecP.lp 0 (l.map toR)) t) := by
  have le := lv_le l
  unfold record_Sum.f
  rw [leaps_law l (by omega) k]
  simp only [Option.bind_some]
  rw [if_pos ⟨by omega, asc_lv l h⟩]
  have c := count_map (lv l) (fun y => !decide (y.f0 > t)) (fun y => decide (y.at_ ≤ t)) (fun x => by
    show (!decide (x.f0 > t)) = decide (x.f0 ≤ t)
    by_cases h : x.f0 ≤ t
    · rw [decide_eq_true h, decide_eq_false (by omega)]; rfl
    · rw [decide_eq_false h, decide_eq_true (by omega)]; rfl)
  have s := RecP.sm_count _ _ t h
  rw [lv_map] at c
  have sc : RecP.start.corr = 0 := rfl
  rw [sc, ← c] at s
  rw [← s]
  by_cases hz : (lv l).countP (fun y => !decide (y.f0 > t)) = 0
  · rw [if_pos hz, if_pos hz]
  · rw [if_neg hz, if_neg hz]
    have cl := List.countP_le_length (p := fun y : S40 => !decide (y.f0 > t)) (l := lv l)
    generalize (lv l).countP (fun y => !decide (y.f0 > t)) = n at hz cl
    rw [← lv_map]
    have hn : n - 1 < (lv l).length := by omega
    simp [List.getD, hn, toR]
theorem rstep_law (l : List S40) (hl : l.length ≤ 400) (h : RecP.G RecP.start (RecP.lp 0 (l.map toR))) (t : Int) (k : Nat) : record_Step.f (k + 1) l t = some (RecP.sp 0 (RecP.lp 0 (l.map toR)) t) := by
  have le := lv_le l
  unfold record_Step.f
  rw [leaps_law l (by omega) k]
  simp only [Option.bind_some]
  rw [if_pos ⟨by omega, asc_lv l h⟩]
  have c := count_map (lv l) (fun y => !decide (y.f0 ≥ t)) (fun y => decide (y.at_ < t)) (fun x => by
    show (!decide (x.f0 ≥ t)) = decide (x.f0 < t)
    by_cases h : x.f0 < t
    · rw [decide_eq_true h, decide_eq_false (by omega)]; rfl
    · rw [decide_eq_false h, decide_eq_true (by omega)]; rfl)
  have s := RecP.sp_count _ _ t h
  have gc := RecP.G_corr _ _ h
  rw [lv_map] at c
  have sc : RecP.start.corr = 0 := rfl
  rw [sc, ← c] at s
  rw [sc] at gc
  rw [← lv_map] at s gc ⊢
  rw [← s]
  rw [List.length_map]
  have gd : ∀ n, n < (lv l).length → ((lv l).map toR).getD n RecP.start = toR (rd_T40 (lv l) (n : Int)) := by
    intro n hn
    rw [← rdr_map]; simp [List.getD, hn]
  have bd : ∀ n, n < (lv l).length → -400 ≤ (rd_T40 (lv l) (n : Int)).f1 ∧ (rd_T40 (lv l) (n : Int)).f1 ≤ 400 := by
    intro n hn
    have m : rd_T40 (lv l) (n : Int) ∈ lv l := by
      unfold rd_T40; rw [Int.toNat_natCast]; simp [List.getD, hn]
    have := gc _ (List.mem_map_of_mem m)
    rw [List.length_map] at this
    have e : (toR (rd_T40 (lv l) (n : Int))).corr = (rd_T40 (lv l) (n : Int)).f1 := rfl
    rw [e] at this; omega
  have e0 : ∀ x, (toR x).at_ = x.f0 := fun _ => rfl
  have e1 : ∀ x, (toR x).corr = x.f1 := fun _ => rfl
  generalize (lv l).countP (fun y => !decide (y.f0 ≥ t)) = n
  unfold record_Step.val
  by_cases hn : n < (lv l).length
  · rw [if_pos hn, if_pos hn, gd n hn, e0]
    by_cases ht : (rd_T40 (lv l) (n : Int)).f0 = t
    · rw [if_pos ht, if_pos ht]
      by_cases hz : n = 0
      · subst hz
        rw [if_pos rfl, if_pos rfl, gd 0 hn, e1]; simp
      · rw [if_neg hz, if_neg hz, gd (n - 1) (by omega), e1, e1, show ((n : Int) - 1) = ((n - 1 : Nat) : Int) by omega]
        have := bd n hn
        have := bd (n - 1) (by omega)
        rw [w64 (by omega) (by omega)]
    · rw [if_neg ht, if_neg ht]
  · rw [if_neg hn, if_neg hn]
def frR (x : RecP.R) : S40 := ⟨x.at_, x.corr⟩
def frL (x : LeapP.L) : S54 := ⟨x.day, x.step, x.roll⟩
theorem toR_frR (l : List RecP.R) : (l.map frR).map toR = l := by rw [List.map_map]; exact List.map_id'' (fun _ => rfl) l
theorem frR_toR (l : List S40) : (l.map toR).map frR = l := by rw [List.map_map]; exact List.map_id'' (fun _ => rfl) l
theorem toL_frL (l : List LeapP.L) : (l.map frL).map toL = l := by rw [List.map_map]; exact List.map_id'' (fun _ => rfl) l
theorem frL_toL (l : List S54) : (l.map toL).map frL = l := by rw [List.map_map]; exact List.map_id'' (fun _ => rfl) l
/-- a right table of UTC -/
def okT (l : List S54) (has : Bool) (exp : Int) : Bool := (LeapP.check (l.map toL) has exp).2 == 0 && !(l.any (fun y => y.f2))
theorem okT_iff (l : List S54) (has : Bool) (exp : Int) : okT l has exp = true ↔ LeapP.Right (l.map toL) has exp ∧ ∀ x ∈ l.map toL, x.roll = false := by
  unfold okT
  rw [← LeapP.check_right]
  simp only [Bool.and_eq_true, beq_iff_eq, Bool.not_eq_true', List.any_eq_false]
  constructor
  · rintro ⟨a, b⟩; exact ⟨a, fun x hx => by obtain ⟨y, hy, rfl⟩ := List.mem_map.1 hx; have := b y hy; simpa [toL] using this⟩
  · rintro ⟨a, b⟩; exact ⟨a, fun x hx => by have : x.f2 = false := b (toL x) (List.mem_map_of_mem hx); simp [this]⟩
-- ---- tables of records
theorem wrap_bd (n : Int) : I64 (wrap64 n) := by unfold I64 wrap64; omega
theorem wrap_sub (a c : Int) : wrap64 (wrap64 a - c) = wrap64 (a - c) := by unfold wrap64; omega
def tabOut (o : Option (List LeapP.L × Bool × Int)) : List S54 × Bool × Int × Bool :=
  match o with
  | some (xs, has, exp) => (xs.map frL, has, exp, true)
  | none => ([], false, 0, false)
theorem table_loop (l : List S40) (hl : l.length ≤ 400) (rest : List S40) : ∀ (pre : List S40) (acc : List LeapP.L) (b : RecP.R) (k : Nat), lv l = pre ++ rest → acc.length = pre.length → RecP.G b (rest.map toR) → -400 ≤ b.corr - rest.length → b.corr + rest.length ≤ 400 → rest.length + 410 < k →
    record_Table.l0 k l b.corr (lv l) (lv l) ((lv l).length : Int) (pre.length : Int) (acc.map frL) false 0 =
      some (match RecP.unr b.corr (rest.map toR) with
        | none => ([], false, 0, false)
        | some ys => tabOut (if (LeapP.check (acc ++ ys) (RecP.ex 0 (l.map toR)).isSome (RecP.expOf (RecP.ex 0 (l.map toR)) (RecP.lastR b (rest.map toR)).corr)).2 = 0 then some (acc ++ ys, (RecP.ex 0 (l.map toR)).isSome, RecP.expOf (RecP.ex 0 (l.map toR)) (RecP.lastR b (rest.map toR)).corr) else none)) := by
  have le := lv_le l
  induction rest with
  | nil =>
    intro pre acc b k e ha g b1 b2 hk
    obtain ⟨k, rfl⟩ : ∃ m, k = m + 1 := ⟨k - 1, by omega⟩
    have e' : (lv l).length = pre.length := by rw [e]; simp
    simp only [record_Table.l0, List.map_nil, RecP.unr, RecP.lastR, List.append_nil]
    rw [if_neg (by omega)]
    cases hex : RecP.ex 0 (l.map toR) with
    | some x =>
      obtain ⟨h1, h2, _⟩ := ex_at l x hex
      rw [if_pos (by omega), if_pos (by omega), h2]
      rw [decide_eq_true (by omega), right_law _ _ _ (by rw [List.length_map]; omega) k (by rw [List.length_map]; simp only [List.length_nil] at hk; omega), toL_frL]
      simp only [Option.bind_some]
      by_cases hc : (LeapP.check acc true (wrap64 (x - b.corr))).2 = 0
      · rw [if_pos (by simp [hc]), if_pos (show (LeapP.check acc (some x).isSome (RecP.expOf (some x) b.corr)).2 = 0 from hc)]; rfl
      · rw [if_neg (by simp [hc]), if_neg (show ¬ (LeapP.check acc (some x).isSome (RecP.expOf (some x) b.corr)).2 = 0 from hc)]; rfl
    | none =>
      have h1 := ex_no l hex
      rw [if_neg (by rw [h1]; omega)]
      rw [decide_eq_false (by rw [h1]; omega), right_law _ _ _ (by rw [List.length_map]; omega) k (by rw [List.length_map]; simp only [List.length_nil] at hk; omega), toL_frL]
      simp only [Option.bind_some]
      by_cases hc : (LeapP.check acc false 0).2 = 0
      · rw [if_pos (by simp [hc]), if_pos (show (LeapP.check acc (none : Option Int).isSome (RecP.expOf none b.corr)).2 = 0 from hc)]; rfl
      · rw [if_neg (by simp [hc]), if_neg (show ¬ (LeapP.check acc (none : Option Int).isSome (RecP.expOf none b.corr)).2 = 0 from hc)]; rfl
  | cons x rest ih =>
    intro pre acc b k e ha g b1 b2 hk
    simp only [List.length_cons] at hk b1 b2
    obtain ⟨k, rfl⟩ : ∃ m, k = m + 1 := ⟨k - 1, by omega⟩
    have hlen : (lv l).length = pre.length + (rest.length + 1) := by rw [e]; simp
    have hr : rd_T40 (lv l) (pre.length : Int) = x := by rw [e]; exact rdr_at pre rest x
    obtain ⟨g1, g2, g3, g4⟩ := g
    have d0 : (toR x).at_ = x.f0 := rfl
    have d1 : (toR x).corr = x.f1 := rfl
    rw [d1] at g2
    simp only [record_Table.l0]
    rw [if_pos (by omega), if_pos (by omega), if_pos (by omega), hr, mn_min, w64 (n := x.f1 - b.corr) (by omega) (by omega), wrap_sub]
    rw [div_law _ _ (wrap_bd _) (by unfold I64; omega) (by omega)]
    simp only [Option.bind_some, List.map_cons, RecP.unr, RecP.lastR]
    rw [d0, d1]
    by_cases hm : wrap64 (x.f0 - b.corr - min (x.f1 - b.corr) 0) % 86400 = 0
    · have wb := wrap_bd (x.f0 - b.corr - min (x.f1 - b.corr) 0)
      unfold I64 at wb
      rw [if_pos hm, if_pos hm, if_pos (by rw [List.length_map]; omega), w64 (n := wrap64 (x.f0 - b.corr - min (x.f1 - b.corr) 0) / 86400 - 1) (by omega) (by omega), w64 (n := (pre.length : Int) + 1) (by omega) (by omega)]
      have := ih (pre ++ [x]) (acc ++ [⟨wrap64 (x.f0 - b.corr - min (x.f1 - b.corr) 0) / 86400 - 1, x.f1 - b.corr, false⟩]) (toR x) k (by rw [e]; simp) (by simp [ha]) g4 (by rw [d1]; omega) (by rw [d1]; omega) (by omega)
      rw [d1] at this
      simp only [List.map_append, List.map_cons, List.map_nil, frL, List.length_append, List.length_cons, List.length_nil] at this
      rw [show ((pre.length : Int) + 1) = ((pre.length + (0 + 1) : Nat) : Int) by omega]
      refine this.trans ?_
      cases RecP.unr x.f1 (rest.map toR) with
      | none => rfl
      | some ys => simp
    · rw [if_neg hm, if_neg hm]
theorem rtable_law (l : List S40) (hl : l.length ≤ 400) (h : RecP.G RecP.start (RecP.lp 0 (l.map toR))) (hn : l.length ≤ 201) (k : Nat) (hk : 900 < k) : record_Table.f k l = some (tabOut (RecP.table (l.map toR))) := by
  obtain ⟨k, rfl⟩ : ∃ m, k = m + 1 := ⟨k - 1, by omega⟩
  have le := lv_le l
  unfold record_Table.f
  rw [leaps_law l (by omega) k]
  simp only [Option.bind_some]
  have sc : RecP.start.corr = 0 := rfl
  have := table_loop l hl (lv l) [] [] RecP.start (k + 1) rfl rfl (by rw [lv_map]; exact h) (by rw [sc]; omega) (by rw [sc]; omega) (by omega)
  rw [sc, lv_map] at this
  simp only [List.map_nil, List.length_nil, Int.natCast_zero, List.nil_append] at this
  rw [this]
  unfold RecP.table
  cases RecP.unr 0 (RecP.lp 0 (l.map toR)) <;> rfl
end Go.Proofs.Ytlfnkamhokfeaaa.Pure
