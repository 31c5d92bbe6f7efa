/- What Check and Right of the package leap tell, in the words of plain lists. -/
import Derived.Test.YtfmibhepehhljaaLeapP
import Derived.Test.YtfmibhepehhljaaDay
import Derived.Test.YtfmibhepehhljaaPAllx2
import Derived.Test.YtfmibhepehhljaaPAllx3
namespace Go.Proofs.Ytfmibhepehhljaa.Pure
open Go.RowKit Go.Proofs.Ytfmibhepehhljaa.PAll Go.Proofs.YtfmibhepehhljaaW.PrintWords Go.Proofs.YtfmibhepehhljaaW.PrintLast
set_option linter.unusedVariables false
set_option linter.unusedSimpArgs false
def toL (x : S26) : LeapP.L := ⟨x.f0, x.f1, x.f2⟩
/-- whole numbers of 64 bits -/
def WL (l : List S26) : Prop := ∀ x ∈ l, I64 x.f0 ∧ I64 x.f1
theorem wl_of {l : List S26} (h : ∀ x ∈ l, (Lit.int .i64 x.f0).wf = true ∧ (Lit.int .i64 x.f1).wf = true) : WL l := fun x hx => ⟨i64_of (h x hx).1, i64_of (h x hx).2⟩
theorem rd_at (pre rest : List S26) (x : S26) : rd_T26 (pre ++ x :: rest) (pre.length : Int) = x := by
  unfold rd_T26; simp
theorem wrong_law (k : Nat) (hk : 2 < k) (i a : Int) (x : S26) : leap_wrong.f k i x.f0 x.f1 x.f2 a = some (LeapP.wrong i a (toL x)) := by
  obtain ⟨k, rfl⟩ : ∃ m, k = m + 3 := ⟨k - 3, by omega⟩
  unfold leap_wrong.f LeapP.wrong toL
  simp only
  by_cases h1 : i ≥ 200
  · rw [if_pos h1, if_pos h1]
  · rw [if_neg h1, if_neg h1]
    have hj : ∀ a b c d, leap_wrong.j0 (k + 3) a true b c d = some 9 := by intros; simp [leap_wrong.j0]
    by_cases h2 : x.f0 < 730
    · rw [if_pos h2, decide_eq_true h2, hj, if_pos (.inl h2)]
    · rw [if_neg h2]
      by_cases h3 : x.f0 ≥ 2932896
      · rw [decide_eq_true h3, hj, if_pos (.inr h3)]
      · rw [decide_eq_false h3, if_neg (show ¬ (x.f0 < 730 ∨ x.f0 ≥ 2932896) by omega)]
        simp only [leap_wrong.j0, Bool.false_eq_true, if_false]
        rw [end_law]
        simp only [Option.bind_some]
        cases he : Cal.isEnd x.f0 with
        | false => simp
        | true =>
          simp only [if_true]
          rw [if_neg (show ¬ (true = false) by simp)]
          by_cases h4 : x.f1 = 1
          · rw [if_pos h4, if_neg (by omega)]
            simp only [leap_wrong.j1, Bool.false_eq_true, if_false]
            split <;> rfl
          · rw [if_neg h4]
            by_cases h5 : x.f1 = -1
            · have : (x.f1 != -1) = false := by simp [h5]
              rw [this, if_neg (by omega)]
              simp only [leap_wrong.j1, Bool.false_eq_true, if_false]
              split <;> rfl
            · have : (x.f1 != -1) = true := by simp [h5]
              rw [this, if_pos ⟨h4, h5⟩]
              simp [leap_wrong.j1]
theorem mx_max (a b : Int) : mx a b = max a b := by unfold mx; omega
theorem check_loop (l : List S26) (has : Bool) (exp : Int) (hl : l.length ≤ 9223372036854775806) (rest : List S26) : ∀ (pre : List S26) (a : Int) (k : Nat), l = pre ++ rest → 729 ≤ a → a < 2932896 → rest.length + 4 < k →
    leap_Check.l0 k a l (l.length : Int) (pre.length : Int) l has exp = some (let c := LeapP.chk (rest.map toL) pre.length a; if c.2.1 = 0 then (if LeapP.badEnd c.2.2 has exp then ((l.length : Int), 9) else ((l.length : Int), 0)) else (c.1, c.2.1)) := by
  induction rest with
  | nil =>
    intro pre a k e a0 a1 hk
    obtain ⟨k, rfl⟩ : ∃ m, k = m + 1 := ⟨k - 1, by omega⟩
    have : l.length = pre.length := by rw [e]; simp
    simp only [leap_Check.l0, List.map_nil, LeapP.chk]
    rw [if_neg (by omega)]
    simp only [if_true]
    unfold LeapP.badEnd
    cases has with
    | true =>
      simp only [if_true]
      rw [w64 (n := a + 1) (by omega) (by omega), w64 (by omega) (by omega), mx_max]
      by_cases h1 : exp < max ((a + 1) * 86400) 63072000
      · rw [if_pos h1, if_pos (.inl h1)]
      · rw [if_neg h1]
        by_cases h2 : exp > 253402300799
        · rw [if_pos h2, if_pos (.inr h2)]
        · rw [if_neg h2, if_neg (by omega)]
    | false =>
      simp only [Bool.false_eq_true, if_false]
      by_cases h1 : exp < 0
      · rw [if_pos h1, if_pos (by omega)]
      · rw [if_neg h1]
        by_cases h2 : exp > 0
        · rw [if_pos h2, if_pos (by omega)]
        · rw [if_neg h2, if_neg (by omega)]
  | cons x rest ih =>
    intro pre a k e a0 a1 hk
    simp only [List.length_cons] at hk
    obtain ⟨k, rfl⟩ : ∃ m, k = m + 1 := ⟨k - 1, by omega⟩
    have hlen : l.length = pre.length + (rest.length + 1) := by rw [e]; simp
    simp only [leap_Check.l0]
    rw [if_pos (by omega), if_pos (by omega), if_pos (by omega)]
    have hr : rd_T26 l (pre.length : Int) = x := by rw [e]; exact rd_at pre rest x
    rw [hr, wrong_law k (by omega)]
    simp only [Option.bind_some, List.map_cons, LeapP.chk]
    by_cases hw : LeapP.wrong (pre.length : Int) a (toL x) = 0
    · rw [if_pos hw, if_pos hw]
      obtain ⟨_, h2, h3, _⟩ := (LeapP.wrong_zero _ _ _).1 hw
      have hx : (toL x).day = x.f0 := rfl
      have := ih (pre ++ [x]) x.f0 k (by rw [e]; simp) (by rw [← hx]; omega) (by rw [← hx]; omega) (by omega)
      rw [w64 (by omega) (by omega)]
      simp only [List.length_append, List.length_cons, List.length_nil] at this
      rw [show ((pre.length : Int) + 1) = ((pre.length + (0 + 1) : Nat) : Int) by omega, this]
      rw [show ((pre.length + (0 + 1) : Nat) : Int) = (pre.length : Int) + 1 by omega]
      rfl
    · rw [if_neg hw, if_neg hw]
      simp only
      rw [if_neg hw]
theorem check_law (l : List S26) (has : Bool) (exp : Int) (hl : l.length ≤ 9223372036854775806) (k : Nat) (hk : l.length + 4 < k) : leap_Check.f k l has exp = some (LeapP.check (l.map toL) has exp) := by
  unfold leap_Check.f LeapP.check
  have := check_loop l has exp hl l [] 729 k rfl (by omega) (by omega) hk
  simp only [List.length_nil, Int.natCast_zero] at this
  rw [this]
  simp
theorem right_law (l : List S26) (has : Bool) (exp : Int) (hl : l.length ≤ 9223372036854775806) (k : Nat) (hk : l.length + 4 < k) : leap_Right.f k l has exp = some ((LeapP.check (l.map toL) has exp).2 == 0) := by
  unfold leap_Right.f
  rw [check_law l has exp hl k hk]; rfl
end Go.Proofs.Ytfmibhepehhljaa.Pure
