/- The reference's Check and Right of tables are the program's. -/
import Derived.Test.YtfmibhepehhljaaRef03
import Derived.Test.YtfmibhepehhljaaLeapC
import Derived.Test.YtfmibhepehhljaaPAllx6
import Derived.Test.YtfmibhepehhljaaPAllx7
namespace Go.Proofs.Ytfmibhepehhljaa.Pure
open Go.RowKit Go.Proofs.Ytfmibhepehhljaa.PAll Go.Proofs.YtfmibhepehhljaaW.PrintWords Go.Proofs.YtfmibhepehhljaaW.PrintLast
set_option linter.unusedVariables false
set_option linter.unusedSimpArgs false
theorem ref_wrong_law (l : List S26) (has : Bool) (exp : Int) (hl : l.length ≤ 9223372036854775806) (i : Nat) (hi : i < l.length) (x : S26) (hx : rd_T26 l (i : Int) = x) (a : Int) (ha : if i = 0 then a = 729 else (rd_T26 l ((i - 1 : Nat) : Int)).f0 = a) (k : Nat) (hk : 10200 < k) :
    epactref09_wrong.f k l has exp (i : Int) = some (LeapP.wrong i a (toL x)) := by
  obtain ⟨k, rfl⟩ : ∃ m, k = m + 3 := ⟨k - 3, by omega⟩
  unfold epactref09_wrong.f LeapP.wrong toL
  rw [if_pos (by omega), if_pos (by omega), hx]
  simp only
  by_cases h1 : (i : Int) ≥ 200
  · rw [if_pos h1, if_pos h1]
  · rw [if_neg h1, if_neg h1]
    have hj : ∀ b c d, epactref09_wrong.j0 (k + 3) (i : Int) true l has exp b c d = some 9 := by intros; simp [epactref09_wrong.j0]
    by_cases h2 : x.f0 < 730
    · rw [if_pos h2, hj, if_pos (.inl h2)]
    · rw [if_neg h2]
      by_cases h3 : x.f0 ≥ 2932896
      · rw [decide_eq_true h3, hj, if_pos (.inr h3)]
      · rw [decide_eq_false h3, if_neg (show ¬ (x.f0 < 730 ∨ x.f0 ≥ 2932896) by omega)]
        simp only [epactref09_wrong.j0, Bool.false_eq_true, if_false]
        rw [ref_end_law _ _ (by omega)]
        simp only [Option.bind_some]
        have last : ∀ t, epactref09_wrong.j1 (k + 2) (i : Int) t l has exp x.f0 x.f1 x.f2 = some (if t = true then 6 else if x.f0 ≤ a then 4 else 0) := by
          intro t
          cases t with
          | true => simp [epactref09_wrong.j1]
          | false =>
            simp only [epactref09_wrong.j1, Bool.false_eq_true, if_false]
            by_cases h0 : i = 0
            · rw [if_pos h0] at ha
              rw [if_neg (by omega), if_neg (by omega)]
            · rw [if_neg h0] at ha
              rw [if_pos (by omega), w64 (by omega) (by omega), if_pos (by omega), if_pos (by omega), show ((i : Int) - 1) = ((i - 1 : Nat) : Int) by omega, ha]
              split <;> rfl
        cases he : Cal.isEnd x.f0 with
        | false => simp
        | true =>
          simp only [if_true]
          rw [if_neg (show ¬ (true = false) by simp)]
          by_cases h4 : x.f1 = 1
          · rw [if_pos h4, if_neg (by omega), last]; simp
          · rw [if_neg h4]
            by_cases h5 : x.f1 = -1
            · have : (x.f1 != -1) = false := by simp [h5]
              rw [this, if_neg (by omega), last]; simp
            · have : (x.f1 != -1) = true := by simp [h5]
              rw [this, if_pos ⟨h4, h5⟩, last]; simp
theorem ref_check_loop (l : List S26) (has : Bool) (exp : Int) (hl : l.length ≤ 9223372036854775806) (rest : List S26) : ∀ (pre : List S26) (a least : Int) (k : Nat), l = pre ++ rest → 729 ≤ a → a < 2932896 → least = max ((a + 1) * 86400) 63072000 →
    (if pre.length = 0 then a = 729 else (rd_T26 l ((pre.length - 1 : Nat) : Int)).f0 = a) → rest.length + 10202 < k →
    epactref09_Check.l0 k least (pre.length : Int) l has exp = some (let c := LeapP.chk (rest.map toL) pre.length a; if c.2.1 = 0 then (if LeapP.badEnd c.2.2 has exp then ((l.length : Int), 9) else ((l.length : Int), 0)) else (c.1, c.2.1)) := by
  induction rest with
  | nil =>
    intro pre a least k e a0 a1 hle _ hk
    obtain ⟨k, rfl⟩ : ∃ m, k = m + 1 := ⟨k - 1, by omega⟩
    have : l.length = pre.length := by rw [e]; simp
    simp only [epactref09_Check.l0, List.map_nil, LeapP.chk]
    rw [if_neg (by omega)]
    simp only [if_true]
    unfold LeapP.badEnd
    cases has with
    | true =>
      simp only [if_true]
      rw [← hle]
      by_cases h1 : exp < least
      · rw [if_pos h1, if_pos (.inl h1)]
      · rw [if_neg h1]
        by_cases h2 : exp > 253402300799
        · rw [if_pos h2, if_pos (.inr h2)]
        · rw [if_neg h2, if_neg (by omega)]
    | false =>
      simp only [Bool.false_eq_true, if_false]
      by_cases h1 : exp = 0
      · rw [if_pos h1, if_neg (by omega)]
      · rw [if_neg h1, if_pos h1]
  | cons x rest ih =>
    intro pre a least k e a0 a1 hle ha hk
    simp only [List.length_cons] at hk
    obtain ⟨k, rfl⟩ : ∃ m, k = m + 1 := ⟨k - 1, by omega⟩
    have hlen : l.length = pre.length + (rest.length + 1) := by rw [e]; simp
    have hr : rd_T26 l (pre.length : Int) = x := by rw [e]; exact rd_at pre rest x
    simp only [epactref09_Check.l0]
    rw [if_pos (by omega), ref_wrong_law l has exp hl pre.length (by omega) x hr a ha k (by omega)]
    simp only [Option.bind_some, List.map_cons, LeapP.chk]
    by_cases hw : LeapP.wrong (pre.length : Int) a (toL x) = 0
    · rw [if_pos hw, if_pos hw, if_pos (by omega), hr]
      obtain ⟨_, h2, h3, _⟩ := (LeapP.wrong_zero _ _ _).1 hw
      have hx : (toL x).day = x.f0 := rfl
      rw [hx] at h2 h3
      rw [w64 (n := x.f0 + 1) (by omega) (by omega), w64 (n := 86400 * (x.f0 + 1)) (by omega) (by omega), w64 (by omega) (by omega)]
      have := ih (pre ++ [x]) x.f0 (86400 * (x.f0 + 1)) k (by rw [e]; simp) (by omega) (by omega) (by omega) (by rw [if_neg (by simp), List.length_append]; simp only [List.length_cons, List.length_nil]; rw [show pre.length + (0 + 1) - 1 = pre.length by omega, hr]) (by omega)
      simp only [List.length_append, List.length_cons, List.length_nil] at this
      rw [show ((pre.length : Int) + 1) = ((pre.length + (0 + 1) : Nat) : Int) by omega, this]
      rw [show ((pre.length + (0 + 1) : Nat) : Int) = (pre.length : Int) + 1 by omega]
      rfl
    · rw [if_neg hw, if_neg hw]
      simp only
      rw [if_neg hw]
theorem ref_check_law (l : List S26) (has : Bool) (exp : Int) (hl : l.length ≤ 9223372036854775806) (k : Nat) (hk : l.length + 10202 < k) : epactref09_Check.f k l has exp = some (LeapP.check (l.map toL) has exp) := by
  unfold epactref09_Check.f LeapP.check
  have := ref_check_loop l has exp hl l [] 729 63072000 k rfl (by omega) (by omega) (by omega) (by simp) hk
  simp only [List.length_nil, Int.natCast_zero] at this
  rw [this]
  simp
theorem ref_right_law (l : List S26) (has : Bool) (exp : Int) (hl : l.length ≤ 9223372036854775806) (k : Nat) (hk : l.length + 10202 < k) : epactref09_Right.f k l has exp = some ((LeapP.check (l.map toL) has exp).2 == 0) := by
  unfold epactref09_Right.f
  rw [ref_check_law l has exp hl k hk]; rfl
end Go.Proofs.Ytfmibhepehhljaa.Pure
