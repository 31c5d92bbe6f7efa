/- What Mul, MulDiv, Up and Less of the package wide tell. -/
import Derived.Test.YtgdaohdllipgpaaWide
import Derived.Test.YtgdaohdllipgpaaPAllx2
import Derived.Test.YtgdaohdllipgpaaPAllx1
namespace Go.Proofs.Ytgdaohdllipgpaa.Pure
open Go.RowKit Go.Proofs.Ytgdaohdllipgpaa.PAll Go.Proofs.YtgdaohdllipgpaaW.PrintWords Go.Proofs.YtgdaohdllipgpaaW.PrintLast Go.Proofs.YtgdaohdllipgpaaW.PrintMore
set_option linter.unusedVariables false
set_option linter.unusedSimpArgs false
def IW (n : Int) : Prop := -9223372036854775808 ≤ n ∧ n ≤ 9223372036854775807
theorem iw_of {n : Int} (h : (Lit.int .i64 n).wf = true) : IW n := by
  simp [Lit.wf, IntKind.min, IntKind.max, IntKind.signed, IntKind.bits] at h
  unfold IW; omega
theorem prod_bd (a b : Int) (ha : 0 ≤ a) (ha' : a ≤ 9223372036854775807) (hb : 0 ≤ b) (hb' : b ≤ 9223372036854775807) : 0 ≤ a * b ∧ a * b ≤ 9223372036854775807 * 9223372036854775807 :=
  ⟨Int.mul_nonneg ha hb, Int.mul_le_mul ha' hb' hb (by omega)⟩
theorem or63 (x y : Int) (h0 : 0 ≤ x) (h1 : x < 9223372036854775808) (h2 : 0 ≤ y) (h3 : y < 2) : Go.bits .or .u64 (x * 2) y = x * 2 + y :=
  bits_join .u64 64 (by decide) (fun n a b => uw a (by omega)) 1 (x * 2) y (by omega) (by omega) (by omega) h2 (by omega) (by omega)
theorem andNot63 (l : Int) (h0 : 0 ≤ l) (h1 : l < 18446744073709551616) : Go.bits .andNot .u64 l 9223372036854775808 = l % 9223372036854775808 := by
  rw [u64_andNot l _ h0 h1 (by omega) (by omega)]
  have : (18446744073709551615 - (9223372036854775808 : Int).toNat) = 2 ^ 63 - 1 := by decide
  rw [this, Nat.and_two_pow_sub_one_eq_mod]
  omega
theorem mul_law (a b : Int) (ha : IW a) (hb : IW b) : wide_Mul.f a b = some (if 0 ≤ a ∧ 0 ≤ b then (a * b / 9223372036854775808, a * b % 9223372036854775808, true) else (0, 0, false)) := by
  unfold IW at ha hb
  unfold wide_Mul.f
  by_cases h1 : a < 0
  · rw [if_pos h1, if_neg (by omega)]
  · by_cases h2 : b < 0
    · rw [if_neg h1, if_pos h2, if_neg (by omega)]
    · rw [if_neg h1, if_neg h2, if_pos ⟨by omega, by omega⟩, uw (n := a) (by omega) (by omega), uw (n := b) (by omega) (by omega)]
      unfold bits_Mul64.f
      rw [if_pos ⟨by omega, by omega, by omega, by omega⟩]
      simp only [Option.bind_some]
      obtain ⟨p0, p1⟩ := prod_bd a b (by omega) ha.2 (by omega) hb.2
      generalize a * b = p at *
      rw [uw (by omega) (by omega), or63 _ _ (by omega) (by omega) (by omega) (by omega), andNot63 _ (by omega) (by omega)]
      rw [w64' (by omega) (by omega), w64' (by omega) (by omega)]
      congr 2
      · omega
      · congr 1; omega
def MD (a b c : Int) : Int × Int × Bool := if 0 ≤ a ∧ 0 ≤ b ∧ 1 ≤ c ∧ a * b / c ≤ 9223372036854775807 then (a * b / c, a * b % c, true) else (0, 0, false)
theorem muldiv_law (k : Nat) (a b c : Int) (ha : IW a) (hb : IW b) (hc : IW c) : wide_MulDiv.f (k + 21) a b c = some (MD a b c) := by
  unfold IW at ha hb hc
  unfold wide_MulDiv.f MD
  have hj : wide_MulDiv.j0 (k + 21) a b c true = some (0, 0, false) := by simp [wide_MulDiv.j0]
  by_cases h1 : a < 0
  · rw [if_pos h1, hj, if_neg (by omega)]
  · rw [if_neg h1]
    by_cases h2 : b < 0
    · rw [if_pos h2, hj, if_neg (by omega)]
    · rw [if_neg h2]
      by_cases h3 : c < 1
      · rw [decide_eq_true h3, hj, if_neg (by omega)]
      · rw [decide_eq_false h3]
        simp only [wide_MulDiv.j0]
        rw [if_neg (by decide), uw (n := a) (by omega) (by omega), uw (n := b) (by omega) (by omega), uw (n := c) (by omega) (by omega)]
        unfold bits_Mul64.f
        rw [if_pos ⟨by omega, by omega, by omega, by omega⟩]
        simp only [Option.bind_some]
        obtain ⟨p0, p1⟩ := prod_bd a b (by omega) ha.2 (by omega) hb.2
        generalize a * b = p at *
        obtain ⟨q0, q1⟩ := Div64.quot_bd p c (by omega)
        have m0 := Int.emod_nonneg p (show c ≠ 0 by omega)
        have m1 := Int.emod_lt_of_pos p (show 0 < c by omega)
        by_cases h4 : p / 18446744073709551616 ≥ c
        · rw [if_pos h4, if_neg]
          rintro ⟨_, _, _, h5⟩
          have := Int.mul_le_mul_of_nonneg_right h5 (show 0 ≤ c by omega)
          omega
        · rw [if_neg h4, show k + 20 = k + 20 from rfl, div64_law k _ _ c (by omega) (by omega) (by omega) (by omega) (by omega) (by omega)]
          simp only [Option.bind_some]
          rw [show p / 18446744073709551616 * 18446744073709551616 + p % 18446744073709551616 = p by omega]
          by_cases h5 : p / c > 9223372036854775807
          · rw [if_pos h5, if_neg (by omega)]
          · have := Int.ediv_nonneg p0 (show 0 ≤ c by omega)
            rw [if_neg h5, if_pos ⟨by omega, by omega, by omega, by omega⟩, w64' (by omega) (by omega), w64' (by omega) (by omega)]
theorem MD_bd (a b c : Int) (hc : IW c) : 0 ≤ (MD a b c).1 ∧ (MD a b c).1 ≤ 9223372036854775807 ∧ 0 ≤ (MD a b c).2.1 ∧ (MD a b c).2.1 ≤ 9223372036854775807 := by
  unfold IW at hc
  unfold MD
  split
  · rename_i h
    have m0 := Int.emod_nonneg (a * b) (show c ≠ 0 by omega)
    have m1 := Int.emod_lt_of_pos (a * b) (show 0 < c by omega)
    have := Int.ediv_nonneg (Int.mul_nonneg h.1 h.2.1) (show 0 ≤ c by omega)
    refine ⟨this, h.2.2.2, m0, ?_⟩
    simp only; omega
  · simp
def UP (a b c : Int) : Int × Bool := if (MD a b c).2.2 = true ∧ ¬ ((MD a b c).2.1 > 0 ∧ (MD a b c).1 = 9223372036854775807) then ((MD a b c).1 + (if (MD a b c).2.1 > 0 then 1 else 0), true) else (0, false)
theorem up_law (k : Nat) (a b c : Int) (ha : IW a) (hb : IW b) (hc : IW c) : wide_Up.f (k + 21) a b c = some (UP a b c) := by
  unfold wide_Up.f UP
  rw [muldiv_law k a b c ha hb hc]
  have B := MD_bd a b c hc
  generalize MD a b c = m at *
  obtain ⟨q, r, ok⟩ := m
  simp only at B
  simp only [Option.bind_some]
  cases ok with
  | false => simp [wide_Up.j0]
  | true =>
    by_cases hr : r > 0
    · by_cases hq : q = 9223372036854775807
      · subst hq; simp [hr, wide_Up.j0]
      · have : ¬ (r > 0 ∧ q = 9223372036854775807) := fun h => hq h.2
        simp [hr, hq, wide_Up.j0, w64' (n := q + 1) (by omega) (by omega)]
    · simp [hr, wide_Up.j0]
theorem less_law (a b c d : Int) (ha : IW a) (hb : IW b) (hc : IW c) (hd : IW d) : wide_Less.f a b c d = some (decide (0 ≤ a ∧ 0 ≤ b ∧ 0 ≤ c ∧ 0 ≤ d ∧ a * b < c * d)) := by
  unfold wide_Less.f
  rw [mul_law a b ha hb, mul_law c d hc hd]
  simp only [Option.bind_some]
  by_cases h1 : 0 ≤ a ∧ 0 ≤ b
  · by_cases h2 : 0 ≤ c ∧ 0 ≤ d
    · rw [if_pos h1, if_pos h2]
      simp only [if_true]
      generalize a * b = p
      generalize c * d = q
      by_cases h3 : p / 9223372036854775808 < q / 9223372036854775808
      · rw [if_pos h3]; congr 1; symm; rw [decide_eq_true_eq]; omega
      · rw [if_neg h3]
        by_cases h4 : p / 9223372036854775808 = q / 9223372036854775808
        · rw [if_pos h4]; congr 1; rw [decide_eq_decide]; omega
        · rw [if_neg h4]; congr 1; symm; rw [decide_eq_false_iff_not]; omega
    · rw [if_pos h1, if_neg h2]
      simp; omega
  · rw [if_neg h1]
    simp; omega
end Go.Proofs.Ytgdaohdllipgpaa.Pure
