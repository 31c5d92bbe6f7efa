/- WideParts: a factor on both sides changes no quotient, and makes the rest so many times as great, for any four numbers: no condition. -/
import Derived.Test.YtgdaohdllipgpaaWide2
import Derived.Test.YtgdaohdllipgpaaSmall02
import Derived.Test.YtgdaohdllipgpaaPAllx6
namespace Go.Proofs.Ytgdaohdllipgpaa.Pure
open Go.RowKit Go.Proofs.Ytgdaohdllipgpaa.PAll Go.Proofs.YtgdaohdllipgpaaW.PrintWords Go.Proofs.YtgdaohdllipgpaaW.PrintLast

theorem WideParts : epactlaw02_WideParts.Pure := by
  intro a b c m ha hb hc hm
  have ha := iw_of ha
  have hb := iw_of hb
  have hc := iw_of hc
  have hm := iw_of hm
  refine ⟨31, ?_⟩
  unfold epactlaw02_WideParts.f
  rw [small02 1]
  simp only [Option.bind_some]
  have bad : epactlaw02_WideParts.j0 31 a b c m true true = some true := by simp [epactlaw02_WideParts.j0]
  by_cases h1 : a < 0
  · rw [if_pos h1]; exact bad
  rw [if_neg h1]
  by_cases h2 : b < 0
  · rw [if_pos h2]; exact bad
  rw [if_neg h2]
  by_cases h3 : c < 1
  · rw [if_pos h3]; exact bad
  rw [if_neg h3]
  by_cases h4 : m < 1
  · rw [if_pos h4]; exact bad
  rw [if_neg h4]
  by_cases h5 : m > 1048576
  · rw [if_pos h5]; exact bad
  rw [if_neg h5]
  by_cases h6 : a > 4398046511104
  · rw [if_pos h6]; exact bad
  rw [if_neg h6]
  by_cases h7 : c > 4398046511104
  · rw [decide_eq_true h7]; exact bad
  rw [decide_eq_false h7]
  clear bad
  simp only [epactlaw02_WideParts.j0, Bool.false_eq_true, if_false, if_true]
  have b1 : a * m ≤ 4398046511104 * 1048576 := Int.mul_le_mul (by omega) (by omega) (by omega) (by omega)
  have b2 : c * m ≤ 4398046511104 * 1048576 := Int.mul_le_mul (by omega) (by omega) (by omega) (by omega)
  have b3 : 0 ≤ a * m := Int.mul_nonneg (by omega) (by omega)
  have b4 : 0 < c * m := Int.mul_pos (by omega) (by omega)
  rw [w64' (n := a * m) (by omega) (by omega), w64' (n := c * m) (by omega) (by omega)]
  rw [muldiv_law 9 a b c ha hb hc, muldiv_law 9 (a * m) b (c * m) (by unfold IW; omega) hb (by unfold IW; omega)]
  simp only [Option.bind_some]
  have e1 : a * m * b = m * (a * b) := by rw [Int.mul_comm a m, Int.mul_assoc]
  have e2 : c * m = m * c := Int.mul_comm c m
  have d1 : a * m * b / (c * m) = a * b / c := by rw [e1, e2]; exact Int.mul_ediv_mul_of_pos _ _ (by omega)
  have d2 : a * m * b % (c * m) = a * b % c * m := by rw [e1, e2, Int.mul_emod_mul_of_pos _ _ (by omega), Int.mul_comm]
  have m0 := Int.emod_nonneg (a * b) (show c ≠ 0 by omega)
  have m1 := Int.emod_lt_of_pos (a * b) (show 0 < c by omega)
  have b5 : a * b % c * m ≤ 4398046511104 * 1048576 := Int.mul_le_mul (by omega) (by omega) (by omega) (by omega)
  have b6 : 0 ≤ a * b % c * m := Int.mul_nonneg m0 (by omega)
  unfold MD
  rw [d1, d2]
  by_cases h8 : a * b / c ≤ 9223372036854775807
  · simp only [if_pos (show 0 ≤ a ∧ 0 ≤ b ∧ 1 ≤ c ∧ a * b / c ≤ 9223372036854775807 from ⟨by omega, by omega, by omega, h8⟩), if_pos (show 0 ≤ a * m ∧ 0 ≤ b ∧ 1 ≤ c * m ∧ a * b / c ≤ 9223372036854775807 from ⟨b3, by omega, by omega, h8⟩)]
    simp only [beq_self_eq_true, if_true]
    rw [w64' (by omega) (by omega)]; simp
  · simp only [if_neg (show ¬ (0 ≤ a ∧ 0 ≤ b ∧ 1 ≤ c ∧ a * b / c ≤ 9223372036854775807) by omega), if_neg (show ¬ (0 ≤ a * m ∧ 0 ≤ b ∧ 1 ≤ c * m ∧ a * b / c ≤ 9223372036854775807) by omega)]; simp

end Go.Proofs.Ytgdaohdllipgpaa.Pure
