/- WideLess: of two products one is less, or they are alike, and more of one is not less, for any four numbers: no condition. -/
import Derived.Test.YtgdaohdllipgpaaWide2
import Derived.Test.YtgdaohdllipgpaaSmall02
import Derived.Test.YtgdaohdllipgpaaPAllx5
namespace Go.Proofs.Ytgdaohdllipgpaa.Pure
open Go.RowKit Go.Proofs.Ytgdaohdllipgpaa.PAll Go.Proofs.YtgdaohdllipgpaaW.PrintWords Go.Proofs.YtgdaohdllipgpaaW.PrintLast

theorem WideLess : epactlaw02_WideLess.Pure := by
  intro a b c d ha hb hc hd
  have ha := iw_of ha
  have hb := iw_of hb
  have hc := iw_of hc
  have hd := iw_of hd
  refine ⟨31, ?_⟩
  unfold epactlaw02_WideLess.f
  rw [small02 1]
  simp only [Option.bind_some]
  have bad : ¬ (0 ≤ a ∧ 0 ≤ b ∧ 0 ≤ c ∧ 0 ≤ d) → epactlaw02_WideLess.j0 31 a b c d true true = some true := by
    intro h
    simp only [epactlaw02_WideLess.j0, if_true]
    rw [less_law a b c d ha hb hc hd, decide_eq_false (fun h' => h ⟨h'.1, h'.2.1, h'.2.2.1, h'.2.2.2.1⟩)]; simp
  by_cases h1 : a < 0
  · rw [if_pos h1]; exact bad (by omega)
  · rw [if_neg h1]
    by_cases h2 : b < 0
    · rw [if_pos h2]; exact bad (by omega)
    · rw [if_neg h2]
      by_cases h3 : c < 0
      · rw [if_pos h3]; exact bad (by omega)
      · rw [if_neg h3]
        by_cases h4 : d < 0
        · rw [decide_eq_true h4]; exact bad (by omega)
        · rw [decide_eq_false h4]
          clear bad
          simp only [epactlaw02_WideLess.j0, Bool.false_eq_true, if_false, if_true]
          rw [mul_law a b ha hb, if_pos ⟨by omega, by omega⟩, mul_law c d hc hd, if_pos ⟨by omega, by omega⟩, less_law a b c d ha hb hc hd, less_law c d a b hc hd ha hb, less_law a b a b ha hb ha hb]
          simp only [Option.bind_some]
          have hm : c * (d + 1) = c * d + c := by rw [Int.mul_add, Int.mul_one]
          by_cases hd1 : d = 9223372036854775807
          · simp only [hd1, if_true]
            rw [hd1] at hm
            generalize a * b = p
            generalize c * 9223372036854775807 = q
            rcases Int.lt_trichotomy p q with h5 | h5 | h5
            · rw [decide_eq_true (by omega), decide_eq_false (by omega), decide_eq_false (by omega)]
              simp only [if_true, Bool.false_eq_true, if_false]
              by_cases h6 : p / 9223372036854775808 = q / 9223372036854775808
              · rw [if_pos h6]
                have : (p % 9223372036854775808 != q % 9223372036854775808) = true := by rw [bne_iff_ne]; omega
                rw [this]; simp
              · rw [if_neg h6]; simp
            · subst h5
              simp
            · rw [decide_eq_false (by omega), decide_eq_true (by omega), decide_eq_false (by omega)]
              simp only [if_true, Bool.false_eq_true, if_false]
              by_cases h6 : p / 9223372036854775808 = q / 9223372036854775808
              · rw [if_pos h6]
                have : (p % 9223372036854775808 != q % 9223372036854775808) = true := by rw [bne_iff_ne]; omega
                rw [this]; simp
              · rw [if_neg h6]; simp
          · have hd2 : IW (d + 1) := by unfold IW at hd ⊢; omega
            simp only [if_neg hd1]
            unfold IW at hd
            rw [w64' (by omega) (by omega), less_law a b c (d + 1) ha hb hc hd2, hm]
            generalize a * b = p
            generalize c * d = q
            rcases Int.lt_trichotomy p q with h5 | h5 | h5
            · rw [decide_eq_true (show 0 ≤ a ∧ 0 ≤ b ∧ 0 ≤ c ∧ 0 ≤ d ∧ p < q by omega), decide_eq_false (show ¬ (0 ≤ c ∧ 0 ≤ d ∧ 0 ≤ a ∧ 0 ≤ b ∧ q < p) by omega), decide_eq_false (show ¬ (0 ≤ a ∧ 0 ≤ b ∧ 0 ≤ a ∧ 0 ≤ b ∧ p < p) by omega), decide_eq_true (show 0 ≤ a ∧ 0 ≤ b ∧ 0 ≤ c ∧ 0 ≤ d + 1 ∧ p < q + c by omega)]
              simp only [if_true, Bool.false_eq_true, if_false]
              by_cases h6 : p / 9223372036854775808 = q / 9223372036854775808
              · rw [if_pos h6]
                have : (p % 9223372036854775808 != q % 9223372036854775808) = true := by rw [bne_iff_ne]; omega
                rw [this]; simp
              · rw [if_neg h6]; simp
            · subst h5
              simp
            · rw [decide_eq_false (show ¬ (0 ≤ a ∧ 0 ≤ b ∧ 0 ≤ c ∧ 0 ≤ d ∧ p < q) by omega), decide_eq_true (show 0 ≤ c ∧ 0 ≤ d ∧ 0 ≤ a ∧ 0 ≤ b ∧ q < p by omega), decide_eq_false (show ¬ (0 ≤ a ∧ 0 ≤ b ∧ 0 ≤ a ∧ 0 ≤ b ∧ p < p) by omega)]
              simp only [if_true, Bool.false_eq_true, if_false]
              by_cases h6 : p / 9223372036854775808 = q / 9223372036854775808
              · rw [if_pos h6]
                have : (p % 9223372036854775808 != q % 9223372036854775808) = true := by rw [bne_iff_ne]; omega
                rw [this]; simp
              · rw [if_neg h6]; simp

end Go.Proofs.Ytgdaohdllipgpaa.Pure
