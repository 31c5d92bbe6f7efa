/- WideBack: a product divided by one of its parts is the other one, and a quotient's fold and its rest are the product, for any three numbers: no condition. -/
import Derived.Test.YtgdaohdllipgpaaWide2
import Derived.Test.YtgdaohdllipgpaaSmall02
import Derived.Test.YtgdaohdllipgpaaPAllx4
namespace Go.Proofs.Ytgdaohdllipgpaa.Pure
open Go.RowKit Go.Proofs.Ytgdaohdllipgpaa.PAll Go.Proofs.YtgdaohdllipgpaaW.PrintWords Go.Proofs.YtgdaohdllipgpaaW.PrintLast

theorem WideBack : epactlaw02_WideBack.Pure := by
  intro a b c ha hb hc
  have ha := iw_of ha
  have hb := iw_of hb
  have hc := iw_of hc
  refine ⟨31, ?_⟩
  unfold epactlaw02_WideBack.f
  rw [small02 1]
  simp only [Option.bind_some]
  have bad : ¬ (0 ≤ a ∧ 0 ≤ b ∧ 1 ≤ c) → epactlaw02_WideBack.j0 31 a b c true true = some true := by
    intro h
    simp only [epactlaw02_WideBack.j0, if_true]
    rw [muldiv_law 9 a b c ha hb hc]
    have : MD a b c = (0, 0, false) := by unfold MD; rw [if_neg (fun h' => h ⟨h'.1, h'.2.1, h'.2.2.1⟩)]
    rw [this]; simp
  unfold IW at ha hb hc
  by_cases h1 : a < 0
  · rw [if_pos h1]; exact bad (by omega)
  · rw [if_neg h1]
    by_cases h2 : b < 0
    · rw [if_pos h2]; exact bad (by omega)
    · rw [if_neg h2]
      by_cases h3 : c < 1
      · rw [decide_eq_true h3]; exact bad (by omega)
      · rw [decide_eq_false h3]
        clear bad
        obtain ⟨p0, p1⟩ := prod_bd a b (by omega) ha.2 (by omega) hb.2
        obtain ⟨q0, q1⟩ := Div64.quot_bd (a * b) c (by omega)
        have qn := Int.ediv_nonneg p0 (show 0 ≤ c by omega)
        have m0 := Int.emod_nonneg (a * b) (show c ≠ 0 by omega)
        have m1 := Int.emod_lt_of_pos (a * b) (show 0 < c by omega)
        have me := Int.mul_ediv_add_emod (a * b) c
        rw [Int.mul_comm c] at me
        have key : epactlaw02_WideBack.j1 30 a b c true (a * b / 9223372036854775808) (a * b % 9223372036854775808) (MD a b c).1 (MD a b c).2.1 (MD a b c).2.2 = some true := by
          simp only [epactlaw02_WideBack.j1]
          unfold MD
          by_cases h5 : a * b / c ≤ 9223372036854775807
          · simp only [if_pos (show 0 ≤ a ∧ 0 ≤ b ∧ 1 ≤ c ∧ a * b / c ≤ 9223372036854775807 from ⟨by omega, by omega, by omega, h5⟩)]
            simp only [if_true]
            rw [mul_law _ _ (by unfold IW; omega) (by unfold IW; omega), if_pos ⟨qn, by omega⟩]
            simp only [Option.bind_some]
            have e := me
            generalize a * b / c * c = m at *
            generalize a * b % c = r at *
            generalize a * b = p at *
            rw [w64' (n := 9223372036854775807 - r) (by omega) (by omega)]
            by_cases h6 : m % 9223372036854775808 > 9223372036854775807 - r
            · rw [if_pos h6, if_pos m0, if_pos m1, w64' (n := m / 9223372036854775808 + 1) (by omega) (by omega), if_pos (by omega)]
              rw [w64' (n := m % 9223372036854775808 - 9223372036854775807) (by omega) (by omega), w64' (n := m % 9223372036854775808 - 9223372036854775807 - 1) (by omega) (by omega), w64' (by omega) (by omega)]
              congr 1; rw [beq_iff_eq]; omega
            · rw [if_neg h6, if_pos m0, if_pos m1, if_pos (by omega), w64' (by omega) (by omega)]
              congr 1; rw [beq_iff_eq]; omega
          · simp only [if_neg (show ¬ (0 ≤ a ∧ 0 ≤ b ∧ 1 ≤ c ∧ a * b / c ≤ 9223372036854775807) by omega)]
            simp only [Bool.false_eq_true, if_false, if_true]
            rw [less_law _ _ _ _ (by unfold IW; omega) (by unfold IW; omega) (by unfold IW; omega) (by unfold IW; omega)]
            have h7 := Int.mul_le_mul_of_nonneg_right (show 9223372036854775807 ≤ a * b / c by omega) (show 0 ≤ c by omega)
            rw [decide_eq_false (by omega)]; simp
        simp only [epactlaw02_WideBack.j0, Bool.false_eq_true, if_false]
        rw [mul_law a b (by unfold IW; omega) (by unfold IW; omega), if_pos ⟨by omega, by omega⟩, muldiv_law 9 a b c (by unfold IW; omega) (by unfold IW; omega) (by unfold IW; omega)]
        simp only [Option.bind_some]
        by_cases h4 : b > 0
        · rw [if_pos h4, muldiv_law 9 a b b (by unfold IW; omega) (by unfold IW; omega) (by unfold IW; omega)]
          have : MD a b b = (a, 0, true) := by
            unfold MD
            rw [Int.mul_ediv_cancel _ (show b ≠ 0 by omega), if_pos ⟨by omega, by omega, by omega, by omega⟩, Int.mul_emod_left]
          rw [this]
          simp only [Option.bind_some, if_true]
          exact key
        · rw [if_neg h4]; exact key

end Go.Proofs.Ytgdaohdllipgpaa.Pure
