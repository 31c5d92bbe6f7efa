/- WideOrder: the order of what is multiplied does not matter, and products of small numbers are plain, for any two numbers: no condition. -/
import Derived.Test.YtgdaohdllipgpaaWide2
import Derived.Test.YtgdaohdllipgpaaSmall02
import Derived.Test.YtgdaohdllipgpaaPAllx5
namespace Go.Proofs.Ytgdaohdllipgpaa.Pure
open Go.RowKit Go.Proofs.Ytgdaohdllipgpaa.PAll Go.Proofs.YtgdaohdllipgpaaW.PrintWords Go.Proofs.YtgdaohdllipgpaaW.PrintLast

theorem WideOrder : epactlaw02_WideOrder.Pure := by
  intro a b ha hb
  have ha := iw_of ha
  have hb := iw_of hb
  refine ⟨31, ?_⟩
  unfold epactlaw02_WideOrder.f
  rw [small02 1, mul_law a b ha hb, mul_law b a hb ha]
  simp only [Option.bind_some]
  unfold IW at ha hb
  by_cases h : 0 ≤ a ∧ 0 ≤ b
  · simp only [if_pos h, if_pos (show 0 ≤ b ∧ 0 ≤ a from ⟨h.2, h.1⟩), Int.mul_comm b a]
    obtain ⟨p0, p1⟩ := prod_bd a b (by omega) ha.2 (by omega) hb.2
    simp only [if_true, bne_self_eq_false, Bool.false_eq_true, if_false]
    rw [if_pos h.1, decide_eq_true h.2]
    simp only [epactlaw02_WideOrder.j0, bne_self_eq_false, Bool.false_eq_true, if_false, if_true]
    have hn : 0 ≤ a * b / 9223372036854775808 ∧ 0 ≤ a * b % 9223372036854775808 := by omega
    by_cases h1 : a < 2147483648
    · by_cases h2 : b < 2147483648
      · have hs : a * b ≤ 2147483647 * 2147483647 := Int.mul_le_mul (by omega) (by omega) h.2 (by omega)
        rw [if_pos h1, if_pos h2]
        rw [if_pos (by omega), w64' (by omega) (by omega)]
        congr 1; rw [beq_iff_eq]; omega
      · rw [if_pos h1, if_neg h2, if_pos hn.1, decide_eq_true hn.2]
    · rw [if_neg h1, if_pos hn.1, decide_eq_true hn.2]
  · simp only [if_neg h, if_neg (show ¬ (0 ≤ b ∧ 0 ≤ a) by omega)]
    simp only [if_true, bne_self_eq_false, Bool.false_eq_true, if_false]
    by_cases h1 : a ≥ 0
    · rw [if_pos h1, decide_eq_false (by omega)]
      simp [epactlaw02_WideOrder.j0]
    · rw [if_neg h1]
      simp [epactlaw02_WideOrder.j0]

end Go.Proofs.Ytgdaohdllipgpaa.Pure
