/- WideUp: upwards is downwards, or one more, and the least whose fold is no less, for any three numbers: no condition. -/
import Derived.Test.YtgdaohdllipgpaaWide2
import Derived.Test.YtgdaohdllipgpaaSmall02
import Derived.Test.YtgdaohdllipgpaaPAllx4
namespace Go.Proofs.Ytgdaohdllipgpaa.Pure
open Go.RowKit Go.Proofs.Ytgdaohdllipgpaa.PAll Go.Proofs.YtgdaohdllipgpaaW.PrintWords Go.Proofs.YtgdaohdllipgpaaW.PrintLast

theorem WideUp : epactlaw02_WideUp.Pure := by
  intro a b c ha hb hc
  have ha := iw_of ha
  have hb := iw_of hb
  have hc := iw_of hc
  refine ⟨31, ?_⟩
  unfold epactlaw02_WideUp.f
  rw [small02 1]
  simp only [Option.bind_some]
  rw [muldiv_law 10 a b c ha hb hc, up_law 10 a b c ha hb hc]
  simp only [Option.bind_some]
  have B := MD_bd a b c hc
  unfold UP
  by_cases h : 0 ≤ a ∧ 0 ≤ b ∧ 1 ≤ c ∧ a * b / c ≤ 9223372036854775807
  · have e : MD a b c = (a * b / c, a * b % c, true) := by unfold MD; rw [if_pos h]
    rw [e] at B ⊢
    simp only at B
    obtain ⟨h1, h2, h3, h4⟩ := h
    have me := Int.mul_ediv_add_emod (a * b) c
    rw [Int.mul_comm c] at me
    have m1 := Int.emod_lt_of_pos (a * b) (show 0 < c by omega)
    unfold IW at ha hb hc
    simp only [if_true]
    by_cases hr : a * b % c = 0
    · rw [if_pos hr]
      have hn : ¬ (a * b % c > 0) := by omega
      simp only [hn, false_and, not_false_eq_true, and_self, if_true, if_false, Int.add_zero]
      rw [less_law _ _ _ _ (by unfold IW; omega) (by unfold IW; omega) (by unfold IW; omega) (by unfold IW; omega), less_law _ _ _ _ (by unfold IW; omega) (by unfold IW; omega) (by unfold IW; omega) (by unfold IW; omega)]
      rw [decide_eq_false (by omega), decide_eq_false (by omega)]; simp
    · rw [if_neg hr]
      have hp : a * b % c > 0 := by omega
      by_cases hq : a * b / c = 9223372036854775807
      · rw [if_pos hq]
        simp [hp, hq]
      · rw [if_neg hq]
        simp only [hp, hq, and_false, not_false_eq_true, and_self, if_true]
        rw [w64' (by omega) (by omega)]
        simp only [if_true]
        rw [less_law _ _ _ _ (by unfold IW; omega) (by unfold IW; omega) (by unfold IW; omega) (by unfold IW; omega), less_law _ _ _ _ (by unfold IW; omega) (by unfold IW; omega) (by unfold IW; omega) (by unfold IW; omega)]
        have hs : (a * b / c + 1) * c = a * b / c * c + c := by rw [Int.add_mul, Int.one_mul]
        rw [decide_eq_true (by omega)]
        simp only [Option.bind_some, if_true]
        rw [decide_eq_true (by omega)]
  · have e : MD a b c = (0, 0, false) := by unfold MD; rw [if_neg h]
    rw [e]; simp

end Go.Proofs.Ytgdaohdllipgpaa.Pure
