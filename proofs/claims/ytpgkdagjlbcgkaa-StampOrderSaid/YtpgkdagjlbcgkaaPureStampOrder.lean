/- StampOrder: later seconds have greater texts, for any two days and any two seconds: no condition. -/
import Derived.Test.YtpgkdagjlbcgkaaStampO
import Derived.Test.YtpgkdagjlbcgkaaSmall04
import Derived.Test.YtpgkdagjlbcgkaaPAllx10
namespace Go.Proofs.Ytpgkdagjlbcgkaa.Pure
open Go.RowKit Go.Proofs.Ytpgkdagjlbcgkaa.PAll Go.Proofs.YtpgkdagjlbcgkaaW.PrintWords Go.Proofs.YtpgkdagjlbcgkaaW.PrintLast

theorem StampOrder : epactlaw04_StampOrder.Pure := by
  intro d sec e then_ _ _ _ _
  refine ⟨10, ?_⟩
  unfold epactlaw04_StampOrder.f
  rw [small04 8, text_law 9, text_law 9]
  simp only [Option.bind_some]
  by_cases h1 : (-719162 ≤ d ∧ d ≤ 2932896) ∧ 0 ≤ sec ∧ sec ≤ 86400
  · by_cases h2 : (-719162 ≤ e ∧ e ≤ 2932896) ∧ 0 ≤ then_ ∧ then_ ≤ 86400
    · simp only [if_pos h1, if_pos h2, if_true]
      simp only [ba_list]
      have L := less_dsx d sec e then_ h1.1 h1.2 h2.1 h2.2
      have I := dsx_inj d sec e then_ h1.1 h1.2 h2.1 h2.2
      have hb : Op.bytesLess (dsx d sec) (dsx e then_) = decide (d < e ∨ d = e ∧ sec < then_) := by
        rw [Bool.eq_iff_iff, L, decide_eq_true_iff]
      have he : (dsx e then_ == dsx d sec) = decide (e = d ∧ sec = then_) := by
        rw [Bool.eq_iff_iff, beq_iff_eq, decide_eq_true_iff]
        exact ⟨fun q => ⟨(I q.symm).1.symm, (I q.symm).2⟩, fun q => by rw [q.1, q.2]⟩
      rw [hb, he]
      by_cases c1 : e > d
      · have n1 : ¬ e = d := by omega
        rw [if_pos c1, decide_eq_true (show d < e ∨ d = e ∧ sec < then_ by omega), decide_eq_false (show ¬ (e = d ∧ sec = then_) by omega), if_neg n1]
        simp
      · rw [if_neg c1]
        by_cases c2 : e = d
        · subst c2
          rw [if_pos rfl]
          have q1 : decide (e < e ∨ e = e ∧ sec < then_) = decide (then_ > sec) := by rw [decide_eq_decide]; omega
          have q2 : decide (e = e ∧ sec = then_) = (sec == then_) := by
            rw [Bool.eq_iff_iff, decide_eq_true_iff, beq_iff_eq]; omega
          rw [q1, q2]; simp
        · rw [if_neg c2, decide_eq_false (show ¬ (d < e ∨ d = e ∧ sec < then_) by omega), decide_eq_false (show ¬ (e = d ∧ sec = then_) by omega)]
          simp
    · simp only [if_pos h1, if_neg h2, if_true]; simp
  · simp only [if_neg h1]; simp

end Go.Proofs.Ytpgkdagjlbcgkaa.Pure
