/- StampClocks: seconds and clocks are each other's, and but for one no minute has a sixty-first second, for any number and any clock: no condition. -/
import Derived.Test.YtpgkdagjlbcgkaaStamp
import Derived.Test.YtpgkdagjlbcgkaaSmall04
import Derived.Test.YtpgkdagjlbcgkaaPAllx9
namespace Go.Proofs.Ytpgkdagjlbcgkaa.Pure
open Go.RowKit Go.Proofs.Ytpgkdagjlbcgkaa.PAll Go.Proofs.YtpgkdagjlbcgkaaW.PrintWords Go.Proofs.YtpgkdagjlbcgkaaW.PrintLast

theorem StampClocks : epactlaw04_StampClocks.Pure := by
  intro sec h m s _ _ _ _
  refine ⟨10, ?_⟩
  unfold epactlaw04_StampClocks.f
  rw [small04 8]
  simp only [Option.bind_some]
  have key : epactlaw04_StampClocks.j0 10 h m s true = some true := by
    rw [epactlaw04_StampClocks.j0, second_law 8]
    simp only [Option.bind_some]
    by_cases c : CV h m s
    · obtain ⟨c0, c1, e1, e2, e3⟩ := cv_clock h m s c
      simp only [if_pos c, if_true]
      rw [clock_law 8, if_pos ⟨c0, c1⟩, e1, e2, e3]
      simp
    · simp only [if_neg c]; simp
  rw [clock_law 9]
  simp only [Option.bind_some]
  by_cases g : 0 ≤ sec ∧ sec ≤ 86400
  · obtain ⟨c, cn⟩ := clock_cv sec g.1 g.2
    simp only [if_pos g, if_true]
    rw [second_law 9, if_pos c, cn]
    simp only [Option.bind_some, if_true]
    have c' := c
    unfold CV at c'
    have hs : (cS sec == 60) = (sec == 86400) := by
      rw [Bool.eq_iff_iff, beq_iff_eq, beq_iff_eq]
      unfold cS; split <;> omega
    rw [if_neg (by omega), if_neg (by omega), hs, if_neg (by simp), if_neg (by omega)]
    exact key
  · simp only [if_neg g]
    rw [if_neg (by decide)]
    exact key

end Go.Proofs.Ytpgkdagjlbcgkaa.Pure
