/- PosixDays: the POSIX second of a day's second is its day's, and the second, but for an inserted one, which is that of the one ahead; any day, any second of it: no condition. -/
import Derived.Test.YtlfnkamhokfeaaaSmall23
import Derived.Test.YtlfnkamhokfeaaaPAllx13
namespace Go.Proofs.Ytlfnkamhokfeaaa.Pure
open Go.RowKit Go.Proofs.Ytlfnkamhokfeaaa.PAll Go.Proofs.YtlfnkamhokfeaaaW.PrintWords Go.Proofs.YtlfnkamhokfeaaaW.PrintLast
theorem PosixDays : epactlaw23_PosixDays.Pure := by
  intro d s hd hs
  refine ⟨101, ?_⟩
  unfold epactlaw23_PosixDays.f
  rw [small23 101 (by omega), of_law]
  simp only [Option.bind_some]
  have no : ofR d s = (0, false) → epactlaw23_PosixDays.j0 101 d s true (ofR d s).1 (ofR d s).2 ((ofR d s).2 != false) = some true := by
    intro e; rw [e]; simp [epactlaw23_PosixDays.j0]
  by_cases h1 : d ≥ -719162
  · rw [if_pos h1]
    by_cases h2 : d ≤ 2932896
    · rw [if_pos h2]
      by_cases h3 : s ≥ 0
      · rw [if_pos h3]
        by_cases h4 : s ≤ 86400
        · rw [decide_eq_true h4]
          have e : ofR d s = (d * 86400 + min s 86399, true) := by unfold ofR; rw [if_neg (by omega)]
          rw [e]
          simp only [epactlaw23_PosixDays.j0, bne_self_eq_false, Bool.false_eq_true, if_false, if_true]
          rw [mn_min, pday_law _ (by unfold I64; omega), of_law]
          simp only [Option.bind_some]
          unfold ofR
          rw [if_pos (by omega), if_pos (by omega), if_neg (by omega), beq_iff_eq.mpr (by simp only; omega)]
        · rw [decide_eq_false h4]; exact no (by unfold ofR; rw [if_pos (by omega)])
      · rw [if_neg h3]; exact no (by unfold ofR; rw [if_pos (by omega)])
    · rw [if_neg h2]; exact no (by unfold ofR; rw [if_pos (by omega)])
  · rw [if_neg h1]; exact no (by unfold ofR; rw [if_pos (by omega)])
end Go.Proofs.Ytlfnkamhokfeaaa.Pure
