/- DayNext: one day more is the next date, for every number of a day: no condition. -/
import Derived.Test.YtnmadlkhooibfaaDay
import Derived.Test.YtnmadlkhooibfaaSmall03
import Derived.Test.YtnmadlkhooibfaaPAllx3
namespace Go.Proofs.Ytnmadlkhooibfaa.Pure
open Go.RowKit Go.Proofs.Ytnmadlkhooibfaa.PAll Go.Proofs.YtnmadlkhooibfaaW.PrintWords Go.Proofs.YtnmadlkhooibfaaW.PrintLast

theorem DayNext : epactlaw03_DayNext.Pure := by
  intro n _
  refine ⟨5, ?_⟩
  unfold epactlaw03_DayNext.f
  rw [small03 3]
  simp only [Option.bind_some]
  by_cases h0 : n < -719162
  · rw [if_pos h0]; simp [epactlaw03_DayNext.j0]
  · rw [if_neg h0]
    by_cases h1 : n ≥ 2932896
    · rw [decide_eq_true h1]; simp [epactlaw03_DayNext.j0]
    · rw [decide_eq_false h1]
      simp only [epactlaw03_DayNext.j0, Bool.false_eq_true, if_false]
      rw [w64 (by omega) (by omega), date_law, date_law, if_pos (by omega), if_pos (by omega)]
      simp only [Option.bind_some]
      obtain ⟨v, e⟩ := Cal.date_law n (by omega) (by omega)
      have v0 := v
      unfold Cal.Valid at v0
      have bm := Cal.mdays_bd (Cal.dY n) (Cal.dM n)
      rw [last_law, if_pos (by omega), week_law _ (by unfold I64; omega), week_law _ (by unfold I64; omega)]
      simp only [Option.bind_some]
      have hw : (n + 1 + 4) % 7 = Int.tmod (wrap64 ((n + 4) % 7 + 1)) 7 := by rw [w64 (by omega) (by omega), tm (by omega)]; omega
      simp only [if_true, if_pos hw]
      rw [end_law, Cal.isEnd, decide_eq_true (show -719162 ≤ n ∧ n ≤ 2932896 by omega)]
      rcases Cal.next_law n (by omega) (by omega) with ⟨a, b, c, d⟩ | ⟨a, a2, b, c, d⟩ | ⟨a, a2, b, c, d⟩
      · rw [if_pos a, if_pos b, if_pos c, if_pos (by rw [w64 (by omega) (by omega)]; exact d)]
        have : ¬ Cal.dD n = Cal.mdays (Cal.dY n) (Cal.dM n) := by omega
        simp [this]
      · rw [if_neg (by omega), if_pos a2, if_pos b, if_pos (by rw [w64 (by omega) (by omega)]; exact c), if_pos d]
        simp [a]
      · rw [if_neg (by omega), if_neg (by omega), if_pos (by rw [w64 (by omega) (by omega)]; exact b), if_pos c, if_pos d]
        simp [a]

end Go.Proofs.Ytnmadlkhooibfaa.Pure
