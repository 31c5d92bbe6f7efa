/- DayYears: a year has 365 days, or 366, as it is a leap year, and 400 years have 146097, for every year: no condition. -/
import Derived.Test.YtnmadlkhooibfaaDay
import Derived.Test.YtnmadlkhooibfaaSmall03
import Derived.Test.YtnmadlkhooibfaaPAllx4
namespace Go.Proofs.Ytnmadlkhooibfaa.Pure
open Go.RowKit Go.Proofs.Ytnmadlkhooibfaa.PAll Go.Proofs.YtnmadlkhooibfaaW.PrintWords Go.Proofs.YtnmadlkhooibfaaW.PrintLast

theorem DayYears : epactlaw03_DayYears.Pure := by
  intro y _
  refine ⟨5, ?_⟩
  unfold epactlaw03_DayYears.f
  rw [small03 3]
  simp only [Option.bind_some]
  by_cases h0 : y < 1
  · rw [if_pos h0]; simp [epactlaw03_DayYears.j0]
  · rw [if_neg h0]
    by_cases h1 : y > 9598
    · rw [decide_eq_true h1]; simp [epactlaw03_DayYears.j0]
    · rw [decide_eq_false h1]
      simp only [epactlaw03_DayYears.j0, Bool.false_eq_true, if_false]
      have V1 : ∀ z : Int, 1 ≤ z → z ≤ 9999 → Cal.Valid z 1 1 := fun z a b => ⟨a, b, by omega, by omega, by omega, by simp [Cal.mdays]⟩
      have V2 : Cal.Valid y 12 31 := ⟨by omega, by omega, by omega, by omega, by omega, by simp [Cal.mdays]⟩
      rw [w64 (by omega) (by omega), number_law _ _ _ _ (by unfold I64; omega), number_law _ _ _ _ (by unfold I64; omega), number_law _ _ _ _ (by unfold I64; omega), leap_law]
      rw [if_pos (V1 y (by omega) (by omega)), if_pos V2, if_pos (V1 (y + 400) (by omega) (by omega))]
      simp only [Option.bind_some]
      have hl : Cal.leap (y + 400) = Cal.leap y := Cal.leap_400 y
      have b1 := Cal.num_bd y 1 1 (V1 y (by omega) (by omega))
      have b2 := Cal.num_bd (y + 400) 1 1 (V1 (y + 400) (by omega) (by omega))
      have b3 := Cal.num_bd y 12 31 V2
      have e1 : Cal.num (y + 400) 1 1 = Cal.num y 1 1 + 146097 := by
        simp [Cal.num]; have := Cal.yd_400 1 (y - 1); rw [show 400 * 1 + (y - 1) = y + 400 - 1 by omega] at this; omega
      have e2 : Cal.num y 12 31 - Cal.num y 1 1 = Cal.yd y - Cal.yd (y - 1) - 1 := by simp [Cal.num]; omega
      have hmd : Cal.mdays y 2 = if Cal.leap y = true then 29 else 28 := by simp [Cal.mdays]
      cases hq : Cal.leap y with
      | true =>
        have := Cal.leap_true hq
        simp only [if_true, epactlaw03_DayYears.j1]
        rw [last_law, if_pos (by omega), hmd, hq]
        simp only [Option.bind_some, if_true]
        simp (disch := omega) only [w64]
        rw [if_pos (by omega), if_pos (by omega), if_pos (by omega), leap_law, leap_law, hl]
        simp only [Option.bind_some, beq_self_eq_true, if_true]
        rw [week_law _ (by unfold I64; omega), week_law _ (by unfold I64; omega)]
        simp only [Option.bind_some]
        rw [e1]; simp; omega
      | false =>
        have := Cal.leap_false hq
        simp only [Bool.false_eq_true, if_false, epactlaw03_DayYears.j1]
        rw [last_law, if_pos (by omega), hmd, hq]
        simp only [Option.bind_some, if_true, Bool.false_eq_true, if_false]
        simp (disch := omega) only [w64]
        rw [if_pos (by omega), if_pos (by omega), if_pos (by omega), leap_law, leap_law, hl]
        simp only [Option.bind_some, beq_self_eq_true, if_true]
        rw [week_law _ (by unfold I64; omega), week_law _ (by unfold I64; omega)]
        simp only [Option.bind_some]
        rw [e1]; simp; omega

end Go.Proofs.Ytnmadlkhooibfaa.Pure
