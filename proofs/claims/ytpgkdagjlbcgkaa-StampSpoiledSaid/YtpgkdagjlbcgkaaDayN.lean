/- What Number and Week of the package day tell. -/
import Derived.Test.YtpgkdagjlbcgkaaDay
import Derived.Test.YtpgkdagjlbcgkaaPAllx2
namespace Go.Proofs.Ytpgkdagjlbcgkaa.Pure
open Go.RowKit Go.Proofs.Ytpgkdagjlbcgkaa.PAll Go.Proofs.YtpgkdagjlbcgkaaW.PrintWords Go.Proofs.YtpgkdagjlbcgkaaW.PrintLast
set_option linter.unusedVariables false
set_option linter.unusedSimpArgs false
instance (y m d : Int) : Decidable (Cal.Valid y m d) := by unfold Cal.Valid; exact inferInstance
theorem number_law (k : Nat) (y m d : Int) (hd : I64 d) : day_Number.f (k + 1) y m d = some (if Cal.Valid y m d then (Cal.num y m d, true) else (0, false)) := by
  unfold day_Number.f
  rw [last_law]
  simp only [Option.bind_some]
  have hj : ∀ y m d, day_Number.j0 (k + 1) y m d true = some (0, false) := fun y m d => by simp [day_Number.j0]
  by_cases h : 1 ≤ y ∧ y ≤ 9999 ∧ 1 ≤ m ∧ m ≤ 12
  · rw [if_pos h]
    simp only [if_true]
    by_cases h1 : d < 1
    · rw [if_pos h1, hj, if_neg (by unfold Cal.Valid; omega)]
    · rw [if_neg h1]
      by_cases h2 : d > Cal.mdays y m
      · rw [decide_eq_true h2, hj, if_neg (by unfold Cal.Valid; omega)]
      · rw [decide_eq_false h2, if_pos (by unfold Cal.Valid; omega)]
        have b := Cal.mdays_bd y m
        simp only [day_Number.j0]
        rw [if_neg (by decide)]
        by_cases h3 : m < 3
        · rw [if_pos h3, w64 (by omega) (by omega), div_law _ _ (by unfold I64; omega) (by unfold I64; omega) (by omega)]
          simp only [Option.bind_some]
          have e := Cal.yd_era (y - 1)
          simp (disch := omega) only [w64, td]
          unfold Cal.num; rw [if_pos h3]
          congr 2; omega
        · rw [if_neg h3, div_law _ _ (by unfold I64; omega) (by unfold I64; omega) (by omega)]
          simp only [Option.bind_some]
          have e := Cal.yd_era y
          simp (disch := omega) only [w64, td]
          unfold Cal.num; rw [if_neg h3]
          congr 2; omega
  · rw [if_neg h]
    simp only [Bool.false_eq_true, if_false]
    rw [hj, if_neg (by unfold Cal.Valid; omega)]
end Go.Proofs.Ytpgkdagjlbcgkaa.Pure
