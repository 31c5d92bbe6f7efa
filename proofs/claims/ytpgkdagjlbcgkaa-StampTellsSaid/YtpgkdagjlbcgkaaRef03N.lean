/- The reference's number of a date is the calendar's. -/
import Derived.Test.YtpgkdagjlbcgkaaDayN
import Derived.Test.YtpgkdagjlbcgkaaRef03
import Derived.Test.YtpgkdagjlbcgkaaPAllx4
namespace Go.Proofs.Ytpgkdagjlbcgkaa.Pure
open Go.RowKit Go.Proofs.Ytpgkdagjlbcgkaa.PAll Go.Proofs.YtpgkdagjlbcgkaaW.PrintWords Go.Proofs.YtpgkdagjlbcgkaaW.PrintLast
set_option linter.unusedVariables false
set_option linter.unusedSimpArgs false
theorem ref_last_law (y m : Int) : epactref03_Last.f y m = some (if 1 ≤ y ∧ y ≤ 9999 ∧ 1 ≤ m ∧ m ≤ 12 then (Cal.mdays y m, true) else (0, false)) := by
  unfold epactref03_Last.f
  by_cases h1 : y < 1
  · rw [if_pos h1, if_neg (by omega)]
  · rw [if_neg h1]
    by_cases h2 : y > 9999
    · rw [if_pos h2, if_neg (by omega)]
    · rw [if_neg h2]
      by_cases h3 : m < 1
      · rw [if_pos h3, if_neg (by omega)]
      · rw [if_neg h3]
        by_cases h4 : m > 12
        · rw [if_pos h4, if_neg (by omega)]
        · rw [if_neg h4, if_pos (by omega), ref_days_law y m (by omega) (by omega) (by omega)]; rfl
theorem ref_number_loop (y m d : Int) (y1 : 1 ≤ y) (y2 : y ≤ 9999) (m2 : m ≤ 12) (d1 : 1 ≤ d) (d2 : d ≤ 31) (j : Nat) : ∀ (i acc : Int) (k : Nat), 1 ≤ i → i ≤ m → m - i = j → acc = Cal.num y i 1 + d - 1 → j < k → epactref03_Number.l0 k y m acc i = some (Cal.num y m d, true) := by
  induction j with
  | zero =>
    intro i acc k i1 i2 hj ha hk
    obtain ⟨k, rfl⟩ : ∃ q, k = q + 1 := ⟨k - 1, by omega⟩
    have e : i = m := by omega
    subst e
    rw [epactref03_Number.l0, if_neg (by omega), ha, num_day1 y i d]
  | succ j ih =>
    intro i acc k i1 i2 hj ha hk
    obtain ⟨k, rfl⟩ : ∃ q, k = q + 1 := ⟨k - 1, by omega⟩
    have md := Cal.mdays_bd y i
    have s := Cal.num_succ_month y i i1 (by omega)
    rw [num_day1 y i (Cal.mdays y i)] at s
    have b := Cal.num_bd y i 1 ⟨y1, y2, i1, by omega, by omega, by omega⟩
    rw [epactref03_Number.l0, if_pos (by omega), ref_days_law y i (by omega) (by omega) (by omega)]
    simp only [Option.bind_some]
    rw [w64 (n := acc + Cal.mdays y i) (by omega) (by omega), w64 (n := i + 1) (by omega) (by omega)]
    exact ih (i + 1) _ k (by omega) (by omega) (by omega) (by omega) (by omega)
theorem ref_number_law (k : Nat) (hk : 20 ≤ k) (y m d : Int) (hd : I64 d) : epactref03_Number.f k y m d = some (if Cal.Valid y m d then (Cal.num y m d, true) else (0, false)) := by
  obtain ⟨k, rfl⟩ : ∃ q, k = q + 1 := ⟨k - 1, by omega⟩
  have hj : epactref03_Number.j0 (k + 1) y m d true = some (0, false) := by simp [epactref03_Number.j0]
  unfold epactref03_Number.f
  rw [ref_last_law]
  simp only [Option.bind_some]
  by_cases h : 1 ≤ y ∧ y ≤ 9999 ∧ 1 ≤ m ∧ m ≤ 12
  · simp only [if_pos h, if_true]
    by_cases h1 : d < 1
    · rw [if_pos h1, hj, if_neg (by unfold Cal.Valid; omega)]
    · rw [if_neg h1]
      by_cases h2 : d > Cal.mdays y m
      · rw [decide_eq_true h2, hj, if_neg (by unfold Cal.Valid; omega)]
      · have b := Cal.mdays_bd y m
        rw [decide_eq_false h2, if_pos (by unfold Cal.Valid; omega)]
        have nb := num_le1 y (by omega) (by omega)
        rw [epactref03_Number.j0, if_neg (by decide), ref_first_law y (by omega) (by omega)]
        simp only [Option.bind_some]
        rw [w64 (n := Cal.num y 1 1 + d) (by omega) (by omega), w64 (by omega) (by omega)]
        exact ref_number_loop y m d (by omega) (by omega) (by omega) (by omega) (by omega) (m - 1).toNat 1 _ k (by omega) (by omega) (by omega) rfl (by omega)
  · simp only [if_neg h]
    rw [if_neg (by decide), hj, if_neg (by unfold Cal.Valid; omega)]
end Go.Proofs.Ytpgkdagjlbcgkaa.Pure
