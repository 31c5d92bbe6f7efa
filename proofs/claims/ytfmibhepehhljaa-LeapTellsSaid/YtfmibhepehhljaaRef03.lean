/- The reference's calendar is the calendar in plain numbers. -/
import Derived.Test.YtfmibhepehhljaaDay
import Derived.Test.YtfmibhepehhljaaPAllx5
import Derived.Test.YtfmibhepehhljaaPAllx6
namespace Go.Proofs.Ytfmibhepehhljaa.Pure
open Go.RowKit Go.Proofs.Ytfmibhepehhljaa.PAll Go.Proofs.YtfmibhepehhljaaW.PrintWords Go.Proofs.YtfmibhepehhljaaW.PrintLast
set_option linter.unusedVariables false
set_option linter.unusedSimpArgs false
theorem ref_leap_law (y : Int) (h : 0 ≤ y) : epactref03_Leap.f y = some (Cal.leap y) := by
  unfold epactref03_Leap.f Cal.leap
  rw [tm h, tm h, tm h]
  by_cases h4 : y % 4 = 0
  · by_cases h100 : y % 100 = 0
    · by_cases h400 : y % 400 = 0 <;> simp [h4, h100, h400]
    · simp [h4, h100]
  · have : ¬ y % 400 = 0 := by omega
    simp [h4, this]
theorem ref_days_law (y m : Int) (h : 0 ≤ y) (h1 : 1 ≤ m) (h2 : m ≤ 12) : epactref03_days.f y m = some (Cal.mdays y m) := by
  unfold epactref03_days.f
  rw [Option.bind_some, ref_leap_law y h, w64 (by omega) (by omega)]
  have len : (([31, 28, 31, 30, 31, 30, 31, 31, 30, 31, 30, 31] : List Int).length : Int) = 12 := rfl
  rw [len, if_pos (show 0 ≤ m - 1 by omega), if_pos (show m - 1 < 12 by omega)]
  unfold Cal.mdays
  simp only [Option.bind_some]
  by_cases e : m = 2
  · subst e
    cases Cal.leap y <;> simp [rd]
  · rw [if_neg e, if_neg e]
    have hm : m = 1 ∨ m = 3 ∨ m = 4 ∨ m = 5 ∨ m = 6 ∨ m = 7 ∨ m = 8 ∨ m = 9 ∨ m = 10 ∨ m = 11 ∨ m = 12 := by omega
    rcases hm with rfl | rfl | rfl | rfl | rfl | rfl | rfl | rfl | rfl | rfl | rfl <;> simp [rd]
theorem ref_first_law (y : Int) (h1 : 1 ≤ y) (h2 : y ≤ 10000) : epactref03_first.f y = some (Cal.num y 1 1) := by
  unfold epactref03_first.f Cal.num Cal.yd
  rw [w64 (n := y - 1) (by omega) (by omega), td (show 0 ≤ y - 1 by omega), td (show 0 ≤ y - 1 by omega), td (show 0 ≤ y - 1 by omega)]
  rw [w64 (n := 365 * (y - 1)) (by omega) (by omega), w64 (n := (y - 1) / 4) (by omega) (by omega), w64 (n := (y - 1) / 100) (by omega) (by omega), w64 (n := (y - 1) / 400) (by omega) (by omega)]
  rw [w64 (n := 365 * (y - 1) + (y - 1) / 4) (by omega) (by omega), w64 (n := 365 * (y - 1) + (y - 1) / 4 - (y - 1) / 100) (by omega) (by omega), w64 (n := 365 * (y - 1) + (y - 1) / 4 - (y - 1) / 100 + (y - 1) / 400) (by omega) (by omega), w64 (by omega) (by omega)]
  rw [if_pos (by omega)]
  congr 1
  omega
theorem num_day1 (y m d : Int) : Cal.num y m d = Cal.num y m 1 + d - 1 := by unfold Cal.num; split <;> omega
theorem num_le1 (y : Int) (h1 : 1 ≤ y) (h2 : y ≤ 10000) : -719162 ≤ Cal.num y 1 1 ∧ Cal.num y 1 1 ≤ 2932897 := by
  unfold Cal.num Cal.yd; rw [if_pos (by omega)]; omega
theorem ref_month_loop (y n : Int) (h1 : 1 ≤ y) (h2 : y ≤ 9999) (hn : n < Cal.num (y + 1) 1 1) (j : Nat) : ∀ (m d : Int) (k : Nat), 1 ≤ m → m ≤ 12 → 12 - m = j → 0 ≤ d → d ≤ 400 → Cal.num y m 1 + d = n → j < k →
    ∃ m' d', epactref03_Date.l1 k y d m = some (y, m', d', true) ∧ Cal.Valid y m' d' ∧ Cal.num y m' d' = n := by
  induction j with
  | zero =>
    intro m d k m1 m2 hj d0 d4 e hk
    obtain ⟨k, rfl⟩ : ∃ q, k = q + 1 := ⟨k - 1, by omega⟩
    have hm : m = 12 := by omega
    subst hm
    have b := Cal.num_succ_year y
    rw [num_day1 y 12 31] at b
    have md := Cal.mdays_12 y
    simp only [epactref03_Date.l1]
    rw [ref_days_law y 12 (by omega) (by omega) (by omega)]
    simp only [Option.bind_some]
    rw [if_neg (by omega), w64 (by omega) (by omega)]
    refine ⟨12, d + 1, rfl, ⟨h1, h2, by omega, by omega, by omega, by omega⟩, ?_⟩
    rw [num_day1]; omega
  | succ j ih =>
    intro m d k m1 m2 hj d0 d4 e hk
    obtain ⟨k, rfl⟩ : ∃ q, k = q + 1 := ⟨k - 1, by omega⟩
    have md := Cal.mdays_bd y m
    simp only [epactref03_Date.l1]
    rw [ref_days_law y m (by omega) (by omega) (by omega)]
    simp only [Option.bind_some]
    by_cases hd : d ≥ Cal.mdays y m
    · rw [if_pos hd, w64 (by omega) (by omega), w64 (by omega) (by omega)]
      have s := Cal.num_succ_month y m m1 (by omega)
      rw [num_day1 y m (Cal.mdays y m)] at s
      exact ih (m + 1) (d - Cal.mdays y m) k (by omega) (by omega) (by omega) (by omega) (by omega) (by omega) (by omega)
    · rw [if_neg hd, w64 (by omega) (by omega)]
      refine ⟨m, d + 1, rfl, ⟨h1, h2, m1, m2, by omega, by omega⟩, ?_⟩
      rw [num_day1]; omega
theorem year_len (y : Int) : Cal.num (y + 1) 1 1 - Cal.num y 1 1 ≤ 366 ∧ 365 ≤ Cal.num (y + 1) 1 1 - Cal.num y 1 1 := by
  have := Cal.yd_step (y - 1)
  unfold Cal.num
  rw [if_pos (by omega), if_pos (by omega)]
  rw [show y - 1 + 1 = y + 1 - 1 by omega] at this
  omega
theorem ref_year_loop (n : Int) (hn : n ≤ 2932896) (j : Nat) : ∀ (y : Int) (k : Nat), 1 ≤ y → y ≤ 9999 → 9999 - y = j → Cal.num y 1 1 ≤ n → j + 13 < k →
    ∃ y' m' d', epactref03_Date.l0 k n y = some (y', m', d', true) ∧ Cal.Valid y' m' d' ∧ Cal.num y' m' d' = n := by
  induction j with
  | zero =>
    intro y k h1 h2 hj hy hk
    obtain ⟨k, rfl⟩ : ∃ q, k = q + 1 := ⟨k - 1, by omega⟩
    have e : y = 9999 := by omega
    subst e
    have b : Cal.num 10000 1 1 = 2932897 := by decide
    have yl := year_len 9999
    have nb := num_le1 9999 (by omega) (by omega)
    simp only [epactref03_Date.l0]
    rw [w64 (n := 9999 + 1) (by omega) (by omega), ref_first_law (9999 + 1) (by omega) (by omega)]
    simp only [Option.bind_some]
    rw [if_neg (by rw [show (9999 : Int) + 1 = 10000 from rfl, b]; omega), ref_first_law 9999 (by omega) (by omega)]
    simp only [Option.bind_some]
    rw [show (9999 : Int) + 1 = 10000 from rfl] at yl
    rw [w64 (by omega) (by omega)]
    obtain ⟨m', d', q1, q2, q3⟩ := ref_month_loop 9999 n (by omega) (by omega) (by rw [show (9999 : Int) + 1 = 10000 from rfl, b]; omega) 11 1 (n - Cal.num 9999 1 1) k (by omega) (by omega) (by omega) (by omega) (by omega) (by omega) (by omega)
    exact ⟨9999, m', d', q1, q2, q3⟩
  | succ j ih =>
    intro y k h1 h2 hj hy hk
    obtain ⟨k, rfl⟩ : ∃ q, k = q + 1 := ⟨k - 1, by omega⟩
    have yl := year_len y
    have nb := num_le1 y (by omega) (by omega)
    simp only [epactref03_Date.l0]
    rw [w64 (n := y + 1) (by omega) (by omega), ref_first_law (y + 1) (by omega) (by omega)]
    simp only [Option.bind_some]
    by_cases hl : Cal.num (y + 1) 1 1 ≤ n
    · rw [if_pos hl]
      exact ih (y + 1) k (by omega) (by omega) (by omega) hl (by omega)
    · rw [if_neg hl, ref_first_law y (by omega) (by omega)]
      simp only [Option.bind_some]
      rw [w64 (by omega) (by omega)]
      obtain ⟨m', d', q1, q2, q3⟩ := ref_month_loop y n (by omega) (by omega) (by omega) 11 1 (n - Cal.num y 1 1) k (by omega) (by omega) (by omega) (by omega) (by omega) (by omega) (by omega)
      exact ⟨y, m', d', q1, q2, q3⟩
theorem ref_date_law (n : Int) (k : Nat) (hk : 10100 ≤ k) : epactref03_Date.f k n = some (if -719162 ≤ n ∧ n ≤ 2932896 then (Cal.dY n, Cal.dM n, Cal.dD n, true) else (0, 0, 0, false)) := by
  obtain ⟨k, rfl⟩ : ∃ q, k = q + 1 := ⟨k - 1, by omega⟩
  unfold epactref03_Date.f
  by_cases h1 : n < -719162
  · rw [if_pos h1, if_neg (by omega)]; simp [epactref03_Date.j0]
  · rw [if_neg h1]
    by_cases h2 : n > 2932896
    · rw [decide_eq_true h2, if_neg (by omega)]; simp [epactref03_Date.j0]
    · rw [decide_eq_false h2, if_pos (by omega)]
      simp only [epactref03_Date.j0, Bool.false_eq_true, if_false]
      rw [show n - -719162 = n + 719162 by omega, w64 (n := n + 719162) (by omega) (by omega), td (show 0 ≤ n + 719162 by omega), w64 (n := (n + 719162) / 366) (by omega) (by omega), w64 (by omega) (by omega)]
      have f : Cal.num ((n + 719162) / 366 + 1) 1 1 ≤ n := by
        unfold Cal.num Cal.yd; rw [if_pos (by omega)]; omega
      obtain ⟨y, m, d, q1, q2, q3⟩ := ref_year_loop n (by omega) (9999 - ((n + 719162) / 366 + 1)).toNat ((n + 719162) / 366 + 1) k (by omega) (by omega) (by omega) f (by omega)
      obtain ⟨e1, e2, e3⟩ := Cal.date_of y m d n q2 q3
      rw [q1, e1, e2, e3]
theorem ref_end_law (n : Int) (k : Nat) (hk : 10100 ≤ k) : epactref03_End.f k n = some (Cal.isEnd n) := by
  unfold epactref03_End.f Cal.isEnd
  rw [ref_date_law n k hk]
  simp only [Option.bind_some]
  by_cases h : -719162 ≤ n ∧ n ≤ 2932896
  · rw [if_pos h, decide_eq_true h]
    have v := (Cal.date_law n h.1 h.2).1
    simp only [if_true]
    rw [ref_days_law _ _ (by have := v.1; omega) v.2.2.1 v.2.2.2.1]
    rfl
  · rw [if_neg h, decide_eq_false h]; rfl
end Go.Proofs.Ytfmibhepehhljaa.Pure
