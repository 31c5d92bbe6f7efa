/- What the printed functions of the package day tell, in the words of the calendar in plain numbers. -/
import Derived.Test.YtfmibhepehhljaaCal
import Derived.Test.YtfmibhepehhljaaPAllx2
namespace Go.Proofs.Ytfmibhepehhljaa.Pure
open Go.RowKit Go.Proofs.Ytfmibhepehhljaa.PAll Go.Proofs.YtfmibhepehhljaaW.PrintWords Go.Proofs.YtfmibhepehhljaaW.PrintLast
set_option linter.unusedVariables false
set_option linter.unusedSimpArgs false

def I64 (n : Int) : Prop := -9223372036854775808 ≤ n ∧ n ≤ 9223372036854775807
theorem i64_of {n : Int} (h : (Lit.int .i64 n).wf = true) : I64 n := by
  simp [Lit.wf, IntKind.min, IntKind.max, IntKind.signed, IntKind.bits] at h
  unfold I64; omega
theorem w64 {n : Int} (h : -9223372036854775808 ≤ n) (h' : n ≤ 9223372036854775807) : wrap64 n = n := by unfold wrap64; omega
theorem td {a b : Int} (h : 0 ≤ a) : Int.tdiv a b = a / b := Int.tdiv_eq_ediv_of_nonneg h
theorem tm {a b : Int} (h : 0 ≤ a) : Int.tmod a b = a % b := Int.tmod_eq_emod_of_nonneg h
theorem div_bd (a b : Int) (ha : I64 a) (h : 1 ≤ b) : I64 (a / b) ∧ 0 ≤ a % b ∧ a % b < b ∧ b * (a / b) + a % b = a := by
  unfold I64 at ha ⊢
  have q := Int.mul_ediv_add_emod a b
  have m0 := Int.emod_nonneg a (show b ≠ 0 by omega)
  have m1 := Int.emod_lt_of_pos a (show 0 < b by omega)
  have n1 := Int.natAbs_ediv_le_natAbs a b
  refine ⟨?_, m0, m1, q⟩
  by_cases h0 : 0 ≤ a
  · have := Int.ediv_nonneg h0 (show 0 ≤ b by omega); omega
  · have := Int.ediv_neg_of_neg_of_pos (show a < 0 by omega) (show 0 < b by omega); omega
theorem tdiv_neg_law (a b : Int) (h : 1 ≤ b) (h0 : a < 0) : (a % b = 0 ∧ Int.tdiv a b = a / b ∧ Int.tmod a b = 0) ∨ (0 < a % b ∧ Int.tdiv a b = a / b + 1 ∧ Int.tmod a b = a % b - b) := by
  have m0 := Int.emod_nonneg a (show b ≠ 0 by omega)
  by_cases hd : b ∣ a
  · left
    have := Int.emod_eq_zero_of_dvd hd
    refine ⟨this, ?_, ?_⟩
    · rw [Int.tdiv_eq_ediv, if_pos (.inr hd)]; omega
    · rw [Int.tmod_eq_emod, if_pos (.inr hd)]; omega
  · right
    have hn : ¬ (0 ≤ a ∨ b ∣ a) := by rintro (h | h); omega; exact hd h
    refine ⟨?_, ?_, ?_⟩
    · have : a % b ≠ 0 := fun e => hd (Int.dvd_of_emod_eq_zero e)
      omega
    · rw [Int.tdiv_eq_ediv, if_neg hn, Int.sign_eq_one_of_pos (by omega)]
    · rw [Int.tmod_eq_emod, if_neg hn]; omega
theorem div_law (a b : Int) (ha : I64 a) (hb : I64 b) (h : 1 ≤ b) : num_Div.f a b = some (a / b, a % b, true) := by
  obtain ⟨q, m0, m1, e⟩ := div_bd a b ha h
  unfold I64 at ha hb q
  unfold num_Div.f
  rw [if_neg (by omega), if_neg (by omega)]
  by_cases h0 : 0 ≤ a
  · rw [tm h0, td h0, if_neg (by omega), w64 q.1 q.2]
  · rcases tdiv_neg_law a b h (by omega) with ⟨z, d, m⟩ | ⟨z, d, m⟩
    · rw [d, m, if_neg (by omega), w64 q.1 q.2, z]
    · rw [d, m, if_pos (by omega)]
      have u : I64 (a / b + 1) := by
        unfold I64
        have := Int.ediv_neg_of_neg_of_pos (show a < 0 by omega) (show 0 < b by omega); omega
      unfold I64 at u
      rw [w64 u.1 u.2, w64 (by omega) (by omega), w64 (by omega) (by omega)]
      congr 2
      · omega
      · congr 1; omega
theorem div_no (a b : Int) (h : b < 1) : num_Div.f a b = some (0, 0, false) := by
  unfold num_Div.f; rw [if_pos h]
theorem tmod_zero (y b : Int) : (Int.tmod y b = 0) = (y % b = 0) := by
  rw [← Int.dvd_iff_emod_eq_zero, ← Int.dvd_iff_tmod_eq_zero]
theorem leap_law (y : Int) : day_Leap.f y = some (Cal.leap y) := by
  unfold day_Leap.f Cal.leap
  simp only [tmod_zero]
  by_cases a : y % 4 = 0
  · by_cases b : y % 100 = 0
    · simp only [a, b, if_true]
      have : (Int.tmod y 400 == 0) = decide (y % 400 = 0) := by
        have h := tmod_zero y 400
        by_cases c : y % 400 = 0
        · have d : Int.tmod y 400 = 0 := by rw [h]; exact c
          simp [c, d]
        · have d : ¬ Int.tmod y 400 = 0 := by rw [h]; exact c
          simp [c, d]
      rw [this]; simp
    · simp [a, b]
  · simp [a]
theorem last_law (y m : Int) : day_Last.f y m = some (if 1 ≤ y ∧ y ≤ 9999 ∧ 1 ≤ m ∧ m ≤ 12 then (Cal.mdays y m, true) else (0, false)) := by
  unfold day_Last.f
  by_cases h : y < 1 ∨ y > 9999 ∨ m < 1 ∨ m > 12
  · have e : ¬ (1 ≤ y ∧ y ≤ 9999 ∧ 1 ≤ m ∧ m ≤ 12) := by omega
    rw [if_pos h, if_neg e]
  · have e : 1 ≤ y ∧ y ≤ 9999 ∧ 1 ≤ m ∧ m ≤ 12 := by omega
    rw [if_neg h, if_pos e]
    by_cases h2 : m = 2
    · rw [if_pos h2, leap_law]; subst h2; simp [Cal.mdays]
    · rw [if_neg h2]; simp [Cal.mdays, day_Last.tab, h2]
theorem yd_small (c : Int) (h0 : 0 ≤ c) (h1 : c ≤ 399) : Cal.yd c = 365 * c + c / 4 - c / 100 := by unfold Cal.yd; omega
theorem date_law (k : Nat) (n : Int) : day_Date.f (k + 1) n = some (if -719162 ≤ n ∧ n ≤ 2932896 then (Cal.dY n, Cal.dM n, Cal.dD n, true) else (0, 0, 0, false)) := by
  have hj : ∀ n, day_Date.j0 (k + 1) n true = some (0, 0, 0, false) := fun n => by simp [day_Date.j0]
  unfold day_Date.f
  by_cases h1 : n < -719162
  · rw [if_pos h1, hj, if_neg (by omega)]
  · rw [if_neg h1]
    by_cases h2 : n > 2932896
    · rw [decide_eq_true h2, hj, if_neg (by omega)]
    · rw [decide_eq_false h2, if_pos (by omega)]
      simp only [day_Date.j0]
      rw [if_neg (by decide), w64 (by omega) (by omega), div_law _ _ (by unfold I64; omega) (by unfold I64; omega) (by omega)]
      simp only [Option.bind_some]
      unfold Cal.dY Cal.dM Cal.dD
      generalize ho : (n + 719468) % 146097 = o
      generalize he : (n + 719468) / 146097 = e
      obtain ⟨c, hc, c0, c1, k0, k1⟩ := Cal.yoe_law o (by omega) (by omega)
      have hy := yd_small c c0 c1
      have hy1 := (Cal.yd_step c).2
      have hw : wrap64 (Int.tdiv (wrap64 ((wrap64 ((wrap64 (o - (wrap64 (Int.tdiv o 1460)))) + (wrap64 (Int.tdiv o 36524)))) - (wrap64 (Int.tdiv o 146096)))) 365) = c := by
        rw [← hc]
        simp (disch := omega) only [w64, td]
      simp only [hw]
      have hk : wrap64 (o - (wrap64 ((wrap64 ((wrap64 (365 * c)) + (wrap64 (Int.tdiv c 4)))) - (wrap64 (Int.tdiv c 100))))) = o - Cal.yd c := by
        simp (disch := omega) only [w64, td]
        omega
      simp only [hk]
      have hu : Cal.yoe o = c := hc
      simp only [hu]
      have q0 : 0 ≤ o - Cal.yd c := by omega
      have q1 : o - Cal.yd c < 366 := by omega
      have e0 : -10 ≤ e ∧ e ≤ 30 := by omega
      generalize o - Cal.yd c = q at q0 q1 ⊢
      have hp : wrap64 (Int.tdiv (wrap64 ((wrap64 (5 * q)) + 2)) 153) = (5 * q + 2) / 153 := by simp (disch := omega) only [w64, td]
      simp only [hp]
      have p0 : 0 ≤ (5 * q + 2) / 153 ∧ (5 * q + 2) / 153 ≤ 11 := by omega
      generalize (5 * q + 2) / 153 = p at p0 ⊢
      clear hw hk hu hc hy hy1 hj k0 k1 ho he h1 h2 hp
      by_cases hm : p < 10
      · rw [if_neg (show ¬ wrap64 (p + 3) > 12 by rw [w64 (by omega) (by omega)]; omega)]
        simp (disch := omega) only [w64, td, if_pos hm]
        congr 2; omega
      · rw [if_pos (show wrap64 (p + 3) > 12 by rw [w64 (by omega) (by omega)]; omega)]
        simp (disch := omega) only [w64, td, if_neg hm]
        congr 2
        · omega
        · congr 1; omega
theorem end_law (k : Nat) (n : Int) : day_End.f (k + 1) n = some (Cal.isEnd n) := by
  unfold day_End.f Cal.isEnd
  rw [date_law]
  simp only [Option.bind_some]
  by_cases h : -719162 ≤ n ∧ n ≤ 2932896
  · rw [if_pos h, decide_eq_true h]
    obtain ⟨v, e⟩ := Cal.date_law n h.1 h.2
    unfold Cal.Valid at v
    have c : 1 ≤ Cal.dY n ∧ Cal.dY n ≤ 9999 ∧ 1 ≤ Cal.dM n ∧ Cal.dM n ≤ 12 := by omega
    simp only [last_law, if_pos c]
    simp
  · rw [if_neg h, decide_eq_false h, last_law]
    simp
end Go.Proofs.Ytfmibhepehhljaa.Pure
