/- The reference's products and quotients are those of plain numbers. The reference's calendar is the calendar in plain numbers. The reference's Check and Right of tables are the program's. The reference's functions of records are the program's, as far as they are told. The reference's days and seconds of TAI are the program's. The reference's lengths of days are the program's. The reference's POSIX seconds are the program's. The reference's windows and smeared ticks are those of the calendar and of plain numbers. -/
import Derived.Test.YthoigncoojcanaaW25
import Derived.Test.YthoigncoojcanaaPAllx25
import Derived.Test.YthoigncoojcanaaPAllx26
import Derived.Test.YthoigncoojcanaaR25
import Derived.Test.YthoigncoojcanaaPAllx19
import Derived.Test.YthoigncoojcanaaPAllx20
import Derived.Test.YthoigncoojcanaaPAllx21
import Derived.Test.YthoigncoojcanaaPAllx22
import Derived.Test.YthoigncoojcanaaPAllx23
import Derived.Test.YthoigncoojcanaaPAllx24
import Derived.Test.YthoigncoojcanaaS25
import Derived.Test.YthoigncoojcanaaPAllx27
namespace Go.Proofs.Ythoigncoojcanaa.Pure
open Go.RowKit Go.Proofs.Ythoigncoojcanaa.PAll Go.Proofs.YthoigncoojcanaaW.PrintWords Go.Proofs.YthoigncoojcanaaW.PrintLast Go.Proofs.YthoigncoojcanaaW.PrintMore
set_option linter.unusedVariables false
set_option linter.unusedSimpArgs false
theorem or_bit (x y : Int) (h0 : 0 ≤ x) (h1 : x < 9223372036854775808) (h2 : 0 ≤ y) (h3 : y < 2) : Go.bits .or .u64 (IntKind.u64.wrap (x * 2)) y = x * 2 + y := by
  rw [uw (by omega) (by omega)]; exact or63 x y h0 h1 h2 h3
theorem bit_of (b : Int) (n : Nat) (h0 : 0 ≤ b) (h1 : b < 18446744073709551616) (hn : n ≤ 63) : Go.bits .and .u64 (shr .u64 b (n : Int)) 1 = b / 2 ^ n % 2 := by
  unfold shr
  rw [show min ((n : Int).toNat) IntKind.u64.bits = n by simp [IntKind.bits]; omega]
  have p : (0 : Int) < 2 ^ n := Int.pow_pos (by omega)
  have c0 : 0 ≤ b / 2 ^ n := Int.ediv_nonneg h0 (by omega)
  have c1 : b / 2 ^ n ≤ b := Int.ediv_le_self _ h0
  have := bits_mask .u64 64 (by decide) (fun n a b => uw a (by omega)) 1 (by omega) (b / 2 ^ n) c0 (by omega)
  simpa using this
theorem half_of (b : Int) (n : Nat) : b / 2 ^ n = 2 * (b / 2 ^ (n + 1)) + b / 2 ^ n % 2 := by
  rw [Int.pow_succ, ← Int.ediv_ediv_of_nonneg (Int.le_of_lt (Int.pow_pos (by omega)))]
  omega
theorem product_loop (a b : Int) (ha : 0 ≤ a) (ha' : a ≤ 9223372036854775807) (hb : 0 ≤ b) (hb' : b ≤ 9223372036854775807) (n : Nat) : n ≤ 64 →
    ∀ (k : Nat) (hi lo : Int), 0 ≤ hi → 0 ≤ lo → lo < 18446744073709551616 → hi * 18446744073709551616 + lo = a * (b / 2 ^ n) → n < k →
    epactref02_product.l0 k a b ((n : Int) - 1) hi lo = some (a * b / 18446744073709551616, a * b % 18446744073709551616) := by
  obtain ⟨p0, p1⟩ := prod_bd a b ha ha' hb hb'
  induction n with
  | zero =>
    intro _ k hi lo h0 l0 l1 e hk
    obtain ⟨k, rfl⟩ : ∃ m, k = m + 1 := ⟨k - 1, by omega⟩
    simp only [epactref02_product.l0]
    rw [if_neg (by omega)]
    simp at e
    congr 2 <;> omega
  | succ n ih =>
    intro hn k hi lo h0 l0 l1 e hk
    obtain ⟨k, rfl⟩ : ∃ m, k = m + 1 := ⟨k - 1, by omega⟩
    have pw : (0 : Int) < 2 ^ n := Int.pow_pos (by omega)
    have hle : a * (b / 2 ^ n) ≤ a * b := Int.mul_le_mul_of_nonneg_left (Int.ediv_le_self _ hb) ha
    have hh := half_of b n
    have hm : a * (b / 2 ^ n) = 2 * (a * (b / 2 ^ (n + 1))) + a * (b / 2 ^ n % 2) := by
      conv => lhs; rw [hh]
      rw [Int.mul_add, ← Int.mul_assoc, Int.mul_comm a 2, Int.mul_assoc]
    have hb2 : 0 ≤ b / 2 ^ n % 2 ∧ b / 2 ^ n % 2 < 2 := by omega
    have hmn : 0 ≤ a * (b / 2 ^ n % 2) := Int.mul_nonneg ha hb2.1
    simp only [epactref02_product.l0]
    rw [show ((n + 1 : Nat) : Int) - 1 = (n : Int) by omega, if_pos (by omega), if_pos (by omega), bit_of b n hb (by omega) (by omega)]
    rw [w64' (n := (n : Int) - 1) (by omega) (by omega), or_bit hi _ h0 (by omega) (by omega) (by omega)]
    by_cases hbit : b / 2 ^ n % 2 = 1
    · rw [if_pos hbit]
      rw [hbit, Int.mul_one] at hm
      by_cases hc : IntKind.u64.wrap (IntKind.u64.wrap (lo * 2) + a) < a
      · rw [if_pos hc]
        rw [IntKind.wrap_u64, IntKind.wrap_u64] at hc ⊢
        rw [IntKind.wrap_u64] 
        refine ih (by omega) k _ _ (by omega) (by omega) (by omega) ?_ (by omega)
        omega
      · rw [if_neg hc]
        rw [IntKind.wrap_u64, IntKind.wrap_u64] at hc ⊢
        refine ih (by omega) k _ _ (by omega) (by omega) (by omega) ?_ (by omega)
        omega
    · rw [if_neg hbit]
      rw [show b / 2 ^ n % 2 = 0 by omega, Int.mul_zero] at hm
      rw [IntKind.wrap_u64]
      refine ih (by omega) k _ _ (by omega) (by omega) (by omega) ?_ (by omega)
      omega
theorem product_law (k : Nat) (hk : 64 < k) (a b : Int) (ha : 0 ≤ a) (ha' : a ≤ 9223372036854775807) (hb : 0 ≤ b) (hb' : b ≤ 9223372036854775807) :
    epactref02_product.f k a b = some (a * b / 18446744073709551616, a * b % 18446744073709551616) := by
  unfold epactref02_product.f
  refine product_loop a b ha ha' hb hb' 64 (by omega) k 0 0 (by omega) (by omega) (by omega) ?_ hk
  rw [Int.ediv_eq_zero_of_lt hb (by omega)]; simp
theorem divide_loop (P c : Int) (hc : 1 ≤ c) (hc' : c ≤ 9223372036854775807) (n : Nat) : n ≤ 128 →
    ∀ (k : Nat) (q r M hi lo : Int), 0 ≤ q → q < 9223372036854775808 → 0 ≤ r → r < c → 0 ≤ M → M < 2 ^ n → P = (q * c + r) * 2 ^ n + M →
      0 ≤ lo → lo < 18446744073709551616 → 0 ≤ hi → hi < 18446744073709551616 → hi * 18446744073709551616 + lo = M * 2 ^ (128 - n) → n < k →
    epactref02_MulDiv.l0 k c q r ((n : Int) - 1) hi lo = some (if P / c ≤ 9223372036854775807 then (P / c, P % c, true) else (0, 0, false)) := by
  induction n with
  | zero =>
    intro _ k q r M hi lo q0 q1 r0 r1 m0 m1 e _ _ _ _ _ hk
    obtain ⟨k, rfl⟩ : ∃ m, k = m + 1 := ⟨k - 1, by omega⟩
    simp only [epactref02_MulDiv.l0]
    simp at m1 e
    have e : P = q * c + r := by omega
    have f := Int.mul_ediv_add_emod P c
    obtain ⟨a1, a2⟩ := Div64.quot_bd P c (by omega)
    have hq : P / c = q := by
      refine Int.le_antisymm ?_ (Int.le_ediv_of_mul_le (by omega) (by omega))
      have : P / c < q + 1 := Int.ediv_lt_of_lt_mul (by omega) (by rw [Int.add_mul, Int.one_mul]; omega)
      omega
    have hr : P % c = r := by rw [hq, Int.mul_comm] at f; omega
    rw [if_neg (by omega), w64' (by omega) (by omega), w64' (by omega) (by omega), hq, hr, if_pos (by omega)]
  | succ n ih =>
    intro hn k q r M hi lo q0 q1 r0 r1 m0 m1 e l0 l1 h0 h1 ew hk
    obtain ⟨k, rfl⟩ : ∃ m, k = m + 1 := ⟨k - 1, by omega⟩
    have pt : (0 : Int) < 2 ^ n := Int.pow_pos (by omega)
    have ps : (0 : Int) < 2 ^ (128 - (n + 1)) := Int.pow_pos (by omega)
    have ts : (2 : Int) ^ n * 2 ^ (128 - (n + 1)) = 170141183460469231731687303715884105728 := by
      rw [← Int.pow_add, show n + (128 - (n + 1)) = 127 by omega]
      rfl
    have s2 : (2 : Int) ^ (128 - n) = 2 * 2 ^ (128 - (n + 1)) := by
      rw [show 128 - n = (128 - (n + 1)) + 1 by omega, Int.pow_succ]; omega
    rw [Int.pow_succ] at m1 e
    have ih := ih (by omega) k
    rw [s2] at ih
    generalize (2 : Int) ^ n = t at *
    generalize (2 : Int) ^ (128 - (n + 1)) = s at *
    have qc : 0 ≤ q * c := Int.mul_nonneg q0 (by omega)
    -- the first bit of what is left
    have hbit : ∃ B : Int, hi / 9223372036854775808 = B ∧ 0 ≤ B ∧ B ≤ 1 ∧ 0 ≤ M - B * t ∧ M - B * t < t ∧ (M - B * t) * s = M * s - B * 170141183460469231731687303715884105728 := by
      by_cases hM : t ≤ M
      · have := Int.mul_le_mul_of_nonneg_right hM (show 0 ≤ s by omega)
        refine ⟨1, by omega, by omega, by omega, by omega, by omega, ?_⟩
        rw [Int.one_mul, Int.one_mul, Int.sub_mul, ts]
      · have h3 := Int.mul_le_mul_of_nonneg_right (show M ≤ t - 1 by omega) (show 0 ≤ s by omega)
        rw [Int.sub_mul, Int.one_mul, ts] at h3
        refine ⟨0, by omega, by omega, by omega, by omega, by omega, ?_⟩
        rw [Int.zero_mul, Int.zero_mul, Int.sub_zero, Int.sub_zero]
    obtain ⟨B, hB, b0, b1, M0, M1, eM⟩ := hbit
    have eP : P = (2 * (q * c) + 2 * r + B) * t + (M - B * t) := by
      have x1 : (q * c + r) * (t * 2) = 2 * ((q * c + r) * t) := by rw [← Int.mul_assoc, Int.mul_comm]
      have x2 : (2 * (q * c) + 2 * r + B) * t = 2 * ((q * c + r) * t) + B * t := by rw [show 2 * (q * c) + 2 * r + B = 2 * (q * c + r) + B by omega, Int.add_mul, Int.mul_assoc]
      omega
    simp only [epactref02_MulDiv.l0]
    rw [show ((n + 1 : Nat) : Int) - 1 = (n : Int) by omega, if_pos (by omega), hB, or_bit r B r0 (by omega) b0 (by omega), uw (n := c) (by omega) (by omega)]
    rw [w64' (n := (n : Int) - 1) (by omega) (by omega)]
    have hor : Go.bits .or .u64 (IntKind.u64.wrap (hi * 2)) (lo / 9223372036854775808) = hi * 2 % 18446744073709551616 + lo / 9223372036854775808 := by
      rw [IntKind.wrap_u64]
      exact bits_join .u64 64 (by decide) (fun n a b => uw a (by omega)) 1 _ _ (by omega) (by omega) (by omega) (by omega) (by omega) (by omega)
    rw [hor, IntKind.wrap_u64 (lo * 2)]
    have exit : ¬ q / 4611686018427387904 = 0 → (some (0, 0, false) : Option (Int × Int × Bool)) = some (if P / c ≤ 9223372036854775807 then (P / c, P % c, true) else (0, 0, false)) := by
      intro hq
      rw [if_neg]
      have h2 : 2 * (q * c) ≤ P := by
        have : (2 * (q * c)) * 1 ≤ (2 * (q * c) + 2 * r + B) * t := Int.mul_le_mul (by omega) (by omega) (by omega) (by omega)
        omega
      have : 2 * q ≤ P / c := Int.le_ediv_of_mul_le (by omega) (by rw [Int.mul_assoc]; exact h2)
      omega
    by_cases hr : r * 2 + B ≥ c
    · rw [if_pos hr]
      by_cases hq : q / 4611686018427387904 = 0
      · rw [if_pos hq, or_bit q 1 q0 (by omega) (by omega) (by omega), uw (by omega) (by omega)]
        refine ih (q * 2 + 1) (r * 2 + B - c) (M - B * t) _ _ (by omega) (by omega) (by omega) (by omega) M0 M1 ?_ (by omega) (by omega) (by omega) (by omega) ?_ (by omega)
        · rw [eP]; congr 2
          rw [Int.add_mul, Int.one_mul, Int.mul_comm q 2, Int.mul_assoc]; omega
        · rw [← Int.mul_assoc, Int.mul_comm (M - B * t) 2, Int.mul_assoc, eM]; omega
      · rw [if_neg hq]; exact exit hq
    · rw [if_neg hr]
      by_cases hq : q / 4611686018427387904 = 0
      · rw [if_pos hq, or_bit q 0 q0 (by omega) (by omega) (by omega)]
        refine ih (q * 2 + 0) (r * 2 + B) (M - B * t) _ _ (by omega) (by omega) (by omega) (by omega) M0 M1 ?_ (by omega) (by omega) (by omega) (by omega) ?_ (by omega)
        · rw [eP]; congr 2
          rw [Int.add_zero, Int.mul_comm q 2, Int.mul_assoc]; omega
        · rw [← Int.mul_assoc, Int.mul_comm (M - B * t) 2, Int.mul_assoc, eM]; omega
      · rw [if_neg hq]; exact exit hq
theorem divide_top (P c : Int) (hc : 1 ≤ c) (hc' : c ≤ 9223372036854775807) (p0 : 0 ≤ P) (p1 : P ≤ 9223372036854775807 * 9223372036854775807) (k : Nat) (hk : 128 < k) :
    epactref02_MulDiv.l0 k c 0 0 127 (P / 18446744073709551616) (P % 18446744073709551616) = some (if P / c ≤ 9223372036854775807 then (P / c, P % c, true) else (0, 0, false)) := by
  have h128 : (2 : Int) ^ 128 = 340282366920938463463374607431768211456 := by simp
  have e127 : ((128 : Nat) : Int) - 1 = 127 := by omega
  have e0 : (2 : Int) ^ (128 - 128) = 1 := by simp
  rw [← e127]
  exact divide_loop P c hc hc' 128 (Nat.le_refl _) k 0 0 P _ _ (by omega) (by omega) (by omega) (by omega) p0 (by rw [h128]; omega) (by rw [Int.zero_mul]; omega) (by omega) (by omega) (by omega) (by omega) (by rw [e0]; omega) hk
theorem refmuldiv_law (k : Nat) (hk : 199 < k) (a b c : Int) (ha : IW a) (hb : IW b) (hc : IW c) : epactref02_MulDiv.f k a b c = some (MD a b c) := by
  obtain ⟨k, rfl⟩ : ∃ m, k = m + 1 := ⟨k - 1, by omega⟩
  unfold IW at ha hb hc
  unfold epactref02_MulDiv.f
  have hj : epactref02_MulDiv.j0 (k + 1) a b c true = some (0, 0, false) := by simp [epactref02_MulDiv.j0]
  have bad : ¬ (0 ≤ a ∧ 0 ≤ b ∧ 1 ≤ c) → MD a b c = (0, 0, false) := by
    intro h; unfold MD; rw [if_neg (fun h' => h ⟨h'.1, h'.2.1, h'.2.2.1⟩)]
  by_cases h1 : a < 0
  · rw [if_pos h1, hj, bad (by omega)]
  · rw [if_neg h1]
    by_cases h2 : b < 0
    · rw [if_pos h2, hj, bad (by omega)]
    · rw [if_neg h2]
      by_cases h3 : c < 1
      · rw [decide_eq_true h3, hj, bad (by omega)]
      · rw [decide_eq_false h3]
        clear bad hj
        simp only [epactref02_MulDiv.j0]
        rw [if_neg (by decide), uw (n := a) (by omega) (by omega), uw (n := b) (by omega) (by omega), product_law k (by omega) a b (by omega) ha.2 (by omega) hb.2]
        simp only [Option.bind_some]
        obtain ⟨p0, p1⟩ := prod_bd a b (by omega) ha.2 (by omega) hb.2
        rw [divide_top (a * b) c (by omega) hc.2 p0 p1 _ (by omega)]
        unfold MD
        by_cases h5 : a * b / c ≤ 9223372036854775807
        · rw [if_pos h5, if_pos ⟨by omega, by omega, by omega, h5⟩]
        · rw [if_neg h5, if_neg (by omega)]
theorem refup_law (k : Nat) (hk : 199 < k) (a b c : Int) (ha : IW a) (hb : IW b) (hc : IW c) : epactref02_Up.f k a b c = some (UP a b c) := by
  unfold epactref02_Up.f UP
  rw [refmuldiv_law k hk a b c ha hb hc]
  obtain ⟨k, rfl⟩ : ∃ m, k = m + 1 := ⟨k - 1, by omega⟩
  have B := MD_bd a b c hc
  generalize MD a b c = m at *
  obtain ⟨q, r, ok⟩ := m
  simp only at B
  simp only [Option.bind_some]
  cases ok with
  | false => simp [epactref02_Up.j0]
  | true =>
    by_cases hr : r > 0
    · by_cases hq : q = 9223372036854775807
      · subst hq; simp [hr, epactref02_Up.j0]
      · have : ¬ (r > 0 ∧ q = 9223372036854775807) := fun h => hq h.2
        simp [hr, hq, epactref02_Up.j0, w64' (n := q + 1) (by omega) (by omega)]
    · simp [hr, epactref02_Up.j0]
end Go.Proofs.Ythoigncoojcanaa.Pure
namespace Go.Proofs.Ythoigncoojcanaa.Pure
open Go.RowKit Go.Proofs.Ythoigncoojcanaa.PAll Go.Proofs.YthoigncoojcanaaW.PrintWords Go.Proofs.YthoigncoojcanaaW.PrintLast
set_option linter.unusedVariables false
set_option linter.unusedSimpArgs false
theorem ref_leap_law (y : Int) (h : 0 ≤ y) : epactref03_Leap.f y = some (Cal.leap y) := by
  unfold epactref03_Leap.f Cal.leap
  rw [tm h, tm h, tm h]
  by_cases h4 : y % 4 = 0
  · by_cases h100 : y % 100 = 0
    · by_cases h400 : y % 400 = 0 <;> simp [h4, h100, h400]
    · simp [h4, h100]
  · have : ¬ y % 400 = 0 := by omega
    simp [h4, this]
theorem ref_days_law (y m : Int) (h : 0 ≤ y) (h1 : 1 ≤ m) (h2 : m ≤ 12) : epactref03_days.f y m = some (Cal.mdays y m) := by
  unfold epactref03_days.f
  rw [Option.bind_some, ref_leap_law y h, w64 (by omega) (by omega)]
  have len : (([31, 28, 31, 30, 31, 30, 31, 31, 30, 31, 30, 31] : List Int).length : Int) = 12 := rfl
  rw [len, if_pos (show 0 ≤ m - 1 by omega), if_pos (show m - 1 < 12 by omega)]
  unfold Cal.mdays
  simp only [Option.bind_some]
  by_cases e : m = 2
  · subst e
    cases Cal.leap y <;> simp [rd]
  · rw [if_neg e, if_neg e]
    have hm : m = 1 ∨ m = 3 ∨ m = 4 ∨ m = 5 ∨ m = 6 ∨ m = 7 ∨ m = 8 ∨ m = 9 ∨ m = 10 ∨ m = 11 ∨ m = 12 := by omega
    rcases hm with rfl | rfl | rfl | rfl | rfl | rfl | rfl | rfl | rfl | rfl | rfl <;> simp [rd]
theorem ref_first_law (y : Int) (h1 : 1 ≤ y) (h2 : y ≤ 10000) : epactref03_first.f y = some (Cal.num y 1 1) := by
  unfold epactref03_first.f Cal.num Cal.yd
  rw [w64 (n := y - 1) (by omega) (by omega), td (show 0 ≤ y - 1 by omega), td (show 0 ≤ y - 1 by omega), td (show 0 ≤ y - 1 by omega)]
  rw [w64 (n := 365 * (y - 1)) (by omega) (by omega), w64 (n := (y - 1) / 4) (by omega) (by omega), w64 (n := (y - 1) / 100) (by omega) (by omega), w64 (n := (y - 1) / 400) (by omega) (by omega)]
  rw [w64 (n := 365 * (y - 1) + (y - 1) / 4) (by omega) (by omega), w64 (n := 365 * (y - 1) + (y - 1) / 4 - (y - 1) / 100) (by omega) (by omega), w64 (n := 365 * (y - 1) + (y - 1) / 4 - (y - 1) / 100 + (y - 1) / 400) (by omega) (by omega), w64 (by omega) (by omega)]
  rw [if_pos (by omega)]
  congr 1
  omega
theorem num_day1 (y m d : Int) : Cal.num y m d = Cal.num y m 1 + d - 1 := by unfold Cal.num; split <;> omega
theorem num_le1 (y : Int) (h1 : 1 ≤ y) (h2 : y ≤ 10000) : -719162 ≤ Cal.num y 1 1 ∧ Cal.num y 1 1 ≤ 2932897 := by
  unfold Cal.num Cal.yd; rw [if_pos (by omega)]; omega
theorem ref_month_loop (y n : Int) (h1 : 1 ≤ y) (h2 : y ≤ 9999) (hn : n < Cal.num (y + 1) 1 1) (j : Nat) : ∀ (m d : Int) (k : Nat), 1 ≤ m → m ≤ 12 → 12 - m = j → 0 ≤ d → d ≤ 400 → Cal.num y m 1 + d = n → j < k →
    ∃ m' d', epactref03_Date.l1 k y d m = some (y, m', d', true) ∧ Cal.Valid y m' d' ∧ Cal.num y m' d' = n := by
  induction j with
  | zero =>
    intro m d k m1 m2 hj d0 d4 e hk
    obtain ⟨k, rfl⟩ : ∃ q, k = q + 1 := ⟨k - 1, by omega⟩
    have hm : m = 12 := by omega
    subst hm
    have b := Cal.num_succ_year y
    rw [num_day1 y 12 31] at b
    have md := Cal.mdays_12 y
    simp only [epactref03_Date.l1]
    rw [ref_days_law y 12 (by omega) (by omega) (by omega)]
    simp only [Option.bind_some]
    rw [if_neg (by omega), w64 (by omega) (by omega)]
    refine ⟨12, d + 1, rfl, ⟨h1, h2, by omega, by omega, by omega, by omega⟩, ?_⟩
    rw [num_day1]; omega
  | succ j ih =>
    intro m d k m1 m2 hj d0 d4 e hk
    obtain ⟨k, rfl⟩ : ∃ q, k = q + 1 := ⟨k - 1, by omega⟩
    have md := Cal.mdays_bd y m
    simp only [epactref03_Date.l1]
    rw [ref_days_law y m (by omega) (by omega) (by omega)]
    simp only [Option.bind_some]
    by_cases hd : d ≥ Cal.mdays y m
    · rw [if_pos hd, w64 (by omega) (by omega), w64 (by omega) (by omega)]
      have s := Cal.num_succ_month y m m1 (by omega)
      rw [num_day1 y m (Cal.mdays y m)] at s
      exact ih (m + 1) (d - Cal.mdays y m) k (by omega) (by omega) (by omega) (by omega) (by omega) (by omega) (by omega)
    · rw [if_neg hd, w64 (by omega) (by omega)]
      refine ⟨m, d + 1, rfl, ⟨h1, h2, m1, m2, by omega, by omega⟩, ?_⟩
      rw [num_day1]; omega
theorem year_len (y : Int) : Cal.num (y + 1) 1 1 - Cal.num y 1 1 ≤ 366 ∧ 365 ≤ Cal.num (y + 1) 1 1 - Cal.num y 1 1 := by
  have := Cal.yd_step (y - 1)
  unfold Cal.num
  rw [if_pos (by omega), if_pos (by omega)]
  rw [show y - 1 + 1 = y + 1 - 1 by omega] at this
  omega
theorem ref_year_loop (n : Int) (hn : n ≤ 2932896) (j : Nat) : ∀ (y : Int) (k : Nat), 1 ≤ y → y ≤ 9999 → 9999 - y = j → Cal.num y 1 1 ≤ n → j + 13 < k →
    ∃ y' m' d', epactref03_Date.l0 k n y = some (y', m', d', true) ∧ Cal.Valid y' m' d' ∧ Cal.num y' m' d' = n := by
  induction j with
  | zero =>
    intro y k h1 h2 hj hy hk
    obtain ⟨k, rfl⟩ : ∃ q, k = q + 1 := ⟨k - 1, by omega⟩
    have e : y = 9999 := by omega
    subst e
    have b : Cal.num 10000 1 1 = 2932897 := by decide
    have yl := year_len 9999
    have nb := num_le1 9999 (by omega) (by omega)
    simp only [epactref03_Date.l0]
    rw [w64 (n := 9999 + 1) (by omega) (by omega), ref_first_law (9999 + 1) (by omega) (by omega)]
    simp only [Option.bind_some]
    rw [if_neg (by rw [show (9999 : Int) + 1 = 10000 from rfl, b]; omega), ref_first_law 9999 (by omega) (by omega)]
    simp only [Option.bind_some]
    rw [show (9999 : Int) + 1 = 10000 from rfl] at yl
    rw [w64 (by omega) (by omega)]
    obtain ⟨m', d', q1, q2, q3⟩ := ref_month_loop 9999 n (by omega) (by omega) (by rw [show (9999 : Int) + 1 = 10000 from rfl, b]; omega) 11 1 (n - Cal.num 9999 1 1) k (by omega) (by omega) (by omega) (by omega) (by omega) (by omega) (by omega)
    exact ⟨9999, m', d', q1, q2, q3⟩
  | succ j ih =>
    intro y k h1 h2 hj hy hk
    obtain ⟨k, rfl⟩ : ∃ q, k = q + 1 := ⟨k - 1, by omega⟩
    have yl := year_len y
    have nb := num_le1 y (by omega) (by omega)
    simp only [epactref03_Date.l0]
    rw [w64 (n := y + 1) (by omega) (by omega), ref_first_law (y + 1) (by omega) (by omega)]
    simp only [Option.bind_some]
    by_cases hl : Cal.num (y + 1) 1 1 ≤ n
    · rw [if_pos hl]
      exact ih (y + 1) k (by omega) (by omega) (by omega) hl (by omega)
    · rw [if_neg hl, ref_first_law y (by omega) (by omega)]
      simp only [Option.bind_some]
      rw [w64 (by omega) (by omega)]
      obtain ⟨m', d', q1, q2, q3⟩ := ref_month_loop y n (by omega) (by omega) (by omega) 11 1 (n - Cal.num y 1 1) k (by omega) (by omega) (by omega) (by omega) (by omega) (by omega) (by omega)
      exact ⟨y, m', d', q1, q2, q3⟩
theorem ref_date_law (n : Int) (k : Nat) (hk : 10100 ≤ k) : epactref03_Date.f k n = some (if -719162 ≤ n ∧ n ≤ 2932896 then (Cal.dY n, Cal.dM n, Cal.dD n, true) else (0, 0, 0, false)) := by
  obtain ⟨k, rfl⟩ : ∃ q, k = q + 1 := ⟨k - 1, by omega⟩
  unfold epactref03_Date.f
  by_cases h1 : n < -719162
  · rw [if_pos h1, if_neg (by omega)]; simp [epactref03_Date.j0]
  · rw [if_neg h1]
    by_cases h2 : n > 2932896
    · rw [decide_eq_true h2, if_neg (by omega)]; simp [epactref03_Date.j0]
    · rw [decide_eq_false h2, if_pos (by omega)]
      simp only [epactref03_Date.j0, Bool.false_eq_true, if_false]
      rw [show n - -719162 = n + 719162 by omega, w64 (n := n + 719162) (by omega) (by omega), td (show 0 ≤ n + 719162 by omega), w64 (n := (n + 719162) / 366) (by omega) (by omega), w64 (by omega) (by omega)]
      have f : Cal.num ((n + 719162) / 366 + 1) 1 1 ≤ n := by
        unfold Cal.num Cal.yd; rw [if_pos (by omega)]; omega
      obtain ⟨y, m, d, q1, q2, q3⟩ := ref_year_loop n (by omega) (9999 - ((n + 719162) / 366 + 1)).toNat ((n + 719162) / 366 + 1) k (by omega) (by omega) (by omega) f (by omega)
      obtain ⟨e1, e2, e3⟩ := Cal.date_of y m d n q2 q3
      rw [q1, e1, e2, e3]
theorem ref_end_law (n : Int) (k : Nat) (hk : 10100 ≤ k) : epactref03_End.f k n = some (Cal.isEnd n) := by
  unfold epactref03_End.f Cal.isEnd
  rw [ref_date_law n k hk]
  simp only [Option.bind_some]
  by_cases h : -719162 ≤ n ∧ n ≤ 2932896
  · rw [if_pos h, decide_eq_true h]
    have v := (Cal.date_law n h.1 h.2).1
    simp only [if_true]
    rw [ref_days_law _ _ (by have := v.1; omega) v.2.2.1 v.2.2.2.1]
    rfl
  · rw [if_neg h, decide_eq_false h]; rfl
end Go.Proofs.Ythoigncoojcanaa.Pure
namespace Go.Proofs.Ythoigncoojcanaa.Pure
open Go.RowKit Go.Proofs.Ythoigncoojcanaa.PAll Go.Proofs.YthoigncoojcanaaW.PrintWords Go.Proofs.YthoigncoojcanaaW.PrintLast
set_option linter.unusedVariables false
set_option linter.unusedSimpArgs false
theorem ref_wrong_law (l : List S49) (has : Bool) (exp : Int) (hl : l.length ≤ 9223372036854775806) (i : Nat) (hi : i < l.length) (x : S49) (hx : rd_T49 l (i : Int) = x) (a : Int) (ha : if i = 0 then a = 729 else (rd_T49 l ((i - 1 : Nat) : Int)).f0 = a) (k : Nat) (hk : 10200 < k) :
    epactref09_wrong.f k l has exp (i : Int) = some (LeapP.wrong i a (toL x)) := by
  obtain ⟨k, rfl⟩ : ∃ m, k = m + 3 := ⟨k - 3, by omega⟩
  unfold epactref09_wrong.f LeapP.wrong toL
  rw [if_pos (by omega), if_pos (by omega), hx]
  simp only
  by_cases h1 : (i : Int) ≥ 200
  · rw [if_pos h1, if_pos h1]
  · rw [if_neg h1, if_neg h1]
    have hj : ∀ b c d, epactref09_wrong.j0 (k + 3) (i : Int) true l has exp b c d = some 9 := by intros; simp [epactref09_wrong.j0]
    by_cases h2 : x.f0 < 730
    · rw [if_pos h2, hj, if_pos (.inl h2)]
    · rw [if_neg h2]
      by_cases h3 : x.f0 ≥ 2932896
      · rw [decide_eq_true h3, hj, if_pos (.inr h3)]
      · rw [decide_eq_false h3, if_neg (show ¬ (x.f0 < 730 ∨ x.f0 ≥ 2932896) by omega)]
        simp only [epactref09_wrong.j0, Bool.false_eq_true, if_false]
        rw [ref_end_law _ _ (by omega)]
        simp only [Option.bind_some]
        have last : ∀ t, epactref09_wrong.j1 (k + 2) (i : Int) t l has exp x.f0 x.f1 x.f2 = some (if t = true then 6 else if x.f0 ≤ a then 4 else 0) := by
          intro t
          cases t with
          | true => simp [epactref09_wrong.j1]
          | false =>
            simp only [epactref09_wrong.j1, Bool.false_eq_true, if_false]
            by_cases h0 : i = 0
            · rw [if_pos h0] at ha
              rw [if_neg (by omega), if_neg (by omega)]
            · rw [if_neg h0] at ha
              rw [if_pos (by omega), w64 (by omega) (by omega), if_pos (by omega), if_pos (by omega), show ((i : Int) - 1) = ((i - 1 : Nat) : Int) by omega, ha]
              split <;> rfl
        cases he : Cal.isEnd x.f0 with
        | false => simp
        | true =>
          simp only [if_true]
          rw [if_neg (show ¬ (true = false) by simp)]
          by_cases h4 : x.f1 = 1
          · rw [if_pos h4, if_neg (by omega), last]; simp
          · rw [if_neg h4]
            by_cases h5 : x.f1 = -1
            · have : (x.f1 != -1) = false := by simp [h5]
              rw [this, if_neg (by omega), last]; simp
            · have : (x.f1 != -1) = true := by simp [h5]
              rw [this, if_pos ⟨h4, h5⟩, last]; simp
theorem ref_check_loop (l : List S49) (has : Bool) (exp : Int) (hl : l.length ≤ 9223372036854775806) (rest : List S49) : ∀ (pre : List S49) (a least : Int) (k : Nat), l = pre ++ rest → 729 ≤ a → a < 2932896 → least = max ((a + 1) * 86400) 63072000 →
    (if pre.length = 0 then a = 729 else (rd_T49 l ((pre.length - 1 : Nat) : Int)).f0 = a) → rest.length + 10202 < k →
    epactref09_Check.l0 k least (pre.length : Int) l has exp = some (let c := LeapP.chk (rest.map toL) pre.length a; if c.2.1 = 0 then (if LeapP.badEnd c.2.2 has exp then ((l.length : Int), 9) else ((l.length : Int), 0)) else (c.1, c.2.1)) := by
  induction rest with
  | nil =>
    intro pre a least k e a0 a1 hle _ hk
    obtain ⟨k, rfl⟩ : ∃ m, k = m + 1 := ⟨k - 1, by omega⟩
    have : l.length = pre.length := by rw [e]; simp
    simp only [epactref09_Check.l0, List.map_nil, LeapP.chk]
    rw [if_neg (by omega)]
    simp only [if_true]
    unfold LeapP.badEnd
    cases has with
    | true =>
      simp only [if_true]
      rw [← hle]
      by_cases h1 : exp < least
      · rw [if_pos h1, if_pos (.inl h1)]
      · rw [if_neg h1]
        by_cases h2 : exp > 253402300799
        · rw [if_pos h2, if_pos (.inr h2)]
        · rw [if_neg h2, if_neg (by omega)]
    | false =>
      simp only [Bool.false_eq_true, if_false]
      by_cases h1 : exp = 0
      · rw [if_pos h1, if_neg (by omega)]
      · rw [if_neg h1, if_pos h1]
  | cons x rest ih =>
    intro pre a least k e a0 a1 hle ha hk
    simp only [List.length_cons] at hk
    obtain ⟨k, rfl⟩ : ∃ m, k = m + 1 := ⟨k - 1, by omega⟩
    have hlen : l.length = pre.length + (rest.length + 1) := by rw [e]; simp
    have hr : rd_T49 l (pre.length : Int) = x := by rw [e]; exact rd_at pre rest x
    simp only [epactref09_Check.l0]
    rw [if_pos (by omega), ref_wrong_law l has exp hl pre.length (by omega) x hr a ha k (by omega)]
    simp only [Option.bind_some, List.map_cons, LeapP.chk]
    by_cases hw : LeapP.wrong (pre.length : Int) a (toL x) = 0
    · rw [if_pos hw, if_pos hw, if_pos (by omega), hr]
      obtain ⟨_, h2, h3, _⟩ := (LeapP.wrong_zero _ _ _).1 hw
      have hx : (toL x).day = x.f0 := rfl
      rw [hx] at h2 h3
      rw [w64 (n := x.f0 + 1) (by omega) (by omega), w64 (n := 86400 * (x.f0 + 1)) (by omega) (by omega), w64 (by omega) (by omega)]
      have := ih (pre ++ [x]) x.f0 (86400 * (x.f0 + 1)) k (by rw [e]; simp) (by omega) (by omega) (by omega) (by rw [if_neg (by simp), List.length_append]; simp only [List.length_cons, List.length_nil]; rw [show pre.length + (0 + 1) - 1 = pre.length by omega, hr]) (by omega)
      simp only [List.length_append, List.length_cons, List.length_nil] at this
      rw [show ((pre.length : Int) + 1) = ((pre.length + (0 + 1) : Nat) : Int) by omega, this]
      rw [show ((pre.length + (0 + 1) : Nat) : Int) = (pre.length : Int) + 1 by omega]
      rfl
    · rw [if_neg hw, if_neg hw]
      simp only
      rw [if_neg hw]
theorem ref_check_law (l : List S49) (has : Bool) (exp : Int) (hl : l.length ≤ 9223372036854775806) (k : Nat) (hk : l.length + 10202 < k) : epactref09_Check.f k l has exp = some (LeapP.check (l.map toL) has exp) := by
  unfold epactref09_Check.f LeapP.check
  have := ref_check_loop l has exp hl l [] 729 63072000 k rfl (by omega) (by omega) (by omega) (by simp) hk
  simp only [List.length_nil, Int.natCast_zero] at this
  rw [this]
  simp
theorem ref_right_law (l : List S49) (has : Bool) (exp : Int) (hl : l.length ≤ 9223372036854775806) (k : Nat) (hk : l.length + 10202 < k) : epactref09_Right.f k l has exp = some ((LeapP.check (l.map toL) has exp).2 == 0) := by
  unfold epactref09_Right.f
  rw [ref_check_law l has exp hl k hk]; rfl
end Go.Proofs.Ythoigncoojcanaa.Pure
namespace Go.Proofs.Ythoigncoojcanaa.Pure
open Go.RowKit Go.Proofs.Ythoigncoojcanaa.PAll Go.Proofs.YthoigncoojcanaaW.PrintWords Go.Proofs.YthoigncoojcanaaW.PrintLast
set_option linter.unusedVariables false
set_option linter.unusedSimpArgs false
theorem ahead_law (l : List S53) (i : Nat) (hi : i < l.length + 1) (hl : l.length ≤ 9223372036854775806) : epactref12_ahead.f l (i : Int) = some (if i = 0 then 0 else (rd_T53 l ((i - 1 : Nat) : Int)).f1) := by
  unfold epactref12_ahead.f
  by_cases h : i = 0
  · rw [if_pos (by omega), if_pos h]
  · rw [if_neg (by omega), if_neg h, w64 (by omega) (by omega), if_pos (by omega), if_pos (by omega), show ((i : Int) - 1) = ((i - 1 : Nat) : Int) by omega]
theorem ref_sub_law (a b : Int) (ha : I64 a) (hb : I64 b) : epactref01_Sub.f a b = some (if -9223372036854775808 ≤ a - b ∧ a - b ≤ 9223372036854775807 then (a - b, true) else (0, false)) := by
  unfold I64 at *
  unfold epactref01_Sub.f
  by_cases h1 : b < 0
  · rw [if_pos h1, w64 (n := 9223372036854775807 + b) (by omega) (by omega), if_neg (show ¬ b > 0 by omega)]
    by_cases h2 : a > 9223372036854775807 + b
    · rw [if_pos h2, if_neg (by omega)]
    · rw [if_neg h2, if_pos (by omega), w64 (by omega) (by omega)]
  · rw [if_neg h1]
    by_cases h3 : b > 0
    · rw [if_pos h3, w64 (n := -9223372036854775808 + b) (by omega) (by omega)]
      by_cases h2 : a < -9223372036854775808 + b
      · rw [if_pos h2, if_neg (by omega)]
      · rw [if_neg h2, if_pos (by omega), w64 (by omega) (by omega)]
    · rw [if_neg h3, if_pos (by omega), w64 (by omega) (by omega)]
theorem ref_rcheck_round (l : List S53) (i : Nat) (hi : i < l.length) (hl : l.length ≤ 9223372036854775806) (a b : Int) (k : Nat) (hb : I64 b)
    (ha : (i : Int) > 0 → 0 ≤ a ∧ I64 a) (c : S53) (hc : rd_T53 l (i : Int) = c) (hw : I64 c.f0 ∧ I64 c.f1) (last : Bool) (hlast : ((i : Int) == wrap64 ((l.length : Int) - 1)) = last)
    (hpb : (if i = 0 then 0 else (rd_T53 l ((i - 1 : Nat) : Int)).f1) = b) (hpa : (i : Int) > 0 → (rd_T53 l ((i - 1 : Nat) : Int)).f0 = a) :
    epactref12_Check.l0 (k + 3) l (i : Int) = if RecP.wr i ⟨a, b⟩ (toR c) last = 0 then epactref12_Check.l0 k l ((i : Int) + 1) else some ((i : Int), RecP.wr i ⟨a, b⟩ (toR c) last) := by
  have e0 : (toR c).at_ = c.f0 := rfl
  have e1 : (toR c).corr = c.f1 := rfl
  generalize hN : epactref12_Check.l0 k l ((i : Int) + 1) = N
  unfold I64 at hw hb ha
  have h2 : 0 ≤ c.f0 → ∀ (same bad : Bool), epactref12_Check.j2 (k + 1) l (i : Int) same bad = if bad = true then some ((i : Int), 6) else if (i : Int) > 0 ∧ (if same = true then c.f0 < a else c.f0 - a < 2419199) then some ((i : Int), 7) else N := by
    intro h0 same bad
    cases bad with
    | true => simp [epactref12_Check.j2]
    | false =>
      simp only [epactref12_Check.j2, Bool.false_eq_true, if_false]
      rw [w64 (n := (i : Int) + 1) (by omega) (by omega), hN]
      by_cases h1 : (i : Int) > 0
      · have := ha h1
        have pa := hpa h1
        rw [if_pos h1, w64 (n := (i : Int) - 1) (by omega) (by omega)]
        simp only [if_pos (show 0 ≤ (i : Int) by omega), if_pos (show (i : Int) < (l.length : Int) by omega), if_pos (show 0 ≤ (i : Int) - 1 by omega), if_pos (show (i : Int) - 1 < (l.length : Int) by omega)]
        rw [show ((i : Int) - 1) = ((i - 1 : Nat) : Int) by omega, hc, pa, w64 (n := c.f0 - a) (by omega) (by omega)]
        cases same with
        | true =>
          simp only [if_true]
          by_cases q : c.f0 < a
          · rw [if_pos q, if_pos ⟨h1, q⟩]
          · rw [if_neg q, if_neg (fun h => q h.2)]
        | false =>
          simp only [Bool.false_eq_true, if_false]
          by_cases q : c.f0 - a < 2419199
          · rw [if_pos q, if_pos ⟨h1, q⟩]
          · rw [if_neg q, if_neg (by omega), if_neg (fun h => q h.2)]
      · rw [if_neg h1, if_neg (fun h => h1 h.1)]
  have h1 : ∀ (same one : Bool), epactref12_Check.j1 (k + 2) l (i : Int) last same one = if (i : Int) > 200 then some ((i : Int), 8) else if c.f0 < 0 then some ((i : Int), 9) else if one = false ∧ ¬ (last = true ∧ same = true) then some ((i : Int), 6) else if (i : Int) > 0 ∧ (if same = true then c.f0 < a else c.f0 - a < 2419199) then some ((i : Int), 7) else N := by
    intro same one
    simp only [epactref12_Check.j1]
    by_cases q1 : (i : Int) > 200
    · rw [if_pos q1, if_pos q1]
    · rw [if_neg q1, if_neg q1, if_pos (by omega), if_pos (by omega), hc]
      by_cases q2 : c.f0 < 0
      · rw [if_pos q2, if_pos q2]
      · rw [if_neg q2, if_neg q2]
        have h2 := h2 (by omega)
        cases one with
        | true => rw [if_pos rfl, h2]; simp
        | false =>
          cases last with
          | true => rw [if_neg (by simp), if_pos rfl, h2]; cases same <;> simp
          | false => rw [if_neg (by simp), if_neg (by simp), h2]; simp
  simp only [epactref12_Check.l0]
  rw [if_pos (by omega), if_pos (by omega), ahead_law l i (by omega) hl, hpb]
  simp only [Option.bind_some]
  rw [hc, ref_sub_law _ _ hw.2 hb, hlast]
  simp only [Option.bind_some]
  unfold RecP.wr
  rw [e0, e1]
  simp only
  have key : ∀ one : Bool, (one = true ↔ (c.f1 - b = 1 ∨ c.f1 - b = -1)) → epactref12_Check.j1 (k + 2) l (i : Int) last (c.f1 == b) one =
      if (if (i : Int) > 200 then (8 : Int) else if c.f0 < 0 then 9 else if ¬ (last = true ∧ c.f1 = b) ∧ c.f1 - b ≠ 1 ∧ c.f1 - b ≠ -1 then 6 else if (i : Int) > 0 ∧ c.f0 - a < (if last = true ∧ c.f1 = b then 0 else 2419199) then 7 else 0) = 0 then N else some ((i : Int), if (i : Int) > 200 then (8 : Int) else if c.f0 < 0 then 9 else if ¬ (last = true ∧ c.f1 = b) ∧ c.f1 - b ≠ 1 ∧ c.f1 - b ≠ -1 then 6 else if (i : Int) > 0 ∧ c.f0 - a < (if last = true ∧ c.f1 = b then 0 else 2419199) then 7 else 0) := by
    intro one ho
    rw [h1]
    by_cases q1 : (i : Int) > 200
    · simp only [if_pos q1]; rfl
    · simp only [if_neg q1]
      by_cases q2 : c.f0 < 0
      · simp only [if_pos q2]; rfl
      · simp only [if_neg q2]
        by_cases q3 : last = true ∧ c.f1 = b
        · have s : (c.f1 == b) = true := by simp [q3.2]
          rw [s, if_neg (by simp [q3.1])]
          simp only [if_pos q3, if_true, if_neg (show ¬ (¬ (last = true ∧ c.f1 = b) ∧ c.f1 - b ≠ 1 ∧ c.f1 - b ≠ -1) from fun h => h.1 q3)]
          by_cases q4 : (i : Int) > 0 ∧ c.f0 < a
          · rw [if_pos q4]; simp only [if_pos (show (i : Int) > 0 ∧ c.f0 - a < 0 by omega)]; rfl
          · rw [if_neg q4]; simp only [if_neg (show ¬ ((i : Int) > 0 ∧ c.f0 - a < 0) by omega)]; rfl
        · have q3' : ¬ (last = true ∧ (c.f1 == b) = true) := by rw [beq_iff_eq]; exact q3
          simp only [if_neg q3]
          cases one with
          | true =>
            have o := ho.1 rfl
            have s : (c.f1 == b) = false := by rw [beq_eq_false_iff_ne]; omega
            rw [if_neg (by simp), s]
            simp only [Bool.false_eq_true, if_false, if_neg (show ¬ (¬ (last = true ∧ c.f1 = b) ∧ c.f1 - b ≠ 1 ∧ c.f1 - b ≠ -1) from fun h => by omega)]
            by_cases q4 : (i : Int) > 0 ∧ c.f0 - a < 2419199
            · simp only [if_pos q4]; rfl
            · simp only [if_neg q4]; rfl
          | false =>
            have o : ¬ (c.f1 - b = 1 ∨ c.f1 - b = -1) := fun h => by have := ho.2 h; simp at this
            rw [if_pos ⟨rfl, q3'⟩]
            simp only [if_pos (show ¬ (last = true ∧ c.f1 = b) ∧ c.f1 - b ≠ 1 ∧ c.f1 - b ≠ -1 from ⟨q3, by omega, by omega⟩)]; rfl
  by_cases hs : -9223372036854775808 ≤ c.f1 - b ∧ c.f1 - b ≤ 9223372036854775807
  · rw [if_pos hs]
    simp only [if_true]
    by_cases h3 : c.f1 - b = 1
    · rw [if_pos h3]; exact key true (by simp [h3])
    · rw [if_neg h3]
      refine key _ ?_
      rw [beq_iff_eq]; omega
  · rw [if_neg hs]
    simp only [Bool.false_eq_true, if_false]
    exact key false (by constructor; · intro h; exact absurd h (by simp)
                        · intro h; omega)
theorem ref_rcheck_loop (l : List S53) (hl : l.length ≤ 9223372036854775806) (hw : WR l) (rest : List S53) : ∀ (pre : List S53) (a b : Int) (k : Nat), l = pre ++ rest → I64 b → ((pre.length : Int) > 0 → 0 ≤ a ∧ I64 a) →
    (if pre.length = 0 then 0 else (rd_T53 l ((pre.length - 1 : Nat) : Int)).f1) = b → ((pre.length : Int) > 0 → (rd_T53 l ((pre.length - 1 : Nat) : Int)).f0 = a) → 3 * rest.length < k →
    epactref12_Check.l0 k l (pre.length : Int) = some (let r := RecP.chk (rest.map toR) pre.length ⟨a, b⟩; r) := by
  induction rest with
  | nil =>
    intro pre a b k e _ _ _ _ hk
    obtain ⟨k, rfl⟩ : ∃ m, k = m + 1 := ⟨k - 1, by omega⟩
    have : l.length = pre.length := by rw [e]; simp
    simp only [epactref12_Check.l0, List.map_nil, RecP.chk]
    rw [if_neg (by omega), this]
  | cons x rest ih =>
    intro pre a b k e hb ha hpb hpa hk
    simp only [List.length_cons] at hk
    obtain ⟨k, rfl⟩ : ∃ m, k = m + 3 := ⟨k - 3, by omega⟩
    have hlen : l.length = pre.length + (rest.length + 1) := by rw [e]; simp
    have hr : rd_T53 l (pre.length : Int) = x := by rw [e]; exact rdr_at pre rest x
    have hx := hw x (by rw [e]; simp)
    rw [ref_rcheck_round l pre.length (by omega) hl a b k hb ha x hr hx rest.isEmpty (isEmpty_last rest _ _ hlen (by omega)) hpb hpa]
    simp only [List.map_cons, RecP.chk]
    have em : (rest.map toR).isEmpty = rest.isEmpty := by cases rest <;> rfl
    rw [em]
    by_cases w : RecP.wr pre.length ⟨a, b⟩ (toR x) rest.isEmpty = 0
    · rw [if_pos w, if_pos w]
      have w' := (RecP.wr_zero _ _ _ _).1 w
      have h0 : (toR x).at_ = x.f0 := rfl
      have hp : rd_T53 l (((pre ++ [x]).length - 1 : Nat) : Int) = x := by
        rw [show (pre ++ [x]).length - 1 = pre.length by simp]; exact hr
      have := ih (pre ++ [x]) x.f0 x.f1 k (by rw [e]; simp) hx.2 (fun _ => ⟨by rw [← h0]; exact w'.2.1, hx.1⟩) (by rw [if_neg (by simp), hp]) (fun _ => by rw [hp]) (by omega)
      simp only [List.length_append, List.length_cons, List.length_nil] at this
      rw [show ((pre.length : Int) + 1) = ((pre.length + (0 + 1) : Nat) : Int) by omega, this]
      rw [show ((pre.length + (0 + 1) : Nat) : Int) = (pre.length : Int) + 1 by omega]
      rfl
    · rw [if_neg w, if_neg w]
theorem ref_rcheck_law (l : List S53) (hl : l.length ≤ 9223372036854775806) (hw : WR l) (k : Nat) (hk : 3 * l.length < k) : epactref12_Check.f k l = some (RecP.check (l.map toR)) := by
  unfold epactref12_Check.f RecP.check
  have := ref_rcheck_loop l hl hw l [] (-2419199) 0 k rfl (by unfold I64; omega) (by simp) (by simp) (by simp) hk
  simp only [List.length_nil, Int.natCast_zero] at this
  rw [this]; rfl
theorem ref_rright_law (l : List S53) (hl : l.length ≤ 9223372036854775806) (hw : WR l) (k : Nat) (hk : 3 * l.length < k) : epactref12_Right.f k l = some ((RecP.check (l.map toR)).2 == 0) := by
  unfold epactref12_Right.f
  rw [ref_rcheck_law l hl hw k hk]; rfl
theorem ref_leaps_law (l : List S53) (hl : l.length ≤ 9223372036854775806) : epactref12_leaps.f l = some ((lv l).length : Int) := by
  unfold epactref12_leaps.f
  by_cases h0 : (l.length : Int) > 0
  · rw [if_pos h0, w64 (by omega) (by omega), if_pos (by omega), if_pos (by omega), show ((l.length : Int) - 1) = ((l.length - 1 : Nat) : Int) by omega, ahead_law l (l.length - 1) (by omega) hl]
    simp only [Option.bind_some]
    have I := lp_idx (l.map toR) 0 (by rw [List.length_map]; omega)
    simp only [List.length_map] at I
    rw [rdr_map, rdr_map] at I
    have e1 : ∀ x : S53, (toR x).corr = x.f1 := fun _ => rfl
    rw [e1, e1] at I
    rw [lv_len]
    have pe : (if l.length - 1 = 0 then 0 else (rd_T53 l ((l.length - 1 - 1 : Nat) : Int)).f1) = (if l.length = 1 then 0 else (rd_T53 l ((l.length - 2 : Nat) : Int)).f1) := by
      by_cases q : l.length = 1
      · rw [if_pos (by omega), if_pos q]
      · rw [if_neg (by omega), if_neg q, show l.length - 1 - 1 = l.length - 2 by omega]
    rw [pe]
    by_cases hq : (rd_T53 l ((l.length - 1 : Nat) : Int)).f1 = (if l.length = 1 then 0 else (rd_T53 l ((l.length - 2 : Nat) : Int)).f1)
    · rw [if_pos hq, (I.1 hq).1]
    · rw [if_neg hq, (I.2 hq).1]
  · rw [if_neg h0]
    have := lv_le l
    have : (lv l).length = l.length := by omega
    rw [this]
theorem ref_rexpiry_law (l : List S53) (hl : l.length ≤ 9223372036854775806) : epactref12_Expiry.f l = some (exOf (RecP.ex 0 (l.map toR))) := by
  unfold epactref12_Expiry.f
  rw [ref_leaps_law l hl]
  simp only [Option.bind_some]
  cases h : RecP.ex 0 (l.map toR) with
  | some e =>
    obtain ⟨h1, h2, _⟩ := ex_at l e h
    rw [if_neg (by omega), if_pos (by omega), if_pos (by omega), h2]; rfl
  | none => rw [ex_no l h, if_pos rfl]; rfl
theorem ref_div_law (a b : Int) (ha : I64 a) (hb : I64 b) (h : 1 ≤ b) : epactref01_Div.f a b = some (a / b, a % b, true) := by
  have := div_law a b ha hb h
  unfold num_Div.f at this
  unfold epactref01_Div.f
  exact this
theorem ref_table_loop (l : List S53) (hl : l.length ≤ 400) (rest : List S53) : ∀ (pre : List S53) (acc : List LeapP.L) (b : RecP.R) (k : Nat), lv l = pre ++ rest → acc.length = pre.length → RecP.G b (rest.map toR) → -400 ≤ b.corr - rest.length → b.corr + rest.length ≤ 400 → rest.length + 10610 < k →
    epactref12_Table.l0 k l ((lv l).length : Int) b.corr (pre.length : Int) (acc.map frL) false 0 =
      some (match RecP.unr b.corr (rest.map toR) with
        | none => ([], false, 0, false)
        | some ys => tabOut (if (LeapP.check (acc ++ ys) (RecP.ex 0 (l.map toR)).isSome (RecP.expOf (RecP.ex 0 (l.map toR)) (RecP.lastR b (rest.map toR)).corr)).2 = 0 then some (acc ++ ys, (RecP.ex 0 (l.map toR)).isSome, RecP.expOf (RecP.ex 0 (l.map toR)) (RecP.lastR b (rest.map toR)).corr) else none)) := by
  have le := lv_le l
  induction rest with
  | nil =>
    intro pre acc b k e ha g b1 b2 hk
    obtain ⟨k, rfl⟩ : ∃ m, k = m + 1 := ⟨k - 1, by omega⟩
    have e' : (lv l).length = pre.length := by rw [e]; simp
    simp only [epactref12_Table.l0, List.map_nil, RecP.unr, RecP.lastR, List.append_nil]
    rw [if_neg (by omega)]
    cases hex : RecP.ex 0 (l.map toR) with
    | some x =>
      obtain ⟨h1, h2, _⟩ := ex_at l x hex
      rw [if_pos (by omega), if_pos (by omega), h2]
      rw [ref_right_law _ _ _ (by rw [List.length_map]; omega) k (by rw [List.length_map]; simp only [List.length_nil] at hk; omega), toL_frL]
      simp only [Option.bind_some]
      by_cases hc : (LeapP.check acc true (wrap64 (x - b.corr))).2 = 0
      · rw [if_pos (by simp [hc]), if_pos (show (LeapP.check acc (some x).isSome (RecP.expOf (some x) b.corr)).2 = 0 from hc)]; rfl
      · rw [if_neg (by simp [hc]), if_neg (show ¬ (LeapP.check acc (some x).isSome (RecP.expOf (some x) b.corr)).2 = 0 from hc)]; rfl
    | none =>
      have h1 := ex_no l hex
      rw [if_neg (by rw [h1]; omega)]
      rw [ref_right_law _ _ _ (by rw [List.length_map]; omega) k (by rw [List.length_map]; simp only [List.length_nil] at hk; omega), toL_frL]
      simp only [Option.bind_some]
      by_cases hc : (LeapP.check acc false 0).2 = 0
      · rw [if_pos (by simp [hc]), if_pos (show (LeapP.check acc (none : Option Int).isSome (RecP.expOf none b.corr)).2 = 0 from hc)]; rfl
      · rw [if_neg (by simp [hc]), if_neg (show ¬ (LeapP.check acc (none : Option Int).isSome (RecP.expOf none b.corr)).2 = 0 from hc)]; rfl
  | cons x rest ih =>
    intro pre acc b k e ha g b1 b2 hk
    simp only [List.length_cons] at hk b1 b2
    obtain ⟨k, rfl⟩ : ∃ m, k = m + 1 := ⟨k - 1, by omega⟩
    have hlen : (lv l).length = pre.length + (rest.length + 1) := by rw [e]; simp
    have hr : rd_T53 l (pre.length : Int) = x := by
      have h1 : rd_T53 (lv l) (pre.length : Int) = x := by rw [e]; exact rdr_at pre rest x
      rw [← h1]
      have hlt : pre.length < (lv l).length := by omega
      have hlt2 : pre.length < (RecP.lp 0 (l.map toR)).length := by rw [← lv_len]; exact hlt
      unfold rd_T53 lv
      rw [Int.toNat_natCast]
      simp [List.getD, List.getElem?_take, hlt2]
    obtain ⟨g1, g2, g3, g4⟩ := g
    have d0 : (toR x).at_ = x.f0 := rfl
    have d1 : (toR x).corr = x.f1 := rfl
    rw [d1] at g2
    simp only [epactref12_Table.l0]
    rw [if_pos (by omega), if_pos (by omega), if_pos (by omega), hr, w64 (n := x.f1 - b.corr) (by omega) (by omega)]
    simp only [List.map_cons, RecP.unr, RecP.lastR]
    rw [d0, d1]
    have wa : wrap64 (wrap64 (x.f0 - b.corr) + 1) = wrap64 (x.f0 - b.corr + 1) := by unfold wrap64; omega
    have body : ∀ q : Int, q = wrap64 (x.f0 - b.corr - min (x.f1 - b.corr) 0) → ((epactref01_Div.f q 86400).bind fun bt => if bt.2.1 = 0 then if (acc.map frL).length < 5864062014805 then epactref12_Table.l0 k l ((lv l).length : Int) x.f1 (wrap64 ((pre.length : Int) + 1)) (acc.map frL ++ [(⟨wrap64 (bt.1 - 1), x.f1 - b.corr, false⟩ : S49)]) false 0 else none else some ([], false, 0, false)) =
        some (match (if wrap64 (x.f0 - b.corr - min (x.f1 - b.corr) 0) % 86400 = 0 then (RecP.unr x.f1 (rest.map toR)).map (fun y => (⟨wrap64 (x.f0 - b.corr - min (x.f1 - b.corr) 0) / 86400 - 1, x.f1 - b.corr, false⟩ : LeapP.L) :: y) else none) with
        | none => ([], false, 0, false)
        | some ys => tabOut (if (LeapP.check (acc ++ ys) (RecP.ex 0 (l.map toR)).isSome (RecP.expOf (RecP.ex 0 (l.map toR)) (RecP.lastR (toR x) (rest.map toR)).corr)).2 = 0 then some (acc ++ ys, (RecP.ex 0 (l.map toR)).isSome, RecP.expOf (RecP.ex 0 (l.map toR)) (RecP.lastR (toR x) (rest.map toR)).corr) else none)) := by
      intro q hq
      have wb := wrap_bd (x.f0 - b.corr - min (x.f1 - b.corr) 0)
      rw [hq, ref_div_law _ _ wb (by unfold I64; omega) (by omega)]
      simp only [Option.bind_some]
      by_cases hm : wrap64 (x.f0 - b.corr - min (x.f1 - b.corr) 0) % 86400 = 0
      · unfold I64 at wb
        rw [if_pos hm, if_pos hm, if_pos (by rw [List.length_map]; omega), w64 (n := wrap64 (x.f0 - b.corr - min (x.f1 - b.corr) 0) / 86400 - 1) (by omega) (by omega), w64 (n := (pre.length : Int) + 1) (by omega) (by omega)]
        have := ih (pre ++ [x]) (acc ++ [⟨wrap64 (x.f0 - b.corr - min (x.f1 - b.corr) 0) / 86400 - 1, x.f1 - b.corr, false⟩]) (toR x) k (by rw [e]; simp) (by simp [ha]) g4 (by rw [d1]; omega) (by rw [d1]; omega) (by omega)
        rw [d1] at this
        simp only [List.map_append, List.map_cons, List.map_nil, frL, List.length_append, List.length_cons, List.length_nil] at this
        rw [show ((pre.length : Int) + 1) = ((pre.length + (0 + 1) : Nat) : Int) by omega]
        refine this.trans ?_
        cases RecP.unr x.f1 (rest.map toR) with
        | none => rfl
        | some ys => simp
      · rw [if_neg hm, if_neg hm]
    by_cases hs : x.f1 - b.corr < 0
    · rw [if_pos hs]
      refine body _ ?_
      rw [wa]; congr 1; omega
    · rw [if_neg hs]
      refine body _ ?_
      congr 1; omega
theorem ref_rtable_law (l : List S53) (h : RecP.G RecP.start (RecP.lp 0 (l.map toR))) (hn : l.length ≤ 201) (k : Nat) (hk : 10900 < k) : epactref12_Table.f k l = some (tabOut (RecP.table (l.map toR))) := by
  have le := lv_le l
  unfold epactref12_Table.f
  rw [ref_leaps_law l (by omega)]
  simp only [Option.bind_some]
  have sc : RecP.start.corr = 0 := rfl
  have := ref_table_loop l (by omega) (lv l) [] [] RecP.start k rfl rfl (by rw [lv_map]; exact h) (by rw [sc]; omega) (by rw [sc]; omega) (by omega)
  rw [sc, lv_map] at this
  simp only [List.map_nil, List.length_nil, Int.natCast_zero, List.nil_append] at this
  rw [this]
  unfold RecP.table
  cases RecP.unr 0 (RecP.lp 0 (l.map toR)) <;> rfl
end Go.Proofs.Ythoigncoojcanaa.Pure
namespace Go.Proofs.Ythoigncoojcanaa.Pure
open Go.RowKit Go.Proofs.Ythoigncoojcanaa.PAll Go.Proofs.YthoigncoojcanaaW.PrintWords Go.Proofs.YthoigncoojcanaaW.PrintLast
set_option linter.unusedVariables false
set_option linter.unusedSimpArgs false
set_option linter.unusedSectionVars false
theorem ref_step_loop9 (l : List S49) (has : Bool) (exp d : Int) (hl : l.length ≤ 300) (rest : List S49) : ∀ (pre : List S49) (k : Nat), l = pre ++ rest → rest.length < k →
    epactref09_Step.l0 k d (pre.length : Int) l has exp = some (LeapP.stp (rest.map toL) d) := by
  induction rest with
  | nil =>
    intro pre k e hk
    obtain ⟨k, rfl⟩ : ∃ m, k = m + 1 := ⟨k - 1, by omega⟩
    have : l.length = pre.length := by rw [e]; simp
    simp only [epactref09_Step.l0]
    rw [if_neg (by omega)]; rfl
  | cons x rest ih =>
    intro pre k e hk
    simp only [List.length_cons] at hk
    obtain ⟨k, rfl⟩ : ∃ m, k = m + 1 := ⟨k - 1, by omega⟩
    have hlen : l.length = pre.length + (rest.length + 1) := by rw [e]; simp
    have hr : rd_T49 l (pre.length : Int) = x := by rw [e]; exact rd_at pre rest x
    have := ih (pre ++ [x]) k (by rw [e]; simp) (by omega)
    simp only [List.length_append, List.length_cons, List.length_nil] at this
    simp only [epactref09_Step.l0, List.map_cons, LeapP.stp]
    rw [if_pos (by omega), if_pos (by omega), hr, w64 (by omega) (by omega), show ((pre.length : Int) + 1) = ((pre.length + (0 + 1) : Nat) : Int) by omega, this]
    have e0 : (toL x).day = x.f0 := rfl
    have e1 : (toL x).step = x.f1 := rfl
    rw [e0, e1]
    by_cases h : x.f0 = d
    · rw [if_pos h, if_pos h]
    · rw [if_neg h, if_neg h]
theorem ref_step9 (l : List S49) (has : Bool) (exp d : Int) (hl : l.length ≤ 300) (k : Nat) (hk : 300 < k) : epactref09_Step.f k l has exp d = some (LeapP.stp (l.map toL) d) := by
  unfold epactref09_Step.f
  have := ref_step_loop9 l has exp d hl l [] k rfl (by omega)
  simpa using this
theorem ref_length9 (l : List S49) (has : Bool) (exp d : Int) (hl : l.length ≤ 300) (G : LeapP.Good 729 (l.map toL)) (k : Nat) (hk : 300 < k) : epactref09_Length.f k l has exp d = some (86400 + LeapP.stp (l.map toL) d) := by
  unfold epactref09_Length.f
  rw [ref_step9 l has exp d hl k hk]
  have := ScaleP.stp_bd _ d G
  simp only [Option.bind_some]
  rw [w64 (by omega) (by omega)]
theorem ref_find_loop9 (l : List S49) (has : Bool) (exp d : Int) (hl : l.length ≤ 300) (rest : List S49) : ∀ (pre : List S49) (a : Int) (k : Nat), l = pre ++ rest → LeapP.Good a (rest.map toL) → rest.length < k →
    epactref09_Find.l0 k d (pre.length : Int) l has exp = some ((pre.length : Int) + (LeapP.cnt (rest.map toL) d : Nat)) := by
  induction rest with
  | nil =>
    intro pre a k e _ hk
    obtain ⟨k, rfl⟩ : ∃ m, k = m + 1 := ⟨k - 1, by omega⟩
    have : l.length = pre.length := by rw [e]; simp
    simp only [epactref09_Find.l0]
    rw [if_neg (by omega)]; simp [LeapP.cnt]
  | cons x rest ih =>
    intro pre a k e g hk
    simp only [List.length_cons] at hk
    obtain ⟨k, rfl⟩ : ∃ m, k = m + 1 := ⟨k - 1, by omega⟩
    have hlen : l.length = pre.length + (rest.length + 1) := by rw [e]; simp
    have hr : rd_T49 l (pre.length : Int) = x := by rw [e]; exact rd_at pre rest x
    have g6 := g.2.2.2.2.2
    have := ih (pre ++ [x]) (toL x).day k (by rw [e]; simp) g6 (by omega)
    simp only [List.length_append, List.length_cons, List.length_nil] at this
    simp only [epactref09_Find.l0, List.map_cons, LeapP.cnt]
    rw [if_pos (by omega), if_pos (by omega), hr, w64 (by omega) (by omega), show ((pre.length : Int) + 1) = ((pre.length + (0 + 1) : Nat) : Int) by omega, this]
    have e0 : (toL x).day = x.f0 := rfl
    by_cases h : x.f0 < d
    · rw [if_pos h, if_pos (by rw [e0]; exact h)]; congr 1; omega
    · rw [if_neg h, if_neg (by rw [e0]; exact h), (LeapP.good_above _ _ d g6 (by rw [e0]; omega)).1]; simp
theorem ref_find9 (l : List S49) (has : Bool) (exp d : Int) (hl : l.length ≤ 300) (G : LeapP.Good 729 (l.map toL)) (k : Nat) (hk : 300 < k) : epactref09_Find.f k l has exp d = some ((LeapP.cnt (l.map toL) d : Nat) : Int) := by
  unfold epactref09_Find.f
  have := ref_find_loop9 l has exp d hl l [] 729 k rfl G (by omega)
  simpa using this
theorem ref_total_loop9 (l : List S49) (has : Bool) (exp d : Int) (hl : l.length ≤ 300) (G0 : LeapP.Good 729 (l.map toL)) (rest : List S49) : ∀ (pre : List S49) (a s : Int) (k : Nat), l = pre ++ rest → LeapP.Good a (rest.map toL) → LeapP.cnt (l.map toL) d ≤ pre.length + LeapP.cnt (rest.map toL) d → (0 < LeapP.cnt (rest.map toL) d → pre.length + LeapP.cnt (rest.map toL) d ≤ LeapP.cnt (l.map toL) d) → -(pre.length : Int) ≤ s → s ≤ pre.length → rest.length + 302 < k →
    epactref09_Total.l0 k d s (pre.length : Int) l has exp = some (s + LeapP.tot (rest.map toL) d) := by
  induction rest with
  | nil =>
    intro pre a s k e _ c1 c2 b0 b1 hk
    obtain ⟨k, rfl⟩ : ∃ m, k = m + 1 := ⟨k - 1, by omega⟩
    have : l.length = pre.length := by rw [e]; simp
    have cl := LeapP.cnt_le (l.map toL) d
    rw [List.length_map] at cl
    simp only [List.length_nil] at hk
    simp only [List.map_nil, LeapP.cnt] at c1
    simp only [epactref09_Total.l0]
    rw [ref_find9 l has exp d hl G0 k (by omega)]
    simp only [Option.bind_some]
    rw [if_neg (by omega)]; simp [LeapP.tot]
  | cons x rest ih =>
    intro pre a s k e g c1 c2 b0 b1 hk
    simp only [List.length_cons] at hk
    obtain ⟨k, rfl⟩ : ∃ m, k = m + 1 := ⟨k - 1, by omega⟩
    have hlen : l.length = pre.length + (rest.length + 1) := by rw [e]; simp
    have hr : rd_T49 l (pre.length : Int) = x := by rw [e]; exact rd_at pre rest x
    obtain ⟨_, _, _, g4, _, g6⟩ := g
    have e0 : (toL x).day = x.f0 := rfl
    have e1 : (toL x).step = x.f1 := rfl
    rw [e1] at g4
    simp only [List.map_cons, LeapP.cnt, e0] at c1 c2
    simp only [epactref09_Total.l0, List.map_cons, LeapP.tot, e0, e1]
    rw [ref_find9 l has exp d hl G0 k (by omega)]
    simp only [Option.bind_some]
    by_cases h : x.f0 < d
    · simp only [if_pos h] at c1 c2 ⊢
      rw [if_pos (by omega), if_pos (by omega), if_pos (by omega), hr, w64 (by omega) (by omega), w64 (by omega) (by omega)]
      have := ih (pre ++ [x]) (toL x).day (s + x.f1) k (by rw [e]; simp) g6 (by simp; omega) (fun q => by simp; omega) (by simp; omega) (by simp; omega) (by omega)
      simp only [List.length_append, List.length_cons, List.length_nil] at this
      rw [show ((pre.length : Int) + 1) = ((pre.length + (0 + 1) : Nat) : Int) by omega, this]
      congr 1; omega
    · obtain ⟨c0, t0⟩ := LeapP.good_above _ _ d g6 (by rw [e0]; omega)
      simp only [if_neg h, c0] at c1 c2 ⊢
      rw [if_neg (by omega), t0]; simp
theorem ref_total9 (l : List S49) (has : Bool) (exp d : Int) (hl : l.length ≤ 300) (G : LeapP.Good 729 (l.map toL)) (k : Nat) (hk : 700 < k) : epactref09_Total.f k l has exp d = some (LeapP.tot (l.map toL) d) := by
  unfold epactref09_Total.f
  have := ref_total_loop9 l has exp d hl G l [] 729 0 k rfl G (by simp) (fun _ => by simp) (by simp) (by simp) (by omega)
  simpa using this
/-- records that have no table -/
theorem ref_table_no (m : List S53) (hm : m.length ≤ 300) (hw : WR m) (ne : ∀ l has exp, okT l has exp = true → m ≠ full l has exp) (k : Nat) (hk : 11000 < k) : epactref22_table.f k m = some ([], false, 0, false) := by
  unfold epactref22_table.f
  rw [ref_rright_law m (by omega) hw k (by omega)]
  simp only [Option.bind_some]
  cases h : ((RecP.check (m.map toR)).2 == 0) with
  | false => simp
  | true =>
    obtain ⟨hr, hn⟩ := rrn_of h
    simp only [if_true]
    rw [ref_rtable_law m hr.1 hn k (by omega)]
    rcases table_cases m hr hw hn k (by omega) with ⟨e, _⟩ | ⟨l, has, exp, e, ho, rfl⟩
    · rw [rtable_law m (by omega) hr.1 hn k (by omega)] at e
      rw [e]; rfl
    · exact absurd rfl (ne l has exp ho)
section
variable {l : List S49} {has : Bool} {exp : Int} (ho : okT l has exp = true)
include ho
theorem ref_table_full (k : Nat) (hk : 11000 < k) : epactref22_table.f k (full l has exp) = some (l, has, exp, true) := by
  obtain ⟨h1, h2, h3⟩ := full_rr ho
  unfold epactref22_table.f
  rw [ref_rright_law _ (by omega) (full_wr ho) k (by omega), h3]
  simp only [Option.bind_some, beq_self_eq_true, if_true]
  have e := full_table_law ho k (by omega)
  rw [rtable_law _ (by omega) h1.1 h2 k (by omega)] at e
  rw [ref_rtable_law _ h1.1 h2 k (by omega), e]; rfl
theorem ref_end_full (k : Nat) (hk : 11000 < k) : epactref22_End.f k (full l has exp) = some (if has = true then (ScaleP.fin (l.map toL) exp, true) else (0, false)) := by
  unfold epactref22_End.f
  have tt := ttots ho
  have te := texp ho
  rw [ref_table_full ho k hk, ref_rexpiry_law _ (by have := (full_rr ho).2.1; omega), (lpf ho).2]
  simp only [Option.bind_some, if_true]
  unfold ScaleP.fin
  cases has with
  | true =>
    have := te rfl
    simp only [if_true, exOf]
    rw [w64 (by omega) (by omega)]
  | false => simp [exOf]
/-- what is told of a second with its day -/
theorem ref_utc_loop (t : Int) (ht : I64 t) (d sec : Int) (hA : ScaleP.At (l.map toL) t d sec) (rest : List S49) : ∀ (pre : List S49) (left d0 : Int) (k : Nat), l = pre ++ rest → 730 ≤ d0 → d0 ≤ 2932896 → 0 ≤ left → left ≤ t → ScaleP.beg (l.map toL) d0 + left = t + 63072000 → LeapP.Good (d0 - 1) (rest.map toL) → (∀ x ∈ pre, x.f0 < d0) → rest.length < k →
    epactref22_Utc.l0 k left d0 (pre.length : Int) l has exp = some (if d > 2932896 then (0, 0, 9) else (d, sec, 0)) := by
  have G := tG ho
  have ln := okT_len ho
  unfold I64 at ht
  have flat : ∀ (left d0 e : Int), 730 ≤ d0 → 0 ≤ left → ScaleP.beg (l.map toL) d0 + left = t + 63072000 → d0 + left / 86400 < e → (∀ x ∈ l.map toL, x.day < d0 ∨ e ≤ x.day) → d = d0 + left / 86400 ∧ sec = left % 86400 := by
    intro left d0 e h0 h1 h2 h3 h4
    have := ScaleP.at_flat _ t d0 left e h0 h1 h2 h3 h4
    have := ScaleP.at_uniq _ G t _ _ _ _ hA this
    exact this
  induction rest with
  | nil =>
    intro pre left d0 k e h0 h00 hl hlt hb g hp hk
    obtain ⟨k, rfl⟩ : ∃ m, k = m + 1 := ⟨k - 1, by omega⟩
    have len : l.length = pre.length := by rw [e]; simp
    obtain ⟨e1, e2⟩ := flat left d0 (d0 + left / 86400 + 1) h0 hl hb (by omega) (fun x hx => by
      obtain ⟨y, hy, rfl⟩ := List.mem_map.1 hx
      rw [e] at hy
      exact .inl (hp y (by simpa using hy)))
    simp only [epactref22_Utc.l0]
    rw [if_neg (by omega), td hl, tm hl, w64 (n := left / 86400) (by omega) (by omega), w64 (by omega) (by omega), ← e1, ← e2]
    split <;> rfl
  | cons x rest ih =>
    intro pre left d0 k e h0 h00 hl hlt hb g hp hk
    simp only [List.length_cons] at hk
    obtain ⟨k, rfl⟩ : ∃ m, k = m + 1 := ⟨k - 1, by omega⟩
    have hlen : l.length = pre.length + (rest.length + 1) := by rw [e]; simp
    have hr : rd_T49 l (pre.length : Int) = x := by rw [e]; exact rd_at pre rest x
    obtain ⟨g1, g2, g3, g4, g5, g6⟩ := g
    have x0 : (toL x).day = x.f0 := rfl
    have x1 : (toL x).step = x.f1 := rfl
    rw [x0] at g1 g2 g3 g5 g6
    rw [x1] at g4
    have later : ∀ y ∈ rest, x.f0 < y.f0 := by
      intro y hy
      have := (LeapP.good_mem _ _ g6 (toL y) (List.mem_map_of_mem hy)).2.2.2.2
      exact this
    have all : ∀ y ∈ l.map toL, y.day < d0 ∨ x.f0 ≤ y.day := by
      intro y hy
      obtain ⟨z, hz, rfl⟩ := List.mem_map.1 hy
      rw [e] at hz
      rcases List.mem_append.1 hz with hz | hz
      · exact .inl (hp z hz)
      · rcases List.mem_cons.1 hz with rfl | hz
        · exact .inr (Int.le_refl _)
        · have := later z hz; exact .inr (by show x.f0 ≤ z.f0; omega)
    simp only [epactref22_Utc.l0]
    rw [if_pos (by omega), if_pos (by omega), hr, w64 (n := x.f0 - d0) (by omega) (by omega), w64 (n := 86400 * (x.f0 - d0)) (by omega) (by omega)]
    by_cases hq : left < 86400 * (x.f0 - d0)
    · obtain ⟨e1, e2⟩ := flat left d0 x.f0 h0 hl hb (by omega) all
      rw [if_pos hq, td hl, tm hl, w64 (n := left / 86400) (by omega) (by omega), w64 (by omega) (by omega), ← e1, ← e2]
      split <;> rfl
    · rw [if_neg hq]
      have sx : LeapP.stp (l.map toL) x.f0 = x.f1 := by
        have i1 : (l.map toL)[pre.length]? = some (toL x) := by rw [e]; simp
        exact (ScaleP.recs_at _ 729 0 G pre.length _ i1).2
      have bx : ScaleP.beg (l.map toL) x.f0 = ScaleP.beg (l.map toL) d0 + 86400 * (x.f0 - d0) := by
        unfold ScaleP.beg
        rw [ScaleP.tot_same _ x.f0 d0 (fun y hy => by have := all y hy; omega)]; omega
      have bn := ScaleP.beg_step _ G x.f0
      rw [sx, bx] at bn
      rw [w64 (n := left - 86400 * (x.f0 - d0)) (by omega) (by omega), w64 (n := 86400 + x.f1) (by omega) (by omega)]
      by_cases hs : left - 86400 * (x.f0 - d0) < 86400 + x.f1
      · have A2 : ScaleP.At (l.map toL) t x.f0 (left - 86400 * (x.f0 - d0)) := ⟨g1, by omega, by rw [sx]; omega, by rw [bx]; omega⟩
        obtain ⟨e1, e2⟩ := ScaleP.at_uniq _ G t _ _ _ _ hA A2
        rw [if_pos hs, if_neg (by omega), e1, e2]
      · rw [if_neg hs, w64 (n := left - 86400 * (x.f0 - d0) - 86400) (by omega) (by omega), w64 (n := left - 86400 * (x.f0 - d0) - 86400 - x.f1) (by omega) (by omega), w64 (n := x.f0 + 1) (by omega) (by omega), w64 (by omega) (by omega)]
        have := ih (pre ++ [x]) (left - 86400 * (x.f0 - d0) - 86400 - x.f1) (x.f0 + 1) k (by rw [e]; simp) (by omega) (by omega) (by omega) (by omega) (by rw [bn]; omega) (by rw [show x.f0 + 1 - 1 = x.f0 by omega]; exact g6) (fun y hy => by
          rcases List.mem_append.1 hy with hy | hy
          · have := hp y hy; omega
          · simp only [List.mem_singleton] at hy; subst hy; omega) (by omega)
        simp only [List.length_append, List.length_cons, List.length_nil] at this
        rw [show ((pre.length : Int) + 1) = ((pre.length + (0 + 1) : Nat) : Int) by omega]
        exact this
theorem ref_utc_law (t : Int) (ht : I64 t) (h0 : 0 ≤ t) (d sec : Int) (hA : ScaleP.At (l.map toL) t d sec) (k : Nat) (hk : 11100 < k) :
    epactref22_Utc.f k (full l has exp) t = some (ScaleP.utcR has (ScaleP.fin (l.map toL) exp) t d sec) := by
  obtain ⟨k, rfl⟩ : ∃ q, k = q + 1 := ⟨k - 1, by omega⟩
  have G := tG ho
  have ln := okT_len ho
  unfold epactref22_Utc.f
  rw [ref_table_full ho _ (by omega)]
  simp only [Option.bind_some, if_true]
  rw [if_neg (by omega), ref_end_full ho _ (by omega)]
  simp only [Option.bind_some]
  unfold ScaleP.utcR
  have loop : epactref22_Utc.j0 (k + 1) t false l has exp = some (if d > 2932896 then (0, 0, 9) else (d, sec, 0)) := by
    simp only [epactref22_Utc.j0, Bool.false_eq_true, if_false]
    have := ref_utc_loop ho t ht d sec hA l [] t 730 k rfl (by omega) (by omega) h0 (by omega) (by rw [ScaleP.beg_first _ G 730 (by omega)]; omega) G (fun x hx => absurd hx (by simp)) (by omega)
    simpa using this
  cases has with
  | true =>
    simp only [if_true, true_and]
    by_cases he : ScaleP.fin (l.map toL) exp ≤ t
    · rw [if_pos he, decide_eq_true he]; simp [epactref22_Utc.j0]
    · rw [if_neg he, decide_eq_false he, loop]
  | false =>
    simp only [Bool.false_eq_true, if_false, false_and]
    exact loop
theorem ref_utc_neg (t : Int) (h0 : t < 0) (k : Nat) (hk : 11100 < k) : epactref22_Utc.f k (full l has exp) t = some (0, 0, 9) := by
  unfold epactref22_Utc.f
  rw [ref_table_full ho _ (by omega)]
  simp only [Option.bind_some, if_true]
  rw [if_pos h0]
theorem ref_tai_law (d sec : Int) (hs : I64 sec) (k : Nat) (hk : 11100 < k) : epactref22_Tai.f k (full l has exp) d sec = some (ScaleP.taiR (l.map toL) has exp d sec) := by
  obtain ⟨k, rfl⟩ : ∃ q, k = q + 1 := ⟨k - 1, by omega⟩
  have G := tG ho
  have ln := okT_len ho
  unfold epactref22_Tai.f ScaleP.taiR
  rw [ref_table_full ho _ (by omega)]
  simp only [Option.bind_some, if_true]
  have j9 : epactref22_Tai.j0 (k + 1) (full l has exp) d sec true l has exp = some (0, 9) := by simp [epactref22_Tai.j0]
  rw [j9]
  by_cases h1 : d < 730
  · rw [if_pos h1, if_pos (by omega)]
  · rw [if_neg h1]
    by_cases h2 : d > 2932896
    · rw [if_pos h2, if_pos (by omega)]
    · rw [if_neg h2]
      by_cases h3 : sec < 0
      · rw [if_pos h3, if_pos (by omega)]
      · rw [if_neg h3]
        by_cases h4 : sec > 86400
        · rw [decide_eq_true h4, j9, if_pos (by omega)]
        · rw [decide_eq_false h4, if_neg (by omega)]
          simp only [epactref22_Tai.j0, Bool.false_eq_true, if_false]
          rw [ref_length9 l has exp d (by omega) G _ (by omega)]
          simp only [Option.bind_some]
          by_cases h5 : sec ≥ 86400 + LeapP.stp (l.map toL) d
          · rw [if_pos h5, if_pos h5]
          · rw [if_neg h5, if_neg h5, ref_total9 l has exp d (by omega) G _ (by omega), ref_end_full ho _ (by omega)]
            simp only [Option.bind_some]
            have bn := ScaleP.beg_near _ G (tl ho) d
            have bg : ScaleP.beg (l.map toL) d = d * 86400 + LeapP.tot (l.map toL) d := rfl
            rw [bg] at bn ⊢
            rw [w64 (n := d - 730) (by omega) (by omega), w64 (n := 86400 * (d - 730)) (by omega) (by omega), w64 (n := 86400 * (d - 730) + LeapP.tot (l.map toL) d) (by omega) (by omega), w64 (by omega) (by omega)]
            rw [show 86400 * (d - 730) + LeapP.tot (l.map toL) d + sec = d * 86400 + LeapP.tot (l.map toL) d + sec - 63072000 by omega]
            cases has with
            | true =>
              simp only [if_true, true_and]
              by_cases he : ScaleP.fin (l.map toL) exp ≤ d * 86400 + LeapP.tot (l.map toL) d + sec - 63072000
              · rw [if_pos he, if_pos he]
              · rw [if_neg he, if_neg (by omega)]
            | false => simp
end
/-- of records without a table the reference tells nothing -/
theorem ref_utc_no (m : List S53) (t : Int) (k : Nat) (h : epactref22_table.f k m = some ([], false, 0, false)) : epactref22_Utc.f k m t = some (0, 0, 1) := by
  unfold epactref22_Utc.f; rw [h]; simp
theorem ref_tai_no (m : List S53) (d sec : Int) (k : Nat) (h : epactref22_table.f k m = some ([], false, 0, false)) : epactref22_Tai.f k m d sec = some (0, 1) := by
  unfold epactref22_Tai.f; rw [h]; simp
end Go.Proofs.Ythoigncoojcanaa.Pure
namespace Go.Proofs.Ythoigncoojcanaa.Pure
open Go.RowKit Go.Proofs.Ythoigncoojcanaa.PAll Go.Proofs.YthoigncoojcanaaW.PrintWords Go.Proofs.YthoigncoojcanaaW.PrintLast
set_option linter.unusedVariables false
set_option linter.unusedSimpArgs false
set_option linter.unusedSectionVars false
section
variable {l : List S49} {has : Bool} {exp : Int} (ho : okT l has exp = true)
include ho
theorem ref_length_law (d : Int) (k : Nat) (hk : 11200 < k) : epactref22_Length.f k (full l has exp) d = some (if d < 730 ∨ d > 2932896 then (0, 9) else (86400 + LeapP.stp (l.map toL) d, 0)) := by
  obtain ⟨k, rfl⟩ : ∃ q, k = q + 1 := ⟨k - 1, by omega⟩
  have G := tG ho
  have ln := okT_len ho
  have sb := ScaleP.stp_bd _ d G
  unfold epactref22_Length.f
  rw [ref_tai_law ho d 0 (by unfold I64; omega) _ (by omega)]
  simp only [Option.bind_some]
  have j : ∀ e, epactref22_Length.j0 (k + 1) (full l has exp) d e false = some (86400 + LeapP.stp (l.map toL) d, 0) := by
    intro e
    simp only [epactref22_Length.j0, Bool.false_eq_true, if_false]
    rw [ref_table_full ho _ (by omega)]
    simp only [Option.bind_some]
    rw [ref_length9 l has exp d (by omega) G _ (by omega)]; rfl
  by_cases h1 : d < 730 ∨ d > 2932896
  · have e : ScaleP.taiR (l.map toL) has exp d 0 = (0, 9) := by unfold ScaleP.taiR; rw [if_pos (by omega)]
    rw [e, if_pos h1]
    simp [epactref22_Length.j0]
  · rw [if_neg h1]
    have e : (ScaleP.taiR (l.map toL) has exp d 0).2 = 0 ∨ (ScaleP.taiR (l.map toL) has exp d 0).2 = 10 := by
      unfold ScaleP.taiR
      rw [if_neg (by omega), if_neg (by omega)]
      split
      · exact .inr rfl
      · exact .inl rfl
    generalize ScaleP.taiR (l.map toL) has exp d 0 = q at e
    rcases e with e | e
    · rw [e, if_pos rfl]; exact j 0
    · rw [e, if_neg (by omega)]; exact j 10
end
theorem ref_length_no (m : List S53) (d : Int) (k : Nat) (h : epactref22_table.f k m = some ([], false, 0, false)) (hk : 0 < k) : epactref22_Length.f k m d = some (0, 1) := by
  obtain ⟨k, rfl⟩ : ∃ q, k = q + 1 := ⟨k - 1, by omega⟩
  unfold epactref22_Length.f; rw [ref_tai_no m d 0 _ h]; simp [epactref22_Length.j0]
end Go.Proofs.Ythoigncoojcanaa.Pure
namespace Go.Proofs.Ythoigncoojcanaa.Pure
open Go.RowKit Go.Proofs.Ythoigncoojcanaa.PAll Go.Proofs.YthoigncoojcanaaW.PrintWords Go.Proofs.YthoigncoojcanaaW.PrintLast
set_option linter.unusedVariables false
set_option linter.unusedSimpArgs false
set_option linter.unusedSectionVars false
theorem ref_of_law (d s : Int) : epactref23_Of.f d s = some (ofR d s) := by
  have := of_law d s
  unfold posix_Of.f at this
  unfold epactref23_Of.f
  rw [Int.mul_comm 86400 d]
  exact this
theorem ref_pday_law (p : Int) (hp : I64 p) : epactref23_Day.f p = some (p / 86400, p % 86400) := by
  unfold epactref23_Day.f
  rw [ref_div_law p 86400 hp (by unfold I64; omega) (by omega)]; rfl
section
variable {l : List S49} {has : Bool} {exp : Int} (ho : okT l has exp = true)
include ho
theorem ref_ptai_law (p : Int) (hp : I64 p) (k : Nat) (hk : 11200 < k) : epactref23_Tai.f k (full l has exp) p = some (ScaleP.taiR (l.map toL) has exp (p / 86400) (p % 86400)) := by
  unfold epactref23_Tai.f
  rw [ref_pday_law p hp]
  simp only [Option.bind_some]
  rw [ref_tai_law ho _ _ (by unfold I64; omega) k (by omega)]; rfl
theorem ref_from_utc (t : Int) (u : Int × Int × Int) (k : Nat) (h : epactref22_Utc.f k (full l has exp) t = some u) (hu : u.2.2 = 0 → 730 ≤ u.1 ∧ u.1 ≤ 2932896 ∧ 0 ≤ u.2.1 ∧ u.2.1 ≤ 86400) : epactref23_From.f k (full l has exp) t = some (fromR u) := by
  unfold epactref23_From.f fromR
  rw [h]
  simp only [Option.bind_some]
  by_cases h0 : u.2.2 = 0
  · have := hu h0
    rw [if_pos h0, if_pos h0, ref_of_law]
    unfold ofR
    rw [if_neg (by omega)]; rfl
  · rw [if_neg h0, if_neg h0]
/-- both tell the same POSIX second -/
theorem from_both (t : Int) (ht : I64 t) (k : Nat) (hk : 11200 < k) : ∃ u, posix_From.f k (full l has exp) t = some u ∧ epactref23_From.f k (full l has exp) t = some u := by
  by_cases h0 : t < 0
  · exact ⟨_, pfrom_neg ho t ht h0 k (by omega), ref_from_utc ho t _ k (ref_utc_neg ho t h0 k (by omega)) (fun h => by simp at h)⟩
  · obtain ⟨d, s, A⟩ := ScaleP.at_ex _ (tG ho) t (by omega)
    exact ⟨_, pfrom_law ho t ht d s A k (by omega), ref_from_utc ho t _ k (ref_utc_law ho t ht (by omega) d s A k (by omega)) (utcR_range ho A)⟩
end
end Go.Proofs.Ythoigncoojcanaa.Pure
namespace Go.Proofs.Ythoigncoojcanaa.Pure
open Go.RowKit Go.Proofs.Ythoigncoojcanaa.PAll Go.Proofs.YthoigncoojcanaaW.PrintWords Go.Proofs.YthoigncoojcanaaW.PrintLast
set_option linter.unusedVariables false
set_option linter.unusedSimpArgs false
set_option linter.unusedSectionVars false
instance (p d : Int) : Decidable (SmearP.InP p d) := by unfold SmearP.InP; exact inferInstance
theorem ref_behind_law (a n : Int) (h0 : 0 ≤ n) (h1 : n ≤ 100000000000000) (ha : -1000000000000 ≤ a) (ha' : a ≤ 1000000000000) : epactref25_behind.f a n = some (a + n / 1000000000, n % 1000000000) := by
  unfold epactref25_behind.f
  rw [td h0, tm h0, w64 (n := n / 1000000000) (by omega) (by omega), w64 (by omega) (by omega)]
theorem ref_sless_law (a b c d : Int) : epactref25_Less.f a b c d = some (decide (a < c ∨ a = c ∧ b < d)) := by
  unfold epactref25_Less.f
  by_cases h1 : a < c
  · rw [if_pos h1]; simp [h1]
  · rw [if_neg h1]
    by_cases h2 : a = c
    · rw [if_pos h2]; simp [h1, h2]
    · rw [if_neg h2]; simp [h1, h2]
theorem ref_tick_law (t n : Int) : epactref25_tick.f t n = some (decide (0 ≤ n ∧ n < 1000000000)) := by
  unfold epactref25_tick.f
  by_cases h : n ≥ 0
  · rw [if_pos h]; congr 1; rw [decide_eq_decide]; omega
  · rw [if_neg h]; congr 1; symm; rw [decide_eq_false_iff_not]; omega
theorem days_loop (y : List S49) (has : Bool) (exp : Int) (hl : y.length ≤ 300) (rest : List S49) : ∀ (pre : List S49) (acc : List Int) (k : Nat), y = pre ++ rest → acc.length = pre.length → rest.length < k →
    epactref25_days.l0 k acc (pre.length : Int) y has exp = some (acc ++ rest.map (·.f0)) := by
  induction rest with
  | nil =>
    intro pre acc k e ha hk
    obtain ⟨k, rfl⟩ : ∃ m, k = m + 1 := ⟨k - 1, by omega⟩
    have : y.length = pre.length := by rw [e]; simp
    rw [epactref25_days.l0, if_neg (by omega)]; simp
  | cons x rest ih =>
    intro pre acc k e ha hk
    simp only [List.length_cons] at hk
    obtain ⟨k, rfl⟩ : ∃ m, k = m + 1 := ⟨k - 1, by omega⟩
    have hlen : y.length = pre.length + (rest.length + 1) := by rw [e]; simp
    have hr : rd_T49 y (pre.length : Int) = x := by rw [e]; exact rd_at pre rest x
    have := ih (pre ++ [x]) (acc ++ [x.f0]) k (by rw [e]; simp) (by simp [ha]) (by omega)
    simp only [List.length_append, List.length_cons, List.length_nil] at this
    rw [epactref25_days.l0, if_pos (by omega), if_pos (by omega), if_pos (by omega), hr, w64 (by omega) (by omega), show ((pre.length : Int) + 1) = ((pre.length + (0 + 1) : Nat) : Int) by omega, this]
    simp
section
variable {l : List S49} {has : Bool} {exp : Int} (ho : okT l has exp = true)
include ho
theorem bare_ok : okT l false 0 = true := by
  have h := (okT_iff l has exp).1 ho
  refine (okT_iff l false 0).2 ⟨⟨h.1.1, h.1.2.1, ?_⟩, h.2⟩
  unfold LeapP.badEnd; simp
theorem ref_days_of (k : Nat) (hk : 11200 < k) : epactref25_days.f k (full l has exp) = some (l.map (·.f0)) := by
  obtain ⟨h1, h2, h3⟩ := full_rr ho
  unfold epactref25_days.f
  have e := full_table_law ho k (by omega)
  rw [rtable_law _ (by omega) h1.1 h2 k (by omega)] at e
  rw [ref_rtable_law _ h1.1 h2 k (by omega), e]
  simp only [Option.bind_some]
  have ln := okT_len ho
  have := days_loop l has exp (by omega) l [] [] k rfl rfl (by omega)
  simpa using this
theorem ref_bare_law : epactref25_bare.f (full l has exp) = some (full l false 0) := by
  unfold epactref25_bare.f
  have hz := (full_rr ho).2.1
  rw [ref_rexpiry_law _ (by omega), (lpf ho).2]
  simp only [Option.bind_some]
  cases has with
  | true =>
    have e : full l true exp = full l false 0 ++ [frR ⟨exp + RecP.tots 0 (l.map toL), RecP.tots 0 (l.map toL)⟩] := by
      unfold full RecP.full; simp
    have hlen : (full l true exp).length = (full l false 0).length + 1 := by rw [e]; simp
    simp only [exOf, if_true]
    rw [w64 (by omega) (by omega), if_pos (by omega), if_pos (by omega)]
    rw [show (((full l true exp).length : Int) - 1).toNat = (full l false 0).length by omega, e, List.take_left]
  | false =>
    simp only [exOf, Bool.false_eq_true, if_false]
    unfold full RecP.full; simp
theorem ref_noon_law (d : Int) (hd : LeapP.stp (l.map toL) d ≠ 0) (k : Nat) (hk : 11200 < k) : epactref25_noon.f k (full l has exp) d = some (ScaleP.beg (l.map toL) d + 43200 - 63072000) := by
  obtain ⟨w1, w2, w3, w4, w5, w6⟩ := wd_range ho d hd
  unfold epactref25_noon.f
  rw [ref_bare_law ho]
  simp only [Option.bind_some]
  rw [ref_tai_law (bare_ok ho) d 43200 (by unfold I64; omega) k (by omega)]
  simp only [Option.bind_some]
  unfold ScaleP.taiR
  rw [if_neg (by omega), if_neg (by omega), if_neg (by simp)]
theorem ref_len_law (d : Int) (hd : LeapP.stp (l.map toL) d ≠ 0) (k : Nat) (hk : 11200 < k) : epactref22_Length.f k (full l has exp) d = some (86400 + LeapP.stp (l.map toL) d, 0) := by
  obtain ⟨w1, w2, _⟩ := wd_range ho d hd
  rw [ref_length_law ho d k hk, if_neg (by omega)]
theorem day_stp (x : S49) (hx : x ∈ l) : LeapP.stp (l.map toL) x.f0 ≠ 0 := by
  have G := tG ho
  have : ∀ (y : List LeapP.L) (a : Int), LeapP.Good a y → ∀ z ∈ y, LeapP.stp y z.day ≠ 0 := by
    intro y
    induction y with
    | nil => intro a _ z hz; simp at hz
    | cons u y ih =>
      intro a g z hz
      obtain ⟨g1, g2, g3, g4, g5, g6⟩ := g
      simp only [LeapP.stp]
      rcases List.mem_cons.1 hz with rfl | h
      · rw [if_pos rfl]; omega
      · have := (LeapP.good_mem y u.day g6 z h).2.2.2.2
        rw [if_neg (by omega)]
        exact ih u.day g6 z h
  exact this _ 729 G (toL x) (List.mem_map_of_mem hx)
theorem rd_day (pre rest : List S49) (x : S49) (e : l = pre ++ x :: rest) : rd (l.map (·.f0)) (pre.length : Int) = x.f0 := by
  unfold rd; rw [e]; simp
theorem place_loop (t : Int) (ht : I64 t) (rest : List S49) : ∀ (pre : List S49) (k : Nat), l = pre ++ rest → rest.length + 11201 < k →
    (∃ x ∈ rest, SmearP.InT (l.map toL) t x.f0 ∧ epactref25_place.l0 k (full l has exp) t (l.map (·.f0)) (pre.length : Int) = some x.f0) ∨ ((∀ x ∈ rest, ¬ SmearP.InT (l.map toL) t x.f0) ∧ epactref25_place.l0 k (full l has exp) t (l.map (·.f0)) (pre.length : Int) = some (-1)) := by
  have ln := okT_len ho
  induction rest with
  | nil =>
    intro pre k e hk
    obtain ⟨k, rfl⟩ : ∃ m, k = m + 1 := ⟨k - 1, by omega⟩
    have : l.length = pre.length := by rw [e]; simp
    refine .inr ⟨by simp, ?_⟩
    rw [epactref25_place.l0, if_neg (by rw [List.length_map]; omega)]
  | cons x rest ih =>
    intro pre k e hk
    simp only [List.length_cons] at hk
    obtain ⟨k, rfl⟩ : ∃ m, k = m + 1 := ⟨k - 1, by omega⟩
    have hlen : l.length = pre.length + (rest.length + 1) := by rw [e]; simp
    have hx : x ∈ l := by rw [e]; simp
    have hs := day_stp ho x hx
    obtain ⟨w1, w2, w3, w4, w5, w6⟩ := wd_range ho x.f0 hs
    have hi := ih (pre ++ [x]) k (by rw [e]; simp) (by omega)
    simp only [List.length_append, List.length_cons, List.length_nil] at hi
    unfold I64 at ht
    have step : ¬ SmearP.InT (l.map toL) t x.f0 → epactref25_place.l0 k (full l has exp) t (l.map (·.f0)) ((pre.length + (0 + 1) : Nat) : Int) = epactref25_place.l0 (k + 1) (full l has exp) t (l.map (·.f0)) (pre.length : Int) := by
      intro hn
      unfold SmearP.InT at hn
      rw [epactref25_place.l0, if_pos (by rw [List.length_map]; omega), if_pos (by omega), rd_day ho pre rest x e, ref_noon_law ho _ hs k (by omega)]
      simp only [Option.bind_some]
      rw [ref_len_law ho _ hs k (by omega)]
      simp only [Option.bind_some]
      rw [w64 (n := (pre.length : Int) + 1) (by omega) (by omega), show ((pre.length : Int) + 1) = ((pre.length + (0 + 1) : Nat) : Int) by omega]
      by_cases a : t ≥ ScaleP.beg (l.map toL) x.f0 + 43200 - 63072000
      · rw [if_pos a, w64 (by omega) (by omega), if_neg (by omega)]
      · rw [if_neg a]
    by_cases c : SmearP.InT (l.map toL) t x.f0
    · refine .inl ⟨x, by simp, c, ?_⟩
      unfold SmearP.InT at c
      rw [epactref25_place.l0, if_pos (by rw [List.length_map]; omega), if_pos (by omega), rd_day ho pre rest x e, ref_noon_law ho _ hs k (by omega)]
      simp only [Option.bind_some]
      rw [ref_len_law ho _ hs k (by omega)]
      simp only [Option.bind_some]
      rw [if_pos (by omega), w64 (by omega) (by omega), if_pos (by omega)]
    · rw [step c] at hi
      rcases hi with ⟨y, hy, h1, h2⟩ | ⟨h1, h2⟩
      · exact .inl ⟨y, by simp [hy], h1, h2⟩
      · refine .inr ⟨fun y hy => ?_, h2⟩
        rcases List.mem_cons.1 hy with rfl | hy
        · exact c
        · exact h1 y hy
theorem ref_place_law (t : Int) (ht : I64 t) (k : Nat) (hk : 11500 < k) :
    (∃ d, LeapP.stp (l.map toL) d ≠ 0 ∧ SmearP.InT (l.map toL) t d ∧ epactref25_place.f k (full l has exp) t = some d) ∨ ((∀ d, LeapP.stp (l.map toL) d ≠ 0 → ¬ SmearP.InT (l.map toL) t d) ∧ epactref25_place.f k (full l has exp) t = some (-1)) := by
  have ln := okT_len ho
  unfold epactref25_place.f
  rw [ref_days_of ho k (by omega)]
  simp only [Option.bind_some]
  have := place_loop ho t ht l [] k rfl (by omega)
  simp only [List.length_nil, Int.natCast_zero] at this
  rcases this with ⟨x, hx, h1, h2⟩ | ⟨h1, h2⟩
  · exact .inl ⟨x.f0, day_stp ho x hx, h1, h2⟩
  · refine .inr ⟨fun d hd c => ?_, h2⟩
    obtain ⟨y, hy, rfl, _⟩ := SmearP.stp_day _ d hd
    obtain ⟨x, hx, rfl⟩ := List.mem_map.1 hy
    exact h1 x hx c
theorem ref_known_law (k : Nat) (hk : 11000 < k) : epactref22_Known.f k (full l has exp) = some true := by
  unfold epactref22_Known.f; rw [ref_table_full ho k hk]; rfl
theorem window_both (t : Int) (ht : I64 t) (k : Nat) (hk : 11500 < k) : ∃ u, smear_Window.f k (full l has exp) t = some u ∧ epactref25_Window.f k (full l has exp) t = some u := by
  unfold epactref25_Window.f
  rw [ref_known_law ho k (by omega)]
  simp only [Option.bind_some, if_true]
  rcases window_law ho t k (by omega) with ⟨d, a, b, e⟩ | ⟨a, e⟩
  · rcases ref_place_law ho t ht k hk with ⟨d', a', b', e'⟩ | ⟨a', e'⟩
    · obtain rfl := SmearP.inT_uniq _ (tG ho) t d d' b b'
      have w := (wd_range ho d a).1
      refine ⟨_, e, ?_⟩
      rw [e']
      simp only [Option.bind_some]
      rw [if_neg (by omega), ref_len_law ho d a k (by omega)]
      simp only [Option.bind_some]
      rw [ref_noon_law ho d a k (by omega)]; rfl
    · exact absurd b (a' d a)
  · rcases ref_place_law ho t ht k hk with ⟨d', a', b', e'⟩ | ⟨a', e'⟩
    · exact absurd b' (a d' a')
    · refine ⟨_, e, ?_⟩
      rw [e']; simp
theorem plain_both (t n : Int) (ht : I64 t) (k : Nat) (hk : 11500 < k) : ∃ u, smear_Plain.f k (full l has exp) t n = some u ∧ epactref25_Plain.f k (full l has exp) t n = some u := by
  obtain ⟨k, rfl⟩ : ∃ m, k = m + 1 := ⟨k - 1, by omega⟩
  unfold epactref25_Plain.f
  rw [ref_known_law ho (k + 1) (by omega)]
  simp only [Option.bind_some, if_true]
  rw [ref_tick_law]
  simp only [Option.bind_some]
  by_cases hn : 0 ≤ n ∧ n < 1000000000
  · obtain ⟨u, h1, h2⟩ := from_both ho t ht (k + 1) (by omega)
    obtain ⟨u', h1', h2'⟩ := from_both ho t ht k (by omega)
    have hu : u = u' := by
      have := at_rounds (g := fun k => epactref23_From.f k (full l has exp) t) (epactref23_From.mono _ _) (Nat.le_succ k) h2'
      rw [h2] at this; exact Option.some.inj this
    subst hu
    unfold smear_Plain.f
    rw [sright_law ho t n hn.1 hn.2 (k + 1) (by omega), decide_eq_true hn]
    simp only [Option.bind_some, if_true, Bool.not_true]
    rw [h1, epactref25_Plain.j0, if_neg (by decide), h2']
    simp only [Option.bind_some]
    by_cases h0 : u.2 = 0
    · rw [if_pos h0]; exact ⟨_, rfl, rfl⟩
    · rw [if_neg h0]; exact ⟨_, rfl, rfl⟩
  · rw [decide_eq_false hn]
    refine ⟨_, plain_no _ t n _ (right_bad _ t n _ hn), ?_⟩
    simp [epactref25_Plain.j0]
theorem smear_both (t n : Int) (ht : I64 t) (k : Nat) (hk : 11500 < k) : ∃ u, smear_Smear.f k (full l has exp) t n = some u ∧ epactref25_Smear.f k (full l has exp) t n = some u := by
  obtain ⟨p, p1, p2⟩ := plain_both ho t n ht k hk
  unfold epactref25_Smear.f
  rw [p2]
  simp only [Option.bind_some]
  rcases smear_cases ho t n ht k (by omega) with ⟨e, he, h1, h2⟩ | ⟨d, sec, A, ne, hd, n0, n1, hu, hf, h1, h2⟩
  · rw [h1] at p1
    obtain rfl := Option.some.inj p1
    refine ⟨_, h2, ?_⟩
    rw [if_neg he]
  · rw [h1] at p1
    obtain rfl := Option.some.inj p1
    rw [if_pos rfl]
    rcases ref_place_law ho t ht k hk with ⟨D, a', b', e'⟩ | ⟨a', e'⟩
    · rcases h2 with ⟨a, e⟩ | ⟨D', a, b, e⟩
      · exact absurd b' (a D a')
      · obtain rfl := SmearP.inT_uniq _ (tG ho) t D D' b' b
        obtain ⟨w1, w2, w3, w4, w5, w6⟩ := wd_range ho D a
        have b0 := b
        unfold SmearP.InT at b0
        refine ⟨_, e, ?_⟩
        rw [e']
        simp only [Option.bind_some]
        rw [if_neg (by omega), ref_len_law ho D a k (by omega)]
        simp only [Option.bind_some]
        rw [ref_noon_law ho D a k (by omega)]
        simp only [Option.bind_some]
        rw [w64 (n := t - (ScaleP.beg (l.map toL) D + 43200 - 63072000)) (by omega) (by omega), w64 (n := (t - (ScaleP.beg (l.map toL) D + 43200 - 63072000)) * 1000000000) (by omega) (by omega), w64 (by omega) (by omega)]
        rw [refmuldiv_law k (by omega) _ _ _ (by unfold IW; omega) (by unfold IW; omega) (by unfold IW; omega)]
        have B := SmearP.back ((t - (ScaleP.beg (l.map toL) D + 43200 - 63072000)) * 1000000000 + n) (86400 + LeapP.stp (l.map toL) D) (by omega) (by omega) (by rcases w3 with h | h <;> rw [h] <;> omega)
        have M : MD ((t - (ScaleP.beg (l.map toL) D + 43200 - 63072000)) * 1000000000 + n) 86400 (86400 + LeapP.stp (l.map toL) D) = (smR (l.map toL) t n D, ((t - (ScaleP.beg (l.map toL) D + 43200 - 63072000)) * 1000000000 + n) * 86400 % (86400 + LeapP.stp (l.map toL) D), true) := by
          unfold MD smR; rw [if_pos ⟨by omega, by omega, by omega, by omega⟩]
        rw [M]
        simp only [Option.bind_some]
        have B1 : 0 ≤ smR (l.map toL) t n D := B.1
        have B2 : smR (l.map toL) t n D < 86400000000000 := B.2.1
        rw [w64 (n := 86400 * D) (by omega) (by omega), w64 (n := 86400 * D + 43200) (by omega) (by omega), ref_behind_law _ _ B1 (by omega) (by omega) (by omega)]
        simp only [Option.bind_some]
        rw [Int.mul_comm 86400 D]
    · rcases h2 with ⟨a, e⟩ | ⟨D', a, b, e⟩
      · refine ⟨_, e, ?_⟩
        rw [e']; simp
      · exact absurd b (a' D' a)
theorem utc_both (t : Int) (ht : I64 t) (k : Nat) (hk : 11500 < k) : ∃ u, scale_Utc.f k (full l has exp) t = some u ∧ epactref22_Utc.f k (full l has exp) t = some u := by
  by_cases h0 : t < 0
  · exact ⟨_, utc_neg ho t ht h0 k (by omega), ref_utc_neg ho t h0 k (by omega)⟩
  · obtain ⟨d, s, A⟩ := ScaleP.at_ex _ (tG ho) t (by omega)
    exact ⟨_, utc_law ho t ht (by omega) d s A k (by omega), ref_utc_law ho t ht (by omega) d s A k (by omega)⟩
theorem unsmear_loop (p n : Int) (hp : I64 p) (h0 : 0 ≤ n) (h1 : n < 1000000000) (rest : List S49) : ∀ (pre : List S49) (k : Nat), l = pre ++ rest → 2 * rest.length + 11601 < k → (∀ x ∈ pre, ¬ SmearP.InP p x.f0) →
    ∃ u, smear_Unsmear.f 12000 (full l has exp) p n = some u ∧ epactref25_Unsmear.l0 k (full l has exp) (l.map (·.f0)) (pre.length : Int) p n = some u := by
  have ln := okT_len ho
  induction rest with
  | nil =>
    intro pre k e hk hn
    obtain ⟨k, rfl⟩ : ∃ m, k = m + 1 := ⟨k - 1, by omega⟩
    have hlen : l.length = pre.length := by rw [e]; simp
    have hout : ∀ D, LeapP.stp (l.map toL) D ≠ 0 → ¬ SmearP.InP p D := by
      intro D hD c
      obtain ⟨y, hy, rfl, _⟩ := SmearP.stp_day _ D hD
      obtain ⟨x, hx, rfl⟩ := List.mem_map.1 hy
      rw [e, List.append_nil] at hx
      exact hn x hx c
    have := unsmear_out ho p n hp h0 h1 hout 12000 (by omega)
    rw [epactref25_Unsmear.l0, if_neg (by rw [List.length_map]; omega), ref_ptai_law ho p hp k (by omega)]
    simp only [Option.bind_some]
    by_cases q : (ScaleP.taiR (l.map toL) has exp (p / 86400) (p % 86400)).2 = 0
    · rw [if_pos q] at this ⊢; exact ⟨_, this, rfl⟩
    · rw [if_neg q] at this ⊢; exact ⟨_, this, rfl⟩
  | cons x rest ih =>
    intro pre k e hk hn
    simp only [List.length_cons] at hk
    obtain ⟨k, rfl⟩ : ∃ m, k = m + 2 := ⟨k - 2, by omega⟩
    have hlen : l.length = pre.length + (rest.length + 1) := by rw [e]; simp
    have hx : x ∈ l := by rw [e]; simp
    have hs := day_stp ho x hx
    obtain ⟨w1, w2, w3, w4, w5, w6⟩ := wd_range ho x.f0 hs
    have hp' := hp
    unfold I64 at hp'
    have go : epactref25_Unsmear.l0 (k + 2) (full l has exp) (l.map (·.f0)) (pre.length : Int) p n = epactref25_Unsmear.j2 (k + 1) (full l has exp) (l.map (·.f0)) (pre.length : Int) (x.f0 * 86400 + 43200) (!decide (SmearP.InP p x.f0)) p n := by
      rw [epactref25_Unsmear.l0, if_pos (by rw [List.length_map]; omega), if_pos (by omega), rd_day ho pre rest x e, w64 (n := 86400 * x.f0) (by omega) (by omega), w64 (n := 86400 * x.f0 + 43200) (by omega) (by omega), Int.mul_comm 86400 x.f0]
      by_cases a : p < x.f0 * 86400 + 43200
      · rw [if_pos a, decide_eq_false (by unfold SmearP.InP; omega)]; rfl
      · rw [if_neg a, w64 (by omega) (by omega)]
        by_cases b : p - (x.f0 * 86400 + 43200) ≥ 86400
        · rw [decide_eq_true b, decide_eq_false (by unfold SmearP.InP; omega)]; rfl
        · rw [decide_eq_false b, decide_eq_true (by unfold SmearP.InP; omega)]; rfl
    rw [go]
    by_cases c : SmearP.InP p x.f0
    · rw [decide_eq_true c, epactref25_Unsmear.j2, if_neg (by decide), if_pos (by omega), if_pos (by rw [List.length_map]; omega), rd_day ho pre rest x e, ref_len_law ho _ hs k (by omega)]
      simp only [Option.bind_some]
      obtain ⟨z, hz, z0, z1, hu⟩ := unsmear_in ho p n x.f0 hp h0 h1 hs c 12000 (by omega)
      have c' := c
      unfold SmearP.InP at c'
      rw [hu, w64 (n := p - (x.f0 * 86400 + 43200)) (by omega) (by omega), w64 (n := (p - (x.f0 * 86400 + 43200)) * 1000000000) (by omega) (by omega), w64 (by omega) (by omega)]
      rw [refup_law k (by omega) _ _ _ (by unfold IW; omega) (by unfold IW; omega) (by unfold IW; omega)]
      have P : UP ((p - (x.f0 * 86400 + 43200)) * 1000000000 + n) (86400 + LeapP.stp (l.map toL) x.f0) 86400 = (z, true) := by
        rw [hz]
        generalize hy : (p - (x.f0 * 86400 + 43200)) * 1000000000 + n = y
        generalize hss : LeapP.stp (l.map toL) x.f0 = s at *
        have y0 : 0 ≤ y := by omega
        have y1 : y < 86400000000000 := by omega
        have q0 : 0 ≤ y * (86400 + s) / 86400 ∧ y * (86400 + s) / 86400 ≤ 90000000000000 := by rcases w3 with rfl | rfl <;> omega
        have M : MD y (86400 + s) 86400 = (y * (86400 + s) / 86400, y * (86400 + s) % 86400, true) := by
          unfold MD; rw [if_pos ⟨by omega, by omega, by omega, by omega⟩]
        unfold UP SmearP.up
        rw [M]
        rw [if_pos ⟨rfl, by rintro ⟨_, h⟩; simp only at h; omega⟩]
      rw [P]
      simp only [Option.bind_some]
      rw [ref_noon_law ho _ hs k (by omega)]
      simp only [Option.bind_some]
      have zz : z ≤ 100000000000000 := by rcases w3 with h | h <;> rw [h] at z1 <;> omega
      rw [ref_behind_law _ _ z0 zz (by omega) (by omega)]
      simp only [Option.bind_some]
      obtain ⟨u, u1, u2⟩ := utc_both ho (ScaleP.beg (l.map toL) x.f0 + 43200 - 63072000 + z / 1000000000) (by unfold I64; omega) 12000 (by omega)
      obtain ⟨v, v1, v2⟩ := utc_both ho (ScaleP.beg (l.map toL) x.f0 + 43200 - 63072000 + z / 1000000000) (by unfold I64; omega) k (by omega)
      have huv : u = v := by
        have := at_rounds (g := fun k => epactref22_Utc.f k (full l has exp) (ScaleP.beg (l.map toL) x.f0 + 43200 - 63072000 + z / 1000000000)) (epactref22_Utc.mono _ _) (Nat.le_max_left 12000 k) u2
        have t2 := at_rounds (g := fun k => epactref22_Utc.f k (full l has exp) (ScaleP.beg (l.map toL) x.f0 + 43200 - 63072000 + z / 1000000000)) (epactref22_Utc.mono _ _) (Nat.le_max_right 12000 k) v2
        rw [this] at t2; exact Option.some.inj t2
      subst huv
      rw [u1, v2]
      simp only [Option.bind_some]
      split <;> exact ⟨_, rfl, rfl⟩
    · rw [decide_eq_false c, epactref25_Unsmear.j2, if_pos (by decide), w64 (by omega) (by omega), show ((pre.length : Int) + 1) = ((pre.length + (0 + 1) : Nat) : Int) by omega]
      have := ih (pre ++ [x]) k (by rw [e]; simp) (by omega) (by
        intro y hy
        rcases List.mem_append.1 hy with h | h
        · exact hn y h
        · rw [List.mem_singleton.1 h]; exact c)
      simpa only [List.length_append, List.length_cons, List.length_nil] using this
theorem unsmear_both (p n : Int) (hp : I64 p) : ∃ u, smear_Unsmear.f 12500 (full l has exp) p n = some u ∧ epactref25_Unsmear.f 12500 (full l has exp) p n = some u := by
  have ln := okT_len ho
  unfold epactref25_Unsmear.f
  rw [ref_known_law ho 12500 (by omega)]
  simp only [Option.bind_some, if_true]
  rw [ref_tick_law]
  simp only [Option.bind_some]
  by_cases hn : 0 ≤ n ∧ n < 1000000000
  · rw [decide_eq_true hn, epactref25_Unsmear.j0, Bool.not_true, if_neg (by decide), ref_days_of ho 12499 (by omega)]
    simp only [Option.bind_some]
    obtain ⟨u, h1, h2⟩ := unsmear_loop ho p n hp hn.1 hn.2 l [] 12499 rfl (by omega) (by simp)
    refine ⟨u, at_rounds (g := fun k => smear_Unsmear.f k (full l has exp) p n) (smear_Unsmear.mono _ _ _) (by omega) h1, ?_⟩
    simpa using h2
  · rw [decide_eq_false hn]
    refine ⟨_, unsmear_no _ p n _ (right_bad _ p n _ hn), ?_⟩
    simp [epactref25_Unsmear.j0]
end
end Go.Proofs.Ythoigncoojcanaa.Pure
