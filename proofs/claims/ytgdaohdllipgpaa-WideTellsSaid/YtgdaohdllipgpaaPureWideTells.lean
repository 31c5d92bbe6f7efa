/- WideTells: products, quotients, and which product is less, as the reference tells them, for any four numbers: no condition. -/
import Derived.Test.YtgdaohdllipgpaaWide2
import Derived.Test.YtgdaohdllipgpaaSmall02
import Derived.Test.YtgdaohdllipgpaaPAllx3
import Derived.Test.YtgdaohdllipgpaaPAllx2
namespace Go.Proofs.Ytgdaohdllipgpaa.Pure
open Go.RowKit Go.Proofs.Ytgdaohdllipgpaa.PAll Go.Proofs.YtgdaohdllipgpaaW.PrintWords Go.Proofs.YtgdaohdllipgpaaW.PrintLast Go.Proofs.YtgdaohdllipgpaaW.PrintMore
set_option linter.unusedVariables false
set_option linter.unusedSimpArgs false

theorem or_bit (x y : Int) (h0 : 0 ≤ x) (h1 : x < 9223372036854775808) (h2 : 0 ≤ y) (h3 : y < 2) : Go.bits .or .u64 (IntKind.u64.wrap (x * 2)) y = x * 2 + y := by
  rw [uw (by omega) (by omega)]; exact or63 x y h0 h1 h2 h3
theorem bit_of (b : Int) (n : Nat) (h0 : 0 ≤ b) (h1 : b < 18446744073709551616) (hn : n ≤ 63) : Go.bits .and .u64 (shr .u64 b (n : Int)) 1 = b / 2 ^ n % 2 := by
  unfold shr
  rw [show min ((n : Int).toNat) IntKind.u64.bits = n by simp [IntKind.bits]; omega]
  have p : (0 : Int) < 2 ^ n := Int.pow_pos (by omega)
  have c0 : 0 ≤ b / 2 ^ n := Int.ediv_nonneg h0 (by omega)
  have c1 : b / 2 ^ n ≤ b := Int.ediv_le_self _ h0
  have := bits_mask .u64 64 (by decide) (fun n a b => uw a (by omega)) 1 (by omega) (b / 2 ^ n) c0 (by omega)
  simpa using this
theorem half_of (b : Int) (n : Nat) : b / 2 ^ n = 2 * (b / 2 ^ (n + 1)) + b / 2 ^ n % 2 := by
  rw [Int.pow_succ, ← Int.ediv_ediv_of_nonneg (Int.le_of_lt (Int.pow_pos (by omega)))]
  omega
theorem product_loop (a b : Int) (ha : 0 ≤ a) (ha' : a ≤ 9223372036854775807) (hb : 0 ≤ b) (hb' : b ≤ 9223372036854775807) (n : Nat) : n ≤ 64 →
    ∀ (k : Nat) (hi lo : Int), 0 ≤ hi → 0 ≤ lo → lo < 18446744073709551616 → hi * 18446744073709551616 + lo = a * (b / 2 ^ n) → n < k →
    epactref02_product.l0 k a b ((n : Int) - 1) hi lo = some (a * b / 18446744073709551616, a * b % 18446744073709551616) := by
  obtain ⟨p0, p1⟩ := prod_bd a b ha ha' hb hb'
  induction n with
  | zero =>
    intro _ k hi lo h0 l0 l1 e hk
    obtain ⟨k, rfl⟩ : ∃ m, k = m + 1 := ⟨k - 1, by omega⟩
    simp only [epactref02_product.l0]
    rw [if_neg (by omega)]
    simp at e
    congr 2 <;> omega
  | succ n ih =>
    intro hn k hi lo h0 l0 l1 e hk
    obtain ⟨k, rfl⟩ : ∃ m, k = m + 1 := ⟨k - 1, by omega⟩
    have pw : (0 : Int) < 2 ^ n := Int.pow_pos (by omega)
    have hle : a * (b / 2 ^ n) ≤ a * b := Int.mul_le_mul_of_nonneg_left (Int.ediv_le_self _ hb) ha
    have hh := half_of b n
    have hm : a * (b / 2 ^ n) = 2 * (a * (b / 2 ^ (n + 1))) + a * (b / 2 ^ n % 2) := by
      conv => lhs; rw [hh]
      rw [Int.mul_add, ← Int.mul_assoc, Int.mul_comm a 2, Int.mul_assoc]
    have hb2 : 0 ≤ b / 2 ^ n % 2 ∧ b / 2 ^ n % 2 < 2 := by omega
    have hmn : 0 ≤ a * (b / 2 ^ n % 2) := Int.mul_nonneg ha hb2.1
    simp only [epactref02_product.l0]
    rw [show ((n + 1 : Nat) : Int) - 1 = (n : Int) by omega, if_pos (by omega), if_pos (by omega), bit_of b n hb (by omega) (by omega)]
    rw [w64' (n := (n : Int) - 1) (by omega) (by omega), or_bit hi _ h0 (by omega) (by omega) (by omega)]
    by_cases hbit : b / 2 ^ n % 2 = 1
    · rw [if_pos hbit]
      rw [hbit, Int.mul_one] at hm
      by_cases hc : IntKind.u64.wrap (IntKind.u64.wrap (lo * 2) + a) < a
      · rw [if_pos hc]
        rw [IntKind.wrap_u64, IntKind.wrap_u64] at hc ⊢
        rw [IntKind.wrap_u64] 
        refine ih (by omega) k _ _ (by omega) (by omega) (by omega) ?_ (by omega)
        omega
      · rw [if_neg hc]
        rw [IntKind.wrap_u64, IntKind.wrap_u64] at hc ⊢
        refine ih (by omega) k _ _ (by omega) (by omega) (by omega) ?_ (by omega)
        omega
    · rw [if_neg hbit]
      rw [show b / 2 ^ n % 2 = 0 by omega, Int.mul_zero] at hm
      rw [IntKind.wrap_u64]
      refine ih (by omega) k _ _ (by omega) (by omega) (by omega) ?_ (by omega)
      omega
theorem product_law (k : Nat) (hk : 64 < k) (a b : Int) (ha : 0 ≤ a) (ha' : a ≤ 9223372036854775807) (hb : 0 ≤ b) (hb' : b ≤ 9223372036854775807) :
    epactref02_product.f k a b = some (a * b / 18446744073709551616, a * b % 18446744073709551616) := by
  unfold epactref02_product.f
  refine product_loop a b ha ha' hb hb' 64 (by omega) k 0 0 (by omega) (by omega) (by omega) ?_ hk
  rw [Int.ediv_eq_zero_of_lt hb (by omega)]; simp
theorem divide_loop (P c : Int) (hc : 1 ≤ c) (hc' : c ≤ 9223372036854775807) (n : Nat) : n ≤ 128 →
    ∀ (k : Nat) (q r M hi lo : Int), 0 ≤ q → q < 9223372036854775808 → 0 ≤ r → r < c → 0 ≤ M → M < 2 ^ n → P = (q * c + r) * 2 ^ n + M →
      0 ≤ lo → lo < 18446744073709551616 → 0 ≤ hi → hi < 18446744073709551616 → hi * 18446744073709551616 + lo = M * 2 ^ (128 - n) → n < k →
    epactref02_MulDiv.l0 k c q r ((n : Int) - 1) hi lo = some (if P / c ≤ 9223372036854775807 then (P / c, P % c, true) else (0, 0, false)) := by
  induction n with
  | zero =>
    intro _ k q r M hi lo q0 q1 r0 r1 m0 m1 e _ _ _ _ _ hk
    obtain ⟨k, rfl⟩ : ∃ m, k = m + 1 := ⟨k - 1, by omega⟩
    simp only [epactref02_MulDiv.l0]
    simp at m1 e
    have e : P = q * c + r := by omega
    have f := Int.mul_ediv_add_emod P c
    obtain ⟨a1, a2⟩ := Div64.quot_bd P c (by omega)
    have hq : P / c = q := by
      refine Int.le_antisymm ?_ (Int.le_ediv_of_mul_le (by omega) (by omega))
      have : P / c < q + 1 := Int.ediv_lt_of_lt_mul (by omega) (by rw [Int.add_mul, Int.one_mul]; omega)
      omega
    have hr : P % c = r := by rw [hq, Int.mul_comm] at f; omega
    rw [if_neg (by omega), w64' (by omega) (by omega), w64' (by omega) (by omega), hq, hr, if_pos (by omega)]
  | succ n ih =>
    intro hn k q r M hi lo q0 q1 r0 r1 m0 m1 e l0 l1 h0 h1 ew hk
    obtain ⟨k, rfl⟩ : ∃ m, k = m + 1 := ⟨k - 1, by omega⟩
    have pt : (0 : Int) < 2 ^ n := Int.pow_pos (by omega)
    have ps : (0 : Int) < 2 ^ (128 - (n + 1)) := Int.pow_pos (by omega)
    have ts : (2 : Int) ^ n * 2 ^ (128 - (n + 1)) = 170141183460469231731687303715884105728 := by
      rw [← Int.pow_add, show n + (128 - (n + 1)) = 127 by omega]
      rfl
    have s2 : (2 : Int) ^ (128 - n) = 2 * 2 ^ (128 - (n + 1)) := by
      rw [show 128 - n = (128 - (n + 1)) + 1 by omega, Int.pow_succ]; omega
    rw [Int.pow_succ] at m1 e
    have ih := ih (by omega) k
    rw [s2] at ih
    generalize (2 : Int) ^ n = t at *
    generalize (2 : Int) ^ (128 - (n + 1)) = s at *
    have qc : 0 ≤ q * c := Int.mul_nonneg q0 (by omega)
    -- the first bit of what is left
    have hbit : ∃ B : Int, hi / 9223372036854775808 = B ∧ 0 ≤ B ∧ B ≤ 1 ∧ 0 ≤ M - B * t ∧ M - B * t < t ∧ (M - B * t) * s = M * s - B * 170141183460469231731687303715884105728 := by
      by_cases hM : t ≤ M
      · have := Int.mul_le_mul_of_nonneg_right hM (show 0 ≤ s by omega)
        refine ⟨1, by omega, by omega, by omega, by omega, by omega, ?_⟩
        rw [Int.one_mul, Int.one_mul, Int.sub_mul, ts]
      · have h3 := Int.mul_le_mul_of_nonneg_right (show M ≤ t - 1 by omega) (show 0 ≤ s by omega)
        rw [Int.sub_mul, Int.one_mul, ts] at h3
        refine ⟨0, by omega, by omega, by omega, by omega, by omega, ?_⟩
        rw [Int.zero_mul, Int.zero_mul, Int.sub_zero, Int.sub_zero]
    obtain ⟨B, hB, b0, b1, M0, M1, eM⟩ := hbit
    have eP : P = (2 * (q * c) + 2 * r + B) * t + (M - B * t) := by
      have x1 : (q * c + r) * (t * 2) = 2 * ((q * c + r) * t) := by rw [← Int.mul_assoc, Int.mul_comm]
      have x2 : (2 * (q * c) + 2 * r + B) * t = 2 * ((q * c + r) * t) + B * t := by rw [show 2 * (q * c) + 2 * r + B = 2 * (q * c + r) + B by omega, Int.add_mul, Int.mul_assoc]
      omega
    simp only [epactref02_MulDiv.l0]
    rw [show ((n + 1 : Nat) : Int) - 1 = (n : Int) by omega, if_pos (by omega), hB, or_bit r B r0 (by omega) b0 (by omega), uw (n := c) (by omega) (by omega)]
    rw [w64' (n := (n : Int) - 1) (by omega) (by omega)]
    have hor : Go.bits .or .u64 (IntKind.u64.wrap (hi * 2)) (lo / 9223372036854775808) = hi * 2 % 18446744073709551616 + lo / 9223372036854775808 := by
      rw [IntKind.wrap_u64]
      exact bits_join .u64 64 (by decide) (fun n a b => uw a (by omega)) 1 _ _ (by omega) (by omega) (by omega) (by omega) (by omega) (by omega)
    rw [hor, IntKind.wrap_u64 (lo * 2)]
    have exit : ¬ q / 4611686018427387904 = 0 → (some (0, 0, false) : Option (Int × Int × Bool)) = some (if P / c ≤ 9223372036854775807 then (P / c, P % c, true) else (0, 0, false)) := by
      intro hq
      rw [if_neg]
      have h2 : 2 * (q * c) ≤ P := by
        have : (2 * (q * c)) * 1 ≤ (2 * (q * c) + 2 * r + B) * t := Int.mul_le_mul (by omega) (by omega) (by omega) (by omega)
        omega
      have : 2 * q ≤ P / c := Int.le_ediv_of_mul_le (by omega) (by rw [Int.mul_assoc]; exact h2)
      omega
    by_cases hr : r * 2 + B ≥ c
    · rw [if_pos hr]
      by_cases hq : q / 4611686018427387904 = 0
      · rw [if_pos hq, or_bit q 1 q0 (by omega) (by omega) (by omega), uw (by omega) (by omega)]
        refine ih (q * 2 + 1) (r * 2 + B - c) (M - B * t) _ _ (by omega) (by omega) (by omega) (by omega) M0 M1 ?_ (by omega) (by omega) (by omega) (by omega) ?_ (by omega)
        · rw [eP]; congr 2
          rw [Int.add_mul, Int.one_mul, Int.mul_comm q 2, Int.mul_assoc]; omega
        · rw [← Int.mul_assoc, Int.mul_comm (M - B * t) 2, Int.mul_assoc, eM]; omega
      · rw [if_neg hq]; exact exit hq
    · rw [if_neg hr]
      by_cases hq : q / 4611686018427387904 = 0
      · rw [if_pos hq, or_bit q 0 q0 (by omega) (by omega) (by omega)]
        refine ih (q * 2 + 0) (r * 2 + B) (M - B * t) _ _ (by omega) (by omega) (by omega) (by omega) M0 M1 ?_ (by omega) (by omega) (by omega) (by omega) ?_ (by omega)
        · rw [eP]; congr 2
          rw [Int.add_zero, Int.mul_comm q 2, Int.mul_assoc]; omega
        · rw [← Int.mul_assoc, Int.mul_comm (M - B * t) 2, Int.mul_assoc, eM]; omega
      · rw [if_neg hq]; exact exit hq
theorem divide_top (P c : Int) (hc : 1 ≤ c) (hc' : c ≤ 9223372036854775807) (p0 : 0 ≤ P) (p1 : P ≤ 9223372036854775807 * 9223372036854775807) (k : Nat) (hk : 128 < k) :
    epactref02_MulDiv.l0 k c 0 0 127 (P / 18446744073709551616) (P % 18446744073709551616) = some (if P / c ≤ 9223372036854775807 then (P / c, P % c, true) else (0, 0, false)) := by
  have h128 : (2 : Int) ^ 128 = 340282366920938463463374607431768211456 := by simp
  have e127 : ((128 : Nat) : Int) - 1 = 127 := by omega
  have e0 : (2 : Int) ^ (128 - 128) = 1 := by simp
  rw [← e127]
  exact divide_loop P c hc hc' 128 (Nat.le_refl _) k 0 0 P _ _ (by omega) (by omega) (by omega) (by omega) p0 (by rw [h128]; omega) (by rw [Int.zero_mul]; omega) (by omega) (by omega) (by omega) (by omega) (by rw [e0]; omega) hk
theorem refmul_law (k : Nat) (hk : 64 < k) (a b : Int) (ha : IW a) (hb : IW b) : epactref02_Mul.f k a b = some (if 0 ≤ a ∧ 0 ≤ b then (a * b / 9223372036854775808, a * b % 9223372036854775808, true) else (0, 0, false)) := by
  unfold IW at ha hb
  unfold epactref02_Mul.f
  by_cases h1 : a < 0
  · rw [if_pos h1, if_neg (by omega)]
  · by_cases h2 : b < 0
    · rw [if_neg h1, if_pos h2, if_neg (by omega)]
    · have hv : 0 ≤ a ∧ 0 ≤ b := by omega
      rw [if_neg h1, if_neg h2, if_pos hv, uw (n := a) (by omega) (by omega), uw (n := b) (by omega) (by omega), product_law k hk a b (by omega) ha.2 (by omega) hb.2]
      simp only [Option.bind_some]
      obtain ⟨p0, p1⟩ := prod_bd a b (by omega) ha.2 (by omega) hb.2
      generalize a * b = p at *
      rw [or_bit _ _ (by omega) (by omega) (by omega) (by omega), IntKind.wrap_u64]
      rw [w64' (by omega) (by omega), w64' (by omega) (by omega)]
      congr 2
      · omega
      · congr 1; omega
theorem refmuldiv_law (k : Nat) (hk : 199 < k) (a b c : Int) (ha : IW a) (hb : IW b) (hc : IW c) : epactref02_MulDiv.f k a b c = some (MD a b c) := by
  obtain ⟨k, rfl⟩ : ∃ m, k = m + 1 := ⟨k - 1, by omega⟩
  unfold IW at ha hb hc
  unfold epactref02_MulDiv.f
  have hj : epactref02_MulDiv.j0 (k + 1) a b c true = some (0, 0, false) := by simp [epactref02_MulDiv.j0]
  have bad : ¬ (0 ≤ a ∧ 0 ≤ b ∧ 1 ≤ c) → MD a b c = (0, 0, false) := by
    intro h; unfold MD; rw [if_neg (fun h' => h ⟨h'.1, h'.2.1, h'.2.2.1⟩)]
  by_cases h1 : a < 0
  · rw [if_pos h1, hj, bad (by omega)]
  · rw [if_neg h1]
    by_cases h2 : b < 0
    · rw [if_pos h2, hj, bad (by omega)]
    · rw [if_neg h2]
      by_cases h3 : c < 1
      · rw [decide_eq_true h3, hj, bad (by omega)]
      · rw [decide_eq_false h3]
        clear bad hj
        simp only [epactref02_MulDiv.j0]
        rw [if_neg (by decide), uw (n := a) (by omega) (by omega), uw (n := b) (by omega) (by omega), product_law k (by omega) a b (by omega) ha.2 (by omega) hb.2]
        simp only [Option.bind_some]
        obtain ⟨p0, p1⟩ := prod_bd a b (by omega) ha.2 (by omega) hb.2
        rw [divide_top (a * b) c (by omega) hc.2 p0 p1 _ (by omega)]
        unfold MD
        by_cases h5 : a * b / c ≤ 9223372036854775807
        · rw [if_pos h5, if_pos ⟨by omega, by omega, by omega, h5⟩]
        · rw [if_neg h5, if_neg (by omega)]
theorem refup_law (k : Nat) (hk : 199 < k) (a b c : Int) (ha : IW a) (hb : IW b) (hc : IW c) : epactref02_Up.f k a b c = some (UP a b c) := by
  unfold epactref02_Up.f UP
  rw [refmuldiv_law k hk a b c ha hb hc]
  obtain ⟨k, rfl⟩ : ∃ m, k = m + 1 := ⟨k - 1, by omega⟩
  have B := MD_bd a b c hc
  generalize MD a b c = m at *
  obtain ⟨q, r, ok⟩ := m
  simp only at B
  simp only [Option.bind_some]
  cases ok with
  | false => simp [epactref02_Up.j0]
  | true =>
    by_cases hr : r > 0
    · by_cases hq : q = 9223372036854775807
      · subst hq; simp [hr, epactref02_Up.j0]
      · have : ¬ (r > 0 ∧ q = 9223372036854775807) := fun h => hq h.2
        simp [hr, hq, epactref02_Up.j0, w64' (n := q + 1) (by omega) (by omega)]
    · simp [hr, epactref02_Up.j0]
theorem refless_law (k : Nat) (hk : 64 < k) (a b c d : Int) (ha : IW a) (hb : IW b) (hc : IW c) (hd : IW d) : epactref02_Less.f k a b c d = some (decide (0 ≤ a ∧ 0 ≤ b ∧ 0 ≤ c ∧ 0 ≤ d ∧ a * b < c * d)) := by
  have h := less_law a b c d ha hb hc hd
  unfold wide_Less.f at h
  unfold epactref02_Less.f
  rw [refmul_law k hk a b ha hb, refmul_law k hk c d hc hd]
  rw [mul_law a b ha hb, mul_law c d hc hd] at h
  exact h
theorem WideTells : epactlaw02_WideTells.Pure := by
  intro a b c d ha hb hc hd
  have ha := iw_of ha
  have hb := iw_of hb
  have hc := iw_of hc
  have hd := iw_of hd
  refine ⟨200, ?_⟩
  unfold epactlaw02_WideTells.f
  rw [small02 170, mul_law a b ha hb, refmul_law 200 (by omega) a b ha hb, muldiv_law 179 a b c ha hb hc, refmuldiv_law 200 (by omega) a b c ha hb hc, up_law 179 a b c ha hb hc, refup_law 200 (by omega) a b c ha hb hc, less_law a b c d ha hb hc hd, refless_law 200 (by omega) a b c d ha hb hc hd]
  simp
end Go.Proofs.Ytgdaohdllipgpaa.Pure
