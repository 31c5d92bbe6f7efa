/- The long division of 128 bits by 64, as the library does it, in plain numbers: no program in sight. What the printed functions of the package wide, and of the library's long division, tell. What Mul, MulDiv, Up and Less of the package wide tell. -/
import Derived.Laws.Bits64
import Derived.Laws.BitsLemmas
import Derived.Laws.BitsAllLaws
import Derived.Lib.ItoaNum
import Derived.Test.YthoigncoojcanaaPAllx7
import Derived.Test.YthoigncoojcanaaPAllx6
import Derived.Test.YthoigncoojcanaaPAllx15
import Derived.Test.YthoigncoojcanaaPAllx8
namespace Go.Proofs.Ythoigncoojcanaa.Div64
set_option linter.unusedVariables false
theorem mul_split (q y1 y0 : Int) : q * (y1 * 4294967296 + y0) = 4294967296 * (q * y1) + q * y0 := by
  rw [Int.mul_add, ← Int.mul_assoc, Int.mul_comm (q * y1)]
theorem quot_bd (N Y : Int) (h : 0 < Y) : N / Y * Y ≤ N ∧ N < N / Y * Y + Y := by
  have a := Int.ediv_mul_le N (show Y ≠ 0 by omega)
  have b := Int.lt_ediv_add_one_mul_self N h
  rw [Int.add_mul, Int.one_mul] at b
  exact ⟨a, b⟩
/-- what the loop knows -/
structure Inv (Y y1 y0 u d q r : Int) : Prop where
  hy1 : 2147483648 ≤ y1
  hy1' : y1 < 4294967296
  hy0 : 0 ≤ y0
  hy0' : y0 < 4294967296
  hY : Y = y1 * 4294967296 + y0
  hu : 0 ≤ u
  hu' : u < Y
  hd : 0 ≤ d
  hd' : d < 4294967296
  hq : q * y1 + r = u
  hr : 0 ≤ r
  hr' : r < 4294967296
  hQ : (4294967296 * u + d) / Y ≤ q
  hq' : q ≤ 4294967297
theorem Inv.Q_lt {Y y1 y0 u d q r : Int} (h : Inv Y y1 y0 u d q r) : 0 ≤ (4294967296 * u + d) / Y ∧ (4294967296 * u + d) / Y < 4294967296 := by
  obtain ⟨hy1, hy1', hy0, hy0', hY, hu, hu', hd, hd', hq, hr, hr', hQ, hq'⟩ := h
  constructor
  · exact Int.ediv_nonneg (by omega) (by omega)
  · exact Int.ediv_lt_of_lt_mul (by omega) (by omega)
theorem Inv.small {Y y1 y0 u d q r : Int} (h : Inv Y y1 y0 u d q r) (hB : q < 4294967296) : 0 ≤ q * y0 ∧ q * y0 < 18446744073709551616 := by
  have hQ := h.Q_lt
  obtain ⟨hy1, hy1', hy0, hy0', hY, hu, hu', hd, hd', hq, hr, hr', hQ', hq'⟩ := h
  have a : 0 ≤ q * y0 := Int.mul_nonneg (by omega) hy0
  have b : q * y0 ≤ 4294967295 * 4294967295 := Int.mul_le_mul (by omega) (by omega) hy0 (by omega)
  omega
/-- the guess is too great: one less -/
theorem Inv.less {Y y1 y0 u d q r : Int} (h : Inv Y y1 y0 u d q r) (ht : 4294967296 ≤ q ∨ 4294967296 * r + d < q * y0) : (4294967296 * u + d) / Y ≤ q - 1 := by
  have hQ := h.Q_lt
  obtain ⟨hy1, hy1', hy0, hy0', hY, hu, hu', hd, hd', hq, hr, hr', hQ', hq'⟩ := h
  by_cases hB : 4294967296 ≤ q
  · omega
  · have ht : 4294967296 * r + d < q * y0 := by omega
    obtain ⟨a, b⟩ := quot_bd (4294967296 * u + d) Y (by omega)
    have e := mul_split q y1 y0
    rw [← hY] at e
    by_cases hc : q ≤ (4294967296 * u + d) / Y
    · have := Int.mul_le_mul_of_nonneg_right hc (show 0 ≤ Y by omega)
      omega
    · omega
theorem Inv.next {Y y1 y0 u d q r : Int} (h : Inv Y y1 y0 u d q r) (ht : 4294967296 ≤ q ∨ 4294967296 * r + d < q * y0) (hr2 : r + y1 < 4294967296) : Inv Y y1 y0 u d (q - 1) (r + y1) := by
  have hl := h.less ht
  obtain ⟨hy1, hy1', hy0, hy0', hY, hu, hu', hd, hd', hq, hr, hr', hQ', hq'⟩ := h
  refine ⟨hy1, hy1', hy0, hy0', hY, hu, hu', hd, hd', ?_, by omega, hr2, hl, by omega⟩
  rw [Int.sub_mul]; omega
theorem Inv.stop {Y y1 y0 u d q r : Int} (h : Inv Y y1 y0 u d q r) (ht : 4294967296 ≤ q ∨ 4294967296 * r + d < q * y0) (hr2 : 4294967296 ≤ r + y1) : q - 1 = (4294967296 * u + d) / Y := by
  have hl := h.less ht
  have hQ := h.Q_lt
  obtain ⟨hy1, hy1', hy0, hy0', hY, hu, hu', hd, hd', hq, hr, hr', hQ', hq'⟩ := h
  have e := mul_split (q - 1) y1 y0
  rw [← hY] at e
  have e1 : (q - 1) * y1 = u - (r + y1) := by rw [Int.sub_mul]; omega
  have b : (q - 1) * y0 ≤ 4294967296 * 4294967295 := Int.mul_le_mul (by omega) (by omega) hy0 (by omega)
  have : q - 1 ≤ (4294967296 * u + d) / Y := Int.le_ediv_of_mul_le (by omega) (by omega)
  omega
theorem Inv.done {Y y1 y0 u d q r : Int} (h : Inv Y y1 y0 u d q r) (ht : q * y0 ≤ 4294967296 * r + d) : q = (4294967296 * u + d) / Y := by
  obtain ⟨hy1, hy1', hy0, hy0', hY, hu, hu', hd, hd', hq, hr, hr', hQ', hq'⟩ := h
  have e := mul_split q y1 y0
  rw [← hY] at e
  have : q ≤ (4294967296 * u + d) / Y := Int.le_ediv_of_mul_le (by omega) (by omega)
  omega
/-- the first guess -/
theorem Inv.start {Y y1 y0 u d : Int} (hy1 : 2147483648 ≤ y1) (hy1' : y1 < 4294967296) (hy0 : 0 ≤ y0) (hy0' : y0 < 4294967296) (hY : Y = y1 * 4294967296 + y0) (hu : 0 ≤ u) (hu' : u < Y) (hd : 0 ≤ d) (hd' : d < 4294967296) : Inv Y y1 y0 u d (u / y1) (u % y1) := by
  obtain ⟨a, b⟩ := quot_bd u y1 (by omega)
  have m := Int.mul_ediv_add_emod u y1
  rw [Int.mul_comm] at m
  have m0 := Int.emod_nonneg u (show y1 ≠ 0 by omega)
  have m1 := Int.emod_lt_of_pos u (show 0 < y1 by omega)
  refine ⟨hy1, hy1', hy0, hy0', hY, hu, hu', hd, hd', m, m0, by omega, ?_, ?_⟩
  · have h2 : (4294967296 * u + d) / Y < u / y1 + 1 := by
      refine Int.ediv_lt_of_lt_mul (by omega) ?_
      have e := mul_split (u / y1 + 1) y1 y0
      rw [← hY] at e
      have : (u / y1 + 1) * y1 = u / y1 * y1 + y1 := by rw [Int.add_mul, Int.one_mul]
      have : 0 ≤ (u / y1 + 1) * y0 := Int.mul_nonneg (by have := Int.ediv_nonneg hu (show 0 ≤ y1 by omega); omega) hy0
      omega
    omega
  · have : u / y1 < 4294967298 := Int.ediv_lt_of_lt_mul (by omega) (by omega)
    omega
/-- the digits together -/
theorem join (N y p Ys u v1 v0 : Int) (hp : 0 < p) (hy : 0 < y) (hYs : Ys = y * p) (hU : N * p = (4294967296 * u + v1) * 4294967296 + v0) (Q1 Q0 R1 R0 : Int)
    (h1 : Q1 = (4294967296 * u + v1) / Ys) (e1 : R1 = 4294967296 * u + v1 - Q1 * Ys) (h0 : Q0 = (4294967296 * R1 + v0) / Ys) (e0 : R0 = 4294967296 * R1 + v0 - Q0 * Ys) :
    Q1 * 4294967296 + Q0 = N / y ∧ R0 / p = N % y := by
  have hYp : 0 < Ys := by rw [hYs]; exact Int.mul_pos hy hp
  obtain ⟨a, b⟩ := quot_bd (4294967296 * R1 + v0) Ys hYp
  rw [← h0] at a b
  have r0 : 0 ≤ R0 := by omega
  have r1 : R0 < Ys := by omega
  have tot : N * p = (Q1 * 4294967296 + Q0) * Ys + R0 := by
    rw [Int.add_mul, show Q1 * 4294967296 * Ys = 4294967296 * (Q1 * Ys) by rw [Int.mul_comm Q1, Int.mul_assoc]]
    omega
  generalize Q1 * 4294967296 + Q0 = Q at tot ⊢
  have e : (N - Q * y) * p = R0 := by rw [Int.sub_mul, Int.mul_assoc, ← hYs]; omega
  have d0 : R0 / p = N - Q * y := by rw [← e, Int.mul_ediv_cancel _ (by omega)]
  have k0 : 0 ≤ N - Q * y := by rw [← d0]; exact Int.ediv_nonneg r0 (by omega)
  have k1 : N - Q * y < y := by rw [← d0]; exact Int.ediv_lt_of_lt_mul hp (by rw [← hYs]; exact r1)
  have q : Q = N / y := by
    have f := Int.mul_ediv_add_emod N y
    refine Int.le_antisymm (Int.le_ediv_of_mul_le hy (by omega)) ?_
    have : N / y < Q + 1 := Int.ediv_lt_of_lt_mul hy (by rw [Int.add_mul, Int.one_mul]; omega)
    omega
  refine ⟨q, ?_⟩
  rw [d0, q]
  have f := Int.mul_ediv_add_emod N y
  rw [Int.mul_comm] at f
  omega
/-- a number shifted to the left, in two words -/
theorem shifted (lo p p' : Int) (hp : 0 < p) (hp' : 0 < p') (h : p * p' = 18446744073709551616) (h0 : 0 ≤ lo) (h1 : lo < 18446744073709551616) :
    0 ≤ lo / p' ∧ lo / p' < p ∧ lo * p = lo / p' * 18446744073709551616 + lo * p % 18446744073709551616 := by
  have m := Int.mul_ediv_add_emod lo p'
  have m0 := Int.emod_nonneg lo (show p' ≠ 0 by omega)
  have m1 := Int.emod_lt_of_pos lo hp'
  refine ⟨Int.ediv_nonneg h0 (by omega), Int.ediv_lt_of_lt_mul hp' (by omega), ?_⟩
  have e : lo * p = lo / p' * 18446744073709551616 + lo % p' * p := by
    rw [← h]
    have : lo * p = (p' * (lo / p') + lo % p') * p := by rw [m]
    rw [this, Int.add_mul, Int.mul_comm p' (lo / p'), Int.mul_assoc, Int.mul_comm p' p]
  have b : lo % p' * p < 18446744073709551616 := by
    have := Int.mul_le_mul_of_nonneg_right (show lo % p' ≤ p' - 1 by omega) (show 0 ≤ p by omega)
    rw [Int.sub_mul, Int.one_mul, Int.mul_comm p' p, h] at this
    omega
  have c : 0 ≤ lo % p' * p := Int.mul_nonneg m0 (by omega)
  have : lo * p % 18446744073709551616 = lo % p' * p := by omega
  omega
end Go.Proofs.Ythoigncoojcanaa.Div64
namespace Go.Proofs.Ythoigncoojcanaa.Pure
open Go.RowKit Go.Proofs.Ythoigncoojcanaa.PAll Go.Proofs.YthoigncoojcanaaW.PrintWords Go.Proofs.YthoigncoojcanaaW.PrintLast Go.Proofs.YthoigncoojcanaaW.PrintMore
set_option linter.unusedVariables false
set_option linter.unusedSimpArgs false

theorem uw {n : Int} (h : 0 ≤ n) (h' : n ≤ 18446744073709551615) : IntKind.u64.wrap n = n := by rw [IntKind.wrap_u64]; omega
theorem w64' {n : Int} (h : -9223372036854775808 ≤ n) (h' : n ≤ 9223372036854775807) : wrap64 n = n := by unfold wrap64; omega
theorem td' {a b : Int} (h : 0 ≤ a) : Int.tdiv a b = a / b := Int.tdiv_eq_ediv_of_nonneg h
theorem tm' {a b : Int} (h : 0 ≤ a) : Int.tmod a b = a % b := Int.tmod_eq_emod_of_nonneg h
open Div64 in
theorem div_l0 (n : Nat) : ∀ (k : Nat) (s e q r Y y1 y0 u d : Int), Inv Y y1 y0 u d q r → 4294967296 ≤ r + n * y1 →
    ∃ k', k ≤ k' ∧ bits_Div64.l0 (k + 2 * n) Y s y1 y0 u d e q r = bits_Div64.j2 k' Y s y1 y0 u d e ((4294967296 * u + d) / Y) := by
  induction n with
  | zero => intro k s e q r Y y1 y0 u d h hn; have := h.hr'; omega
  | succ n ih =>
    intro k s e q r Y y1 y0 u d h hn
    have hj : (bits_Div64.l0 (k + 2 * (n + 1)) Y s y1 y0 u d e q r) = bits_Div64.j1 (k + 2 * n + 1) Y s y1 y0 u d e q r (decide (4294967296 ≤ q ∨ 4294967296 * r + d < q * y0)) := by
      rw [show k + 2 * (n + 1) = (k + 2 * n + 1) + 1 by omega]
      simp only [bits_Div64.l0]
      by_cases hB : q ≥ 4294967296
      · rw [if_pos hB, decide_eq_true (show 4294967296 ≤ q ∨ _ from .inl hB)]
      · rw [if_neg hB]
        obtain ⟨a, b⟩ := h.small (by omega)
        have := h.hr; have := h.hr'; have := h.hd; have := h.hd'
        rw [uw (n := q * y0) (by omega) (by omega), uw (n := 4294967296 * r) (by omega) (by omega), uw (by omega) (by omega)]
        congr 1
        by_cases ht : q * y0 > 4294967296 * r + d
        · rw [decide_eq_true ht, decide_eq_true (show 4294967296 ≤ q ∨ 4294967296 * r + d < q * y0 by omega)]
        · rw [decide_eq_false ht, decide_eq_false (show ¬ (4294967296 ≤ q ∨ 4294967296 * r + d < q * y0) by omega)]
    rw [hj]
    by_cases ht : 4294967296 ≤ q ∨ 4294967296 * r + d < q * y0
    · rw [decide_eq_true ht]
      simp only [bits_Div64.j1, if_true]
      have hl := h.less ht
      have hQ := h.Q_lt
      have g1 := h.hr; have g2 := h.hr'; have g3 := h.hy1; have g4 := h.hy1'; have g5 := h.hq'
      rw [uw (n := r + y1) (by omega) (by omega), uw (n := q - 1) (by omega) (by omega)]
      by_cases hr2 : r + y1 ≥ 4294967296
      · rw [if_pos hr2, h.stop ht hr2]
        exact ⟨k + 2 * n, by omega, rfl⟩
      · rw [if_neg hr2]
        refine ih k s e (q - 1) (r + y1) Y y1 y0 u d (h.next ht (by omega)) ?_
        have : ((n + 1 : Nat) : Int) * y1 = n * y1 + y1 := by rw [Int.natCast_add]; simp [Int.add_mul]
        omega
    · rw [decide_eq_false ht]
      simp only [bits_Div64.j1, Bool.false_eq_true, if_false]
      have hd : q * y0 ≤ 4294967296 * r + d := by omega
      rw [← h.done hd]
      exact ⟨k + 2 * n, by omega, rfl⟩
open Div64 in
theorem div_l1 (n : Nat) : ∀ (k : Nat) (s x15 q r Y y1 y0 u d : Int), 0 ≤ s → Inv Y y1 y0 u d q r → 4294967296 ≤ r + n * y1 →
    bits_Div64.l1 (k + 2 * n) Y s y1 y0 d x15 r u q = some (IntKind.u64.wrap ((IntKind.u64.wrap (x15 * 4294967296)) + (4294967296 * u + d) / Y), shr .u64 (IntKind.u64.wrap ((IntKind.u64.wrap ((IntKind.u64.wrap (u * 4294967296)) + d)) - (IntKind.u64.wrap ((4294967296 * u + d) / Y * Y)))) s) := by
  induction n with
  | zero => intro k s e q r Y y1 y0 u d _ h hn; have := h.hr'; omega
  | succ n ih =>
    intro k s x15 q r Y y1 y0 u d hs h hn
    have hj : (bits_Div64.l1 (k + 2 * (n + 1)) Y s y1 y0 d x15 r u q) = bits_Div64.j4 (k + 2 * n + 1) Y s y1 y0 d x15 r u q (decide (4294967296 ≤ q ∨ 4294967296 * r + d < q * y0)) := by
      rw [show k + 2 * (n + 1) = (k + 2 * n + 1) + 1 by omega]
      simp only [bits_Div64.l1]
      by_cases hB : q ≥ 4294967296
      · rw [if_pos hB, decide_eq_true (show 4294967296 ≤ q ∨ _ from .inl hB)]
      · rw [if_neg hB]
        obtain ⟨a, b⟩ := h.small (by omega)
        have := h.hr; have := h.hr'; have := h.hd; have := h.hd'
        rw [uw (n := q * y0) (by omega) (by omega), uw (n := 4294967296 * r) (by omega) (by omega), uw (by omega) (by omega)]
        congr 1
        by_cases ht : q * y0 > 4294967296 * r + d
        · rw [decide_eq_true ht, decide_eq_true (show 4294967296 ≤ q ∨ 4294967296 * r + d < q * y0 by omega)]
        · rw [decide_eq_false ht, decide_eq_false (show ¬ (4294967296 ≤ q ∨ 4294967296 * r + d < q * y0) by omega)]
    rw [hj]
    by_cases ht : 4294967296 ≤ q ∨ 4294967296 * r + d < q * y0
    · rw [decide_eq_true ht]
      simp only [bits_Div64.j4, if_true]
      have hl := h.less ht
      have hQ := h.Q_lt
      have g1 := h.hr; have g2 := h.hr'; have g3 := h.hy1; have g4 := h.hy1'; have g5 := h.hq'
      rw [uw (n := r + y1) (by omega) (by omega), uw (n := q - 1) (by omega) (by omega)]
      by_cases hr2 : r + y1 ≥ 4294967296
      · rw [if_pos hr2, if_pos hs, h.stop ht hr2]
      · rw [if_neg hr2]
        refine ih k s x15 (q - 1) (r + y1) Y y1 y0 u d hs (h.next ht (by omega)) ?_
        have : ((n + 1 : Nat) : Int) * y1 = n * y1 + y1 := by rw [Int.natCast_add]; simp [Int.add_mul]
        omega
    · rw [decide_eq_false ht]
      simp only [bits_Div64.j4, Bool.false_eq_true, if_false]
      have hd : q * y0 ≤ 4294967296 * r + d := by omega
      rw [← h.done hd, if_pos hs]
theorem mask32 (x : Int) (h : 0 ≤ x) (h' : x < 18446744073709551616) : Go.bits .and .u64 x 4294967295 = x % 4294967296 := by
  have := bits_mask .u64 64 (by decide) (fun n a b => uw a (by omega)) 32 (by omega) x h (by omega)
  simpa using this
theorem lz_law (y : Int) (h : 0 < y) (h' : y ≤ 18446744073709551615) : ∃ s : Nat, s ≤ 63 ∧ bits_LeadingZeros64.f y = some (s : Int) ∧ 9223372036854775808 ≤ y * ((2 ^ s : Nat) : Int) ∧ y * ((2 ^ s : Nat) : Int) < 18446744073709551616 := by
  obtain ⟨x, rfl⟩ := Int.eq_ofNat_of_zero_le (show 0 ≤ y by omega)
  have b := Lib.bitLenAux_bounds 64 x (by omega) (by omega)
  have hb : Lib.bitLen x = Lib.bitLenAux 64 x := rfl
  rw [← hb] at b
  have hl := Lib.bitLen_le x 64 (by omega) (by omega)
  obtain ⟨b0, b1, b2⟩ := b
  refine ⟨64 - Lib.bitLen x, by omega, ?_, ?_, ?_⟩
  · unfold bits_LeadingZeros64.f
    rw [if_pos ⟨by omega, by omega⟩]
    simp; omega
  · have e : 2 ^ (Lib.bitLen x - 1) * 2 ^ (64 - Lib.bitLen x) = 9223372036854775808 := by rw [← Nat.pow_add, show Lib.bitLen x - 1 + (64 - Lib.bitLen x) = 63 by omega]
    have := Nat.mul_le_mul_right (2 ^ (64 - Lib.bitLen x)) b1
    have g : 9223372036854775808 ≤ x * 2 ^ (64 - Lib.bitLen x) := by omega
    rw [← Int.natCast_mul]; omega
  · have e : 2 ^ Lib.bitLen x * 2 ^ (64 - Lib.bitLen x) = 18446744073709551616 := by rw [← Nat.pow_add, show Lib.bitLen x + (64 - Lib.bitLen x) = 64 by omega]
    have := Nat.mul_lt_mul_of_pos_right b2 (Nat.two_pow_pos (64 - Lib.bitLen x))
    have g : x * 2 ^ (64 - Lib.bitLen x) < 18446744073709551616 := by omega
    rw [← Int.natCast_mul]; omega
open Div64 in
theorem div64_law (k : Nat) (hi lo y : Int) (hy : 0 < y) (hy' : y ≤ 18446744073709551615) (h0 : 0 ≤ hi) (h1 : hi < y) (l0 : 0 ≤ lo) (l1 : lo ≤ 18446744073709551615) :
    bits_Div64.f (k + 20) hi lo y = some ((hi * 18446744073709551616 + lo) / y, (hi * 18446744073709551616 + lo) % y) := by
  unfold bits_Div64.f
  rw [if_neg (by omega), if_neg (by omega)]
  by_cases hz : hi = 0
  · subst hz
    rw [if_pos rfl, td' l0, tm' l0]
    have := Int.ediv_le_self y l0
    have := Int.ediv_nonneg l0 (show 0 ≤ y by omega)
    rw [uw (by omega) (by omega)]; simp
  · rw [if_neg hz]
    obtain ⟨s, hs, es, p0, p1⟩ := lz_law y hy hy'
    rw [es]
    simp only [Option.bind_some]
    rw [uw (n := (s : Int)) (by omega) (by omega), uw (n := 64 - (s : Int)) (by omega) (by omega), if_pos (by omega), if_pos (by omega)]
    have hp : 0 < ((2 ^ s : Nat) : Int) := by exact_mod_cast Nat.two_pow_pos s
    have hp' : 0 < ((2 ^ (64 - s) : Nat) : Int) := by exact_mod_cast Nat.two_pow_pos (64 - s)
    have hpp : ((2 ^ s : Nat) : Int) * ((2 ^ (64 - s) : Nat) : Int) = 18446744073709551616 := by
      have : 2 ^ s * 2 ^ (64 - s) = 18446744073709551616 := by rw [← Nat.pow_add, show s + (64 - s) = 64 by omega]
      rw [← Int.natCast_mul, this]; rfl
    have eshl : ∀ x : Int, shl .u64 x (s : Int) = x * ((2 ^ s : Nat) : Int) % 18446744073709551616 := by
      intro x; unfold shl; rw [IntKind.wrap_u64]
      rw [show min ((s : Int).toNat) IntKind.u64.bits = s by simp [IntKind.bits]; omega]; rw [Int.natCast_pow]; try rfl
    have eshr : ∀ x : Int, shr .u64 x (64 - (s : Int)) = x / ((2 ^ (64 - s) : Nat) : Int) := by
      intro x; unfold shr
      rw [show min ((64 - (s : Int)).toNat) IntKind.u64.bits = 64 - s by simp [IntKind.bits] <;> omega]; try simp
    have eshr' : ∀ x : Int, shr .u64 x (s : Int) = x / ((2 ^ s : Nat) : Int) := by
      intro x; unfold shr
      rw [show min ((s : Int).toNat) IntKind.u64.bits = s by simp [IntKind.bits]; omega]; simp
    have hor : Go.bits .or .u64 (hi * ((2 ^ s : Nat) : Int)) (lo / ((2 ^ (64 - s) : Nat) : Int)) = hi * ((2 ^ s : Nat) : Int) + lo / ((2 ^ (64 - s) : Nat) : Int) := by
      obtain ⟨sa, sb, sc⟩ := shifted lo _ _ hp hp' hpp l0 (by omega)
      have hh : hi * ((2 ^ s : Nat) : Int) ≤ y * ((2 ^ s : Nat) : Int) := Int.mul_le_mul_of_nonneg_right (by omega) (by omega)
      have hh0 : 0 ≤ hi * ((2 ^ s : Nat) : Int) := Int.mul_nonneg h0 (by omega)
      have hs2 : ((2 ^ s : Nat) : Int) < 18446744073709551616 := by
        have : 2 ^ s ≤ 2 ^ 63 := Nat.pow_le_pow_right (by omega) hs
        omega
      have hc : ((2 ^ s : Nat) : Int) = (2 : Int) ^ s := by simp
      refine bits_join .u64 64 (by decide) (fun n a b => uw a (by omega)) s _ _ hh0 ?_ (by omega) sa (by rw [← hc]; exact sb) (by omega)
      rw [← hc]; exact Int.mul_emod_left _ _
    generalize ((2 ^ s : Nat) : Int) = p at *
    generalize ((2 ^ (64 - s) : Nat) : Int) = p' at *
    obtain ⟨sa, sb, sc⟩ := shifted lo _ _ hp hp' hpp l0 (by omega)
    have hh : (hi + 1) * p ≤ y * p := Int.mul_le_mul_of_nonneg_right (by omega) (by omega)
    rw [Int.add_mul, Int.one_mul] at hh
    have hh0 : 0 ≤ hi * p := Int.mul_nonneg h0 (by omega)
    simp only [eshl, eshr]
    rw [Int.emod_eq_of_lt (show 0 ≤ y * p by omega) p1, Int.emod_eq_of_lt hh0 (by omega), hor]
    generalize hv : lo * p % 18446744073709551616 = v at *
    have hv0 : 0 ≤ v ∧ v < 18446744073709551616 := by omega
    generalize hYs : y * p = Ys at *
    generalize hu : hi * p + lo / p' = u at *
    have hu0 : 0 ≤ u := by omega
    have hu1 : u < Ys := by omega
    rw [mask32 Ys (by omega) p1, mask32 v hv0.1 hv0.2]
    rw [if_neg (by omega), td' hu0]
    have I0 := Inv.start (Y := Ys) (y1 := Ys / 4294967296) (y0 := Ys % 4294967296) (u := u) (d := v / 4294967296) (by omega) (by omega) (by omega) (by omega) (by omega) hu0 hu1 (by omega) (by omega)
    have hq0 : 0 ≤ u / (Ys / 4294967296) := Int.ediv_nonneg hu0 (by omega)
    have hq1 := I0.hq'
    have hm := Int.mul_ediv_add_emod u (Ys / 4294967296)
    have hm0 := I0.hr
    rw [Int.mul_comm] at hm
    rw [uw (n := u / (Ys / 4294967296)) hq0 (by omega), uw (n := u / (Ys / 4294967296) * (Ys / 4294967296)) (by have := Int.mul_nonneg hq0 (show 0 ≤ Ys / 4294967296 by omega); omega) (by omega)]
    rw [show u - u / (Ys / 4294967296) * (Ys / 4294967296) = u % (Ys / 4294967296) by omega, uw (by omega) (by have := I0.hr'; omega)]
    obtain ⟨k', hk', e0⟩ := div_l0 3 (k + 14) (s : Int) (v % 4294967296) _ _ _ _ _ _ _ I0 (by have := I0.hr; have : ((3 : Nat) : Int) * (Ys / 4294967296) = 3 * (Ys / 4294967296) := rfl; omega)
    rw [show k + 20 = k + 14 + 2 * 3 by omega, e0]
    obtain ⟨k2, rfl⟩ : ∃ m, k' = m + 1 := ⟨k' - 1, by omega⟩
    obtain ⟨qa, qb⟩ := quot_bd (4294967296 * u + v / 4294967296) Ys (by omega)
    have hQ := I0.Q_lt
    generalize hQ1 : (4294967296 * u + v / 4294967296) / Ys = Q1 at *
    simp only [bits_Div64.j2]
    have hQY : 0 ≤ Q1 * Ys := Int.mul_nonneg hQ.1 (by omega)
    have hR : IntKind.u64.wrap (IntKind.u64.wrap (IntKind.u64.wrap (u * 4294967296) + v / 4294967296) - IntKind.u64.wrap (Q1 * Ys)) = 4294967296 * u + v / 4294967296 - Q1 * Ys := by
      simp only [IntKind.wrap_u64]; omega
    rw [if_neg (by omega), hR]
    generalize hR1 : 4294967296 * u + v / 4294967296 - Q1 * Ys = R1 at *
    have r0 : 0 ≤ R1 := by omega
    have r1 : R1 < Ys := by omega
    have I1 := Inv.start (Y := Ys) (y1 := Ys / 4294967296) (y0 := Ys % 4294967296) (u := R1) (d := v % 4294967296) (by omega) (by omega) (by omega) (by omega) (by omega) r0 r1 (by omega) (by omega)
    have gq0 : 0 ≤ R1 / (Ys / 4294967296) := Int.ediv_nonneg r0 (by omega)
    have gq1 := I1.hq'
    have gm := Int.mul_ediv_add_emod R1 (Ys / 4294967296)
    have gm0 := I1.hr
    rw [Int.mul_comm] at gm
    rw [td' r0, uw (n := R1 / (Ys / 4294967296)) gq0 (by omega), uw (n := R1 / (Ys / 4294967296) * (Ys / 4294967296)) (by have := Int.mul_nonneg gq0 (show 0 ≤ Ys / 4294967296 by omega); omega) (by omega)]
    rw [show R1 - R1 / (Ys / 4294967296) * (Ys / 4294967296) = R1 % (Ys / 4294967296) by omega, uw (by omega) (by have := I1.hr'; omega)]
    rw [show k2 = (k2 - 6) + 2 * 3 by omega, div_l1 3 (k2 - 6) (s : Int) Q1 _ _ _ _ _ _ _ (by omega) I1 (by have := I1.hr; have : ((3 : Nat) : Int) * (Ys / 4294967296) = 3 * (Ys / 4294967296) := rfl; omega)]
    have hQ0 := I1.Q_lt
    obtain ⟨ta, tb⟩ := quot_bd (4294967296 * R1 + v % 4294967296) Ys (by omega)
    generalize hQ00 : (4294967296 * R1 + v % 4294967296) / Ys = Q0 at *
    have hQ0Y : 0 ≤ Q0 * Ys := Int.mul_nonneg hQ0.1 (by omega)
    rw [eshr']
    have hT : IntKind.u64.wrap (IntKind.u64.wrap (IntKind.u64.wrap (R1 * 4294967296) + v % 4294967296) - IntKind.u64.wrap (Q0 * Ys)) = 4294967296 * R1 + v % 4294967296 - Q0 * Ys := by
      simp only [IntKind.wrap_u64]; omega
    rw [hT, uw (n := Q1 * 4294967296) (by omega) (by omega), uw (by omega) (by omega)]
    have U : (hi * 18446744073709551616 + lo) * p = (4294967296 * u + v / 4294967296) * 4294967296 + v % 4294967296 := by
      rw [Int.add_mul, sc, show hi * 18446744073709551616 * p = 18446744073709551616 * (hi * p) by rw [Int.mul_comm hi, Int.mul_assoc]]
      omega
    obtain ⟨j1, j2⟩ := join (hi * 18446744073709551616 + lo) y p Ys u (v / 4294967296) (v % 4294967296) hp hy hYs.symm U Q1 Q0 R1 _ hQ1.symm hR1.symm hQ00.symm rfl
    rw [j1, j2]
end Go.Proofs.Ythoigncoojcanaa.Pure
namespace Go.Proofs.Ythoigncoojcanaa.Pure
open Go.RowKit Go.Proofs.Ythoigncoojcanaa.PAll Go.Proofs.YthoigncoojcanaaW.PrintWords Go.Proofs.YthoigncoojcanaaW.PrintLast Go.Proofs.YthoigncoojcanaaW.PrintMore
set_option linter.unusedVariables false
set_option linter.unusedSimpArgs false
def IW (n : Int) : Prop := -9223372036854775808 ≤ n ∧ n ≤ 9223372036854775807
theorem iw_of {n : Int} (h : (Lit.int .i64 n).wf = true) : IW n := by
  simp [Lit.wf, IntKind.min, IntKind.max, IntKind.signed, IntKind.bits] at h
  unfold IW; omega
theorem prod_bd (a b : Int) (ha : 0 ≤ a) (ha' : a ≤ 9223372036854775807) (hb : 0 ≤ b) (hb' : b ≤ 9223372036854775807) : 0 ≤ a * b ∧ a * b ≤ 9223372036854775807 * 9223372036854775807 :=
  ⟨Int.mul_nonneg ha hb, Int.mul_le_mul ha' hb' hb (by omega)⟩
theorem or63 (x y : Int) (h0 : 0 ≤ x) (h1 : x < 9223372036854775808) (h2 : 0 ≤ y) (h3 : y < 2) : Go.bits .or .u64 (x * 2) y = x * 2 + y :=
  bits_join .u64 64 (by decide) (fun n a b => uw a (by omega)) 1 (x * 2) y (by omega) (by omega) (by omega) h2 (by omega) (by omega)
theorem andNot63 (l : Int) (h0 : 0 ≤ l) (h1 : l < 18446744073709551616) : Go.bits .andNot .u64 l 9223372036854775808 = l % 9223372036854775808 := by
  rw [u64_andNot l _ h0 h1 (by omega) (by omega)]
  have : (18446744073709551615 - (9223372036854775808 : Int).toNat) = 2 ^ 63 - 1 := by decide
  rw [this, Nat.and_two_pow_sub_one_eq_mod]
  omega
theorem mul_law (a b : Int) (ha : IW a) (hb : IW b) : wide_Mul.f a b = some (if 0 ≤ a ∧ 0 ≤ b then (a * b / 9223372036854775808, a * b % 9223372036854775808, true) else (0, 0, false)) := by
  unfold IW at ha hb
  unfold wide_Mul.f
  by_cases h1 : a < 0
  · rw [if_pos h1, if_neg (by omega)]
  · by_cases h2 : b < 0
    · rw [if_neg h1, if_pos h2, if_neg (by omega)]
    · rw [if_neg h1, if_neg h2, if_pos ⟨by omega, by omega⟩, uw (n := a) (by omega) (by omega), uw (n := b) (by omega) (by omega)]
      unfold bits_Mul64.f
      rw [if_pos ⟨by omega, by omega, by omega, by omega⟩]
      simp only [Option.bind_some]
      obtain ⟨p0, p1⟩ := prod_bd a b (by omega) ha.2 (by omega) hb.2
      generalize a * b = p at *
      rw [uw (by omega) (by omega), or63 _ _ (by omega) (by omega) (by omega) (by omega), andNot63 _ (by omega) (by omega)]
      rw [w64' (by omega) (by omega), w64' (by omega) (by omega)]
      congr 2
      · omega
      · congr 1; omega
def MD (a b c : Int) : Int × Int × Bool := if 0 ≤ a ∧ 0 ≤ b ∧ 1 ≤ c ∧ a * b / c ≤ 9223372036854775807 then (a * b / c, a * b % c, true) else (0, 0, false)
theorem muldiv_law (k : Nat) (a b c : Int) (ha : IW a) (hb : IW b) (hc : IW c) : wide_MulDiv.f (k + 21) a b c = some (MD a b c) := by
  unfold IW at ha hb hc
  unfold wide_MulDiv.f MD
  have hj : wide_MulDiv.j0 (k + 21) a b c true = some (0, 0, false) := by simp [wide_MulDiv.j0]
  by_cases h1 : a < 0
  · rw [if_pos h1, hj, if_neg (by omega)]
  · rw [if_neg h1]
    by_cases h2 : b < 0
    · rw [if_pos h2, hj, if_neg (by omega)]
    · rw [if_neg h2]
      by_cases h3 : c < 1
      · rw [decide_eq_true h3, hj, if_neg (by omega)]
      · rw [decide_eq_false h3]
        simp only [wide_MulDiv.j0]
        rw [if_neg (by decide), uw (n := a) (by omega) (by omega), uw (n := b) (by omega) (by omega), uw (n := c) (by omega) (by omega)]
        unfold bits_Mul64.f
        rw [if_pos ⟨by omega, by omega, by omega, by omega⟩]
        simp only [Option.bind_some]
        obtain ⟨p0, p1⟩ := prod_bd a b (by omega) ha.2 (by omega) hb.2
        generalize a * b = p at *
        obtain ⟨q0, q1⟩ := Div64.quot_bd p c (by omega)
        have m0 := Int.emod_nonneg p (show c ≠ 0 by omega)
        have m1 := Int.emod_lt_of_pos p (show 0 < c by omega)
        by_cases h4 : p / 18446744073709551616 ≥ c
        · rw [if_pos h4, if_neg]
          rintro ⟨_, _, _, h5⟩
          have := Int.mul_le_mul_of_nonneg_right h5 (show 0 ≤ c by omega)
          omega
        · rw [if_neg h4, show k + 20 = k + 20 from rfl, div64_law k _ _ c (by omega) (by omega) (by omega) (by omega) (by omega) (by omega)]
          simp only [Option.bind_some]
          rw [show p / 18446744073709551616 * 18446744073709551616 + p % 18446744073709551616 = p by omega]
          by_cases h5 : p / c > 9223372036854775807
          · rw [if_pos h5, if_neg (by omega)]
          · have := Int.ediv_nonneg p0 (show 0 ≤ c by omega)
            rw [if_neg h5, if_pos ⟨by omega, by omega, by omega, by omega⟩, w64' (by omega) (by omega), w64' (by omega) (by omega)]
theorem MD_bd (a b c : Int) (hc : IW c) : 0 ≤ (MD a b c).1 ∧ (MD a b c).1 ≤ 9223372036854775807 ∧ 0 ≤ (MD a b c).2.1 ∧ (MD a b c).2.1 ≤ 9223372036854775807 := by
  unfold IW at hc
  unfold MD
  split
  · rename_i h
    have m0 := Int.emod_nonneg (a * b) (show c ≠ 0 by omega)
    have m1 := Int.emod_lt_of_pos (a * b) (show 0 < c by omega)
    have := Int.ediv_nonneg (Int.mul_nonneg h.1 h.2.1) (show 0 ≤ c by omega)
    refine ⟨this, h.2.2.2, m0, ?_⟩
    simp only; omega
  · simp
def UP (a b c : Int) : Int × Bool := if (MD a b c).2.2 = true ∧ ¬ ((MD a b c).2.1 > 0 ∧ (MD a b c).1 = 9223372036854775807) then ((MD a b c).1 + (if (MD a b c).2.1 > 0 then 1 else 0), true) else (0, false)
theorem up_law (k : Nat) (a b c : Int) (ha : IW a) (hb : IW b) (hc : IW c) : wide_Up.f (k + 21) a b c = some (UP a b c) := by
  unfold wide_Up.f UP
  rw [muldiv_law k a b c ha hb hc]
  have B := MD_bd a b c hc
  generalize MD a b c = m at *
  obtain ⟨q, r, ok⟩ := m
  simp only at B
  simp only [Option.bind_some]
  cases ok with
  | false => simp [wide_Up.j0]
  | true =>
    by_cases hr : r > 0
    · by_cases hq : q = 9223372036854775807
      · subst hq; simp [hr, wide_Up.j0]
      · have : ¬ (r > 0 ∧ q = 9223372036854775807) := fun h => hq h.2
        simp [hr, hq, wide_Up.j0, w64' (n := q + 1) (by omega) (by omega)]
    · simp [hr, wide_Up.j0]
theorem less_law (a b c d : Int) (ha : IW a) (hb : IW b) (hc : IW c) (hd : IW d) : wide_Less.f a b c d = some (decide (0 ≤ a ∧ 0 ≤ b ∧ 0 ≤ c ∧ 0 ≤ d ∧ a * b < c * d)) := by
  unfold wide_Less.f
  rw [mul_law a b ha hb, mul_law c d hc hd]
  simp only [Option.bind_some]
  by_cases h1 : 0 ≤ a ∧ 0 ≤ b
  · by_cases h2 : 0 ≤ c ∧ 0 ≤ d
    · rw [if_pos h1, if_pos h2]
      simp only [if_true]
      generalize a * b = p
      generalize c * d = q
      by_cases h3 : p / 9223372036854775808 < q / 9223372036854775808
      · rw [if_pos h3]; congr 1; symm; rw [decide_eq_true_eq]; omega
      · rw [if_neg h3]
        by_cases h4 : p / 9223372036854775808 = q / 9223372036854775808
        · rw [if_pos h4]; congr 1; rw [decide_eq_decide]; omega
        · rw [if_neg h4]; congr 1; symm; rw [decide_eq_false_iff_not]; omega
    · rw [if_pos h1, if_neg h2]
      simp; omega
  · rw [if_neg h1]
    simp; omega
end Go.Proofs.Ythoigncoojcanaa.Pure
