/- The long division of 128 bits by 64, as the library does it, in plain numbers: no program in sight. -/
namespace Go.Proofs.Ytgdaohdllipgpaa.Div64
set_option linter.unusedVariables false
theorem mul_split (q y1 y0 : Int) : q * (y1 * 4294967296 + y0) = 4294967296 * (q * y1) + q * y0 := by
  rw [Int.mul_add, ← Int.mul_assoc, Int.mul_comm (q * y1)]
theorem quot_bd (N Y : Int) (h : 0 < Y) : N / Y * Y ≤ N ∧ N < N / Y * Y + Y := by
  have a := Int.ediv_mul_le N (show Y ≠ 0 by omega)
  have b := Int.lt_ediv_add_one_mul_self N h
  rw [Int.add_mul, Int.one_mul] at b
  exact ⟨a, b⟩
/-- what the loop knows -/
structure Inv (Y y1 y0 u d q r : Int) : Prop where
  hy1 : 2147483648 ≤ y1
  hy1' : y1 < 4294967296
  hy0 : 0 ≤ y0
  hy0' : y0 < 4294967296
  hY : Y = y1 * 4294967296 + y0
  hu : 0 ≤ u
  hu' : u < Y
  hd : 0 ≤ d
  hd' : d < 4294967296
  hq : q * y1 + r = u
  hr : 0 ≤ r
  hr' : r < 4294967296
  hQ : (4294967296 * u + d) / Y ≤ q
  hq' : q ≤ 4294967297
theorem Inv.Q_lt {Y y1 y0 u d q r : Int} (h : Inv Y y1 y0 u d q r) : 0 ≤ (4294967296 * u + d) / Y ∧ (4294967296 * u + d) / Y < 4294967296 := by
  obtain ⟨hy1, hy1', hy0, hy0', hY, hu, hu', hd, hd', hq, hr, hr', hQ, hq'⟩ := h
  constructor
  · exact Int.ediv_nonneg (by omega) (by omega)
  · exact Int.ediv_lt_of_lt_mul (by omega) (by omega)
theorem Inv.small {Y y1 y0 u d q r : Int} (h : Inv Y y1 y0 u d q r) (hB : q < 4294967296) : 0 ≤ q * y0 ∧ q * y0 < 18446744073709551616 := by
  have hQ := h.Q_lt
  obtain ⟨hy1, hy1', hy0, hy0', hY, hu, hu', hd, hd', hq, hr, hr', hQ', hq'⟩ := h
  have a : 0 ≤ q * y0 := Int.mul_nonneg (by omega) hy0
  have b : q * y0 ≤ 4294967295 * 4294967295 := Int.mul_le_mul (by omega) (by omega) hy0 (by omega)
  omega
/-- the guess is too great: one less -/
theorem Inv.less {Y y1 y0 u d q r : Int} (h : Inv Y y1 y0 u d q r) (ht : 4294967296 ≤ q ∨ 4294967296 * r + d < q * y0) : (4294967296 * u + d) / Y ≤ q - 1 := by
  have hQ := h.Q_lt
  obtain ⟨hy1, hy1', hy0, hy0', hY, hu, hu', hd, hd', hq, hr, hr', hQ', hq'⟩ := h
  by_cases hB : 4294967296 ≤ q
  · omega
  · have ht : 4294967296 * r + d < q * y0 := by omega
    obtain ⟨a, b⟩ := quot_bd (4294967296 * u + d) Y (by omega)
    have e := mul_split q y1 y0
    rw [← hY] at e
    by_cases hc : q ≤ (4294967296 * u + d) / Y
    · have := Int.mul_le_mul_of_nonneg_right hc (show 0 ≤ Y by omega)
      omega
    · omega
theorem Inv.next {Y y1 y0 u d q r : Int} (h : Inv Y y1 y0 u d q r) (ht : 4294967296 ≤ q ∨ 4294967296 * r + d < q * y0) (hr2 : r + y1 < 4294967296) : Inv Y y1 y0 u d (q - 1) (r + y1) := by
  have hl := h.less ht
  obtain ⟨hy1, hy1', hy0, hy0', hY, hu, hu', hd, hd', hq, hr, hr', hQ', hq'⟩ := h
  refine ⟨hy1, hy1', hy0, hy0', hY, hu, hu', hd, hd', ?_, by omega, hr2, hl, by omega⟩
  rw [Int.sub_mul]; omega
theorem Inv.stop {Y y1 y0 u d q r : Int} (h : Inv Y y1 y0 u d q r) (ht : 4294967296 ≤ q ∨ 4294967296 * r + d < q * y0) (hr2 : 4294967296 ≤ r + y1) : q - 1 = (4294967296 * u + d) / Y := by
  have hl := h.less ht
  have hQ := h.Q_lt
  obtain ⟨hy1, hy1', hy0, hy0', hY, hu, hu', hd, hd', hq, hr, hr', hQ', hq'⟩ := h
  have e := mul_split (q - 1) y1 y0
  rw [← hY] at e
  have e1 : (q - 1) * y1 = u - (r + y1) := by rw [Int.sub_mul]; omega
  have b : (q - 1) * y0 ≤ 4294967296 * 4294967295 := Int.mul_le_mul (by omega) (by omega) hy0 (by omega)
  have : q - 1 ≤ (4294967296 * u + d) / Y := Int.le_ediv_of_mul_le (by omega) (by omega)
  omega
theorem Inv.done {Y y1 y0 u d q r : Int} (h : Inv Y y1 y0 u d q r) (ht : q * y0 ≤ 4294967296 * r + d) : q = (4294967296 * u + d) / Y := by
  obtain ⟨hy1, hy1', hy0, hy0', hY, hu, hu', hd, hd', hq, hr, hr', hQ', hq'⟩ := h
  have e := mul_split q y1 y0
  rw [← hY] at e
  have : q ≤ (4294967296 * u + d) / Y := Int.le_ediv_of_mul_le (by omega) (by omega)
  omega
/-- the first guess -/
theorem Inv.start {Y y1 y0 u d : Int} (hy1 : 2147483648 ≤ y1) (hy1' : y1 < 4294967296) (hy0 : 0 ≤ y0) (hy0' : y0 < 4294967296) (hY : Y = y1 * 4294967296 + y0) (hu : 0 ≤ u) (hu' : u < Y) (hd : 0 ≤ d) (hd' : d < 4294967296) : Inv Y y1 y0 u d (u / y1) (u % y1) := by
  obtain ⟨a, b⟩ := quot_bd u y1 (by omega)
  have m := Int.mul_ediv_add_emod u y1
  rw [Int.mul_comm] at m
  have m0 := Int.emod_nonneg u (show y1 ≠ 0 by omega)
  have m1 := Int.emod_lt_of_pos u (show 0 < y1 by omega)
  refine ⟨hy1, hy1', hy0, hy0', hY, hu, hu', hd, hd', m, m0, by omega, ?_, ?_⟩
  · have h2 : (4294967296 * u + d) / Y < u / y1 + 1 := by
      refine Int.ediv_lt_of_lt_mul (by omega) ?_
      have e := mul_split (u / y1 + 1) y1 y0
      rw [← hY] at e
      have : (u / y1 + 1) * y1 = u / y1 * y1 + y1 := by rw [Int.add_mul, Int.one_mul]
      have : 0 ≤ (u / y1 + 1) * y0 := Int.mul_nonneg (by have := Int.ediv_nonneg hu (show 0 ≤ y1 by omega); omega) hy0
      omega
    omega
  · have : u / y1 < 4294967298 := Int.ediv_lt_of_lt_mul (by omega) (by omega)
    omega
/-- the digits together -/
theorem join (N y p Ys u v1 v0 : Int) (hp : 0 < p) (hy : 0 < y) (hYs : Ys = y * p) (hU : N * p = (4294967296 * u + v1) * 4294967296 + v0) (Q1 Q0 R1 R0 : Int)
    (h1 : Q1 = (4294967296 * u + v1) / Ys) (e1 : R1 = 4294967296 * u + v1 - Q1 * Ys) (h0 : Q0 = (4294967296 * R1 + v0) / Ys) (e0 : R0 = 4294967296 * R1 + v0 - Q0 * Ys) :
    Q1 * 4294967296 + Q0 = N / y ∧ R0 / p = N % y := by
  have hYp : 0 < Ys := by rw [hYs]; exact Int.mul_pos hy hp
  obtain ⟨a, b⟩ := quot_bd (4294967296 * R1 + v0) Ys hYp
  rw [← h0] at a b
  have r0 : 0 ≤ R0 := by omega
  have r1 : R0 < Ys := by omega
  have tot : N * p = (Q1 * 4294967296 + Q0) * Ys + R0 := by
    rw [Int.add_mul, show Q1 * 4294967296 * Ys = 4294967296 * (Q1 * Ys) by rw [Int.mul_comm Q1, Int.mul_assoc]]
    omega
  generalize Q1 * 4294967296 + Q0 = Q at tot ⊢
  have e : (N - Q * y) * p = R0 := by rw [Int.sub_mul, Int.mul_assoc, ← hYs]; omega
  have d0 : R0 / p = N - Q * y := by rw [← e, Int.mul_ediv_cancel _ (by omega)]
  have k0 : 0 ≤ N - Q * y := by rw [← d0]; exact Int.ediv_nonneg r0 (by omega)
  have k1 : N - Q * y < y := by rw [← d0]; exact Int.ediv_lt_of_lt_mul hp (by rw [← hYs]; exact r1)
  have q : Q = N / y := by
    have f := Int.mul_ediv_add_emod N y
    refine Int.le_antisymm (Int.le_ediv_of_mul_le hy (by omega)) ?_
    have : N / y < Q + 1 := Int.ediv_lt_of_lt_mul hy (by rw [Int.add_mul, Int.one_mul]; omega)
    omega
  refine ⟨q, ?_⟩
  rw [d0, q]
  have f := Int.mul_ediv_add_emod N y
  rw [Int.mul_comm] at f
  omega
/-- a number shifted to the left, in two words -/
theorem shifted (lo p p' : Int) (hp : 0 < p) (hp' : 0 < p') (h : p * p' = 18446744073709551616) (h0 : 0 ≤ lo) (h1 : lo < 18446744073709551616) :
    0 ≤ lo / p' ∧ lo / p' < p ∧ lo * p = lo / p' * 18446744073709551616 + lo * p % 18446744073709551616 := by
  have m := Int.mul_ediv_add_emod lo p'
  have m0 := Int.emod_nonneg lo (show p' ≠ 0 by omega)
  have m1 := Int.emod_lt_of_pos lo hp'
  refine ⟨Int.ediv_nonneg h0 (by omega), Int.ediv_lt_of_lt_mul hp' (by omega), ?_⟩
  have e : lo * p = lo / p' * 18446744073709551616 + lo % p' * p := by
    rw [← h]
    have : lo * p = (p' * (lo / p') + lo % p') * p := by rw [m]
    rw [this, Int.add_mul, Int.mul_comm p' (lo / p'), Int.mul_assoc, Int.mul_comm p' p]
  have b : lo % p' * p < 18446744073709551616 := by
    have := Int.mul_le_mul_of_nonneg_right (show lo % p' ≤ p' - 1 by omega) (show 0 ≤ p by omega)
    rw [Int.sub_mul, Int.one_mul, Int.mul_comm p' p, h] at this
    omega
  have c : 0 ≤ lo % p' * p := Int.mul_nonneg m0 (by omega)
  have : lo * p % 18446744073709551616 = lo % p' * p := by omega
  omega
end Go.Proofs.Ytgdaohdllipgpaa.Div64
