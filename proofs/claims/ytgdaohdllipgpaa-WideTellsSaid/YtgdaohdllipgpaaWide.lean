/- What the printed functions of the package wide, and of the library's long division, tell. -/
import Derived.Test.YtgdaohdllipgpaaDiv64
import Derived.Laws.Bits64
import Derived.Laws.BitsLemmas
import Derived.Laws.BitsAllLaws
import Derived.Lib.ItoaNum
import Derived.Test.YtgdaohdllipgpaaPAllx1
namespace Go.Proofs.Ytgdaohdllipgpaa.Pure
open Go.RowKit Go.Proofs.Ytgdaohdllipgpaa.PAll Go.Proofs.YtgdaohdllipgpaaW.PrintWords Go.Proofs.YtgdaohdllipgpaaW.PrintLast Go.Proofs.YtgdaohdllipgpaaW.PrintMore
set_option linter.unusedVariables false
set_option linter.unusedSimpArgs false

theorem uw {n : Int} (h : 0 ≤ n) (h' : n ≤ 18446744073709551615) : IntKind.u64.wrap n = n := by rw [IntKind.wrap_u64]; omega
theorem w64' {n : Int} (h : -9223372036854775808 ≤ n) (h' : n ≤ 9223372036854775807) : wrap64 n = n := by unfold wrap64; omega
theorem td' {a b : Int} (h : 0 ≤ a) : Int.tdiv a b = a / b := Int.tdiv_eq_ediv_of_nonneg h
theorem tm' {a b : Int} (h : 0 ≤ a) : Int.tmod a b = a % b := Int.tmod_eq_emod_of_nonneg h
open Div64 in
theorem div_l0 (n : Nat) : ∀ (k : Nat) (s e q r Y y1 y0 u d : Int), Inv Y y1 y0 u d q r → 4294967296 ≤ r + n * y1 →
    ∃ k', k ≤ k' ∧ bits_Div64.l0 (k + 2 * n) Y s y1 y0 u d e q r = bits_Div64.j2 k' Y s y1 y0 u d e ((4294967296 * u + d) / Y) := by
  induction n with
  | zero => intro k s e q r Y y1 y0 u d h hn; have := h.hr'; omega
  | succ n ih =>
    intro k s e q r Y y1 y0 u d h hn
    have hj : (bits_Div64.l0 (k + 2 * (n + 1)) Y s y1 y0 u d e q r) = bits_Div64.j1 (k + 2 * n + 1) Y s y1 y0 u d e q r (decide (4294967296 ≤ q ∨ 4294967296 * r + d < q * y0)) := by
      rw [show k + 2 * (n + 1) = (k + 2 * n + 1) + 1 by omega]
      simp only [bits_Div64.l0]
      by_cases hB : q ≥ 4294967296
      · rw [if_pos hB, decide_eq_true (show 4294967296 ≤ q ∨ _ from .inl hB)]
      · rw [if_neg hB]
        obtain ⟨a, b⟩ := h.small (by omega)
        have := h.hr; have := h.hr'; have := h.hd; have := h.hd'
        rw [uw (n := q * y0) (by omega) (by omega), uw (n := 4294967296 * r) (by omega) (by omega), uw (by omega) (by omega)]
        congr 1
        by_cases ht : q * y0 > 4294967296 * r + d
        · rw [decide_eq_true ht, decide_eq_true (show 4294967296 ≤ q ∨ 4294967296 * r + d < q * y0 by omega)]
        · rw [decide_eq_false ht, decide_eq_false (show ¬ (4294967296 ≤ q ∨ 4294967296 * r + d < q * y0) by omega)]
    rw [hj]
    by_cases ht : 4294967296 ≤ q ∨ 4294967296 * r + d < q * y0
    · rw [decide_eq_true ht]
      simp only [bits_Div64.j1, if_true]
      have hl := h.less ht
      have hQ := h.Q_lt
      have g1 := h.hr; have g2 := h.hr'; have g3 := h.hy1; have g4 := h.hy1'; have g5 := h.hq'
      rw [uw (n := r + y1) (by omega) (by omega), uw (n := q - 1) (by omega) (by omega)]
      by_cases hr2 : r + y1 ≥ 4294967296
      · rw [if_pos hr2, h.stop ht hr2]
        exact ⟨k + 2 * n, by omega, rfl⟩
      · rw [if_neg hr2]
        refine ih k s e (q - 1) (r + y1) Y y1 y0 u d (h.next ht (by omega)) ?_
        have : ((n + 1 : Nat) : Int) * y1 = n * y1 + y1 := by rw [Int.natCast_add]; simp [Int.add_mul]
        omega
    · rw [decide_eq_false ht]
      simp only [bits_Div64.j1, Bool.false_eq_true, if_false]
      have hd : q * y0 ≤ 4294967296 * r + d := by omega
      rw [← h.done hd]
      exact ⟨k + 2 * n, by omega, rfl⟩
open Div64 in
theorem div_l1 (n : Nat) : ∀ (k : Nat) (s x15 q r Y y1 y0 u d : Int), 0 ≤ s → Inv Y y1 y0 u d q r → 4294967296 ≤ r + n * y1 →
    bits_Div64.l1 (k + 2 * n) Y s y1 y0 d x15 r u q = some (IntKind.u64.wrap ((IntKind.u64.wrap (x15 * 4294967296)) + (4294967296 * u + d) / Y), shr .u64 (IntKind.u64.wrap ((IntKind.u64.wrap ((IntKind.u64.wrap (u * 4294967296)) + d)) - (IntKind.u64.wrap ((4294967296 * u + d) / Y * Y)))) s) := by
  induction n with
  | zero => intro k s e q r Y y1 y0 u d _ h hn; have := h.hr'; omega
  | succ n ih =>
    intro k s x15 q r Y y1 y0 u d hs h hn
    have hj : (bits_Div64.l1 (k + 2 * (n + 1)) Y s y1 y0 d x15 r u q) = bits_Div64.j4 (k + 2 * n + 1) Y s y1 y0 d x15 r u q (decide (4294967296 ≤ q ∨ 4294967296 * r + d < q * y0)) := by
      rw [show k + 2 * (n + 1) = (k + 2 * n + 1) + 1 by omega]
      simp only [bits_Div64.l1]
      by_cases hB : q ≥ 4294967296
      · rw [if_pos hB, decide_eq_true (show 4294967296 ≤ q ∨ _ from .inl hB)]
      · rw [if_neg hB]
        obtain ⟨a, b⟩ := h.small (by omega)
        have := h.hr; have := h.hr'; have := h.hd; have := h.hd'
        rw [uw (n := q * y0) (by omega) (by omega), uw (n := 4294967296 * r) (by omega) (by omega), uw (by omega) (by omega)]
        congr 1
        by_cases ht : q * y0 > 4294967296 * r + d
        · rw [decide_eq_true ht, decide_eq_true (show 4294967296 ≤ q ∨ 4294967296 * r + d < q * y0 by omega)]
        · rw [decide_eq_false ht, decide_eq_false (show ¬ (4294967296 ≤ q ∨ 4294967296 * r + d < q * y0) by omega)]
    rw [hj]
    by_cases ht : 4294967296 ≤ q ∨ 4294967296 * r + d < q * y0
    · rw [decide_eq_true ht]
      simp only [bits_Div64.j4, if_true]
      have hl := h.less ht
      have hQ := h.Q_lt
      have g1 := h.hr; have g2 := h.hr'; have g3 := h.hy1; have g4 := h.hy1'; have g5 := h.hq'
      rw [uw (n := r + y1) (by omega) (by omega), uw (n := q - 1) (by omega) (by omega)]
      by_cases hr2 : r + y1 ≥ 4294967296
      · rw [if_pos hr2, if_pos hs, h.stop ht hr2]
      · rw [if_neg hr2]
        refine ih k s x15 (q - 1) (r + y1) Y y1 y0 u d hs (h.next ht (by omega)) ?_
        have : ((n + 1 : Nat) : Int) * y1 = n * y1 + y1 := by rw [Int.natCast_add]; simp [Int.add_mul]
        omega
    · rw [decide_eq_false ht]
      simp only [bits_Div64.j4, Bool.false_eq_true, if_false]
      have hd : q * y0 ≤ 4294967296 * r + d := by omega
      rw [← h.done hd, if_pos hs]
theorem mask32 (x : Int) (h : 0 ≤ x) (h' : x < 18446744073709551616) : Go.bits .and .u64 x 4294967295 = x % 4294967296 := by
  have := bits_mask .u64 64 (by decide) (fun n a b => uw a (by omega)) 32 (by omega) x h (by omega)
  simpa using this
theorem lz_law (y : Int) (h : 0 < y) (h' : y ≤ 18446744073709551615) : ∃ s : Nat, s ≤ 63 ∧ bits_LeadingZeros64.f y = some (s : Int) ∧ 9223372036854775808 ≤ y * ((2 ^ s : Nat) : Int) ∧ y * ((2 ^ s : Nat) : Int) < 18446744073709551616 := by
  obtain ⟨x, rfl⟩ := Int.eq_ofNat_of_zero_le (show 0 ≤ y by omega)
  have b := Lib.bitLenAux_bounds 64 x (by omega) (by omega)
  have hb : Lib.bitLen x = Lib.bitLenAux 64 x := rfl
  rw [← hb] at b
  have hl := Lib.bitLen_le x 64 (by omega) (by omega)
  obtain ⟨b0, b1, b2⟩ := b
  refine ⟨64 - Lib.bitLen x, by omega, ?_, ?_, ?_⟩
  · unfold bits_LeadingZeros64.f
    rw [if_pos ⟨by omega, by omega⟩]
    simp; omega
  · have e : 2 ^ (Lib.bitLen x - 1) * 2 ^ (64 - Lib.bitLen x) = 9223372036854775808 := by rw [← Nat.pow_add, show Lib.bitLen x - 1 + (64 - Lib.bitLen x) = 63 by omega]
    have := Nat.mul_le_mul_right (2 ^ (64 - Lib.bitLen x)) b1
    have g : 9223372036854775808 ≤ x * 2 ^ (64 - Lib.bitLen x) := by omega
    rw [← Int.natCast_mul]; omega
  · have e : 2 ^ Lib.bitLen x * 2 ^ (64 - Lib.bitLen x) = 18446744073709551616 := by rw [← Nat.pow_add, show Lib.bitLen x + (64 - Lib.bitLen x) = 64 by omega]
    have := Nat.mul_lt_mul_of_pos_right b2 (Nat.two_pow_pos (64 - Lib.bitLen x))
    have g : x * 2 ^ (64 - Lib.bitLen x) < 18446744073709551616 := by omega
    rw [← Int.natCast_mul]; omega
open Div64 in
theorem div64_law (k : Nat) (hi lo y : Int) (hy : 0 < y) (hy' : y ≤ 18446744073709551615) (h0 : 0 ≤ hi) (h1 : hi < y) (l0 : 0 ≤ lo) (l1 : lo ≤ 18446744073709551615) :
    bits_Div64.f (k + 20) hi lo y = some ((hi * 18446744073709551616 + lo) / y, (hi * 18446744073709551616 + lo) % y) := by
  unfold bits_Div64.f
  rw [if_neg (by omega), if_neg (by omega)]
  by_cases hz : hi = 0
  · subst hz
    rw [if_pos rfl, td' l0, tm' l0]
    have := Int.ediv_le_self y l0
    have := Int.ediv_nonneg l0 (show 0 ≤ y by omega)
    rw [uw (by omega) (by omega)]; simp
  · rw [if_neg hz]
    obtain ⟨s, hs, es, p0, p1⟩ := lz_law y hy hy'
    rw [es]
    simp only [Option.bind_some]
    rw [uw (n := (s : Int)) (by omega) (by omega), uw (n := 64 - (s : Int)) (by omega) (by omega), if_pos (by omega), if_pos (by omega)]
    have hp : 0 < ((2 ^ s : Nat) : Int) := by exact_mod_cast Nat.two_pow_pos s
    have hp' : 0 < ((2 ^ (64 - s) : Nat) : Int) := by exact_mod_cast Nat.two_pow_pos (64 - s)
    have hpp : ((2 ^ s : Nat) : Int) * ((2 ^ (64 - s) : Nat) : Int) = 18446744073709551616 := by
      have : 2 ^ s * 2 ^ (64 - s) = 18446744073709551616 := by rw [← Nat.pow_add, show s + (64 - s) = 64 by omega]
      rw [← Int.natCast_mul, this]; rfl
    have eshl : ∀ x : Int, shl .u64 x (s : Int) = x * ((2 ^ s : Nat) : Int) % 18446744073709551616 := by
      intro x; unfold shl; rw [IntKind.wrap_u64]
      rw [show min ((s : Int).toNat) IntKind.u64.bits = s by simp [IntKind.bits]; omega]; rw [Int.natCast_pow]; try rfl
    have eshr : ∀ x : Int, shr .u64 x (64 - (s : Int)) = x / ((2 ^ (64 - s) : Nat) : Int) := by
      intro x; unfold shr
      rw [show min ((64 - (s : Int)).toNat) IntKind.u64.bits = 64 - s by simp [IntKind.bits] <;> omega]; try simp
    have eshr' : ∀ x : Int, shr .u64 x (s : Int) = x / ((2 ^ s : Nat) : Int) := by
      intro x; unfold shr
      rw [show min ((s : Int).toNat) IntKind.u64.bits = s by simp [IntKind.bits]; omega]; simp
    have hor : Go.bits .or .u64 (hi * ((2 ^ s : Nat) : Int)) (lo / ((2 ^ (64 - s) : Nat) : Int)) = hi * ((2 ^ s : Nat) : Int) + lo / ((2 ^ (64 - s) : Nat) : Int) := by
      obtain ⟨sa, sb, sc⟩ := shifted lo _ _ hp hp' hpp l0 (by omega)
      have hh : hi * ((2 ^ s : Nat) : Int) ≤ y * ((2 ^ s : Nat) : Int) := Int.mul_le_mul_of_nonneg_right (by omega) (by omega)
      have hh0 : 0 ≤ hi * ((2 ^ s : Nat) : Int) := Int.mul_nonneg h0 (by omega)
      have hs2 : ((2 ^ s : Nat) : Int) < 18446744073709551616 := by
        have : 2 ^ s ≤ 2 ^ 63 := Nat.pow_le_pow_right (by omega) hs
        omega
      have hc : ((2 ^ s : Nat) : Int) = (2 : Int) ^ s := by simp
      refine bits_join .u64 64 (by decide) (fun n a b => uw a (by omega)) s _ _ hh0 ?_ (by omega) sa (by rw [← hc]; exact sb) (by omega)
      rw [← hc]; exact Int.mul_emod_left _ _
    generalize ((2 ^ s : Nat) : Int) = p at *
    generalize ((2 ^ (64 - s) : Nat) : Int) = p' at *
    obtain ⟨sa, sb, sc⟩ := shifted lo _ _ hp hp' hpp l0 (by omega)
    have hh : (hi + 1) * p ≤ y * p := Int.mul_le_mul_of_nonneg_right (by omega) (by omega)
    rw [Int.add_mul, Int.one_mul] at hh
    have hh0 : 0 ≤ hi * p := Int.mul_nonneg h0 (by omega)
    simp only [eshl, eshr]
    rw [Int.emod_eq_of_lt (show 0 ≤ y * p by omega) p1, Int.emod_eq_of_lt hh0 (by omega), hor]
    generalize hv : lo * p % 18446744073709551616 = v at *
    have hv0 : 0 ≤ v ∧ v < 18446744073709551616 := by omega
    generalize hYs : y * p = Ys at *
    generalize hu : hi * p + lo / p' = u at *
    have hu0 : 0 ≤ u := by omega
    have hu1 : u < Ys := by omega
    rw [mask32 Ys (by omega) p1, mask32 v hv0.1 hv0.2]
    rw [if_neg (by omega), td' hu0]
    have I0 := Inv.start (Y := Ys) (y1 := Ys / 4294967296) (y0 := Ys % 4294967296) (u := u) (d := v / 4294967296) (by omega) (by omega) (by omega) (by omega) (by omega) hu0 hu1 (by omega) (by omega)
    have hq0 : 0 ≤ u / (Ys / 4294967296) := Int.ediv_nonneg hu0 (by omega)
    have hq1 := I0.hq'
    have hm := Int.mul_ediv_add_emod u (Ys / 4294967296)
    have hm0 := I0.hr
    rw [Int.mul_comm] at hm
    rw [uw (n := u / (Ys / 4294967296)) hq0 (by omega), uw (n := u / (Ys / 4294967296) * (Ys / 4294967296)) (by have := Int.mul_nonneg hq0 (show 0 ≤ Ys / 4294967296 by omega); omega) (by omega)]
    rw [show u - u / (Ys / 4294967296) * (Ys / 4294967296) = u % (Ys / 4294967296) by omega, uw (by omega) (by have := I0.hr'; omega)]
    obtain ⟨k', hk', e0⟩ := div_l0 3 (k + 14) (s : Int) (v % 4294967296) _ _ _ _ _ _ _ I0 (by have := I0.hr; have : ((3 : Nat) : Int) * (Ys / 4294967296) = 3 * (Ys / 4294967296) := rfl; omega)
    rw [show k + 20 = k + 14 + 2 * 3 by omega, e0]
    obtain ⟨k2, rfl⟩ : ∃ m, k' = m + 1 := ⟨k' - 1, by omega⟩
    obtain ⟨qa, qb⟩ := quot_bd (4294967296 * u + v / 4294967296) Ys (by omega)
    have hQ := I0.Q_lt
    generalize hQ1 : (4294967296 * u + v / 4294967296) / Ys = Q1 at *
    simp only [bits_Div64.j2]
    have hQY : 0 ≤ Q1 * Ys := Int.mul_nonneg hQ.1 (by omega)
    have hR : IntKind.u64.wrap (IntKind.u64.wrap (IntKind.u64.wrap (u * 4294967296) + v / 4294967296) - IntKind.u64.wrap (Q1 * Ys)) = 4294967296 * u + v / 4294967296 - Q1 * Ys := by
      simp only [IntKind.wrap_u64]; omega
    rw [if_neg (by omega), hR]
    generalize hR1 : 4294967296 * u + v / 4294967296 - Q1 * Ys = R1 at *
    have r0 : 0 ≤ R1 := by omega
    have r1 : R1 < Ys := by omega
    have I1 := Inv.start (Y := Ys) (y1 := Ys / 4294967296) (y0 := Ys % 4294967296) (u := R1) (d := v % 4294967296) (by omega) (by omega) (by omega) (by omega) (by omega) r0 r1 (by omega) (by omega)
    have gq0 : 0 ≤ R1 / (Ys / 4294967296) := Int.ediv_nonneg r0 (by omega)
    have gq1 := I1.hq'
    have gm := Int.mul_ediv_add_emod R1 (Ys / 4294967296)
    have gm0 := I1.hr
    rw [Int.mul_comm] at gm
    rw [td' r0, uw (n := R1 / (Ys / 4294967296)) gq0 (by omega), uw (n := R1 / (Ys / 4294967296) * (Ys / 4294967296)) (by have := Int.mul_nonneg gq0 (show 0 ≤ Ys / 4294967296 by omega); omega) (by omega)]
    rw [show R1 - R1 / (Ys / 4294967296) * (Ys / 4294967296) = R1 % (Ys / 4294967296) by omega, uw (by omega) (by have := I1.hr'; omega)]
    rw [show k2 = (k2 - 6) + 2 * 3 by omega, div_l1 3 (k2 - 6) (s : Int) Q1 _ _ _ _ _ _ _ (by omega) I1 (by have := I1.hr; have : ((3 : Nat) : Int) * (Ys / 4294967296) = 3 * (Ys / 4294967296) := rfl; omega)]
    have hQ0 := I1.Q_lt
    obtain ⟨ta, tb⟩ := quot_bd (4294967296 * R1 + v % 4294967296) Ys (by omega)
    generalize hQ00 : (4294967296 * R1 + v % 4294967296) / Ys = Q0 at *
    have hQ0Y : 0 ≤ Q0 * Ys := Int.mul_nonneg hQ0.1 (by omega)
    rw [eshr']
    have hT : IntKind.u64.wrap (IntKind.u64.wrap (IntKind.u64.wrap (R1 * 4294967296) + v % 4294967296) - IntKind.u64.wrap (Q0 * Ys)) = 4294967296 * R1 + v % 4294967296 - Q0 * Ys := by
      simp only [IntKind.wrap_u64]; omega
    rw [hT, uw (n := Q1 * 4294967296) (by omega) (by omega), uw (by omega) (by omega)]
    have U : (hi * 18446744073709551616 + lo) * p = (4294967296 * u + v / 4294967296) * 4294967296 + v % 4294967296 := by
      rw [Int.add_mul, sc, show hi * 18446744073709551616 * p = 18446744073709551616 * (hi * p) by rw [Int.mul_comm hi, Int.mul_assoc]]
      omega
    obtain ⟨j1, j2⟩ := join (hi * 18446744073709551616 + lo) y p Ys u (v / 4294967296) (v % 4294967296) hp hy hYs.symm U Q1 Q0 R1 _ hQ1.symm hR1.symm hQ00.symm rfl
    rw [j1, j2]
end Go.Proofs.Ytgdaohdllipgpaa.Pure
