/- What the printed functions of the package day tell, in the words of the calendar in plain numbers. What Check and Right of the package leap tell, in the words of plain lists. What the printed functions of the package record tell, in the words of plain lists. What Expiry, Sum, Step and Table of the package record tell, in the words of plain lists. Records of right tables, and tables of right records. What the printed functions of the package scale tell of the records of a table. What Of, Day, Tai and From of the package posix tell. -/
import Derived.Test.YthoigncoojcanaaP25
import Derived.Test.YthoigncoojcanaaPAllx2
import Derived.Test.YthoigncoojcanaaPAllx3
import Derived.Test.YthoigncoojcanaaPAllx4
import Derived.Test.YthoigncoojcanaaPAllx5
import Derived.Test.YthoigncoojcanaaPAllx6
import Derived.Test.YthoigncoojcanaaPAllx8
import Derived.Test.YthoigncoojcanaaPAllx9
namespace Go.Proofs.Ythoigncoojcanaa.Pure
open Go.RowKit Go.Proofs.Ythoigncoojcanaa.PAll Go.Proofs.YthoigncoojcanaaW.PrintWords Go.Proofs.YthoigncoojcanaaW.PrintLast
set_option linter.unusedVariables false
set_option linter.unusedSimpArgs false

def I64 (n : Int) : Prop := -9223372036854775808 ≤ n ∧ n ≤ 9223372036854775807
theorem i64_of {n : Int} (h : (Lit.int .i64 n).wf = true) : I64 n := by
  simp [Lit.wf, IntKind.min, IntKind.max, IntKind.signed, IntKind.bits] at h
  unfold I64; omega
theorem w64 {n : Int} (h : -9223372036854775808 ≤ n) (h' : n ≤ 9223372036854775807) : wrap64 n = n := by unfold wrap64; omega
theorem td {a b : Int} (h : 0 ≤ a) : Int.tdiv a b = a / b := Int.tdiv_eq_ediv_of_nonneg h
theorem tm {a b : Int} (h : 0 ≤ a) : Int.tmod a b = a % b := Int.tmod_eq_emod_of_nonneg h
theorem div_bd (a b : Int) (ha : I64 a) (h : 1 ≤ b) : I64 (a / b) ∧ 0 ≤ a % b ∧ a % b < b ∧ b * (a / b) + a % b = a := by
  unfold I64 at ha ⊢
  have q := Int.mul_ediv_add_emod a b
  have m0 := Int.emod_nonneg a (show b ≠ 0 by omega)
  have m1 := Int.emod_lt_of_pos a (show 0 < b by omega)
  have n1 := Int.natAbs_ediv_le_natAbs a b
  refine ⟨?_, m0, m1, q⟩
  by_cases h0 : 0 ≤ a
  · have := Int.ediv_nonneg h0 (show 0 ≤ b by omega); omega
  · have := Int.ediv_neg_of_neg_of_pos (show a < 0 by omega) (show 0 < b by omega); omega
theorem tdiv_neg_law (a b : Int) (h : 1 ≤ b) (h0 : a < 0) : (a % b = 0 ∧ Int.tdiv a b = a / b ∧ Int.tmod a b = 0) ∨ (0 < a % b ∧ Int.tdiv a b = a / b + 1 ∧ Int.tmod a b = a % b - b) := by
  have m0 := Int.emod_nonneg a (show b ≠ 0 by omega)
  by_cases hd : b ∣ a
  · left
    have := Int.emod_eq_zero_of_dvd hd
    refine ⟨this, ?_, ?_⟩
    · rw [Int.tdiv_eq_ediv, if_pos (.inr hd)]; omega
    · rw [Int.tmod_eq_emod, if_pos (.inr hd)]; omega
  · right
    have hn : ¬ (0 ≤ a ∨ b ∣ a) := by rintro (h | h); omega; exact hd h
    refine ⟨?_, ?_, ?_⟩
    · have : a % b ≠ 0 := fun e => hd (Int.dvd_of_emod_eq_zero e)
      omega
    · rw [Int.tdiv_eq_ediv, if_neg hn, Int.sign_eq_one_of_pos (by omega)]
    · rw [Int.tmod_eq_emod, if_neg hn]; omega
theorem div_law (a b : Int) (ha : I64 a) (hb : I64 b) (h : 1 ≤ b) : num_Div.f a b = some (a / b, a % b, true) := by
  obtain ⟨q, m0, m1, e⟩ := div_bd a b ha h
  unfold I64 at ha hb q
  unfold num_Div.f
  rw [if_neg (by omega), if_neg (by omega)]
  by_cases h0 : 0 ≤ a
  · rw [tm h0, td h0, if_neg (by omega), w64 q.1 q.2]
  · rcases tdiv_neg_law a b h (by omega) with ⟨z, d, m⟩ | ⟨z, d, m⟩
    · rw [d, m, if_neg (by omega), w64 q.1 q.2, z]
    · rw [d, m, if_pos (by omega)]
      have u : I64 (a / b + 1) := by
        unfold I64
        have := Int.ediv_neg_of_neg_of_pos (show a < 0 by omega) (show 0 < b by omega); omega
      unfold I64 at u
      rw [w64 u.1 u.2, w64 (by omega) (by omega), w64 (by omega) (by omega)]
      congr 2
      · omega
      · congr 1; omega
theorem div_no (a b : Int) (h : b < 1) : num_Div.f a b = some (0, 0, false) := by
  unfold num_Div.f; rw [if_pos h]
theorem tmod_zero (y b : Int) : (Int.tmod y b = 0) = (y % b = 0) := by
  rw [← Int.dvd_iff_emod_eq_zero, ← Int.dvd_iff_tmod_eq_zero]
theorem leap_law (y : Int) : day_Leap.f y = some (Cal.leap y) := by
  unfold day_Leap.f Cal.leap
  simp only [tmod_zero]
  by_cases a : y % 4 = 0
  · by_cases b : y % 100 = 0
    · simp only [a, b, if_true]
      have : (Int.tmod y 400 == 0) = decide (y % 400 = 0) := by
        have h := tmod_zero y 400
        by_cases c : y % 400 = 0
        · have d : Int.tmod y 400 = 0 := by rw [h]; exact c
          simp [c, d]
        · have d : ¬ Int.tmod y 400 = 0 := by rw [h]; exact c
          simp [c, d]
      rw [this]; simp
    · simp [a, b]
  · simp [a]
theorem last_law (y m : Int) : day_Last.f y m = some (if 1 ≤ y ∧ y ≤ 9999 ∧ 1 ≤ m ∧ m ≤ 12 then (Cal.mdays y m, true) else (0, false)) := by
  unfold day_Last.f
  by_cases h : y < 1 ∨ y > 9999 ∨ m < 1 ∨ m > 12
  · have e : ¬ (1 ≤ y ∧ y ≤ 9999 ∧ 1 ≤ m ∧ m ≤ 12) := by omega
    rw [if_pos h, if_neg e]
  · have e : 1 ≤ y ∧ y ≤ 9999 ∧ 1 ≤ m ∧ m ≤ 12 := by omega
    rw [if_neg h, if_pos e]
    by_cases h2 : m = 2
    · rw [if_pos h2, leap_law]; subst h2; simp [Cal.mdays]
    · rw [if_neg h2]; simp [Cal.mdays, day_Last.tab, h2]
theorem yd_small (c : Int) (h0 : 0 ≤ c) (h1 : c ≤ 399) : Cal.yd c = 365 * c + c / 4 - c / 100 := by unfold Cal.yd; omega
theorem date_law (k : Nat) (n : Int) : day_Date.f (k + 1) n = some (if -719162 ≤ n ∧ n ≤ 2932896 then (Cal.dY n, Cal.dM n, Cal.dD n, true) else (0, 0, 0, false)) := by
  have hj : ∀ n, day_Date.j0 (k + 1) n true = some (0, 0, 0, false) := fun n => by simp [day_Date.j0]
  unfold day_Date.f
  by_cases h1 : n < -719162
  · rw [if_pos h1, hj, if_neg (by omega)]
  · rw [if_neg h1]
    by_cases h2 : n > 2932896
    · rw [decide_eq_true h2, hj, if_neg (by omega)]
    · rw [decide_eq_false h2, if_pos (by omega)]
      simp only [day_Date.j0]
      rw [if_neg (by decide), w64 (by omega) (by omega), div_law _ _ (by unfold I64; omega) (by unfold I64; omega) (by omega)]
      simp only [Option.bind_some]
      unfold Cal.dY Cal.dM Cal.dD
      generalize ho : (n + 719468) % 146097 = o
      generalize he : (n + 719468) / 146097 = e
      obtain ⟨c, hc, c0, c1, k0, k1⟩ := Cal.yoe_law o (by omega) (by omega)
      have hy := yd_small c c0 c1
      have hy1 := (Cal.yd_step c).2
      have hw : wrap64 (Int.tdiv (wrap64 ((wrap64 ((wrap64 (o - (wrap64 (Int.tdiv o 1460)))) + (wrap64 (Int.tdiv o 36524)))) - (wrap64 (Int.tdiv o 146096)))) 365) = c := by
        rw [← hc]
        simp (disch := omega) only [w64, td]
      simp only [hw]
      have hk : wrap64 (o - (wrap64 ((wrap64 ((wrap64 (365 * c)) + (wrap64 (Int.tdiv c 4)))) - (wrap64 (Int.tdiv c 100))))) = o - Cal.yd c := by
        simp (disch := omega) only [w64, td]
        omega
      simp only [hk]
      have hu : Cal.yoe o = c := hc
      simp only [hu]
      have q0 : 0 ≤ o - Cal.yd c := by omega
      have q1 : o - Cal.yd c < 366 := by omega
      have e0 : -10 ≤ e ∧ e ≤ 30 := by omega
      generalize o - Cal.yd c = q at q0 q1 ⊢
      have hp : wrap64 (Int.tdiv (wrap64 ((wrap64 (5 * q)) + 2)) 153) = (5 * q + 2) / 153 := by simp (disch := omega) only [w64, td]
      simp only [hp]
      have p0 : 0 ≤ (5 * q + 2) / 153 ∧ (5 * q + 2) / 153 ≤ 11 := by omega
      generalize (5 * q + 2) / 153 = p at p0 ⊢
      clear hw hk hu hc hy hy1 hj k0 k1 ho he h1 h2 hp
      by_cases hm : p < 10
      · rw [if_neg (show ¬ wrap64 (p + 3) > 12 by rw [w64 (by omega) (by omega)]; omega)]
        simp (disch := omega) only [w64, td, if_pos hm]
        congr 2; omega
      · rw [if_pos (show wrap64 (p + 3) > 12 by rw [w64 (by omega) (by omega)]; omega)]
        simp (disch := omega) only [w64, td, if_neg hm]
        congr 2
        · omega
        · congr 1; omega
theorem end_law (k : Nat) (n : Int) : day_End.f (k + 1) n = some (Cal.isEnd n) := by
  unfold day_End.f Cal.isEnd
  rw [date_law]
  simp only [Option.bind_some]
  by_cases h : -719162 ≤ n ∧ n ≤ 2932896
  · rw [if_pos h, decide_eq_true h]
    obtain ⟨v, e⟩ := Cal.date_law n h.1 h.2
    unfold Cal.Valid at v
    have c : 1 ≤ Cal.dY n ∧ Cal.dY n ≤ 9999 ∧ 1 ≤ Cal.dM n ∧ Cal.dM n ≤ 12 := by omega
    simp only [last_law, if_pos c]
    simp
  · rw [if_neg h, decide_eq_false h, last_law]
    simp
end Go.Proofs.Ythoigncoojcanaa.Pure
namespace Go.Proofs.Ythoigncoojcanaa.Pure
open Go.RowKit Go.Proofs.Ythoigncoojcanaa.PAll Go.Proofs.YthoigncoojcanaaW.PrintWords Go.Proofs.YthoigncoojcanaaW.PrintLast
set_option linter.unusedVariables false
set_option linter.unusedSimpArgs false
def toL (x : S49) : LeapP.L := ⟨x.f0, x.f1, x.f2⟩
/-- whole numbers of 64 bits -/
def WL (l : List S49) : Prop := ∀ x ∈ l, I64 x.f0 ∧ I64 x.f1
theorem wl_of {l : List S49} (h : ∀ x ∈ l, (Lit.int .i64 x.f0).wf = true ∧ (Lit.int .i64 x.f1).wf = true) : WL l := fun x hx => ⟨i64_of (h x hx).1, i64_of (h x hx).2⟩
theorem rd_at (pre rest : List S49) (x : S49) : rd_T49 (pre ++ x :: rest) (pre.length : Int) = x := by
  unfold rd_T49; simp
theorem wrong_law (k : Nat) (hk : 2 < k) (i a : Int) (x : S49) : leap_wrong.f k i x.f0 x.f1 x.f2 a = some (LeapP.wrong i a (toL x)) := by
  obtain ⟨k, rfl⟩ : ∃ m, k = m + 3 := ⟨k - 3, by omega⟩
  unfold leap_wrong.f LeapP.wrong toL
  simp only
  by_cases h1 : i ≥ 200
  · rw [if_pos h1, if_pos h1]
  · rw [if_neg h1, if_neg h1]
    have hj : ∀ a b c d, leap_wrong.j0 (k + 3) a true b c d = some 9 := by intros; simp [leap_wrong.j0]
    by_cases h2 : x.f0 < 730
    · rw [if_pos h2, decide_eq_true h2, hj, if_pos (.inl h2)]
    · rw [if_neg h2]
      by_cases h3 : x.f0 ≥ 2932896
      · rw [decide_eq_true h3, hj, if_pos (.inr h3)]
      · rw [decide_eq_false h3, if_neg (show ¬ (x.f0 < 730 ∨ x.f0 ≥ 2932896) by omega)]
        simp only [leap_wrong.j0, Bool.false_eq_true, if_false]
        rw [end_law]
        simp only [Option.bind_some]
        cases he : Cal.isEnd x.f0 with
        | false => simp
        | true =>
          simp only [if_true]
          rw [if_neg (show ¬ (true = false) by simp)]
          by_cases h4 : x.f1 = 1
          · rw [if_pos h4, if_neg (by omega)]
            simp only [leap_wrong.j1, Bool.false_eq_true, if_false]
            split <;> rfl
          · rw [if_neg h4]
            by_cases h5 : x.f1 = -1
            · have : (x.f1 != -1) = false := by simp [h5]
              rw [this, if_neg (by omega)]
              simp only [leap_wrong.j1, Bool.false_eq_true, if_false]
              split <;> rfl
            · have : (x.f1 != -1) = true := by simp [h5]
              rw [this, if_pos ⟨h4, h5⟩]
              simp [leap_wrong.j1]
theorem mx_max (a b : Int) : mx a b = max a b := by unfold mx; omega
theorem check_loop (l : List S49) (has : Bool) (exp : Int) (hl : l.length ≤ 9223372036854775806) (rest : List S49) : ∀ (pre : List S49) (a : Int) (k : Nat), l = pre ++ rest → 729 ≤ a → a < 2932896 → rest.length + 4 < k →
    leap_Check.l0 k a l (l.length : Int) (pre.length : Int) l has exp = some (let c := LeapP.chk (rest.map toL) pre.length a; if c.2.1 = 0 then (if LeapP.badEnd c.2.2 has exp then ((l.length : Int), 9) else ((l.length : Int), 0)) else (c.1, c.2.1)) := by
  induction rest with
  | nil =>
    intro pre a k e a0 a1 hk
    obtain ⟨k, rfl⟩ : ∃ m, k = m + 1 := ⟨k - 1, by omega⟩
    have : l.length = pre.length := by rw [e]; simp
    simp only [leap_Check.l0, List.map_nil, LeapP.chk]
    rw [if_neg (by omega)]
    simp only [if_true]
    unfold LeapP.badEnd
    cases has with
    | true =>
      simp only [if_true]
      rw [w64 (n := a + 1) (by omega) (by omega), w64 (by omega) (by omega), mx_max]
      by_cases h1 : exp < max ((a + 1) * 86400) 63072000
      · rw [if_pos h1, if_pos (.inl h1)]
      · rw [if_neg h1]
        by_cases h2 : exp > 253402300799
        · rw [if_pos h2, if_pos (.inr h2)]
        · rw [if_neg h2, if_neg (by omega)]
    | false =>
      simp only [Bool.false_eq_true, if_false]
      by_cases h1 : exp < 0
      · rw [if_pos h1, if_pos (by omega)]
      · rw [if_neg h1]
        by_cases h2 : exp > 0
        · rw [if_pos h2, if_pos (by omega)]
        · rw [if_neg h2, if_neg (by omega)]
  | cons x rest ih =>
    intro pre a k e a0 a1 hk
    simp only [List.length_cons] at hk
    obtain ⟨k, rfl⟩ : ∃ m, k = m + 1 := ⟨k - 1, by omega⟩
    have hlen : l.length = pre.length + (rest.length + 1) := by rw [e]; simp
    simp only [leap_Check.l0]
    rw [if_pos (by omega), if_pos (by omega), if_pos (by omega)]
    have hr : rd_T49 l (pre.length : Int) = x := by rw [e]; exact rd_at pre rest x
    rw [hr, wrong_law k (by omega)]
    simp only [Option.bind_some, List.map_cons, LeapP.chk]
    by_cases hw : LeapP.wrong (pre.length : Int) a (toL x) = 0
    · rw [if_pos hw, if_pos hw]
      obtain ⟨_, h2, h3, _⟩ := (LeapP.wrong_zero _ _ _).1 hw
      have hx : (toL x).day = x.f0 := rfl
      have := ih (pre ++ [x]) x.f0 k (by rw [e]; simp) (by rw [← hx]; omega) (by rw [← hx]; omega) (by omega)
      rw [w64 (by omega) (by omega)]
      simp only [List.length_append, List.length_cons, List.length_nil] at this
      rw [show ((pre.length : Int) + 1) = ((pre.length + (0 + 1) : Nat) : Int) by omega, this]
      rw [show ((pre.length + (0 + 1) : Nat) : Int) = (pre.length : Int) + 1 by omega]
      rfl
    · rw [if_neg hw, if_neg hw]
      simp only
      rw [if_neg hw]
theorem check_law (l : List S49) (has : Bool) (exp : Int) (hl : l.length ≤ 9223372036854775806) (k : Nat) (hk : l.length + 4 < k) : leap_Check.f k l has exp = some (LeapP.check (l.map toL) has exp) := by
  unfold leap_Check.f LeapP.check
  have := check_loop l has exp hl l [] 729 k rfl (by omega) (by omega) hk
  simp only [List.length_nil, Int.natCast_zero] at this
  rw [this]
  simp
theorem right_law (l : List S49) (has : Bool) (exp : Int) (hl : l.length ≤ 9223372036854775806) (k : Nat) (hk : l.length + 4 < k) : leap_Right.f k l has exp = some ((LeapP.check (l.map toL) has exp).2 == 0) := by
  unfold leap_Right.f
  rw [check_law l has exp hl k hk]; rfl
end Go.Proofs.Ythoigncoojcanaa.Pure
namespace Go.Proofs.Ythoigncoojcanaa.Pure
open Go.RowKit Go.Proofs.Ythoigncoojcanaa.PAll Go.Proofs.YthoigncoojcanaaW.PrintWords Go.Proofs.YthoigncoojcanaaW.PrintLast
set_option linter.unusedVariables false
set_option linter.unusedSimpArgs false
def toR (x : S53) : RecP.R := ⟨x.f0, x.f1⟩
def WR (l : List S53) : Prop := ∀ x ∈ l, I64 x.f0 ∧ I64 x.f1
theorem wr_of {l : List S53} (h : ∀ x ∈ l, (Lit.int .i64 x.f0).wf = true ∧ (Lit.int .i64 x.f1).wf = true) : WR l := fun x hx => ⟨i64_of (h x hx).1, i64_of (h x hx).2⟩
theorem wr_take {l : List S53} (n : Nat) (h : WR l) : WR (l.take n) := fun x hx => h x (List.mem_of_mem_take hx)
theorem wr_at {l : List S53} (h : WR l) : ∀ c ∈ l.map toR, c.at_ ≤ 9223372036854775807 := by
  intro c hc
  obtain ⟨x, hx, rfl⟩ := List.mem_map.1 hc
  exact (h x hx).1.2
theorem toR_inj {x y : S53} (h : toR x = toR y) : x = y := by
  cases x; cases y; simp only [toR, RecP.R.mk.injEq] at h; obtain ⟨rfl, rfl⟩ := h; rfl
theorem mapR_inj : ∀ {a b : List S53}, a.map toR = b.map toR → a = b := by
  intro a
  induction a with
  | nil => intro b h; cases b with | nil => rfl | cons y b => simp at h
  | cons x a ih =>
    intro b h
    cases b with
    | nil => simp at h
    | cons y b => simp only [List.map_cons, List.cons.injEq] at h; rw [toR_inj h.1, ih h.2]
theorem rdr_at (pre rest : List S53) (x : S53) : rd_T53 (pre ++ x :: rest) (pre.length : Int) = x := by
  unfold rd_T53; simp
theorem sub_law (a b : Int) (ha : I64 a) (hb : I64 b) : num_Sub.f a b = some (if -9223372036854775808 ≤ a - b ∧ a - b ≤ 9223372036854775807 then (a - b, true) else (0, false)) := by
  unfold I64 at *
  unfold num_Sub.f
  have w : wrap64 (a - b) = if -9223372036854775808 ≤ a - b ∧ a - b ≤ 9223372036854775807 then a - b else if a - b < -9223372036854775808 then a - b + 18446744073709551616 else a - b - 18446744073709551616 := by
    unfold wrap64; split
    · omega
    · split <;> omega
  by_cases h : -9223372036854775808 ≤ a - b ∧ a - b ≤ 9223372036854775807
  · rw [if_pos h] at w
    rw [if_pos h, w]
    by_cases h0 : b = 0
    · simp [h0]
    · rw [if_neg]
      by_cases h1 : b > 0
      · rw [decide_eq_true h1, decide_eq_true (by omega)]; simp
      · rw [decide_eq_false h1, decide_eq_false (by omega)]; simp
  · rw [if_neg h] at w
    rw [if_neg h]
    have h0 : ¬ b = 0 := by omega
    rw [if_pos, if_neg h0]
    by_cases h1 : b > 0
    · rw [if_pos (by omega)] at w; rw [w, decide_eq_true h1, decide_eq_false (by omega)]; rfl
    · rw [if_neg (by omega)] at w; rw [w, decide_eq_false h1, decide_eq_true (by omega)]; rfl
theorem isEmpty_last {α : Type} (rest : List α) (n m : Nat) (h : m = n + (rest.length + 1)) (hm : m ≤ 9223372036854775807) : ((n : Int) == wrap64 ((m : Int) - 1)) = rest.isEmpty := by
  rw [w64 (by omega) (by omega)]
  cases rest with
  | nil => simp only [List.length_nil] at h; simp; omega
  | cons x r => simp only [List.length_cons] at h; simp; omega
/-- one round of Check -/
theorem rcheck_round (l : List S53) (i : Nat) (hi : i < l.length) (hl : l.length ≤ 9223372036854775806) (a b : Int) (k : Nat) (hb : I64 b)
    (ha : (i : Int) > 0 → 0 ≤ a ∧ I64 a) (c : S53) (hc : rd_T53 l (i : Int) = c) (hw : I64 c.f0 ∧ I64 c.f1) (last : Bool) (hlast : ((i : Int) == wrap64 ((l.length : Int) - 1)) = last) :
    record_Check.l0 (k + 4) l l (l.length : Int) (i : Int) a b = if RecP.wr i ⟨a, b⟩ (toR c) last = 0 then record_Check.l0 k l l (l.length : Int) ((i : Int) + 1) c.f0 c.f1 else some ((i : Int), RecP.wr i ⟨a, b⟩ (toR c) last) := by
  have e0 : (toR c).at_ = c.f0 := rfl
  have e1 : (toR c).corr = c.f1 := rfl
  generalize hN : record_Check.l0 k l l (l.length : Int) ((i : Int) + 1) c.f0 c.f1 = N
  unfold record_Check.l0
  rw [if_pos (by omega), if_pos (by omega), if_pos (by omega), hc, sub_law _ _ hw.2 hb, hlast]
  simp only [Option.bind_some]
  unfold I64 at hw hb ha
  have h3 : 0 ≤ c.f0 → ∀ (g : Int) (t : Bool), record_Check.j3 (k + 1) l i g l (l.length : Int) i t a b c.f0 c.f1 = if t = true then some ((i : Int), 6) else if (i : Int) > 0 ∧ c.f0 - a < g then some ((i : Int), 7) else N := by
    intro h0 g t
    cases t with
    | true => simp [record_Check.j3]
    | false =>
      simp only [Bool.false_eq_true, if_false, record_Check.j3]
      rw [w64 (n := (i : Int) + 1) (by omega) (by omega), hN]
      by_cases h1 : (i : Int) > 0
      · have := ha h1
        rw [if_pos h1, w64 (by omega) (by omega)]
        by_cases h2 : c.f0 - a < g
        · rw [if_pos h2, if_pos ⟨h1, h2⟩]
        · rw [if_neg h2, if_neg (by omega)]
      · rw [if_neg h1, if_neg (by omega)]
  have h2 : ∀ (st g : Int) (ok exp : Bool), (exp = true → ok = true ∧ st = 0) → record_Check.j2 (k + 2) l i st ok exp g l (l.length : Int) i a b c.f0 c.f1 =
      if (i : Int) > 200 then some ((i : Int), 8) else if c.f0 < 0 then some ((i : Int), 9) else if exp = false ∧ ¬ (ok = true ∧ (st = 1 ∨ st = -1)) then some ((i : Int), 6) else if (i : Int) > 0 ∧ c.f0 - a < g then some ((i : Int), 7) else N := by
    intro st g ok exp hx
    unfold record_Check.j2
    by_cases q1 : (i : Int) > 200
    · rw [if_pos q1, if_pos q1]
    · rw [if_neg q1, if_neg q1]
      by_cases q2 : c.f0 < 0
      · rw [if_pos q2, if_pos q2]
      · rw [if_neg q2, if_neg q2]
        have h3 := h3 (by omega)
        cases exp with
        | true =>
          rw [if_pos rfl, h3]
          simp only [Bool.false_eq_true, if_false, Bool.true_eq_false, false_and]
        | false =>
          rw [if_neg (by simp)]
          simp only [true_and]
          cases ok with
          | false => rw [if_neg (by simp), h3]; simp
          | true =>
            rw [if_pos rfl]
            simp only [true_and]
            by_cases q3 : st = 1
            · rw [if_pos q3, if_neg (fun h => h (.inl q3)), h3]; simp
            · rw [if_neg q3, h3]
              by_cases q4 : st = -1
              · rw [if_neg (show ¬ ¬ (st = 1 ∨ st = -1) from fun h => h (.inr q4))]
                simp [q4]
              · rw [if_pos (show ¬ (st = 1 ∨ st = -1) by omega)]
                simp [q4]
  have h1 : ∀ (st : Int) (ok exp : Bool), (exp = true → ok = true ∧ st = 0) → record_Check.j1 (k + 3) l i st ok exp l (l.length : Int) i a b c.f0 c.f1 =
      if (i : Int) > 200 then some ((i : Int), 8) else if c.f0 < 0 then some ((i : Int), 9) else if exp = false ∧ ¬ (ok = true ∧ (st = 1 ∨ st = -1)) then some ((i : Int), 6) else if (i : Int) > 0 ∧ c.f0 - a < (if exp = true then 0 else 2419199) then some ((i : Int), 7) else N := by
    intro st ok exp hx
    unfold record_Check.j1
    cases exp with
    | true => rw [if_pos rfl, h2 st 0 ok true hx]; simp
    | false => rw [if_neg (by simp), h2 st 2419199 ok false hx]; simp
  unfold RecP.wr
  rw [e0, e1]
  simp only
  by_cases hs : -9223372036854775808 ≤ c.f1 - b ∧ c.f1 - b ≤ 9223372036854775807
  · rw [if_pos hs]
    simp only [if_true]
    by_cases hz : c.f1 - b = 0
    · rw [if_pos hz, h1 _ _ _ (fun _ => ⟨rfl, hz⟩)]
      have hz' : c.f1 = b := by omega
      cases last with
      | true =>
        simp only [hz', true_and, if_true, not_true_eq_false, false_and, if_false, Bool.true_eq_false]
        by_cases q1 : (i : Int) > 200
        · simp [q1]
        · by_cases q2 : c.f0 < 0
          · simp [q1, q2]
          · by_cases q3 : (i : Int) > 0 ∧ c.f0 - a < 0
            · simp only [if_neg q1, if_neg q2, if_pos q3]; simp
            · simp only [if_neg q1, if_neg q2, if_neg q3]; simp
      | false =>
        have z6 : ¬ (true = true ∧ (c.f1 - b = 1 ∨ c.f1 - b = -1)) := by rintro ⟨_, h⟩; omega
        have z7 : ¬ (false = true ∧ c.f1 = b) ∧ c.f1 - b ≠ 1 ∧ c.f1 - b ≠ -1 := ⟨by simp, by omega, by omega⟩
        rw [if_pos (show false = false ∧ ¬ (true = true ∧ (c.f1 - b = 1 ∨ c.f1 - b = -1)) from ⟨rfl, z6⟩), if_pos z7]
        by_cases q1 : (i : Int) > 200
        · simp [q1]
        · by_cases q2 : c.f0 < 0
          · simp [q1, q2]
          · simp [q1, q2]
    · rw [if_neg hz, h1 _ _ _ (by simp)]
      have hz' : ¬ (last = true ∧ c.f1 = b) := by rintro ⟨_, h⟩; omega
      simp only [if_neg hz', Bool.false_eq_true, if_false, true_and]
      by_cases q1 : (i : Int) > 200
      · simp [q1]
      · by_cases q2 : c.f0 < 0
        · simp [q1, q2]
        · by_cases q4 : c.f1 - b = 1 ∨ c.f1 - b = -1
          · rw [if_neg q1, if_neg q2, if_neg (fun h => h q4)]
            have q5 : ¬ (¬ (last = true ∧ c.f1 = b) ∧ c.f1 - b ≠ 1 ∧ c.f1 - b ≠ -1) := by rintro ⟨_, h, h'⟩; omega
            simp only [if_neg q1, if_neg q2, if_neg q5]
            by_cases q3 : (i : Int) > 0 ∧ c.f0 - a < 2419199
            · simp only [if_pos q3]; simp
            · simp only [if_neg q3]; simp
          · rw [if_neg q1, if_neg q2, if_pos q4]
            have q5 : (¬ (last = true ∧ c.f1 = b) ∧ c.f1 - b ≠ 1 ∧ c.f1 - b ≠ -1) := ⟨hz', by omega, by omega⟩
            simp only [if_neg q1, if_neg q2, if_pos q5]; simp
  · rw [if_neg hs]
    simp only [Bool.false_eq_true, if_false]
    rw [h1 _ _ _ (by simp)]
    have hz' : ¬ (last = true ∧ c.f1 = b) := by rintro ⟨_, h⟩; omega
    have q5 : (¬ (last = true ∧ c.f1 = b) ∧ c.f1 - b ≠ 1 ∧ c.f1 - b ≠ -1) := ⟨hz', by omega, by omega⟩
    simp only [if_pos q5, Bool.false_eq_true, false_and, not_false_eq_true, true_and, if_true]
    by_cases q1 : (i : Int) > 200
    · simp [q1]
    · by_cases q2 : c.f0 < 0
      · simp [q1, q2]
      · simp [q1, q2]
theorem rcheck_loop (l : List S53) (hl : l.length ≤ 9223372036854775806) (hw : WR l) (rest : List S53) : ∀ (pre : List S53) (a b : Int) (k : Nat), l = pre ++ rest → I64 b → ((pre.length : Int) > 0 → 0 ≤ a ∧ I64 a) → 4 * rest.length < k →
    record_Check.l0 k l l (l.length : Int) (pre.length : Int) a b = some (RecP.chk (rest.map toR) pre.length ⟨a, b⟩) := by
  induction rest with
  | nil =>
    intro pre a b k e _ _ hk
    obtain ⟨k, rfl⟩ : ∃ m, k = m + 1 := ⟨k - 1, by omega⟩
    have : l.length = pre.length := by rw [e]; simp
    simp only [record_Check.l0, List.map_nil, RecP.chk]
    rw [if_neg (by omega), this]
  | cons x rest ih =>
    intro pre a b k e hb ha hk
    simp only [List.length_cons] at hk
    obtain ⟨k, rfl⟩ : ∃ m, k = m + 4 := ⟨k - 4, by omega⟩
    have hlen : l.length = pre.length + (rest.length + 1) := by rw [e]; simp
    have hr : rd_T53 l (pre.length : Int) = x := by rw [e]; exact rdr_at pre rest x
    have hx := hw x (by rw [e]; simp)
    rw [rcheck_round l pre.length (by omega) hl a b k hb ha x hr hx rest.isEmpty (isEmpty_last rest _ _ hlen (by omega))]
    simp only [List.map_cons, RecP.chk]
    have em : (rest.map toR).isEmpty = rest.isEmpty := by cases rest <;> rfl
    rw [em]
    by_cases w : RecP.wr pre.length ⟨a, b⟩ (toR x) rest.isEmpty = 0
    · rw [if_pos w, if_pos w]
      have w' := (RecP.wr_zero _ _ _ _).1 w
      have h0 : (toR x).at_ = x.f0 := rfl
      have := ih (pre ++ [x]) x.f0 x.f1 k (by rw [e]; simp) hx.2 (fun _ => ⟨by rw [← h0]; exact w'.2.1, hx.1⟩) (by omega)
      simp only [List.length_append, List.length_cons, List.length_nil] at this
      rw [show ((pre.length : Int) + 1) = ((pre.length + (0 + 1) : Nat) : Int) by omega, this]
      rw [show ((pre.length + (0 + 1) : Nat) : Int) = (pre.length : Int) + 1 by omega]
      rfl
    · rw [if_neg w, if_neg w]
theorem rcheck_law (l : List S53) (hl : l.length ≤ 9223372036854775806) (hw : WR l) (k : Nat) (hk : 4 * l.length < k) : record_Check.f k l = some (RecP.check (l.map toR)) := by
  unfold record_Check.f RecP.check
  have := rcheck_loop l hl hw l [] (-2419199) 0 k rfl (by unfold I64; omega) (by simp) hk
  simp only [List.length_nil, Int.natCast_zero] at this
  rw [this]; rfl
theorem rright_law (l : List S53) (hl : l.length ≤ 9223372036854775806) (hw : WR l) (k : Nat) (hk : 4 * l.length < k) : record_Right.f k l = some ((RecP.check (l.map toR)).2 == 0) := by
  unfold record_Right.f
  rw [rcheck_law l hl hw k hk]; rfl
end Go.Proofs.Ythoigncoojcanaa.Pure
namespace Go.Proofs.Ythoigncoojcanaa.Pure
open Go.RowKit Go.Proofs.Ythoigncoojcanaa.PAll Go.Proofs.YthoigncoojcanaaW.PrintWords Go.Proofs.YthoigncoojcanaaW.PrintLast
set_option linter.unusedVariables false
set_option linter.unusedSimpArgs false
theorem mn_min (a b : Int) : mn a b = min a b := by unfold mn; omega
/-- the last record, and what it says when its sum is that of the one ahead -/
theorem lp_idx : ∀ (l : List RecP.R) (a : Int), 0 < l.length →
    ((l.getD (l.length - 1) ⟨0, 0⟩).corr = (if l.length = 1 then a else (l.getD (l.length - 2) ⟨0, 0⟩).corr) → (RecP.lp a l).length = l.length - 1 ∧ RecP.ex a l = some (l.getD (l.length - 1) ⟨0, 0⟩).at_) ∧
    (¬ (l.getD (l.length - 1) ⟨0, 0⟩).corr = (if l.length = 1 then a else (l.getD (l.length - 2) ⟨0, 0⟩).corr) → (RecP.lp a l).length = l.length ∧ RecP.ex a l = none) := by
  intro l
  induction l with
  | nil => intro a h; simp at h
  | cons c l ih =>
    intro a _
    cases l with
    | nil =>
      simp only [List.length_cons, List.length_nil, RecP.lp, RecP.ex, true_and]
      by_cases h : c.corr = a
      · simp [h]
      · simp [h]
    | cons d l =>
      have := ih c.corr (by simp)
      have e : RecP.lp a (c :: d :: l) = c :: RecP.lp c.corr (d :: l) := by rw [RecP.lp, if_neg (by simp)]
      have e2 : RecP.ex a (c :: d :: l) = RecP.ex c.corr (d :: l) := by rw [RecP.ex, if_neg (by simp)]
      rw [e, e2]
      have g1 : (c :: d :: l).getD ((c :: d :: l).length - 1) ⟨0, 0⟩ = (d :: l).getD ((d :: l).length - 1) ⟨0, 0⟩ := by
        rw [show (c :: d :: l).length - 1 = ((d :: l).length - 1) + 1 by simp, List.getD_cons_succ]
      have g2 : (if (c :: d :: l).length = 1 then a else ((c :: d :: l).getD ((c :: d :: l).length - 2) ⟨0, 0⟩).corr) = (if (d :: l).length = 1 then c.corr else ((d :: l).getD ((d :: l).length - 2) ⟨0, 0⟩).corr) := by
        rw [if_neg (by simp)]
        cases l with
        | nil => simp
        | cons f l => rw [if_neg (by simp), show (c :: d :: f :: l).length - 2 = ((d :: f :: l).length - 2) + 1 by simp, List.getD_cons_succ]
      rw [g1, g2]
      refine ⟨fun h => ?_, fun h => ?_⟩
      · have := this.1 h; simp only [List.length_cons] at this ⊢; exact ⟨by omega, this.2⟩
      · have := this.2 h; simp only [List.length_cons] at this ⊢; exact ⟨by omega, this.2⟩
theorem lp_take (l : List RecP.R) (a : RecP.R) : l.take (RecP.lp a.corr l).length = RecP.lp a.corr l := by
  have := RecP.lp_split l a
  conv => lhs; arg 2; rw [this]
  exact List.take_left
/-- the records but the expiry -/
def lv (l : List S53) : List S53 := l.take (RecP.lp 0 (l.map toR)).length
theorem lv_map (l : List S53) : (lv l).map toR = RecP.lp 0 (l.map toR) := by
  unfold lv; rw [List.map_take]; exact lp_take (l.map toR) RecP.start
theorem lv_len (l : List S53) : (lv l).length = (RecP.lp 0 (l.map toR)).length := by rw [← lv_map, List.length_map]
theorem lv_le (l : List S53) : (lv l).length ≤ l.length := by unfold lv; rw [List.length_take]; omega
theorem rdr_map (l : List S53) (i : Nat) : (l.map toR).getD i ⟨0, 0⟩ = toR (rd_T53 l (i : Int)) := by
  unfold rd_T53
  rw [Int.toNat_natCast]
  by_cases h : i < l.length
  · simp [List.getD, h]
  · have : l[i]? = none := List.getElem?_eq_none (by omega)
    simp [List.getD, this, toR, z53]
theorem leaps_law (l : List S53) (hl : l.length ≤ 9223372036854775806) (k : Nat) : record_leaps.f (k + 1) l = some (lv l) := by
  have hall : l = l.take l.length := by simp
  unfold record_leaps.f
  rw [w64 (by omega) (by omega)]
  cases l with
  | nil => simp [record_leaps.j0, lv]
  | cons c l =>
    have I := lp_idx ((c :: l).map toR) 0 (by simp)
    simp only [List.length_map] at I
    rw [rdr_map, rdr_map] at I
    have e1 : ∀ x : S53, (toR x).corr = x.f1 := fun _ => rfl
    rw [e1, e1] at I
    generalize hL : c :: l = L at I hall hl ⊢
    have hpos : 0 < L.length := by rw [← hL]; simp
    by_cases h1 : L.length = 1
    · rw [if_pos (by omega), if_pos (by omega)]
      rw [if_pos h1, h1] at I
      simp only [Nat.sub_self, Int.natCast_zero] at I
      obtain ⟨I1, I2⟩ := I
      rw [show ((L.length : Int) - 1) = 0 by omega]
      simp only [record_leaps.j0]
      by_cases hz : (rd_T53 L 0).f1 = 0
      · rw [if_pos (by simp [hz]), if_pos (by omega), if_pos (by omega)]
        unfold lv; rw [(I1 hz).1]; rfl
      · rw [if_neg (by simp [hz]), if_neg (by omega)]
        unfold lv; rw [(I2 hz).1, ← h1, ← hall]
    · rw [if_neg (by omega)]
      rw [if_neg h1] at I
      obtain ⟨I1, I2⟩ := I
      simp only [record_leaps.j0]
      rw [if_neg (by simp), if_pos (by omega), if_pos (by omega), if_pos (by omega), w64 (by omega) (by omega), if_pos (by omega), if_pos (by omega)]
      rw [show ((L.length : Int) - 1 - 1) = ((L.length - 2 : Nat) : Int) by omega, show ((L.length : Int) - 1) = ((L.length - 1 : Nat) : Int) by omega]
      by_cases hz : (rd_T53 L ((L.length - 1 : Nat) : Int)).f1 = (rd_T53 L ((L.length - 2 : Nat) : Int)).f1
      · rw [if_pos hz, if_pos (by omega)]
        unfold lv; rw [(I1 hz).1, Int.toNat_natCast]
      · rw [if_neg hz]
        unfold lv; rw [(I2 hz).1, ← hall]
/-- what an expiry says -/
def exOf : Option Int → Int × Bool
  | some e => (e, true)
  | none => (0, false)
theorem ex_at (l : List S53) (e : Int) (h : RecP.ex 0 (l.map toR) = some e) : (lv l).length < l.length ∧ (rd_T53 l ((lv l).length : Int)).f0 = e ∧ l.length = (lv l).length + 1 := by
  have ll := RecP.lp_len (l.map toR) RecP.start
  have sc : RecP.start.corr = 0 := rfl
  rw [sc, h, List.length_map, ← lv_len] at ll
  simp only [Option.isSome_some, if_true] at ll
  have sp := RecP.lp_split (l.map toR) RecP.start
  rw [sc, h] at sp
  have m := rdr_map l (lv l).length
  rw [sp, lv_len] at m
  simp only [List.getD_eq_getElem?_getD, List.getElem?_append_right (Nat.le_refl _), Nat.sub_self, List.getElem?_cons_zero, Option.getD_some] at m
  refine ⟨by omega, ?_, ll⟩
  rw [lv_len]
  have := congrArg RecP.R.at_ m
  exact this.symm
theorem ex_no (l : List S53) (h : RecP.ex 0 (l.map toR) = none) : lv l = l := by
  have ll := RecP.lp_len (l.map toR) RecP.start
  have sc : RecP.start.corr = 0 := rfl
  rw [sc, h, List.length_map] at ll
  simp only [Option.isSome_none, Bool.false_eq_true, if_false] at ll
  unfold lv; rw [show (RecP.lp 0 (l.map toR)).length = l.length by omega, List.take_length]
theorem rexpiry_law (l : List S53) (hl : l.length ≤ 9223372036854775806) (k : Nat) : record_Expiry.f (k + 1) l = some (exOf (RecP.ex 0 (l.map toR))) := by
  unfold record_Expiry.f
  rw [leaps_law l hl k]
  simp only [Option.bind_some]
  cases h : RecP.ex 0 (l.map toR) with
  | some e =>
    obtain ⟨h1, h2, _⟩ := ex_at l e h
    rw [if_pos (by omega), if_pos (by omega), h2]; rfl
  | none => rw [ex_no l h, if_neg (by omega)]; rfl
theorem asc_lv (l : List S53) (h : RecP.G RecP.start (RecP.lp 0 (l.map toR))) : (lv l).Pairwise (fun x y => x.f0 ≤ y.f0) := by
  have := RecP.G_asc _ _ h
  rw [← lv_map, List.pairwise_map] at this
  exact this.imp (fun {x y} h => by have : x.f0 < y.f0 := h; omega)
theorem count_map (l : List S53) (p : S53 → Bool) (q : RecP.R → Bool) (h : ∀ x, p x = q (toR x)) : l.countP p = (l.map toR).countP q := by
  rw [List.countP_map]
  congr 1
  funext x; exact h x
theorem rsum_law (l : List S53) (hl : l.length ≤ 400) (h : RecP.G RecP.start (RecP.lp 0 (l.map toR))) (t : Int) (k : Nat) : record_Sum.f (k + 1) l t = some (RecP.sm 0 (RecP.lp 0 (l.map toR)) t) := by
  have le := lv_le l
  unfold record_Sum.f
  rw [leaps_law l (by omega) k]
  simp only [Option.bind_some]
  rw [if_pos ⟨by omega, asc_lv l h⟩]
  have c := count_map (lv l) (fun y => !decide (y.f0 > t)) (fun y => decide (y.at_ ≤ t)) (fun x => by
    show (!decide (x.f0 > t)) = decide (x.f0 ≤ t)
    by_cases h : x.f0 ≤ t
    · rw [decide_eq_true h, decide_eq_false (by omega)]; rfl
    · rw [decide_eq_false h, decide_eq_true (by omega)]; rfl)
  have s := RecP.sm_count _ _ t h
  rw [lv_map] at c
  have sc : RecP.start.corr = 0 := rfl
  rw [sc, ← c] at s
  rw [← s]
  by_cases hz : (lv l).countP (fun y => !decide (y.f0 > t)) = 0
  · rw [if_pos hz, if_pos hz]
  · rw [if_neg hz, if_neg hz]
    have cl := List.countP_le_length (p := fun y : S53 => !decide (y.f0 > t)) (l := lv l)
    generalize (lv l).countP (fun y => !decide (y.f0 > t)) = n at hz cl
    rw [← lv_map]
    have hn : n - 1 < (lv l).length := by omega
    simp [List.getD, hn, toR]
theorem rstep_law (l : List S53) (hl : l.length ≤ 400) (h : RecP.G RecP.start (RecP.lp 0 (l.map toR))) (t : Int) (k : Nat) : record_Step.f (k + 1) l t = some (RecP.sp 0 (RecP.lp 0 (l.map toR)) t) := by
  have le := lv_le l
  unfold record_Step.f
  rw [leaps_law l (by omega) k]
  simp only [Option.bind_some]
  rw [if_pos ⟨by omega, asc_lv l h⟩]
  have c := count_map (lv l) (fun y => !decide (y.f0 ≥ t)) (fun y => decide (y.at_ < t)) (fun x => by
    show (!decide (x.f0 ≥ t)) = decide (x.f0 < t)
    by_cases h : x.f0 < t
    · rw [decide_eq_true h, decide_eq_false (by omega)]; rfl
    · rw [decide_eq_false h, decide_eq_true (by omega)]; rfl)
  have s := RecP.sp_count _ _ t h
  have gc := RecP.G_corr _ _ h
  rw [lv_map] at c
  have sc : RecP.start.corr = 0 := rfl
  rw [sc, ← c] at s
  rw [sc] at gc
  rw [← lv_map] at s gc ⊢
  rw [← s]
  rw [List.length_map]
  have gd : ∀ n, n < (lv l).length → ((lv l).map toR).getD n RecP.start = toR (rd_T53 (lv l) (n : Int)) := by
    intro n hn
    rw [← rdr_map]; simp [List.getD, hn]
  have bd : ∀ n, n < (lv l).length → -400 ≤ (rd_T53 (lv l) (n : Int)).f1 ∧ (rd_T53 (lv l) (n : Int)).f1 ≤ 400 := by
    intro n hn
    have m : rd_T53 (lv l) (n : Int) ∈ lv l := by
      unfold rd_T53; rw [Int.toNat_natCast]; simp [List.getD, hn]
    have := gc _ (List.mem_map_of_mem m)
    rw [List.length_map] at this
    have e : (toR (rd_T53 (lv l) (n : Int))).corr = (rd_T53 (lv l) (n : Int)).f1 := rfl
    rw [e] at this; omega
  have e0 : ∀ x, (toR x).at_ = x.f0 := fun _ => rfl
  have e1 : ∀ x, (toR x).corr = x.f1 := fun _ => rfl
  generalize (lv l).countP (fun y => !decide (y.f0 ≥ t)) = n
  unfold record_Step.val
  by_cases hn : n < (lv l).length
  · rw [if_pos hn, if_pos hn, gd n hn, e0]
    by_cases ht : (rd_T53 (lv l) (n : Int)).f0 = t
    · rw [if_pos ht, if_pos ht]
      by_cases hz : n = 0
      · subst hz
        rw [if_pos rfl, if_pos rfl, gd 0 hn, e1]; simp
      · rw [if_neg hz, if_neg hz, gd (n - 1) (by omega), e1, e1, show ((n : Int) - 1) = ((n - 1 : Nat) : Int) by omega]
        have := bd n hn
        have := bd (n - 1) (by omega)
        rw [w64 (by omega) (by omega)]
    · rw [if_neg ht, if_neg ht]
  · rw [if_neg hn, if_neg hn]
def frR (x : RecP.R) : S53 := ⟨x.at_, x.corr⟩
def frL (x : LeapP.L) : S49 := ⟨x.day, x.step, x.roll⟩
theorem toR_frR (l : List RecP.R) : (l.map frR).map toR = l := by rw [List.map_map]; exact List.map_id'' (fun _ => rfl) l
theorem frR_toR (l : List S53) : (l.map toR).map frR = l := by rw [List.map_map]; exact List.map_id'' (fun _ => rfl) l
theorem toL_frL (l : List LeapP.L) : (l.map frL).map toL = l := by rw [List.map_map]; exact List.map_id'' (fun _ => rfl) l
theorem frL_toL (l : List S49) : (l.map toL).map frL = l := by rw [List.map_map]; exact List.map_id'' (fun _ => rfl) l
/-- a right table of UTC -/
def okT (l : List S49) (has : Bool) (exp : Int) : Bool := (LeapP.check (l.map toL) has exp).2 == 0 && !(l.any (fun y => y.f2))
theorem okT_iff (l : List S49) (has : Bool) (exp : Int) : okT l has exp = true ↔ LeapP.Right (l.map toL) has exp ∧ ∀ x ∈ l.map toL, x.roll = false := by
  unfold okT
  rw [← LeapP.check_right]
  simp only [Bool.and_eq_true, beq_iff_eq, Bool.not_eq_true', List.any_eq_false]
  constructor
  · rintro ⟨a, b⟩; exact ⟨a, fun x hx => by obtain ⟨y, hy, rfl⟩ := List.mem_map.1 hx; have := b y hy; simpa [toL] using this⟩
  · rintro ⟨a, b⟩; exact ⟨a, fun x hx => by have : x.f2 = false := b (toL x) (List.mem_map_of_mem hx); simp [this]⟩
-- ---- tables of records
theorem wrap_bd (n : Int) : I64 (wrap64 n) := by unfold I64 wrap64; omega
theorem wrap_sub (a c : Int) : wrap64 (wrap64 a - c) = wrap64 (a - c) := by unfold wrap64; omega
def tabOut (o : Option (List LeapP.L × Bool × Int)) : List S49 × Bool × Int × Bool :=
  match o with
  | some (xs, has, exp) => (xs.map frL, has, exp, true)
  | none => ([], false, 0, false)
theorem table_loop (l : List S53) (hl : l.length ≤ 400) (rest : List S53) : ∀ (pre : List S53) (acc : List LeapP.L) (b : RecP.R) (k : Nat), lv l = pre ++ rest → acc.length = pre.length → RecP.G b (rest.map toR) → -400 ≤ b.corr - rest.length → b.corr + rest.length ≤ 400 → rest.length + 410 < k →
    record_Table.l0 k l b.corr (lv l) (lv l) ((lv l).length : Int) (pre.length : Int) (acc.map frL) false 0 =
      some (match RecP.unr b.corr (rest.map toR) with
        | none => ([], false, 0, false)
        | some ys => tabOut (if (LeapP.check (acc ++ ys) (RecP.ex 0 (l.map toR)).isSome (RecP.expOf (RecP.ex 0 (l.map toR)) (RecP.lastR b (rest.map toR)).corr)).2 = 0 then some (acc ++ ys, (RecP.ex 0 (l.map toR)).isSome, RecP.expOf (RecP.ex 0 (l.map toR)) (RecP.lastR b (rest.map toR)).corr) else none)) := by
  have le := lv_le l
  induction rest with
  | nil =>
    intro pre acc b k e ha g b1 b2 hk
    obtain ⟨k, rfl⟩ : ∃ m, k = m + 1 := ⟨k - 1, by omega⟩
    have e' : (lv l).length = pre.length := by rw [e]; simp
    simp only [record_Table.l0, List.map_nil, RecP.unr, RecP.lastR, List.append_nil]
    rw [if_neg (by omega)]
    cases hex : RecP.ex 0 (l.map toR) with
    | some x =>
      obtain ⟨h1, h2, _⟩ := ex_at l x hex
      rw [if_pos (by omega), if_pos (by omega), h2]
      rw [decide_eq_true (by omega), right_law _ _ _ (by rw [List.length_map]; omega) k (by rw [List.length_map]; simp only [List.length_nil] at hk; omega), toL_frL]
      simp only [Option.bind_some]
      by_cases hc : (LeapP.check acc true (wrap64 (x - b.corr))).2 = 0
      · rw [if_pos (by simp [hc]), if_pos (show (LeapP.check acc (some x).isSome (RecP.expOf (some x) b.corr)).2 = 0 from hc)]; rfl
      · rw [if_neg (by simp [hc]), if_neg (show ¬ (LeapP.check acc (some x).isSome (RecP.expOf (some x) b.corr)).2 = 0 from hc)]; rfl
    | none =>
      have h1 := ex_no l hex
      rw [if_neg (by rw [h1]; omega)]
      rw [decide_eq_false (by rw [h1]; omega), right_law _ _ _ (by rw [List.length_map]; omega) k (by rw [List.length_map]; simp only [List.length_nil] at hk; omega), toL_frL]
      simp only [Option.bind_some]
      by_cases hc : (LeapP.check acc false 0).2 = 0
      · rw [if_pos (by simp [hc]), if_pos (show (LeapP.check acc (none : Option Int).isSome (RecP.expOf none b.corr)).2 = 0 from hc)]; rfl
      · rw [if_neg (by simp [hc]), if_neg (show ¬ (LeapP.check acc (none : Option Int).isSome (RecP.expOf none b.corr)).2 = 0 from hc)]; rfl
  | cons x rest ih =>
    intro pre acc b k e ha g b1 b2 hk
    simp only [List.length_cons] at hk b1 b2
    obtain ⟨k, rfl⟩ : ∃ m, k = m + 1 := ⟨k - 1, by omega⟩
    have hlen : (lv l).length = pre.length + (rest.length + 1) := by rw [e]; simp
    have hr : rd_T53 (lv l) (pre.length : Int) = x := by rw [e]; exact rdr_at pre rest x
    obtain ⟨g1, g2, g3, g4⟩ := g
    have d0 : (toR x).at_ = x.f0 := rfl
    have d1 : (toR x).corr = x.f1 := rfl
    rw [d1] at g2
    simp only [record_Table.l0]
    rw [if_pos (by omega), if_pos (by omega), if_pos (by omega), hr, mn_min, w64 (n := x.f1 - b.corr) (by omega) (by omega), wrap_sub]
    rw [div_law _ _ (wrap_bd _) (by unfold I64; omega) (by omega)]
    simp only [Option.bind_some, List.map_cons, RecP.unr, RecP.lastR]
    rw [d0, d1]
    by_cases hm : wrap64 (x.f0 - b.corr - min (x.f1 - b.corr) 0) % 86400 = 0
    · have wb := wrap_bd (x.f0 - b.corr - min (x.f1 - b.corr) 0)
      unfold I64 at wb
      rw [if_pos hm, if_pos hm, if_pos (by rw [List.length_map]; omega), w64 (n := wrap64 (x.f0 - b.corr - min (x.f1 - b.corr) 0) / 86400 - 1) (by omega) (by omega), w64 (n := (pre.length : Int) + 1) (by omega) (by omega)]
      have := ih (pre ++ [x]) (acc ++ [⟨wrap64 (x.f0 - b.corr - min (x.f1 - b.corr) 0) / 86400 - 1, x.f1 - b.corr, false⟩]) (toR x) k (by rw [e]; simp) (by simp [ha]) g4 (by rw [d1]; omega) (by rw [d1]; omega) (by omega)
      rw [d1] at this
      simp only [List.map_append, List.map_cons, List.map_nil, frL, List.length_append, List.length_cons, List.length_nil] at this
      rw [show ((pre.length : Int) + 1) = ((pre.length + (0 + 1) : Nat) : Int) by omega]
      refine this.trans ?_
      cases RecP.unr x.f1 (rest.map toR) with
      | none => rfl
      | some ys => simp
    · rw [if_neg hm, if_neg hm]
theorem rtable_law (l : List S53) (hl : l.length ≤ 400) (h : RecP.G RecP.start (RecP.lp 0 (l.map toR))) (hn : l.length ≤ 201) (k : Nat) (hk : 900 < k) : record_Table.f k l = some (tabOut (RecP.table (l.map toR))) := by
  obtain ⟨k, rfl⟩ : ∃ m, k = m + 1 := ⟨k - 1, by omega⟩
  have le := lv_le l
  unfold record_Table.f
  rw [leaps_law l (by omega) k]
  simp only [Option.bind_some]
  have sc : RecP.start.corr = 0 := rfl
  have := table_loop l hl (lv l) [] [] RecP.start (k + 1) rfl rfl (by rw [lv_map]; exact h) (by rw [sc]; omega) (by rw [sc]; omega) (by omega)
  rw [sc, lv_map] at this
  simp only [List.map_nil, List.length_nil, Int.natCast_zero, List.nil_append] at this
  rw [this]
  unfold RecP.table
  cases RecP.unr 0 (RecP.lp 0 (l.map toR)) <;> rfl
end Go.Proofs.Ythoigncoojcanaa.Pure
namespace Go.Proofs.Ythoigncoojcanaa.Pure
open Go.RowKit Go.Proofs.Ythoigncoojcanaa.PAll Go.Proofs.YthoigncoojcanaaW.PrintWords Go.Proofs.YthoigncoojcanaaW.PrintLast
set_option linter.unusedVariables false
set_option linter.unusedSimpArgs false
theorem rrn_of {l : List S53} (h : ((RecP.check (l.map toR)).2 == 0) = true) : RecP.Right (l.map toR) ∧ l.length ≤ 201 := by
  have r := (RecP.check_right _).1 (by simpa using h)
  refine ⟨r, ?_⟩
  have := r.2.2; rwa [List.length_map] at this
/-- the records of a table, as the program holds them -/
def full (l : List S49) (has : Bool) (exp : Int) : List S53 := (RecP.full (l.map toL) has exp).map frR
theorem full_map (l : List S49) (has : Bool) (exp : Int) : (full l has exp).map toR = RecP.full (l.map toL) has exp := toR_frR _
theorem full_rr {l : List S49} {has : Bool} {exp : Int} (h : okT l has exp = true) : RecP.Right ((full l has exp).map toR) ∧ (full l has exp).length ≤ 201 ∧ (RecP.check ((full l has exp).map toR)).2 = 0 := by
  have R := ((okT_iff l has exp).1 h).1
  have F := RecP.full_right _ _ _ R
  rw [full_map]
  refine ⟨F, ?_, (RecP.check_right _).2 F⟩
  have := F.2.2; unfold full; rwa [List.length_map]
theorem full_at {l : List S49} {has : Bool} {exp : Int} (h : okT l has exp = true) : ∀ c ∈ (full l has exp).map toR, c.at_ ≤ 9223372036854775807 := by
  intro c hc
  rw [full_map] at hc
  have := ScaleP.full_bd _ _ _ ((okT_iff l has exp).1 h).1 c hc
  omega
theorem right_mem {l : List RecP.R} (h : RecP.Right l) : ∀ c ∈ l, 0 ≤ c.at_ ∧ -400 ≤ c.corr ∧ c.corr ≤ 400 := by
  obtain ⟨h1, h2, h3⟩ := h
  have sp := RecP.lp_split l RecP.start
  have sc : RecP.start.corr = 0 := rfl
  have ll := RecP.lp_len l RecP.start
  rw [sc] at sp ll
  have cb := RecP.G_corr _ _ h1
  rw [sc] at cb
  have lb := RecP.lastR_bd _ h1
  intro c hc
  rw [sp] at hc
  rcases List.mem_append.1 hc with hc | hc
  · have := RecP.G_mem _ _ h1 c hc
    have := cb c hc
    omega
  · cases he : RecP.ex 0 l with
    | none => rw [he] at hc; simp at hc
    | some e =>
      rw [he] at hc
      simp only [List.mem_singleton] at hc
      subst hc
      have := h2 e he
      exact ⟨this.1, by simp only; omega, by simp only; omega⟩
theorem wr_right {l : List S53} (h : RecP.Right (l.map toR)) (hb : ∀ c ∈ l.map toR, c.at_ ≤ 9223372036854775807) : WR l := by
  intro x hx
  have a := right_mem h (toR x) (List.mem_map_of_mem hx)
  have b := hb (toR x) (List.mem_map_of_mem hx)
  have e0 : (toR x).at_ = x.f0 := rfl
  have e1 : (toR x).corr = x.f1 := rfl
  rw [e0, e1] at a
  rw [e0] at b
  unfold I64; omega
theorem full_wr {l : List S49} {has : Bool} {exp : Int} (h : okT l has exp = true) : WR (full l has exp) := wr_right (full_rr h).1 (full_at h)
theorem full_right_law {l : List S49} {has : Bool} {exp : Int} (h : okT l has exp = true) (k : Nat) (hk : 900 < k) : record_Right.f k (full l has exp) = some true := by
  obtain ⟨h1, h2, h3⟩ := full_rr h
  rw [rright_law _ (by omega) (full_wr h) k (by omega), h3]; rfl
theorem full_table_law {l : List S49} {has : Bool} {exp : Int} (h : okT l has exp = true) (k : Nat) (hk : 900 < k) : record_Table.f k (full l has exp) = some (l, has, exp, true) := by
  obtain ⟨h1, h2, h3⟩ := full_rr h
  have o := (okT_iff l has exp).1 h
  rw [rtable_law _ (by omega) h1.1 h2 k hk, (RecP.table_iff _ h1 (full_at h) _ _ _).2 ⟨o.1, o.2, full_map l has exp⟩]
  simp only [tabOut, frL_toL]
/-- the table of right records -/
theorem table_cases (m : List S53) (hr : RecP.Right (m.map toR)) (hw : WR m) (hn : m.length ≤ 201) (k : Nat) (hk : 900 < k) :
    record_Table.f k m = some ([], false, 0, false) ∧ (∀ l has exp, okT l has exp = true → m ≠ full l has exp) ∨ ∃ l has exp, record_Table.f k m = some (l, has, exp, true) ∧ okT l has exp = true ∧ m = full l has exp := by
  rw [rtable_law m (by omega) hr.1 hn k hk]
  cases ht : RecP.table (m.map toR) with
  | none =>
    refine .inl ⟨rfl, fun l has exp ho e => ?_⟩
    have o := (okT_iff l has exp).1 ho
    have := (RecP.table_iff _ hr (wr_at hw) _ _ _).2 ⟨o.1, o.2, by rw [e]; exact full_map l has exp⟩
    rw [ht] at this; exact absurd this (by simp)
  | some t =>
    obtain ⟨xs, has, exp⟩ := t
    obtain ⟨a, b, c⟩ := (RecP.table_iff _ hr (wr_at hw) _ _ _).1 ht
    refine .inr ⟨xs.map frL, has, exp, rfl, (okT_iff _ _ _).2 ⟨by rw [toL_frL]; exact a, by rw [toL_frL]; exact b⟩, ?_⟩
    apply mapR_inj
    rw [full_map, toL_frL]; exact c
theorem okT_len {l : List S49} {has : Bool} {exp : Int} (h : okT l has exp = true) : l.length ≤ 200 := by
  have := ((okT_iff l has exp).1 h).1.2.1; rwa [List.length_map] at this
theorem okT_right {l : List S49} {has : Bool} {exp : Int} (h : okT l has exp = true) (k : Nat) (hk : 900 < k) : leap_Right.f k l has exp = some true := by
  have := okT_len h
  have R := ((okT_iff l has exp).1 h).1
  rw [right_law l has exp (by omega) k (by omega), (LeapP.check_right _ _ _).2 R]; rfl
end Go.Proofs.Ythoigncoojcanaa.Pure
namespace Go.Proofs.Ythoigncoojcanaa.Pure
open Go.RowKit Go.Proofs.Ythoigncoojcanaa.PAll Go.Proofs.YthoigncoojcanaaW.PrintWords Go.Proofs.YthoigncoojcanaaW.PrintLast
set_option linter.unusedVariables false
set_option linter.unusedSimpArgs false
set_option linter.unusedSectionVars false
/-- records that have a table, or not -/
theorem known_cases (m : List S53) (hm : m.length ≤ 300) (hw : WR m) (k : Nat) (hk : 1300 < k) :
    scale_Known.f k m = some false ∧ (∀ l has exp, okT l has exp = true → m ≠ full l has exp) ∨ ∃ l has exp, okT l has exp = true ∧ m = full l has exp := by
  unfold scale_Known.f
  rw [rright_law m (by omega) hw k (by omega)]
  simp only [Option.bind_some]
  cases h : ((RecP.check (m.map toR)).2 == 0) with
  | false =>
    refine .inl ⟨by simp, fun l has exp ho e => ?_⟩
    have := (full_rr ho).2.2
    rw [← e] at this; simp [this] at h
  | true =>
    obtain ⟨hr, hn⟩ := rrn_of h
    simp only [if_true]
    rcases table_cases m hr hw hn k (by omega) with ⟨e, ne⟩ | ⟨l, has, exp, e, ho, rfl⟩
    · rw [e]; exact .inl ⟨rfl, ne⟩
    · exact .inr ⟨l, has, exp, ho, rfl⟩
section
variable {l : List S49} {has : Bool} {exp : Int} (ho : okT l has exp = true)
include ho
theorem known_law (k : Nat) (hk : 1300 < k) : scale_Known.f k (full l has exp) = some true := by
  unfold scale_Known.f
  rw [full_right_law ho k (by omega)]
  simp only [Option.bind_some, if_true]
  rw [full_table_law ho k (by omega)]; rfl
theorem tG : LeapP.Good 729 (l.map toL) := ((okT_iff l has exp).1 ho).1.1
theorem tl : (l.map toL).length ≤ 200 := by rw [List.length_map]; exact okT_len ho
theorem lpf : RecP.lp 0 ((full l has exp).map toR) = RecP.recs 0 (l.map toL) ∧ RecP.ex 0 ((full l has exp).map toR) = (if has = true then some (exp + RecP.tots 0 (l.map toL)) else none) := by
  rw [full_map]; exact RecP.lp_full _ has exp (RecP.good_steps (tG ho))
theorem texp : has = true → 63072000 ≤ exp ∧ exp ≤ 253402300799 := by
  intro h
  have := ((okT_iff l has exp).1 ho).1.2.2
  unfold LeapP.badEnd at this
  rw [if_pos h] at this; omega
theorem ttots : -200 ≤ RecP.tots 0 (l.map toL) ∧ RecP.tots 0 (l.map toL) ≤ 200 := by
  have := RecP.tots_bd (l.map toL) 0 (RecP.good_steps (tG ho))
  have := tl ho
  omega
theorem full_expiry_law (k : Nat) : record_Expiry.f (k + 1) (full l has exp) = some (if has = true then (exp + RecP.tots 0 (l.map toL), true) else (0, false)) := by
  rw [rexpiry_law _ (by have := (full_rr ho).2.1; omega), (lpf ho).2]
  cases has <;> rfl
theorem expired_law (at' : Int) (k : Nat) : scale_expired.f (k + 1) (full l has exp) at' = some (decide (has = true ∧ exp + RecP.tots 0 (l.map toL) ≤ at')) := by
  unfold scale_expired.f
  rw [full_expiry_law ho]
  cases has with
  | true => simp
  | false => simp
theorem full_sum_law (t : Int) (k : Nat) : record_Sum.f (k + 1) (full l has exp) t = some (RecP.sm 0 (RecP.recs 0 (l.map toL)) t) := by
  rw [rsum_law _ (by have := (full_rr ho).2.1; omega) (full_rr ho).1.1, (lpf ho).1]
theorem full_step_law (t : Int) (k : Nat) : record_Step.f (k + 1) (full l has exp) t = some (RecP.sp 0 (RecP.recs 0 (l.map toL)) t) := by
  rw [rstep_law _ (by have := (full_rr ho).2.1; omega) (full_rr ho).1.1, (lpf ho).1]
theorem add_law1 (a b : Int) (ha : I64 a) (hb : I64 b) : num_Add.f a b = some (if -9223372036854775808 ≤ a + b ∧ a + b ≤ 9223372036854775807 then (a + b, true) else (0, false)) := by
  unfold I64 at *
  unfold num_Add.f
  have w : wrap64 (a + b) = if -9223372036854775808 ≤ a + b ∧ a + b ≤ 9223372036854775807 then a + b else if a + b < -9223372036854775808 then a + b + 18446744073709551616 else a + b - 18446744073709551616 := by
    unfold wrap64; split
    · omega
    · split <;> omega
  by_cases h : -9223372036854775808 ≤ a + b ∧ a + b ≤ 9223372036854775807
  · rw [if_pos h] at w
    rw [if_pos h, w]
    by_cases h0 : b = 0
    · simp [h0]
    · rw [if_neg]
      by_cases h1 : b > 0
      · rw [decide_eq_true h1, decide_eq_true (by omega)]; simp
      · rw [decide_eq_false h1, decide_eq_false (by omega)]; simp
  · rw [if_neg h] at w
    rw [if_neg h]
    have h0 : ¬ b = 0 := by omega
    rw [if_pos, if_neg h0]
    by_cases h1 : b > 0
    · rw [if_neg (by omega)] at w; rw [w, decide_eq_true h1, decide_eq_false (by omega)]; rfl
    · rw [if_pos (by omega)] at w; rw [w, decide_eq_false h1, decide_eq_true (by omega)]; rfl
/-- Utc tells the day and the second -/
theorem utc_law (t : Int) (ht : I64 t) (h0 : 0 ≤ t) (d sec : Int) (hA : ScaleP.At (l.map toL) t d sec) (k : Nat) (hk : 1400 < k) :
    scale_Utc.f k (full l has exp) t = some (ScaleP.utcR has (ScaleP.fin (l.map toL) exp) t d sec) := by
  obtain ⟨k, rfl⟩ : ∃ q, k = q + 2 := ⟨k - 2, by omega⟩
  have tt := ttots ho
  have te := texp ho
  have bd := ScaleP.at_bd _ (tG ho) (tl ho) t d sec hA
  unfold I64 at ht
  unfold scale_Utc.f
  rw [add_law1 ho t 63072000 (by unfold I64; omega) (by unfold I64; omega), known_law ho _ (by omega)]
  simp only [Option.bind_some, if_true]
  rw [if_neg (by omega)]
  unfold ScaleP.utcR ScaleP.fin
  have j10 : ∀ x8 at', scale_Utc.j0 (k + 2) (full l has exp) at' x8 true = some (0, 0, 10) := by intro x8 at'; simp [scale_Utc.j0]
  by_cases hf : -9223372036854775808 ≤ t + 63072000 ∧ t + 63072000 ≤ 9223372036854775807
  · rw [if_pos hf]
    simp only [if_true]
    rw [expired_law ho]
    simp only [Option.bind_some]
    by_cases he : has = true ∧ exp + RecP.tots 0 (l.map toL) - 63072000 ≤ t
    · rw [if_pos he, decide_eq_true ⟨he.1, by omega⟩, if_pos rfl, j10]
    · rw [if_neg he, decide_eq_false (by rintro ⟨a, b⟩; exact he ⟨a, by omega⟩), if_neg (by simp)]
      simp only [scale_Utc.j0, Bool.false_eq_true, if_false, if_true]
      have e := hA.eq
      have dl := ScaleP.day_law0 (l.map toL) 729 d sec (tG ho) hA.s0 hA.s1
      rw [e] at dl
      have tb := LeapP.tot_bd _ 729 d (tG ho)
      have cl := LeapP.cnt_le (l.map toL) d
      have tl' := tl ho
      have s0 := hA.s0
      have s1 := hA.s1
      have sb := ScaleP.stp_bd _ d (tG ho)
      have sb' := ScaleP.stp_bd _ (d - 1) (tG ho)
      rw [full_sum_law ho, dl.1]
      simp only [Option.bind_some]
      have bg : ScaleP.beg (l.map toL) d = d * 86400 + LeapP.tot (l.map toL) d := rfl
      rw [bg] at e
      by_cases hl : LeapP.stp (l.map toL) d = 1 ∧ sec = 86400
      · rw [ScaleP.late_yes hl, sub_law _ _ (by unfold I64; omega) (by unfold I64; omega), if_pos (by omega)]
        simp only [Option.bind_some]
        rw [div_law _ _ (by unfold I64; omega) (by unfold I64; omega) (by omega)]
        simp only [Option.bind_some]
        rw [full_step_law ho, dl.2, ScaleP.chg_yes hl]
        simp only [Option.bind_some]
        rw [if_pos (by omega), if_pos trivial, show (t + 63072000 - (LeapP.tot (l.map toL) d + 1)) / 86400 = d by omega, show (t + 63072000 - (LeapP.tot (l.map toL) d + 1)) % 86400 = 86399 by omega, w64 (by omega) (by omega), hl.2]
        by_cases hd : d > 2932896
        · rw [if_pos hd, if_pos hd]
        · rw [if_neg hd, if_neg hd]; rfl
      · have nl : sec < 86400 := by omega
        have nc : ¬ ScaleP.chg (LeapP.stp (l.map toL) d) (LeapP.stp (l.map toL) (d - 1)) sec > 0 := by
          unfold ScaleP.chg; rw [if_neg hl]; split <;> omega
        rw [ScaleP.late_no hl, Int.add_zero, sub_law _ _ (by unfold I64; omega) (by unfold I64; omega)]
        simp only [Option.bind_some]
        by_cases fit : -9223372036854775808 ≤ t + 63072000 - LeapP.tot (l.map toL) d ∧ t + 63072000 - LeapP.tot (l.map toL) d ≤ 9223372036854775807
        · rw [if_pos fit, div_law _ _ (by unfold I64; omega) (by unfold I64; omega) (by omega)]
          simp only [Option.bind_some]
          rw [full_step_law ho, dl.2]
          simp only [Option.bind_some]
          rw [if_neg nc, if_pos trivial, show (t + 63072000 - LeapP.tot (l.map toL) d) / 86400 = d by omega, show (t + 63072000 - LeapP.tot (l.map toL) d) % 86400 = sec by omega]
          by_cases hd : d > 2932896
          · rw [if_pos hd, if_pos hd]
          · rw [if_neg hd, if_neg hd]
        · rw [if_neg fit, div_law _ _ (by unfold I64; omega) (by unfold I64; omega) (by omega)]
          simp only [Option.bind_some]
          rw [full_step_law ho, dl.2]
          simp only [Option.bind_some]
          rw [if_neg nc, if_neg (by simp), if_pos (by omega)]
  · rw [if_neg hf]
    simp only [Bool.false_eq_true, if_false]
    rw [expired_law ho]
    simp only [Option.bind_some]
    by_cases he : has = true
    · have := te he
      rw [if_pos ⟨he, by omega⟩, decide_eq_true ⟨he, by omega⟩, j10]
    · rw [if_neg (fun h => he h.1), decide_eq_false (fun h => he h.1), if_pos (by omega)]
      simp [scale_Utc.j0]
theorem utc_neg (t : Int) (ht : I64 t) (h0 : t < 0) (k : Nat) (hk : 1400 < k) : scale_Utc.f k (full l has exp) t = some (0, 0, 9) := by
  unfold I64 at ht
  unfold scale_Utc.f
  rw [add_law1 ho t 63072000 (by unfold I64; omega) (by unfold I64; omega), known_law ho _ (by omega)]
  simp only [Option.bind_some, if_true]
  rw [if_pos h0]
theorem days_fair (d : Int) (h0 : 730 ≤ d) (h1 : d ≤ 2932896) : api_Leap_int.Fair l d := by
  have G := tG ho
  have asc := LeapP.good_asc _ _ G
  rw [List.pairwise_map] at asc
  refine ⟨by have := okT_len ho; omega, asc.imp (fun {x y} h => by have : x.f0 < y.f0 := h; omega), fun y hy => ?_, by omega, by omega⟩
  have := LeapP.good_mem _ _ G (toL y) (List.mem_map_of_mem hy)
  have e : (toL y).day = y.f0 := rfl
  rw [e] at this
  omega
theorem count_days (d : Int) : ∀ l : List S49, l.countP (fun y => decide (y.f0 < d)) = LeapP.cnt (l.map toL) d := by
  intro l
  induction l with
  | nil => rfl
  | cons x l ih =>
    simp only [List.map_cons, LeapP.cnt, List.countP_cons, ih]
    have : (toL x).day = x.f0 := rfl
    rw [this]
    by_cases h : x.f0 < d
    · rw [if_pos h, if_pos (by simp [h])]; omega
    · rw [if_neg h, if_neg (by simp [h])]; omega
theorem sstep_law (d : Int) (h0 : 730 ≤ d) (h1 : d ≤ 2932896) (k : Nat) (hk : 900 < k) : scale_step.f k (full l has exp) d = some (LeapP.stp (l.map toL) d) := by
  unfold scale_step.f
  rw [full_table_law ho k hk]
  simp only [Option.bind_some]
  unfold api_Leap_int.f
  rw [if_pos ⟨days_fair ho d h0 h1, rfl⟩]
  simp only [Option.bind_some]
  unfold api_Leap_int.cnt
  rw [count_days ho d l, LeapP.stp_at _ _ d (tG ho)]
  have c := LeapP.cnt_le (l.map toL) d
  rw [List.length_map] at c
  generalize LeapP.cnt (l.map toL) d = n at c
  by_cases hn : n < l.length
  · have e : (l.map toL)[n]? = some (toL (rd_T49 l (n : Int))) := by
      unfold rd_T49
      rw [List.getElem?_map, Int.toNat_natCast]
      simp [hn]
    have g : l.getD n z49 = rd_T49 l (n : Int) := by unfold rd_T49; rw [Int.toNat_natCast]
    rw [e, g]
    simp only [decide_eq_true hn, Bool.true_and]
    have dd : (toL (rd_T49 l (n : Int))).day = (rd_T49 l (n : Int)).f0 := rfl
    rw [dd]
    by_cases hd : (rd_T49 l (n : Int)).f0 = d
    · rw [decide_eq_true hd, if_pos rfl, if_pos (by omega), if_pos (by omega), if_pos hd]; rfl
    · rw [decide_eq_false hd, if_neg (by simp), if_neg hd]
  · rw [List.getElem?_eq_none (by simp; omega)]
    rw [decide_eq_false hn]; simp
theorem length_law1 (d : Int) (k : Nat) (hk : 1300 < k) : scale_Length.f k (full l has exp) d = some (if d < 730 ∨ d > 2932896 then (0, 9) else (86400 + LeapP.stp (l.map toL) d, 0)) := by
  unfold scale_Length.f
  rw [known_law ho k hk]
  simp only [Option.bind_some, if_true]
  by_cases h0 : d < 730
  · rw [if_pos h0, if_pos (.inl h0)]
  · rw [if_neg h0]
    by_cases h1 : d > 2932896
    · rw [if_pos h1, if_pos (.inr h1)]
    · rw [if_neg h1, if_neg (by omega), sstep_law ho d (by omega) (by omega) k (by omega)]
      have := ScaleP.stp_bd _ d (tG ho)
      simp only [Option.bind_some]
      rw [w64 (by omega) (by omega)]
theorem bsum_law (d : Int) : ∀ (ys : List S49) (a s : Int), LeapP.Good a (ys.map toL) → -1000 ≤ s - ys.length → s + ys.length ≤ 1000 → scale_begins.sum d ys s = s + LeapP.tot (ys.map toL) d := by
  intro ys
  induction ys with
  | nil => intro a s _ _ _; simp [scale_begins.sum, LeapP.tot]
  | cons y ys ih =>
    intro a s h h1 h2
    simp only [List.length_cons] at h1 h2
    obtain ⟨_, _, _, h4, h5, h6⟩ := h
    have e0 : (toL y).day = y.f0 := rfl
    have e1 : (toL y).step = y.f1 := rfl
    simp only [scale_begins.sum, List.map_cons, LeapP.tot]
    rw [e0, e1]
    rw [e1] at h4
    by_cases hd : y.f0 < d
    · rw [if_pos hd, if_pos hd, w64 (by omega) (by omega), ih (toL y).day _ h6 (by omega) (by omega)]; omega
    · have := (LeapP.good_above _ _ d h6 (by rw [e0]; omega)).2
      rw [if_neg hd, if_neg hd, this]; omega
theorem begins_law (d : Int) (h0 : 730 ≤ d) (h1 : d ≤ 2932896) (k : Nat) (hk : 900 < k) : scale_begins.f k (full l has exp) d = some (ScaleP.beg (l.map toL) d) := by
  have ln := okT_len ho
  unfold scale_begins.f
  rw [full_table_law ho k hk]
  simp only [Option.bind_some]
  rw [bsum_law ho d l 729 0 (tG ho) (by omega) (by omega)]
  have tb := LeapP.tot_bd _ 729 d (tG ho)
  have cl := LeapP.cnt_le (l.map toL) d
  have tl' := tl ho
  rw [w64 (n := d * 86400) (by omega) (by omega), w64 (by omega) (by omega)]
  unfold ScaleP.beg
  congr 1; omega
theorem tai_law (d sec : Int) (hs : I64 sec) (k : Nat) (hk : 1400 < k) : scale_Tai.f k (full l has exp) d sec = some (ScaleP.taiR (l.map toL) has exp d sec) := by
  obtain ⟨k, rfl⟩ : ∃ q, k = q + 2 := ⟨k - 2, by omega⟩
  unfold scale_Tai.f ScaleP.taiR
  rw [length_law1 ho d _ (by omega)]
  simp only [Option.bind_some]
  by_cases hd : d < 730 ∨ d > 2932896
  · rw [if_pos hd, if_neg (show ¬ ((0, 9) : Int × Int).2 = 0 by simp), if_pos (by omega)]
  · rw [if_neg hd]
    simp only [if_true]
    have j9 : ∀ m, scale_Tai.j0 (k + 2) (full l has exp) d sec m true = some (0, 9) := by intro m; simp [scale_Tai.j0]
    by_cases h0 : sec < 0
    · rw [if_pos h0, decide_eq_true h0, j9, if_pos (by omega)]
    · rw [if_neg h0]
      by_cases h1 : sec > 86400
      · rw [decide_eq_true h1, j9, if_pos (by omega)]
      · rw [decide_eq_false h1, if_neg (by omega)]
        simp only [scale_Tai.j0, Bool.false_eq_true, if_false]
        by_cases h2 : sec ≥ 86400 + LeapP.stp (l.map toL) d
        · rw [if_pos h2, if_pos h2]
        · rw [if_neg h2, if_neg h2, begins_law ho d (by omega) (by omega) _ (by omega)]
          simp only [Option.bind_some]
          have bn := ScaleP.beg_near _ (tG ho) (tl ho) d
          rw [w64 (n := ScaleP.beg (l.map toL) d + sec) (by omega) (by omega), expired_law ho]
          simp only [Option.bind_some]
          unfold ScaleP.fin
          by_cases h3 : has = true ∧ exp + RecP.tots 0 (l.map toL) - 63072000 ≤ ScaleP.beg (l.map toL) d + sec - 63072000
          · rw [if_pos h3, decide_eq_true ⟨h3.1, by omega⟩, if_pos rfl]
          · rw [if_neg h3, decide_eq_false (by rintro ⟨a, b⟩; exact h3 ⟨a, by omega⟩), if_neg (by simp), w64 (by omega) (by omega)]
end
/-- of records without a table nothing is told -/
theorem utc_no (m : List S53) (t : Int) (ht : I64 t) (k : Nat) (h : scale_Known.f k m = some false) : scale_Utc.f k m t = some (0, 0, 1) := by
  unfold scale_Utc.f
  have : ∃ r, num_Add.f t 63072000 = some r := by unfold num_Add.f; split <;> (try split) <;> exact ⟨_, rfl⟩
  obtain ⟨r, hr⟩ := this
  rw [hr, h]; simp
theorem length_no (m : List S53) (d : Int) (k : Nat) (h : scale_Known.f k m = some false) : scale_Length.f k m d = some (0, 1) := by
  unfold scale_Length.f; rw [h]; simp
theorem tai_no (m : List S53) (d sec : Int) (k : Nat) (h : scale_Known.f k m = some false) : scale_Tai.f k m d sec = some (0, 1) := by
  unfold scale_Tai.f; rw [length_no m d k h]; simp
end Go.Proofs.Ythoigncoojcanaa.Pure
namespace Go.Proofs.Ythoigncoojcanaa.Pure
open Go.RowKit Go.Proofs.Ythoigncoojcanaa.PAll Go.Proofs.YthoigncoojcanaaW.PrintWords Go.Proofs.YthoigncoojcanaaW.PrintLast
set_option linter.unusedVariables false
set_option linter.unusedSimpArgs false
set_option linter.unusedSectionVars false
/-- the POSIX second of a day's second -/
def ofR (d s : Int) : Int × Bool := if d < -719162 ∨ d > 2932896 ∨ s < 0 ∨ s > 86400 then (0, false) else (d * 86400 + min s 86399, true)
theorem of_law (d s : Int) : posix_Of.f d s = some (ofR d s) := by
  unfold posix_Of.f ofR
  by_cases h1 : d < -719162
  · rw [if_pos h1, if_pos (.inl h1)]
  · rw [if_neg h1]
    by_cases h2 : d > 2932896
    · rw [if_pos h2, if_pos (by omega)]
    · rw [if_neg h2]
      by_cases h3 : s < 0
      · rw [if_pos h3, if_pos (by omega)]
      · rw [if_neg h3]
        by_cases h4 : s > 86400
        · rw [if_pos h4, if_pos (by omega)]
        · rw [if_neg h4, if_neg (by omega), mn_min, w64 (n := d * 86400) (by omega) (by omega), w64 (by omega) (by omega)]
theorem pday_law (p : Int) (hp : I64 p) : posix_Day.f p = some (p / 86400, p % 86400) := by
  unfold posix_Day.f
  rw [div_law p 86400 hp (by unfold I64; omega) (by omega)]; rfl
/-- the POSIX second of a second of TAI -/
def fromR (u : Int × Int × Int) : Int × Int := if u.2.2 = 0 then (u.1 * 86400 + min u.2.1 86399, 0) else (0, u.2.2)
section
variable {l : List S49} {has : Bool} {exp : Int} (ho : okT l has exp = true)
include ho
theorem ptai_law (p : Int) (hp : I64 p) (k : Nat) (hk : 1400 < k) : posix_Tai.f k (full l has exp) p = some (ScaleP.taiR (l.map toL) has exp (p / 86400) (p % 86400)) := by
  unfold posix_Tai.f
  rw [pday_law p hp]
  simp only [Option.bind_some]
  rw [tai_law ho _ _ (by unfold I64; omega) k hk]; rfl
theorem from_utc (t : Int) (u : Int × Int × Int) (k : Nat) (h : scale_Utc.f k (full l has exp) t = some u) (hu : u.2.2 = 0 → 730 ≤ u.1 ∧ u.1 ≤ 2932896 ∧ 0 ≤ u.2.1 ∧ u.2.1 ≤ 86400) : posix_From.f k (full l has exp) t = some (fromR u) := by
  unfold posix_From.f fromR
  rw [h]
  simp only [Option.bind_some]
  by_cases h0 : u.2.2 = 0
  · have := hu h0
    rw [if_pos h0, if_pos h0, of_law]
    unfold ofR
    rw [if_neg (by omega), h0]; rfl
  · rw [if_neg h0, if_neg h0]
theorem utcR_range {t d sec e : Int} (A : ScaleP.At (l.map toL) t d sec) : (ScaleP.utcR has e t d sec).2.2 = 0 → 730 ≤ (ScaleP.utcR has e t d sec).1 ∧ (ScaleP.utcR has e t d sec).1 ≤ 2932896 ∧ 0 ≤ (ScaleP.utcR has e t d sec).2.1 ∧ (ScaleP.utcR has e t d sec).2.1 ≤ 86400 := by
  intro h
  obtain ⟨a, b, c⟩ := ScaleP.utcR_ok h
  have bd := ScaleP.at_bd _ (tG ho) (tl ho) _ _ _ A
  have a0 := A.d0
  have s0 := A.s0
  rw [c]
  exact ⟨a0, b, s0, bd.2.2.2⟩
theorem pfrom_law (t : Int) (ht : I64 t) (d sec : Int) (A : ScaleP.At (l.map toL) t d sec) (k : Nat) (hk : 1400 < k) : posix_From.f k (full l has exp) t = some (fromR (ScaleP.utcR has (ScaleP.fin (l.map toL) exp) t d sec)) :=
  from_utc ho t _ k (utc_law ho t ht (ScaleP.at_bd _ (tG ho) (tl ho) _ _ _ A).1 d sec A k hk) (utcR_range ho A)
theorem pfrom_neg (t : Int) (ht : I64 t) (h0 : t < 0) (k : Nat) (hk : 1400 < k) : posix_From.f k (full l has exp) t = some (0, 9) :=
  from_utc ho t _ k (utc_neg ho t ht h0 k hk) (fun h => by simp at h)
theorem taiR_small (d sec : Int) : -1 ≤ (ScaleP.taiR (l.map toL) has exp d sec).1 ∧ (ScaleP.taiR (l.map toL) has exp d sec).1 ≤ 300000000000 := by
  by_cases h : (ScaleP.taiR (l.map toL) has exp d sec).2 = 0
  · obtain ⟨a, b, c, e, f, g, q⟩ := ScaleP.taiR_ok h
    have bd := ScaleP.at_bd _ (tG ho) (tl ho) _ _ _ (ScaleP.at_tai h)
    omega
  · rw [ScaleP.taiR_no h]; omega
end
theorem ptai_no (m : List S53) (p : Int) (hp : I64 p) (k : Nat) (h : scale_Known.f k m = some false) : posix_Tai.f k m p = some (0, 1) := by
  unfold posix_Tai.f; rw [pday_law p hp]; simp only [Option.bind_some]; rw [tai_no m _ _ k h]; rfl
theorem pfrom_no (m : List S53) (t : Int) (ht : I64 t) (k : Nat) (h : scale_Known.f k m = some false) : posix_From.f k m t = some (0, 1) := by
  unfold posix_From.f; rw [utc_no m t ht k h]; simp
end Go.Proofs.Ythoigncoojcanaa.Pure
