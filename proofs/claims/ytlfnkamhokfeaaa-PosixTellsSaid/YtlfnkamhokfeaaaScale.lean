/- What the printed functions of the package scale tell of the records of a table. -/
import Derived.Test.YtlfnkamhokfeaaaScaleQ
import Derived.Test.YtlfnkamhokfeaaaRecK
import Derived.Test.YtlfnkamhokfeaaaPAllx5
import Derived.Test.YtlfnkamhokfeaaaPAllx4
namespace Go.Proofs.Ytlfnkamhokfeaaa.Pure
open Go.RowKit Go.Proofs.Ytlfnkamhokfeaaa.PAll Go.Proofs.YtlfnkamhokfeaaaW.PrintWords Go.Proofs.YtlfnkamhokfeaaaW.PrintLast
set_option linter.unusedVariables false
set_option linter.unusedSimpArgs false
set_option linter.unusedSectionVars false
/-- records that have a table, or not -/
theorem known_cases (m : List S40) (hm : m.length ≤ 300) (hw : WR m) (k : Nat) (hk : 1300 < k) :
    scale_Known.f k m = some false ∧ (∀ l has exp, okT l has exp = true → m ≠ full l has exp) ∨ ∃ l has exp, okT l has exp = true ∧ m = full l has exp := by
  unfold scale_Known.f
  rw [rright_law m (by omega) hw k (by omega)]
  simp only [Option.bind_some]
  cases h : ((RecP.check (m.map toR)).2 == 0) with
  | false =>
    refine .inl ⟨by simp, fun l has exp ho e => ?_⟩
    have := (full_rr ho).2.2
    rw [← e] at this; simp [this] at h
  | true =>
    obtain ⟨hr, hn⟩ := rrn_of h
    simp only [if_true]
    rcases table_cases m hr hw hn k (by omega) with ⟨e, ne⟩ | ⟨l, has, exp, e, ho, rfl⟩
    · rw [e]; exact .inl ⟨rfl, ne⟩
    · exact .inr ⟨l, has, exp, ho, rfl⟩
section
variable {l : List S54} {has : Bool} {exp : Int} (ho : okT l has exp = true)
include ho
theorem known_law (k : Nat) (hk : 1300 < k) : scale_Known.f k (full l has exp) = some true := by
  unfold scale_Known.f
  rw [full_right_law ho k (by omega)]
  simp only [Option.bind_some, if_true]
  rw [full_table_law ho k (by omega)]; rfl
theorem tG : LeapP.Good 729 (l.map toL) := ((okT_iff l has exp).1 ho).1.1
theorem tl : (l.map toL).length ≤ 200 := by rw [List.length_map]; exact okT_len ho
theorem lpf : RecP.lp 0 ((full l has exp).map toR) = RecP.recs 0 (l.map toL) ∧ RecP.ex 0 ((full l has exp).map toR) = (if has = true then some (exp + RecP.tots 0 (l.map toL)) else none) := by
  rw [full_map]; exact RecP.lp_full _ has exp (RecP.good_steps (tG ho))
theorem texp : has = true → 63072000 ≤ exp ∧ exp ≤ 253402300799 := by
  intro h
  have := ((okT_iff l has exp).1 ho).1.2.2
  unfold LeapP.badEnd at this
  rw [if_pos h] at this; omega
theorem ttots : -200 ≤ RecP.tots 0 (l.map toL) ∧ RecP.tots 0 (l.map toL) ≤ 200 := by
  have := RecP.tots_bd (l.map toL) 0 (RecP.good_steps (tG ho))
  have := tl ho
  omega
theorem full_expiry_law (k : Nat) : record_Expiry.f (k + 1) (full l has exp) = some (if has = true then (exp + RecP.tots 0 (l.map toL), true) else (0, false)) := by
  rw [rexpiry_law _ (by have := (full_rr ho).2.1; omega), (lpf ho).2]
  cases has <;> rfl
theorem expired_law (at' : Int) (k : Nat) : scale_expired.f (k + 1) (full l has exp) at' = some (decide (has = true ∧ exp + RecP.tots 0 (l.map toL) ≤ at')) := by
  unfold scale_expired.f
  rw [full_expiry_law ho]
  cases has with
  | true => simp
  | false => simp
theorem full_sum_law (t : Int) (k : Nat) : record_Sum.f (k + 1) (full l has exp) t = some (RecP.sm 0 (RecP.recs 0 (l.map toL)) t) := by
  rw [rsum_law _ (by have := (full_rr ho).2.1; omega) (full_rr ho).1.1, (lpf ho).1]
theorem full_step_law (t : Int) (k : Nat) : record_Step.f (k + 1) (full l has exp) t = some (RecP.sp 0 (RecP.recs 0 (l.map toL)) t) := by
  rw [rstep_law _ (by have := (full_rr ho).2.1; omega) (full_rr ho).1.1, (lpf ho).1]
theorem add_law1 (a b : Int) (ha : I64 a) (hb : I64 b) : num_Add.f a b = some (if -9223372036854775808 ≤ a + b ∧ a + b ≤ 9223372036854775807 then (a + b, true) else (0, false)) := by
  unfold I64 at *
  unfold num_Add.f
  have w : wrap64 (a + b) = if -9223372036854775808 ≤ a + b ∧ a + b ≤ 9223372036854775807 then a + b else if a + b < -9223372036854775808 then a + b + 18446744073709551616 else a + b - 18446744073709551616 := by
    unfold wrap64; split
    · omega
    · split <;> omega
  by_cases h : -9223372036854775808 ≤ a + b ∧ a + b ≤ 9223372036854775807
  · rw [if_pos h] at w
    rw [if_pos h, w]
    by_cases h0 : b = 0
    · simp [h0]
    · rw [if_neg]
      by_cases h1 : b > 0
      · rw [decide_eq_true h1, decide_eq_true (by omega)]; simp
      · rw [decide_eq_false h1, decide_eq_false (by omega)]; simp
  · rw [if_neg h] at w
    rw [if_neg h]
    have h0 : ¬ b = 0 := by omega
    rw [if_pos, if_neg h0]
    by_cases h1 : b > 0
    · rw [if_neg (by omega)] at w; rw [w, decide_eq_true h1, decide_eq_false (by omega)]; rfl
    · rw [if_pos (by omega)] at w; rw [w, decide_eq_false h1, decide_eq_true (by omega)]; rfl
/-- Utc tells the day and the second -/
theorem utc_law (t : Int) (ht : I64 t) (h0 : 0 ≤ t) (d sec : Int) (hA : ScaleP.At (l.map toL) t d sec) (k : Nat) (hk : 1400 < k) :
    scale_Utc.f k (full l has exp) t = some (ScaleP.utcR has (ScaleP.fin (l.map toL) exp) t d sec) := by
  obtain ⟨k, rfl⟩ : ∃ q, k = q + 2 := ⟨k - 2, by omega⟩
  have tt := ttots ho
  have te := texp ho
  have bd := ScaleP.at_bd _ (tG ho) (tl ho) t d sec hA
  unfold I64 at ht
  unfold scale_Utc.f
  rw [add_law1 ho t 63072000 (by unfold I64; omega) (by unfold I64; omega), known_law ho _ (by omega)]
  simp only [Option.bind_some, if_true]
  rw [if_neg (by omega)]
  unfold ScaleP.utcR ScaleP.fin
  have j10 : ∀ x8 at', scale_Utc.j0 (k + 2) (full l has exp) at' x8 true = some (0, 0, 10) := by intro x8 at'; simp [scale_Utc.j0]
  by_cases hf : -9223372036854775808 ≤ t + 63072000 ∧ t + 63072000 ≤ 9223372036854775807
  · rw [if_pos hf]
    simp only [if_true]
    rw [expired_law ho]
    simp only [Option.bind_some]
    by_cases he : has = true ∧ exp + RecP.tots 0 (l.map toL) - 63072000 ≤ t
    · rw [if_pos he, decide_eq_true ⟨he.1, by omega⟩, if_pos rfl, j10]
    · rw [if_neg he, decide_eq_false (by rintro ⟨a, b⟩; exact he ⟨a, by omega⟩), if_neg (by simp)]
      simp only [scale_Utc.j0, Bool.false_eq_true, if_false, if_true]
      have e := hA.eq
      have dl := ScaleP.day_law0 (l.map toL) 729 d sec (tG ho) hA.s0 hA.s1
      rw [e] at dl
      have tb := LeapP.tot_bd _ 729 d (tG ho)
      have cl := LeapP.cnt_le (l.map toL) d
      have tl' := tl ho
      have s0 := hA.s0
      have s1 := hA.s1
      have sb := ScaleP.stp_bd _ d (tG ho)
      have sb' := ScaleP.stp_bd _ (d - 1) (tG ho)
      rw [full_sum_law ho, dl.1]
      simp only [Option.bind_some]
      have bg : ScaleP.beg (l.map toL) d = d * 86400 + LeapP.tot (l.map toL) d := rfl
      rw [bg] at e
      by_cases hl : LeapP.stp (l.map toL) d = 1 ∧ sec = 86400
      · rw [ScaleP.late_yes hl, sub_law _ _ (by unfold I64; omega) (by unfold I64; omega), if_pos (by omega)]
        simp only [Option.bind_some]
        rw [div_law _ _ (by unfold I64; omega) (by unfold I64; omega) (by omega)]
        simp only [Option.bind_some]
        rw [full_step_law ho, dl.2, ScaleP.chg_yes hl]
        simp only [Option.bind_some]
        rw [if_pos (by omega), if_pos trivial, show (t + 63072000 - (LeapP.tot (l.map toL) d + 1)) / 86400 = d by omega, show (t + 63072000 - (LeapP.tot (l.map toL) d + 1)) % 86400 = 86399 by omega, w64 (by omega) (by omega), hl.2]
        by_cases hd : d > 2932896
        · rw [if_pos hd, if_pos hd]
        · rw [if_neg hd, if_neg hd]; rfl
      · have nl : sec < 86400 := by omega
        have nc : ¬ ScaleP.chg (LeapP.stp (l.map toL) d) (LeapP.stp (l.map toL) (d - 1)) sec > 0 := by
          unfold ScaleP.chg; rw [if_neg hl]; split <;> omega
        rw [ScaleP.late_no hl, Int.add_zero, sub_law _ _ (by unfold I64; omega) (by unfold I64; omega)]
        simp only [Option.bind_some]
        by_cases fit : -9223372036854775808 ≤ t + 63072000 - LeapP.tot (l.map toL) d ∧ t + 63072000 - LeapP.tot (l.map toL) d ≤ 9223372036854775807
        · rw [if_pos fit, div_law _ _ (by unfold I64; omega) (by unfold I64; omega) (by omega)]
          simp only [Option.bind_some]
          rw [full_step_law ho, dl.2]
          simp only [Option.bind_some]
          rw [if_neg nc, if_pos trivial, show (t + 63072000 - LeapP.tot (l.map toL) d) / 86400 = d by omega, show (t + 63072000 - LeapP.tot (l.map toL) d) % 86400 = sec by omega]
          by_cases hd : d > 2932896
          · rw [if_pos hd, if_pos hd]
          · rw [if_neg hd, if_neg hd]
        · rw [if_neg fit, div_law _ _ (by unfold I64; omega) (by unfold I64; omega) (by omega)]
          simp only [Option.bind_some]
          rw [full_step_law ho, dl.2]
          simp only [Option.bind_some]
          rw [if_neg nc, if_neg (by simp), if_pos (by omega)]
  · rw [if_neg hf]
    simp only [Bool.false_eq_true, if_false]
    rw [expired_law ho]
    simp only [Option.bind_some]
    by_cases he : has = true
    · have := te he
      rw [if_pos ⟨he, by omega⟩, decide_eq_true ⟨he, by omega⟩, j10]
    · rw [if_neg (fun h => he h.1), decide_eq_false (fun h => he h.1), if_pos (by omega)]
      simp [scale_Utc.j0]
theorem utc_neg (t : Int) (ht : I64 t) (h0 : t < 0) (k : Nat) (hk : 1400 < k) : scale_Utc.f k (full l has exp) t = some (0, 0, 9) := by
  unfold I64 at ht
  unfold scale_Utc.f
  rw [add_law1 ho t 63072000 (by unfold I64; omega) (by unfold I64; omega), known_law ho _ (by omega)]
  simp only [Option.bind_some, if_true]
  rw [if_pos h0]
theorem days_fair (d : Int) (h0 : 730 ≤ d) (h1 : d ≤ 2932896) : api_Leap_int.Fair l d := by
  have G := tG ho
  have asc := LeapP.good_asc _ _ G
  rw [List.pairwise_map] at asc
  refine ⟨by have := okT_len ho; omega, asc.imp (fun {x y} h => by have : x.f0 < y.f0 := h; omega), fun y hy => ?_, by omega, by omega⟩
  have := LeapP.good_mem _ _ G (toL y) (List.mem_map_of_mem hy)
  have e : (toL y).day = y.f0 := rfl
  rw [e] at this
  omega
theorem count_days (d : Int) : ∀ l : List S54, l.countP (fun y => decide (y.f0 < d)) = LeapP.cnt (l.map toL) d := by
  intro l
  induction l with
  | nil => rfl
  | cons x l ih =>
    simp only [List.map_cons, LeapP.cnt, List.countP_cons, ih]
    have : (toL x).day = x.f0 := rfl
    rw [this]
    by_cases h : x.f0 < d
    · rw [if_pos h, if_pos (by simp [h])]; omega
    · rw [if_neg h, if_neg (by simp [h])]; omega
theorem sstep_law (d : Int) (h0 : 730 ≤ d) (h1 : d ≤ 2932896) (k : Nat) (hk : 900 < k) : scale_step.f k (full l has exp) d = some (LeapP.stp (l.map toL) d) := by
  unfold scale_step.f
  rw [full_table_law ho k hk]
  simp only [Option.bind_some]
  unfold api_Leap_int.f
  rw [if_pos ⟨days_fair ho d h0 h1, rfl⟩]
  simp only [Option.bind_some]
  unfold api_Leap_int.cnt
  rw [count_days ho d l, LeapP.stp_at _ _ d (tG ho)]
  have c := LeapP.cnt_le (l.map toL) d
  rw [List.length_map] at c
  generalize LeapP.cnt (l.map toL) d = n at c
  by_cases hn : n < l.length
  · have e : (l.map toL)[n]? = some (toL (rd_T54 l (n : Int))) := by
      unfold rd_T54
      rw [List.getElem?_map, Int.toNat_natCast]
      simp [hn]
    have g : l.getD n z54 = rd_T54 l (n : Int) := by unfold rd_T54; rw [Int.toNat_natCast]
    rw [e, g]
    simp only [decide_eq_true hn, Bool.true_and]
    have dd : (toL (rd_T54 l (n : Int))).day = (rd_T54 l (n : Int)).f0 := rfl
    rw [dd]
    by_cases hd : (rd_T54 l (n : Int)).f0 = d
    · rw [decide_eq_true hd, if_pos rfl, if_pos (by omega), if_pos (by omega), if_pos hd]; rfl
    · rw [decide_eq_false hd, if_neg (by simp), if_neg hd]
  · rw [List.getElem?_eq_none (by simp; omega)]
    rw [decide_eq_false hn]; simp
theorem length_law1 (d : Int) (k : Nat) (hk : 1300 < k) : scale_Length.f k (full l has exp) d = some (if d < 730 ∨ d > 2932896 then (0, 9) else (86400 + LeapP.stp (l.map toL) d, 0)) := by
  unfold scale_Length.f
  rw [known_law ho k hk]
  simp only [Option.bind_some, if_true]
  by_cases h0 : d < 730
  · rw [if_pos h0, if_pos (.inl h0)]
  · rw [if_neg h0]
    by_cases h1 : d > 2932896
    · rw [if_pos h1, if_pos (.inr h1)]
    · rw [if_neg h1, if_neg (by omega), sstep_law ho d (by omega) (by omega) k (by omega)]
      have := ScaleP.stp_bd _ d (tG ho)
      simp only [Option.bind_some]
      rw [w64 (by omega) (by omega)]
theorem bsum_law (d : Int) : ∀ (ys : List S54) (a s : Int), LeapP.Good a (ys.map toL) → -1000 ≤ s - ys.length → s + ys.length ≤ 1000 → scale_begins.sum d ys s = s + LeapP.tot (ys.map toL) d := by
  intro ys
  induction ys with
  | nil => intro a s _ _ _; simp [scale_begins.sum, LeapP.tot]
  | cons y ys ih =>
    intro a s h h1 h2
    simp only [List.length_cons] at h1 h2
    obtain ⟨_, _, _, h4, h5, h6⟩ := h
    have e0 : (toL y).day = y.f0 := rfl
    have e1 : (toL y).step = y.f1 := rfl
    simp only [scale_begins.sum, List.map_cons, LeapP.tot]
    rw [e0, e1]
    rw [e1] at h4
    by_cases hd : y.f0 < d
    · rw [if_pos hd, if_pos hd, w64 (by omega) (by omega), ih (toL y).day _ h6 (by omega) (by omega)]; omega
    · have := (LeapP.good_above _ _ d h6 (by rw [e0]; omega)).2
      rw [if_neg hd, if_neg hd, this]; omega
theorem begins_law (d : Int) (h0 : 730 ≤ d) (h1 : d ≤ 2932896) (k : Nat) (hk : 900 < k) : scale_begins.f k (full l has exp) d = some (ScaleP.beg (l.map toL) d) := by
  have ln := okT_len ho
  unfold scale_begins.f
  rw [full_table_law ho k hk]
  simp only [Option.bind_some]
  rw [bsum_law ho d l 729 0 (tG ho) (by omega) (by omega)]
  have tb := LeapP.tot_bd _ 729 d (tG ho)
  have cl := LeapP.cnt_le (l.map toL) d
  have tl' := tl ho
  rw [w64 (n := d * 86400) (by omega) (by omega), w64 (by omega) (by omega)]
  unfold ScaleP.beg
  congr 1; omega
theorem tai_law (d sec : Int) (hs : I64 sec) (k : Nat) (hk : 1400 < k) : scale_Tai.f k (full l has exp) d sec = some (ScaleP.taiR (l.map toL) has exp d sec) := by
  obtain ⟨k, rfl⟩ : ∃ q, k = q + 2 := ⟨k - 2, by omega⟩
  unfold scale_Tai.f ScaleP.taiR
  rw [length_law1 ho d _ (by omega)]
  simp only [Option.bind_some]
  by_cases hd : d < 730 ∨ d > 2932896
  · rw [if_pos hd, if_neg (show ¬ ((0, 9) : Int × Int).2 = 0 by simp), if_pos (by omega)]
  · rw [if_neg hd]
    simp only [if_true]
    have j9 : ∀ m, scale_Tai.j0 (k + 2) (full l has exp) d sec m true = some (0, 9) := by intro m; simp [scale_Tai.j0]
    by_cases h0 : sec < 0
    · rw [if_pos h0, decide_eq_true h0, j9, if_pos (by omega)]
    · rw [if_neg h0]
      by_cases h1 : sec > 86400
      · rw [decide_eq_true h1, j9, if_pos (by omega)]
      · rw [decide_eq_false h1, if_neg (by omega)]
        simp only [scale_Tai.j0, Bool.false_eq_true, if_false]
        by_cases h2 : sec ≥ 86400 + LeapP.stp (l.map toL) d
        · rw [if_pos h2, if_pos h2]
        · rw [if_neg h2, if_neg h2, begins_law ho d (by omega) (by omega) _ (by omega)]
          simp only [Option.bind_some]
          have bn := ScaleP.beg_near _ (tG ho) (tl ho) d
          rw [w64 (n := ScaleP.beg (l.map toL) d + sec) (by omega) (by omega), expired_law ho]
          simp only [Option.bind_some]
          unfold ScaleP.fin
          by_cases h3 : has = true ∧ exp + RecP.tots 0 (l.map toL) - 63072000 ≤ ScaleP.beg (l.map toL) d + sec - 63072000
          · rw [if_pos h3, decide_eq_true ⟨h3.1, by omega⟩, if_pos rfl]
          · rw [if_neg h3, decide_eq_false (by rintro ⟨a, b⟩; exact h3 ⟨a, by omega⟩), if_neg (by simp), w64 (by omega) (by omega)]
end
/-- of records without a table nothing is told -/
theorem utc_no (m : List S40) (t : Int) (ht : I64 t) (k : Nat) (h : scale_Known.f k m = some false) : scale_Utc.f k m t = some (0, 0, 1) := by
  unfold scale_Utc.f
  have : ∃ r, num_Add.f t 63072000 = some r := by unfold num_Add.f; split <;> (try split) <;> exact ⟨_, rfl⟩
  obtain ⟨r, hr⟩ := this
  rw [hr, h]; simp
theorem length_no (m : List S40) (d : Int) (k : Nat) (h : scale_Known.f k m = some false) : scale_Length.f k m d = some (0, 1) := by
  unfold scale_Length.f; rw [h]; simp
theorem tai_no (m : List S40) (d sec : Int) (k : Nat) (h : scale_Known.f k m = some false) : scale_Tai.f k m d sec = some (0, 1) := by
  unfold scale_Tai.f; rw [length_no m d k h]; simp
end Go.Proofs.Ytlfnkamhokfeaaa.Pure
