/- Seconds of TAI and days, by a table of leaps: which day has a second, and what is told of it. -/
import Derived.Test.YtlfnkamhokfeaaaScaleP
namespace Go.Proofs.Ytlfnkamhokfeaaa.ScaleP
open Go.Proofs.Ytlfnkamhokfeaaa Go.RowKit
theorem stp_bd (l : List LeapP.L) (d : Int) (h : LeapP.Good 729 l) : LeapP.stp l d = 0 ∨ LeapP.stp l d = 1 ∨ LeapP.stp l d = -1 := LeapP.stp_mem l d 729 h
theorem beg_first (l : List LeapP.L) (h : LeapP.Good 729 l) (d : Int) (hd : d ≤ 730) : beg l d = d * 86400 := by
  unfold beg; rw [(LeapP.good_above l 729 d h (by omega)).2]; omega
theorem beg_step (l : List LeapP.L) (h : LeapP.Good 729 l) (d : Int) : beg l (d + 1) = beg l d + 86400 + LeapP.stp l d := beg_next l 729 d h
theorem beg_mono (l : List LeapP.L) (h : LeapP.Good 729 l) (d : Int) : ∀ n : Nat, beg l d + 86399 * n ≤ beg l (d + n) := by
  intro n
  induction n with
  | zero => simp
  | succ n ih =>
    have := beg_step l h (d + n)
    have := stp_bd l (d + n) h
    rw [show d + ((n + 1 : Nat) : Int) = d + n + 1 by omega]
    omega
theorem beg_lt (l : List LeapP.L) (h : LeapP.Good 729 l) (d e : Int) (hd : d < e) : beg l (d + 1) ≤ beg l e := by
  have := beg_mono l h (d + 1) (e - (d + 1)).toNat
  rw [show d + 1 + (((e - (d + 1)).toNat : Nat) : Int) = e by omega] at this
  omega
theorem beg_near (l : List LeapP.L) (h : LeapP.Good 729 l) (hl : l.length ≤ 200) (d : Int) : d * 86400 - 200 ≤ beg l d ∧ beg l d ≤ d * 86400 + 200 := by
  have := LeapP.tot_bd l 729 d h
  have := LeapP.cnt_le l d
  unfold beg; omega
/-- a day's second is a second of TAI -/
structure At (l : List LeapP.L) (t d sec : Int) : Prop where
  d0 : 730 ≤ d
  s0 : 0 ≤ sec
  s1 : sec < 86400 + LeapP.stp l d
  eq : beg l d + sec = t + 63072000
theorem at_ex (l : List LeapP.L) (h : LeapP.Good 729 l) (t : Int) (ht : 0 ≤ t) : ∃ d sec, At l t d sec := by
  have b0 := beg_first l h 730 (by omega)
  have key : ∀ n : Nat, t + 63072000 < beg l (730 + n) → ∃ d sec, At l t d sec := by
    intro n
    induction n with
    | zero => intro hn; simp at hn; omega
    | succ n ih =>
      intro hn
      by_cases hlt : t + 63072000 < beg l (730 + n)
      · exact ih hlt
      · have := beg_step l h (730 + n)
        rw [show (730 : Int) + ((n + 1 : Nat) : Int) = 730 + n + 1 by omega] at hn
        exact ⟨730 + n, t + 63072000 - beg l (730 + n), by omega, by omega, by omega, by omega⟩
  refine key (t.toNat + 1) ?_
  have := beg_mono l h 730 (t.toNat + 1)
  omega
theorem at_uniq (l : List LeapP.L) (h : LeapP.Good 729 l) (t d sec e s : Int) (h1 : At l t d sec) (h2 : At l t e s) : d = e ∧ sec = s := by
  have a := beg_step l h d
  have b := beg_step l h e
  have c := h1.eq; have c' := h2.eq; have p := h1.s0; have p' := h2.s0; have q := h1.s1; have q' := h2.s1
  by_cases hlt : d < e
  · have := beg_lt l h d e hlt; omega
  · by_cases hgt : e < d
    · have := beg_lt l h e d hgt; omega
    · have : d = e := by omega
      subst this; exact ⟨rfl, by omega⟩
theorem at_next (l : List LeapP.L) (h : LeapP.Good 729 l) (t d sec : Int) (h1 : At l t d sec) : (sec + 1 < 86400 + LeapP.stp l d ∧ At l (t + 1) d (sec + 1)) ∨ (sec + 1 = 86400 + LeapP.stp l d ∧ At l (t + 1) (d + 1) 0) := by
  have a := beg_step l h d
  have z := stp_bd l (d + 1) h
  have c := h1.eq; have p := h1.s0; have q := h1.s1; have r := h1.d0
  by_cases hl : sec + 1 < 86400 + LeapP.stp l d
  · exact .inl ⟨hl, ⟨r, by omega, hl, by omega⟩⟩
  · exact .inr ⟨by omega, ⟨by omega, by omega, by omega, by omega⟩⟩
/-- how far a second is from its day -/
theorem at_bd (l : List LeapP.L) (h : LeapP.Good 729 l) (hl : l.length ≤ 200) (t d sec : Int) (h1 : At l t d sec) : 0 ≤ t ∧ (d - 730) * 86400 - 200 ≤ t ∧ t < (d - 729) * 86400 + 201 ∧ sec ≤ 86400 := by
  have := beg_near l h hl d
  have z := stp_bd l d h
  have c := h1.eq; have p := h1.s0; have q := h1.s1; have r := h1.d0
  have b0 := beg_first l h 730 (by omega)
  refine ⟨?_, by omega, by omega, by omega⟩
  by_cases e : d = 730
  · subst e; omega
  · have := beg_lt l h 730 d (by omega)
    have := beg_step l h 730
    have := stp_bd l 730 h
    omega
/-- the first second of TAI of which nothing is known -/
def fin (l : List LeapP.L) (exp : Int) : Int := exp + RecP.tots 0 l - 63072000
/-- what is told of a second of TAI on a day -/
def utcR (has : Bool) (e t d sec : Int) : Int × Int × Int := if has = true ∧ e ≤ t then (0, 0, 10) else if d > 2932896 then (0, 0, 9) else (d, sec, 0)
/-- the second of TAI of a day's second -/
def taiR (l : List LeapP.L) (has : Bool) (exp d sec : Int) : Int × Int :=
  if d < 730 ∨ d > 2932896 ∨ sec < 0 ∨ sec > 86400 then (0, 9) else if sec ≥ 86400 + LeapP.stp l d then (0, 11)
  else if has = true ∧ fin l exp ≤ beg l d + sec - 63072000 then (0, 10) else (beg l d + sec - 63072000, 0)
theorem utcR_ok {has : Bool} {e t d sec : Int} (h : (utcR has e t d sec).2.2 = 0) : ¬ (has = true ∧ e ≤ t) ∧ d ≤ 2932896 ∧ utcR has e t d sec = (d, sec, 0) := by
  unfold utcR at h ⊢
  by_cases h1 : has = true ∧ e ≤ t
  · rw [if_pos h1] at h; exact absurd h (by simp)
  · rw [if_neg h1] at h ⊢
    by_cases h2 : d > 2932896
    · rw [if_pos h2] at h; exact absurd h (by simp)
    · rw [if_neg h2]; exact ⟨h1, by omega, rfl⟩
theorem utcR_no {has : Bool} {e t d sec : Int} (h : (utcR has e t d sec).2.2 ≠ 0) : (utcR has e t d sec).1 = 0 ∧ (utcR has e t d sec).2.1 = 0 := by
  unfold utcR at h ⊢
  by_cases h1 : has = true ∧ e ≤ t
  · rw [if_pos h1]; simp
  · rw [if_neg h1] at h ⊢
    by_cases h2 : d > 2932896
    · rw [if_pos h2]; simp
    · rw [if_neg h2] at h; exact absurd rfl h
theorem taiR_ok {l : List LeapP.L} {has : Bool} {exp d sec : Int} (h : (taiR l has exp d sec).2 = 0) : 730 ≤ d ∧ d ≤ 2932896 ∧ 0 ≤ sec ∧ sec ≤ 86400 ∧ sec < 86400 + LeapP.stp l d ∧ ¬ (has = true ∧ fin l exp ≤ beg l d + sec - 63072000) ∧ taiR l has exp d sec = (beg l d + sec - 63072000, 0) := by
  unfold taiR at h ⊢
  by_cases h1 : d < 730 ∨ d > 2932896 ∨ sec < 0 ∨ sec > 86400
  · rw [if_pos h1] at h; exact absurd h (by simp)
  · rw [if_neg h1] at h ⊢
    by_cases h2 : sec ≥ 86400 + LeapP.stp l d
    · rw [if_pos h2] at h; exact absurd h (by simp)
    · rw [if_neg h2] at h ⊢
      by_cases h3 : has = true ∧ fin l exp ≤ beg l d + sec - 63072000
      · rw [if_pos h3] at h; exact absurd h (by simp)
      · rw [if_neg h3]; exact ⟨by omega, by omega, by omega, by omega, by omega, h3, rfl⟩
theorem taiR_no {l : List LeapP.L} {has : Bool} {exp d sec : Int} (h : (taiR l has exp d sec).2 ≠ 0) : (taiR l has exp d sec).1 = 0 := by
  unfold taiR at h ⊢
  by_cases h1 : d < 730 ∨ d > 2932896 ∨ sec < 0 ∨ sec > 86400
  · rw [if_pos h1]
  · rw [if_neg h1] at h ⊢
    by_cases h2 : sec ≥ 86400 + LeapP.stp l d
    · rw [if_pos h2]
    · rw [if_neg h2] at h ⊢
      by_cases h3 : has = true ∧ fin l exp ≤ beg l d + sec - 63072000
      · rw [if_pos h3]
      · rw [if_neg h3] at h; exact absurd rfl h
/-- seconds of TAI and of days are each other's -/
theorem tai_at {l : List LeapP.L} {has : Bool} {exp t d sec : Int} (h1 : At l t d sec) (hd : d ≤ 2932896) (hs : sec ≤ 86400) (he : ¬ (has = true ∧ fin l exp ≤ t)) : taiR l has exp d sec = (t, 0) := by
  have c := h1.eq; have p := h1.s0; have q := h1.s1; have r := h1.d0
  unfold taiR
  rw [if_neg (by omega), if_neg (by omega), show beg l d + sec - 63072000 = t by omega, if_neg he]
theorem at_tai {l : List LeapP.L} {has : Bool} {exp d sec : Int} (h : (taiR l has exp d sec).2 = 0) : At l (taiR l has exp d sec).1 d sec := by
  obtain ⟨a, b, c, e, f, _, g⟩ := taiR_ok h
  rw [g]
  exact ⟨a, c, f, by simp only; omega⟩
/-- days without leaps between -/
theorem tot_same : ∀ (l : List LeapP.L) (d e : Int), (∀ x ∈ l, x.day < d ↔ x.day < e) → LeapP.tot l d = LeapP.tot l e := by
  intro l
  induction l with
  | nil => intro d e _; rfl
  | cons x l ih =>
    intro d e h
    simp only [LeapP.tot]
    rw [ih d e (fun y hy => h y (by simp [hy]))]
    have := h x (by simp)
    by_cases hx : x.day < d
    · rw [if_pos hx, if_pos (this.1 hx)]
    · rw [if_neg hx, if_neg (fun h => hx (this.2 h))]
theorem stp_none : ∀ (l : List LeapP.L) (d : Int), (∀ x ∈ l, x.day ≠ d) → LeapP.stp l d = 0 := by
  intro l
  induction l with
  | nil => intro d _; rfl
  | cons x l ih =>
    intro d h
    simp only [LeapP.stp]
    rw [if_neg (h x (by simp)), ih d (fun y hy => h y (by simp [hy]))]
/-- all between two days lies even -/
theorem at_flat (l : List LeapP.L) (t d0 left e : Int) (h0 : 730 ≤ d0) (hl : 0 ≤ left) (hb : beg l d0 + left = t + 63072000) (hlt : d0 + left / 86400 < e) (hn : ∀ x ∈ l, x.day < d0 ∨ e ≤ x.day) : At l t (d0 + left / 86400) (left % 86400) := by
  have t1 : LeapP.tot l (d0 + left / 86400) = LeapP.tot l d0 := tot_same l _ _ (fun x hx => by have := hn x hx; omega)
  have s1 : LeapP.stp l (d0 + left / 86400) = 0 := stp_none l _ (fun x hx => by have := hn x hx; omega)
  refine ⟨by omega, by omega, by omega, ?_⟩
  unfold beg at hb ⊢
  rw [t1]; omega
end Go.Proofs.Ytlfnkamhokfeaaa.ScaleP
