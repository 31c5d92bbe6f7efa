/- Days and seconds of TAI by a table of leaps, in plain numbers and lists. -/
import Derived.Test.YtlfnkamhokfeaaaRecP
namespace Go.Proofs.Ytlfnkamhokfeaaa.ScaleP
open Go.Proofs.Ytlfnkamhokfeaaa Go.RowKit
theorem cnt_gap : ∀ (l : List LeapP.L) (a d : Int), LeapP.Good a l → a < d → (LeapP.cnt l d : Int) ≤ d - 1 - a := by
  intro l
  induction l with
  | nil => intro a d _ h; simp [LeapP.cnt]; omega
  | cons x l ih =>
    intro a d h hd
    obtain ⟨_, _, _, _, h5, h6⟩ := h
    simp only [LeapP.cnt]
    by_cases h1 : x.day < d
    · rw [if_pos h1]
      have := ih x.day d h6 h1
      omega
    · rw [if_neg h1, (LeapP.good_above l x.day d h6 (by omega)).1]; simp; omega
theorem head_ahead (l : List LeapP.L) (a n t : Int) (h : LeapP.Good a l) (ht : t < (a + 2) * 86400 + n - 1) : RecP.sm n (RecP.recs n l) t = n ∧ RecP.sp n (RecP.recs n l) t = 0 := by
  cases l with
  | nil => exact ⟨rfl, rfl⟩
  | cons x l =>
    obtain ⟨_, _, _, h4, h5, h6⟩ := h
    simp only [RecP.recs, RecP.sm, RecP.sp]
    rw [if_neg (by omega), if_neg (by omega)]; exact ⟨rfl, rfl⟩
/-- the second that is inserted counts one more; and how the sum changes at a second -/
def late (s sec : Int) : Int := if s = 1 ∧ sec = 86400 then 1 else 0
def chg (s y sec : Int) : Int := if s = 1 ∧ sec = 86400 then 1 else if y = -1 ∧ sec = 0 then -1 else 0
theorem late_no {s sec : Int} (h : ¬ (s = 1 ∧ sec = 86400)) : late s sec = 0 := if_neg h
theorem late_yes {s sec : Int} (h : s = 1 ∧ sec = 86400) : late s sec = 1 := if_pos h
theorem chg_no {s y sec : Int} (h : ¬ (s = 1 ∧ sec = 86400)) (h' : ¬ (y = -1 ∧ sec = 0)) : chg s y sec = 0 := by unfold chg; rw [if_neg h, if_neg h']
theorem chg_yes {s y sec : Int} (h : s = 1 ∧ sec = 86400) : chg s y sec = 1 := if_pos h
theorem chg_down {s y sec : Int} (h : y = -1 ∧ sec = 0) : chg s y sec = -1 := by unfold chg; rw [if_neg (by omega), if_pos h]
/-- THE SUM AND THE STEP AT A DAY'S SECOND -/
theorem day_law : ∀ (l : List LeapP.L) (a n d sec : Int), LeapP.Good a l → 0 ≤ sec → sec < 86400 + LeapP.stp l d →
    RecP.sm n (RecP.recs n l) (d * 86400 + n + LeapP.tot l d + sec) = n + LeapP.tot l d + late (LeapP.stp l d) sec ∧
    RecP.sp n (RecP.recs n l) (d * 86400 + n + LeapP.tot l d + sec) = chg (LeapP.stp l d) (LeapP.stp l (d - 1)) sec := by
  intro l
  induction l with
  | nil => intro a n d sec _ _ _; simp [RecP.recs, RecP.sm, RecP.sp, LeapP.tot, LeapP.stp, late, chg]
  | cons x l ih =>
    intro a n d sec h h0 h1
    obtain ⟨_, _, _, h4, h5, h6⟩ := h
    by_cases q1 : d < x.day
    · have t0 := (LeapP.good_above l x.day d h6 (by omega)).2
      have s0 := LeapP.good_stp l x.day d h6 (by omega)
      have s1 := LeapP.good_stp l x.day (d - 1) h6 (by omega)
      have e0 : LeapP.tot (x :: l) d = 0 := by simp only [LeapP.tot]; rw [if_neg (by omega), t0]; rfl
      have e1 : LeapP.stp (x :: l) d = 0 := by simp only [LeapP.stp]; rw [if_neg (by omega), s0]
      have e2 : LeapP.stp (x :: l) (d - 1) = 0 := by simp only [LeapP.stp]; rw [if_neg (by omega), s1]
      rw [e1] at h1
      rw [e0, e1, e2, late_no (by omega), chg_no (by omega) (by omega)]
      simp only [RecP.recs, RecP.sm, RecP.sp]
      rw [if_neg (by omega), if_neg (by omega)]
      exact ⟨by omega, rfl⟩
    · by_cases q2 : d = x.day
      · have t0 := (LeapP.good_above l x.day d h6 (by omega)).2
        have s1 := LeapP.good_stp l x.day (d - 1) h6 (by omega)
        have e0 : LeapP.tot (x :: l) d = 0 := by simp only [LeapP.tot]; rw [if_neg (by omega), t0]; rfl
        have e1 : LeapP.stp (x :: l) d = x.step := by simp only [LeapP.stp]; rw [if_pos q2.symm]
        have e2 : LeapP.stp (x :: l) (d - 1) = 0 := by simp only [LeapP.stp]; rw [if_neg (by omega), s1]
        rw [e1] at h1
        rw [e0, e1, e2]
        simp only [RecP.recs, RecP.sm, RecP.sp]
        by_cases q3 : x.step = 1 ∧ sec = 86400
        · have := head_ahead l x.day (n + x.step) (d * 86400 + n + 0 + sec) h6 (by omega)
          rw [late_yes q3, chg_yes q3, if_pos (by omega), if_pos (by omega), if_pos (by omega), this.1]
          exact ⟨by omega, by omega⟩
        · rw [late_no q3, chg_no q3 (by omega), if_neg (by omega), if_neg (by omega)]
          exact ⟨by omega, rfl⟩
      · have c := cnt_gap l x.day d h6 (by omega)
        have tb := LeapP.tot_bd l x.day d h6
        have e0 : LeapP.tot (x :: l) d = x.step + LeapP.tot l d := by simp only [LeapP.tot]; rw [if_pos (by omega)]
        have e1 : LeapP.stp (x :: l) d = LeapP.stp l d := by simp only [LeapP.stp]; rw [if_neg (by omega)]
        rw [e1] at h1
        have i := ih x.day (n + x.step) d sec h6 h0 h1
        rw [e0, e1]
        simp only [RecP.recs, RecP.sm, RecP.sp]
        have e : d * 86400 + n + (x.step + LeapP.tot l d) + sec = d * 86400 + (n + x.step) + LeapP.tot l d + sec := by omega
        rw [e, i.1, i.2, if_pos (by omega), if_pos (by omega)]
        refine ⟨by omega, ?_⟩
        by_cases q4 : x.day = d - 1
        · have s1 := LeapP.good_stp l x.day (d - 1) h6 (by omega)
          have t0 := (LeapP.good_above l x.day d h6 (by omega)).2
          have e2 : LeapP.stp (x :: l) (d - 1) = x.step := by simp only [LeapP.stp]; rw [if_pos q4]
          rw [e2, s1, t0]
          by_cases q5 : x.step = -1 ∧ sec = 0
          · rw [if_pos (by omega), chg_down q5]; omega
          · rw [if_neg (by omega)]
            by_cases q6 : LeapP.stp l d = 1 ∧ sec = 86400
            · rw [chg_yes q6, chg_yes q6]
            · rw [chg_no q6 (by omega), chg_no q6 q5]
        · have e2 : LeapP.stp (x :: l) (d - 1) = LeapP.stp l (d - 1) := by simp only [LeapP.stp]; rw [if_neg q4]
          rw [e2, if_neg (by omega)]
/-- the first second of a day -/
def beg (l : List LeapP.L) (d : Int) : Int := d * 86400 + LeapP.tot l d
theorem beg_next (l : List LeapP.L) (a d : Int) (h : LeapP.Good a l) : beg l (d + 1) = beg l d + 86400 + LeapP.stp l d := by
  unfold beg; have := LeapP.tot_next l a d h; omega
theorem day_law0 (l : List LeapP.L) (a d sec : Int) (h : LeapP.Good a l) (h0 : 0 ≤ sec) (h1 : sec < 86400 + LeapP.stp l d) :
    RecP.sm 0 (RecP.recs 0 l) (beg l d + sec) = LeapP.tot l d + late (LeapP.stp l d) sec ∧
    RecP.sp 0 (RecP.recs 0 l) (beg l d + sec) = chg (LeapP.stp l d) (LeapP.stp l (d - 1)) sec := by
  have := day_law l a 0 d sec h h0 h1
  unfold beg
  rw [show d * 86400 + LeapP.tot l d + sec = d * 86400 + 0 + LeapP.tot l d + sec by omega]
  refine ⟨by rw [this.1]; omega, this.2⟩
/-- two days with leaps are 28 days apart at least -/
theorem stp_apart (l : List LeapP.L) (a d e : Int) (h : LeapP.Good a l) (hd : LeapP.stp l d ≠ 0) (he : LeapP.stp l e ≠ 0) (hlt : d < e) : 28 ≤ e - d := by
  have isE : ∀ (l : List LeapP.L) (a d : Int), LeapP.Good a l → LeapP.stp l d ≠ 0 → Cal.isEnd d = true := by
    intro l
    induction l with
    | nil => intro a d _ h; exact absurd rfl h
    | cons x l ih =>
      intro a d h hd
      obtain ⟨_, _, h3, _, _, h6⟩ := h
      simp only [LeapP.stp] at hd
      split at hd
      · rename_i e; rw [← e]; exact h3
      · exact ih x.day d h6 hd
  exact LeapP.ends_apart d e (isE l a d h hd) (isE l a e h he) hlt
/-- records of a place -/
theorem recs_at : ∀ (l : List LeapP.L) (a n : Int), LeapP.Good a l → ∀ (i : Nat) (x : LeapP.L), l[i]? = some x → (RecP.recs n l)[i]? = some ⟨(x.day + 1) * 86400 + n + LeapP.tot l x.day + min x.step 0, n + LeapP.tot l x.day + x.step⟩ ∧ LeapP.stp l x.day = x.step := by
  intro l
  induction l with
  | nil => intro a n _ i x h; simp at h
  | cons y l ih =>
    intro a n h i x hx
    obtain ⟨_, _, _, _, h5, h6⟩ := h
    cases i with
    | zero =>
      simp at hx; subst hx
      have t0 := (LeapP.good_above l y.day y.day h6 (by omega)).2
      simp only [RecP.recs, LeapP.tot, LeapP.stp]
      rw [if_neg (by omega), t0]
      simp
    | succ i =>
      simp only [List.getElem?_cons_succ] at hx
      have hm := (LeapP.good_mem l y.day h6 x (List.mem_of_getElem? hx)).2.2.2.2
      obtain ⟨i1, i2⟩ := ih y.day (n + y.step) h6 i x hx
      simp only [RecP.recs, List.getElem?_cons_succ, LeapP.tot, LeapP.stp]
      rw [if_pos hm, if_neg (by omega), i1, i2]
      refine ⟨?_, rfl⟩
      congr 2 <;> omega
/-- all records of a table are ahead of 2^40 -/
theorem recs_bd : ∀ (l : List LeapP.L) (a n : Int), LeapP.Good a l → n + l.length ≤ 300 → ∀ c ∈ RecP.recs n l, c.at_ ≤ 253402300800 + 300 := by
  intro l
  induction l with
  | nil => intro a n _ _ c h; simp [RecP.recs] at h
  | cons x l ih =>
    intro a n h hn c hc
    obtain ⟨_, h2, _, h4, h5, h6⟩ := h
    simp only [List.length_cons] at hn
    simp only [RecP.recs, List.mem_cons] at hc
    rcases hc with rfl | hc
    · show (x.day + 1) * 86400 + n + min x.step 0 ≤ _; omega
    · exact ih x.day (n + x.step) h6 (by omega) c hc
theorem full_bd (l : List LeapP.L) (has : Bool) (exp : Int) (h : LeapP.Right l has exp) : ∀ c ∈ RecP.full l has exp, c.at_ ≤ 253402300800 + 300 := by
  obtain ⟨h1, h2, h3⟩ := h
  have tb := RecP.tots_bd l 0 (RecP.good_steps h1)
  intro c hc
  unfold RecP.full at hc
  rcases List.mem_append.1 hc with hc | hc
  · exact recs_bd l 729 0 h1 (by omega) c hc
  · cases has with
    | false => simp at hc
    | true =>
      simp only [if_true, List.mem_singleton] at hc
      subst hc
      unfold LeapP.badEnd at h3
      simp only [if_true] at h3
      show exp + RecP.tots 0 l ≤ _
      omega
/-- the sum at the end is the total of all days -/
theorem tots_tot : ∀ (l : List LeapP.L) (a n d : Int), LeapP.Good a l → LeapP.lastDay a l < d → RecP.tots n l = n + LeapP.tot l d := by
  intro l
  induction l with
  | nil => intro a n d _ _; simp [RecP.tots, LeapP.tot]
  | cons x l ih =>
    intro a n d h hd
    obtain ⟨_, _, _, _, h5, h6⟩ := h
    have mono : ∀ (l : List LeapP.L) (a : Int), LeapP.Good a l → a ≤ LeapP.lastDay a l := by
      intro l
      induction l with
      | nil => intro a _; exact Int.le_refl _
      | cons y l ih2 => intro a h; have := ih2 y.day h.2.2.2.2.2; have := h.2.2.2.2.1; simp only [LeapP.lastDay]; omega
    have := mono l x.day h6
    simp only [LeapP.lastDay] at hd
    simp only [RecP.tots, LeapP.tot]
    rw [if_pos (by omega), ih x.day (n + x.step) d h6 hd]; omega
end Go.Proofs.Ytlfnkamhokfeaaa.ScaleP
