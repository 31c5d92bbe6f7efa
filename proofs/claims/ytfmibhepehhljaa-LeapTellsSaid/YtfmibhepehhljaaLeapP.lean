/- Tables of leaps in plain numbers and lists: what is wrong of them, and what is found. -/
import Derived.Test.YtfmibhepehhljaaCal
namespace Go.Proofs.Ytfmibhepehhljaa.LeapP
open Go.Proofs.Ytfmibhepehhljaa
/-- a leap: its day, its step, its mark -/
structure L where
  day : Int
  step : Int
  roll : Bool
def wrong (k ahead : Int) (x : L) : Int :=
  if k ≥ 200 then 8 else if x.day < 730 ∨ x.day ≥ 2932896 then 9 else if Cal.isEnd x.day = false then 5 else if x.step ≠ 1 ∧ x.step ≠ -1 then 6 else if x.day ≤ ahead then 4 else 0
/-- how far leaps are right: the place of the first wrong one, or the end; what is wrong; the day of the one ahead -/
def chk : List L → Int → Int → Int × Int × Int
  | [], i, a => (i, 0, a)
  | x :: l, i, a => if wrong i a x = 0 then chk l (i + 1) x.day else (i, wrong i a x, a)
/-- leaps that are right, behind a day -/
def Good : Int → List L → Prop
  | _, [] => True
  | a, x :: l => 730 ≤ x.day ∧ x.day < 2932896 ∧ Cal.isEnd x.day = true ∧ (x.step = 1 ∨ x.step = -1) ∧ a < x.day ∧ Good x.day l
theorem wrong_zero (k a : Int) (x : L) : wrong k a x = 0 ↔ k < 200 ∧ 730 ≤ x.day ∧ x.day < 2932896 ∧ Cal.isEnd x.day = true ∧ (x.step = 1 ∨ x.step = -1) ∧ a < x.day := by
  unfold wrong
  by_cases h1 : k ≥ 200
  · simp [h1]; omega
  · by_cases h2 : x.day < 730 ∨ x.day ≥ 2932896
    · simp [h1, h2]; omega
    · by_cases h3 : Cal.isEnd x.day = false
      · simp [h1, h2, h3]
      · have h3' : Cal.isEnd x.day = true := by simpa using h3
        by_cases h4 : x.step ≠ 1 ∧ x.step ≠ -1
        · simp [h1, h2, h3', h4]
        · by_cases h5 : x.day ≤ a
          · rw [if_neg h1, if_neg h2, if_neg h3, if_neg h4, if_pos h5]; simp; omega
          · rw [if_neg h1, if_neg h2, if_neg h3, if_neg h4, if_neg h5]
            simp [h3']; omega
theorem chk_good : ∀ (l : List L) (i a : Int), i ≤ 200 → ((chk l i a).2.1 = 0 ↔ Good a l ∧ i + l.length ≤ 200) := by
  intro l
  induction l with
  | nil => intro i a h; simp [chk, Good]; omega
  | cons x l ih =>
    intro i a h
    unfold chk Good
    by_cases hw : wrong i a x = 0
    · rw [if_pos hw]
      obtain ⟨k1, k2, k3, k4, k5, k6⟩ := (wrong_zero i a x).1 hw
      rw [ih (i + 1) x.day (by omega)]
      simp only [List.length_cons]
      constructor
      · rintro ⟨g, e⟩; exact ⟨⟨k2, k3, k4, k5, k6, g⟩, by omega⟩
      · rintro ⟨⟨_, _, _, _, _, g⟩, e⟩; exact ⟨g, by omega⟩
    · rw [if_neg hw]
      constructor
      · intro e; exact absurd e hw
      · rintro ⟨⟨a1, a2, a3, a4, a5, _⟩, e⟩
        simp only [List.length_cons] at e
        exact absurd ((wrong_zero i a x).2 ⟨by omega, a1, a2, a3, a4, a5⟩) hw
/-- the last day -/
def lastDay : Int → List L → Int
  | a, [] => a
  | _, x :: l => lastDay x.day l
theorem chk_last : ∀ (l : List L) (i a : Int), (chk l i a).2.1 = 0 → chk l i a = (i + l.length, 0, lastDay a l) := by
  intro l
  induction l with
  | nil => intro i a _; simp [chk, lastDay]
  | cons x l ih =>
    intro i a h
    unfold chk at h ⊢
    by_cases hw : wrong i a x = 0
    · rw [if_pos hw] at h ⊢
      rw [ih _ _ h]
      simp only [List.length_cons, lastDay]
      congr 1; omega
    · rw [if_neg hw] at h; exact absurd h hw
def badEnd (a : Int) (has : Bool) (exp : Int) : Prop := if has = true then exp < max ((a + 1) * 86400) 63072000 ∨ exp > 253402300799 else exp ≠ 0
instance (a : Int) (has : Bool) (exp : Int) : Decidable (badEnd a has exp) := by unfold badEnd; exact inferInstance
def check (l : List L) (has : Bool) (exp : Int) : Int × Int :=
  let c := chk l 0 729
  if c.2.1 = 0 then (if badEnd c.2.2 has exp then (l.length, 9) else (l.length, 0)) else (c.1, c.2.1)
def Right (l : List L) (has : Bool) (exp : Int) : Prop := Good 729 l ∧ l.length ≤ 200 ∧ ¬ badEnd (lastDay 729 l) has exp
theorem check_right (l : List L) (has : Bool) (exp : Int) : (check l has exp).2 = 0 ↔ Right l has exp := by
  unfold check Right
  have g := chk_good l 0 729 (by omega)
  by_cases h : (chk l 0 729).2.1 = 0
  · have e := chk_last l 0 729 h
    have g1 := g.1 h
    simp only [h, if_true]
    rw [e]
    by_cases b : badEnd (lastDay 729 l) has exp
    · simp [b]
    · simp [b, g1.1]; omega
  · simp only [h, if_false]
    constructor
    · intro e; exact e.elim
    · rintro ⟨a, b, _⟩; exact (h (g.2 ⟨a, by omega⟩)).elim
theorem check_len (l : List L) (has : Bool) (exp : Int) (h : Right l has exp) : check l has exp = ((l.length : Int), 0) := by
  have e := (check_right l has exp).2 h
  unfold check at e ⊢
  simp only at e ⊢
  split at e
  · split at e
    · simp at e
    · rename_i h1 h2; simp [h1, h2]
  · rename_i h1; exact absurd e h1
/-- how many days are ahead -/
def cnt : List L → Int → Nat
  | [], _ => 0
  | x :: l, d => (if x.day < d then 1 else 0) + cnt l d
/-- the sum of the steps ahead of a day -/
def tot : List L → Int → Int
  | [], _ => 0
  | x :: l, d => (if x.day < d then x.step else 0) + tot l d
def stp : List L → Int → Int
  | [], _ => 0
  | x :: l, d => if x.day = d then x.step else stp l d
theorem good_above : ∀ (l : List L) (a d : Int), Good a l → d ≤ a + 1 → cnt l d = 0 ∧ tot l d = 0 := by
  intro l
  induction l with
  | nil => intro a d _ _; exact ⟨rfl, rfl⟩
  | cons x l ih =>
    intro a d h hd
    obtain ⟨_, _, _, _, h5, h6⟩ := h
    obtain ⟨i1, i2⟩ := ih x.day d h6 (by omega)
    simp only [cnt, tot]
    rw [if_neg (by omega), if_neg (by omega), i1, i2]; simp
theorem good_stp : ∀ (l : List L) (a d : Int), Good a l → d ≤ a → stp l d = 0 := by
  intro l
  induction l with
  | nil => intro a d _ _; rfl
  | cons x l ih =>
    intro a d h hd
    obtain ⟨_, _, _, _, h5, h6⟩ := h
    simp only [stp]
    rw [if_neg (by omega)]; exact ih x.day d h6 (by omega)
theorem tot_next : ∀ (l : List L) (a d : Int), Good a l → tot l (d + 1) = tot l d + stp l d := by
  intro l
  induction l with
  | nil => intro a d _; rfl
  | cons x l ih =>
    intro a d h
    obtain ⟨_, _, _, _, h5, h6⟩ := h
    simp only [tot, stp]
    by_cases h1 : x.day < d
    · rw [if_pos h1, if_pos (by omega), if_neg (by omega), ih x.day d h6]; omega
    · by_cases h2 : x.day = d
      · rw [if_neg h1, if_pos (by omega), if_pos h2, (good_above l x.day (d + 1) h6 (by omega)).2, (good_above l x.day d h6 (by omega)).2]; omega
      · rw [if_neg h1, if_neg (by omega), if_neg h2, ih x.day d h6]; omega
theorem cnt_le (l : List L) (d : Int) : cnt l d ≤ l.length := by
  induction l with
  | nil => simp [cnt]
  | cons x l ih => simp only [cnt, List.length_cons]; split <;> omega
theorem cnt_mono (l : List L) (d e : Int) (h : d ≤ e) : cnt l d ≤ cnt l e := by
  induction l with
  | nil => simp [cnt]
  | cons x l ih => simp only [cnt]; split <;> split <;> omega
/-- element i is ahead of a day just if i is below the count -/
theorem cnt_at : ∀ (l : List L) (a d : Int), Good a l → ∀ (i : Nat) (x : L), l[i]? = some x → (x.day < d ↔ i < cnt l d) := by
  intro l
  induction l with
  | nil => intro a d _ i x h; simp at h
  | cons y l ih =>
    intro a d h i x hx
    obtain ⟨_, _, _, _, h5, h6⟩ := h
    simp only [cnt]
    cases i with
    | zero =>
      simp at hx; subst hx
      by_cases h1 : y.day < d
      · rw [if_pos h1]; simp [h1]; omega
      · rw [if_neg h1, (good_above l y.day d h6 (by omega)).1]; simp [h1]
    | succ i =>
      simp at hx
      have := ih y.day d h6 i x hx
      by_cases h1 : y.day < d
      · rw [if_pos h1, this]; omega
      · have c0 := (good_above l y.day d h6 (by omega)).1
        rw [if_neg h1, this]; omega
theorem stp_at : ∀ (l : List L) (a d : Int), Good a l → stp l d = match l[cnt l d]? with | some x => if x.day = d then x.step else 0 | none => 0 := by
  intro l
  induction l with
  | nil => intro a d _; rfl
  | cons y l ih =>
    intro a d h
    obtain ⟨_, _, _, _, h5, h6⟩ := h
    simp only [cnt, stp]
    by_cases h1 : y.day < d
    · rw [if_pos h1, if_neg (by omega), ih y.day d h6, Nat.add_comm]; rfl
    · have c0 := (good_above l y.day d h6 (by omega)).1
      rw [if_neg h1, c0]
      by_cases h2 : y.day = d
      · simp [h2]
      · rw [if_neg h2, good_stp l y.day d h6 (by omega)]
        simp [h2]
theorem good_mem : ∀ (l : List L) (a : Int), Good a l → ∀ x ∈ l, 730 ≤ x.day ∧ x.day < 2932896 ∧ Cal.isEnd x.day = true ∧ (x.step = 1 ∨ x.step = -1) ∧ a < x.day := by
  intro l
  induction l with
  | nil => intro a _ x h; simp at h
  | cons y l ih =>
    intro a h x hx
    obtain ⟨h1, h2, h3, h4, h5, h6⟩ := h
    rcases List.mem_cons.1 hx with rfl | hx
    · exact ⟨h1, h2, h3, h4, h5⟩
    · have := ih y.day h6 x hx; exact ⟨this.1, this.2.1, this.2.2.1, this.2.2.2.1, by omega⟩
theorem stp_mem (l : List L) (d : Int) (a : Int) (h : Good a l) : stp l d = 0 ∨ stp l d = 1 ∨ stp l d = -1 := by
  induction l generalizing a with
  | nil => left; rfl
  | cons y l ih =>
    simp only [stp]
    split
    · have := h.2.2.2.1; omega
    · exact ih _ h.2.2.2.2.2
theorem tot_bd : ∀ (l : List L) (a d : Int), Good a l → -(cnt l d : Int) ≤ tot l d ∧ tot l d ≤ cnt l d := by
  intro l
  induction l with
  | nil => intro a d _; simp [cnt, tot]
  | cons y l ih =>
    intro a d h
    have h4 := h.2.2.2.1
    have := ih y.day d h.2.2.2.2.2
    simp only [cnt, tot]
    split <;> simp <;> omega
theorem good_asc : ∀ (l : List L) (a : Int), Good a l → l.Pairwise (fun x y => x.day < y.day) := by
  intro l
  induction l with
  | nil => intro a _; exact List.Pairwise.nil
  | cons y l ih =>
    intro a h
    refine List.Pairwise.cons (fun x hx => (good_mem l y.day h.2.2.2.2.2 x hx).2.2.2.2) (ih y.day h.2.2.2.2.2)
/-- beginnings of right leaps are right -/
theorem good_take : ∀ (l : List L) (a : Int) (k : Nat), Good a l → Good a (l.take k) := by
  intro l
  induction l with
  | nil => intro a k _; simp [Good]
  | cons y l ih =>
    intro a k h
    cases k with
    | zero => simp [Good]
    | succ k => obtain ⟨h1, h2, h3, h4, h5, h6⟩ := h; exact ⟨h1, h2, h3, h4, h5, ih y.day k h6⟩
/-- two ends of months lie 28 days apart at least -/
theorem ends_apart (m n : Int) (hm : Cal.isEnd m = true) (hn : Cal.isEnd n = true) (h : m < n) : 28 ≤ n - m := by
  unfold Cal.isEnd at hm hn
  simp only [Bool.and_eq_true, decide_eq_true_eq, beq_iff_eq] at hm hn
  obtain ⟨⟨m0, m1⟩, me⟩ := hm
  obtain ⟨⟨n0, n1⟩, ne⟩ := hn
  have first : Cal.dD (m + 1) = 1 := by
    rcases Cal.next_law m m0 (by omega) with ⟨a, _⟩ | ⟨_, _, _, _, d⟩ | ⟨_, _, _, _, d⟩
    · omega
    · exact d
    · exact d
  obtain ⟨v, e⟩ := Cal.date_law (m + 1) (by omega) (by omega)
  rw [first] at v e
  by_cases hc : n - m < 28
  · obtain ⟨v1, v2, v3, v4, v5, v6⟩ := v
    have b := Cal.mdays_bd (Cal.dY (m + 1)) (Cal.dM (m + 1))
    have q : Cal.num (Cal.dY (m + 1)) (Cal.dM (m + 1)) (n - m) = n := by
      have : ∀ y k d : Int, Cal.num y k d = Cal.num y k 1 + d - 1 := by intro y k d; unfold Cal.num; split <;> omega
      rw [this, e]; omega
    obtain ⟨q1, q2, q3⟩ := Cal.date_of _ _ _ n ⟨v1, v2, v3, v4, by omega, by omega⟩ q
    have b2 := Cal.mdays_bd (Cal.dY n) (Cal.dM n)
    omega
  · omega
end Go.Proofs.Ytfmibhepehhljaa.LeapP
