/- Records of leap seconds in plain numbers and lists: what is wrong of them, their sums, and tables made of them. -/
import Derived.RowKit
import Derived.Test.YtlfnkamhokfeaaaLeapP
namespace Go.Proofs.Ytlfnkamhokfeaaa.RecP
open Go.Proofs.Ytlfnkamhokfeaaa Go.RowKit
/-- a record: when it is, and the sum from then on -/
structure R where
  at_ : Int
  corr : Int
/-- what stands ahead of all records -/
def start : R := ⟨-2419199, 0⟩
/-- what is wrong of record k, behind a -/
def wr (k : Int) (a c : R) (last : Bool) : Int :=
  if k > 200 then 8 else if c.at_ < 0 then 9 else if ¬ (last = true ∧ c.corr = a.corr) ∧ c.corr - a.corr ≠ 1 ∧ c.corr - a.corr ≠ -1 then 6
  else if k > 0 ∧ c.at_ - a.at_ < (if last = true ∧ c.corr = a.corr then 0 else 2419199) then 7 else 0
def chk : List R → Int → R → Int × Int
  | [], k, _ => (k, 0)
  | c :: l, k, a => if wr k a c l.isEmpty = 0 then chk l (k + 1) c else (k, wr k a c l.isEmpty)
def check (l : List R) : Int × Int := chk l 0 start
/-- leaps that are right, behind a record -/
def G : R → List R → Prop
  | _, [] => True
  | a, c :: l => 0 ≤ c.at_ ∧ (c.corr - a.corr = 1 ∨ c.corr - a.corr = -1) ∧ a.at_ + 2419199 ≤ c.at_ ∧ G c l
/-- the records but the expiry; the expiry -/
def lp : Int → List R → List R
  | _, [] => []
  | a, c :: l => if l = [] ∧ c.corr = a then [] else c :: lp c.corr l
def ex : Int → List R → Option Int
  | _, [] => none
  | a, c :: l => if l = [] ∧ c.corr = a then some c.at_ else ex c.corr l
def lastR : R → List R → R
  | a, [] => a
  | _, c :: l => lastR c l
instance (l : List R) (p : Prop) [Decidable p] : Decidable (l = [] ∧ p) := by
  cases l with
  | nil => exact decidable_of_iff p (by simp)
  | cons x l => exact isFalse (by simp)
theorem wr_zero (k : Int) (a c : R) (last : Bool) : wr k a c last = 0 ↔ k ≤ 200 ∧ 0 ≤ c.at_ ∧ ((last = true ∧ c.corr = a.corr) ∨ c.corr - a.corr = 1 ∨ c.corr - a.corr = -1) ∧
    (k > 0 → (last = true ∧ c.corr = a.corr → a.at_ ≤ c.at_) ∧ (¬ (last = true ∧ c.corr = a.corr) → a.at_ + 2419199 ≤ c.at_)) := by
  unfold wr
  by_cases h1 : k > 200
  · simp [h1]; omega
  · rw [if_neg h1]
    by_cases h2 : c.at_ < 0
    · simp [h2]; omega
    · rw [if_neg h2]
      by_cases h3 : last = true ∧ c.corr = a.corr
      · rw [if_neg (fun h => h.1 h3)]
        simp only [if_pos h3]
        by_cases h4 : k > 0 ∧ c.at_ - a.at_ < 0
        · rw [if_pos h4]
          constructor
          · intro h; exact absurd h (by omega)
          · rintro ⟨_, _, _, q⟩; have := (q h4.1).1 h3; omega
        · rw [if_neg h4]
          simp only [true_iff]
          exact ⟨by omega, by omega, .inl h3, fun hk => ⟨fun _ => by omega, fun h => absurd h3 h⟩⟩
      · simp only [if_neg h3]
        by_cases h5 : c.corr - a.corr ≠ 1 ∧ c.corr - a.corr ≠ -1
        · rw [if_pos ⟨h3, h5⟩]
          constructor
          · intro h; exact absurd h (by omega)
          · rintro ⟨_, _, q, _⟩; rcases q with q | q | q
            · exact absurd q h3
            · exact absurd q h5.1
            · exact absurd q h5.2
        · rw [if_neg (fun h => h5 h.2)]
          by_cases h4 : k > 0 ∧ c.at_ - a.at_ < 2419199
          · rw [if_pos h4]
            constructor
            · intro h; exact absurd h (by omega)
            · rintro ⟨_, _, _, q⟩; have := (q h4.1).2 h3; omega
          · rw [if_neg h4]
            simp only [true_iff]
            exact ⟨by omega, by omega, .inr (by omega), fun hk => ⟨fun h => absurd h h3, fun _ => by omega⟩⟩
/-- right records: leaps that are right, and an expiry that is not ahead of them -/
theorem chk_good : ∀ (l : List R) (k : Int) (a : R), 0 ≤ k → k ≤ 201 → (k > 0 ∨ a.at_ = -2419199) →
    ((chk l k a).2 = 0 ↔ G a (lp a.corr l) ∧ (∀ e, ex a.corr l = some e → 0 ≤ e ∧ (lastR a (lp a.corr l)).at_ ≤ e) ∧ k + l.length ≤ 201) := by
  intro l
  induction l with
  | nil => intro k a h0 h1 _; simp [chk, G, lp, ex]; omega
  | cons c l ih =>
    intro k a h0 h1 h2
    unfold chk lp ex
    simp only [List.length_cons]
    by_cases he : l = [] ∧ c.corr = a.corr
    · simp only [if_pos he]
      obtain ⟨rfl, hc⟩ := he
      have hw := wr_zero k a c true
      rw [show ([] : List R).isEmpty = true from rfl]
      by_cases w : wr k a c true = 0
      · rw [if_pos w]
        obtain ⟨q1, q2, q3, q4⟩ := hw.1 w
        simp only [chk, G, lastR, true_iff]
        refine ⟨trivial, fun e h => ?_, by simp; omega⟩
        obtain rfl := Option.some.inj h
        refine ⟨q2, ?_⟩
        rcases h2 with h2 | h2
        · exact (q4 h2).1 ⟨rfl, hc⟩
        · omega
      · rw [if_neg w]
        constructor
        · intro h; exact absurd h w
        · rintro ⟨_, q, b⟩
          obtain ⟨e1, e2⟩ := q _ rfl
          simp only [lastR] at e2
          refine absurd (hw.2 ⟨by simp at b; omega, e1, .inl ⟨rfl, hc⟩, fun _ => ⟨fun _ => e2, fun h => absurd ⟨rfl, hc⟩ h⟩⟩) w
    · simp only [if_neg he]
      have hn : ¬ (l.isEmpty = true ∧ c.corr = a.corr) := by rw [List.isEmpty_iff]; exact he
      have hw := wr_zero k a c l.isEmpty
      by_cases w : wr k a c l.isEmpty = 0
      · rw [if_pos w]
        obtain ⟨q1, q2, q3, q4⟩ := hw.1 w
        have q3 : c.corr - a.corr = 1 ∨ c.corr - a.corr = -1 := by rcases q3 with q | q; exact absurd q hn; exact q
        have q5 : a.at_ + 2419199 ≤ c.at_ := by
          rcases h2 with h2 | h2
          · exact (q4 h2).2 hn
          · omega
        rw [ih (k + 1) c (by omega) (by omega) (.inl (by omega))]
        simp only [G, lastR]
        constructor
        · rintro ⟨g, e, b⟩; exact ⟨⟨q2, q3, q5, g⟩, e, by omega⟩
        · rintro ⟨⟨_, _, _, g⟩, e, b⟩; exact ⟨g, e, by omega⟩
      · rw [if_neg w]
        constructor
        · intro h; exact absurd h w
        · rintro ⟨⟨g1, g2, g3, _⟩, _, b⟩
          exact absurd (hw.2 ⟨by omega, g1, .inr g2, fun _ => ⟨fun h => absurd h hn, fun _ => g3⟩⟩) w
theorem chk_len : ∀ (l : List R) (k : Int) (a : R), (chk l k a).2 = 0 → chk l k a = (k + l.length, 0) := by
  intro l
  induction l with
  | nil => intro k a _; simp [chk]
  | cons c l ih =>
    intro k a h
    unfold chk at h ⊢
    by_cases w : wr k a c l.isEmpty = 0
    · rw [if_pos w] at h ⊢
      rw [ih _ _ h]; simp only [List.length_cons]; congr 1; omega
    · rw [if_neg w] at h; exact absurd h w
/-- right records -/
def Right (l : List R) : Prop := G start (lp 0 l) ∧ (∀ e, ex 0 l = some e → 0 ≤ e ∧ (lastR start (lp 0 l)).at_ ≤ e) ∧ l.length ≤ 201
theorem check_right (l : List R) : (check l).2 = 0 ↔ Right l := by
  unfold check Right
  rw [chk_good l 0 start (by omega) (by omega) (.inr rfl)]
  have : start.corr = 0 := rfl
  rw [this]
  constructor
  · rintro ⟨a, b, c⟩; exact ⟨a, b, by omega⟩
  · rintro ⟨a, b, c⟩; exact ⟨a, b, by omega⟩
theorem lp_split : ∀ (l : List R) (a : R), l = lp a.corr l ++ (match ex a.corr l with | some e => [⟨e, (lastR a (lp a.corr l)).corr⟩] | none => []) := by
  intro l
  induction l with
  | nil => intro a; rfl
  | cons c l ih =>
    intro a
    unfold lp ex
    by_cases he : l = [] ∧ c.corr = a.corr
    · simp only [if_pos he, lastR, List.nil_append]
      rw [he.1, ← he.2]
    · simp only [if_neg he, lastR, List.cons_append]
      congr 1
      exact ih c
theorem lp_len (l : List R) (a : R) : l.length = (lp a.corr l).length + (if (ex a.corr l).isSome then 1 else 0) := by
  have := congrArg List.length (lp_split l a)
  rw [List.length_append] at this
  cases h : ex a.corr l <;> simp [h] at this ⊢ <;> exact this
/-- the sum up to a second; by how much it changes there -/
def sm : Int → List R → Int → Int
  | a, [], _ => a
  | a, c :: l, t => if c.at_ ≤ t then sm c.corr l t else a
def sp : Int → List R → Int → Int
  | _, [], _ => 0
  | a, c :: l, t => if c.at_ ≤ t then (if c.at_ = t then c.corr - a else sp c.corr l t) else 0
theorem G_above : ∀ (l : List R) (a : R), G a l → ∀ c ∈ l, a.at_ + 2419199 ≤ c.at_ := by
  intro l
  induction l with
  | nil => intro a _ c h; simp at h
  | cons x l ih =>
    intro a h c hc
    obtain ⟨_, _, h3, h4⟩ := h
    rcases List.mem_cons.1 hc with rfl | hc
    · exact h3
    · have := ih x h4 c hc; omega
theorem G_asc : ∀ (l : List R) (a : R), G a l → l.Pairwise (fun x y => x.at_ < y.at_) := by
  intro l
  induction l with
  | nil => intro a _; exact List.Pairwise.nil
  | cons x l ih => intro a h; exact List.Pairwise.cons (fun y hy => by have := G_above l x h.2.2.2 y hy; omega) (ih x h.2.2.2)
theorem G_mem : ∀ (l : List R) (a : R), G a l → ∀ c ∈ l, 0 ≤ c.at_ := by
  intro l
  induction l with
  | nil => intro a _ c h; simp at h
  | cons x l ih =>
    intro a h c hc
    rcases List.mem_cons.1 hc with rfl | hc
    · exact h.1
    · exact ih x h.2.2.2 c hc
/-- sums stay small -/
theorem G_corr : ∀ (l : List R) (a : R), G a l → ∀ c ∈ l, a.corr - l.length ≤ c.corr ∧ c.corr ≤ a.corr + l.length := by
  intro l
  induction l with
  | nil => intro a _ c h; simp at h
  | cons x l ih =>
    intro a h c hc
    obtain ⟨_, h2, _, h4⟩ := h
    simp only [List.length_cons]
    rcases List.mem_cons.1 hc with rfl | hc
    · omega
    · have := ih x h4 c hc; omega
theorem lastR_mem : ∀ (l : List R) (a : R), lastR a l = a ∨ lastR a l ∈ l := by
  intro l
  induction l with
  | nil => intro a; exact .inl rfl
  | cons x l ih => intro a; rcases ih x with h | h <;> simp [lastR, h]
theorem sm_bd : ∀ (l : List R) (a : R) (t : Int), G a l → a.corr - l.length ≤ sm a.corr l t ∧ sm a.corr l t ≤ a.corr + l.length := by
  intro l
  induction l with
  | nil => intro a t _; simp [sm]
  | cons x l ih =>
    intro a t h
    obtain ⟨_, h2, _, h4⟩ := h
    simp only [sm, List.length_cons]
    have := ih x t h4
    split <;> omega
theorem sp_bd : ∀ (l : List R) (a : R) (t : Int), G a l → sp a.corr l t = 0 ∨ sp a.corr l t = 1 ∨ sp a.corr l t = -1 := by
  intro l
  induction l with
  | nil => intro a t _; simp [sp]
  | cons x l ih =>
    intro a t h
    obtain ⟨_, h2, _, h4⟩ := h
    simp only [sp]
    have := ih x t h4
    split
    · split <;> omega
    · omega
/-- ahead of all nothing is summed -/
theorem sm_ahead (l : List R) (a : R) (t : Int) (h : G a l) (ht : t < a.at_ + 2419199) : sm a.corr l t = a.corr ∧ sp a.corr l t = 0 := by
  cases l with
  | nil => simp [sm, sp]
  | cons x l => simp only [sm, sp]; rw [if_neg (by have := h.2.2.1; omega), if_neg (by have := h.2.2.1; omega)]; simp
/-- how many records are not behind a second, and what the last of these says -/
theorem sm_count : ∀ (l : List R) (a : R) (t : Int), G a l →
    (if l.countP (fun y => decide (y.at_ ≤ t)) = 0 then a.corr else (l.getD (l.countP (fun y => decide (y.at_ ≤ t)) - 1) a).corr) = sm a.corr l t := by
  intro l
  induction l with
  | nil => intro a t _; simp [sm]
  | cons x l ih =>
    intro a t h
    have h4 := h.2.2.2
    simp only [sm, List.countP_cons]
    by_cases hx : x.at_ ≤ t
    · rw [if_pos hx, ← ih x t h4]
      simp only [hx, decide_true, if_true]
      rw [if_neg (by omega)]
      by_cases hz : l.countP (fun y => decide (y.at_ ≤ t)) = 0
      · rw [if_pos hz, hz]; simp
      · rw [if_neg hz]
        obtain ⟨m, hm⟩ : ∃ m, l.countP (fun y => decide (y.at_ ≤ t)) = m + 1 := ⟨_, (Nat.succ_pred_eq_of_pos (Nat.pos_of_ne_zero hz)).symm⟩
        have hle := List.countP_le_length (p := fun y : R => decide (y.at_ ≤ t)) (l := l)
        have hlt : m < l.length := by omega
        rw [hm]
        simp [hlt]
    · have hz : l.countP (fun y => decide (y.at_ ≤ t)) = 0 := by
        rw [List.countP_eq_zero]; intro y hy; have := G_above l x h4 y hy; simp; omega
      rw [if_neg hx, hz]
      simp [hx]
theorem sp_count : ∀ (l : List R) (a : R) (t : Int), G a l →
    (if l.countP (fun y => decide (y.at_ < t)) < l.length then (if (l.getD (l.countP (fun y => decide (y.at_ < t))) a).at_ = t then (if l.countP (fun y => decide (y.at_ < t)) = 0 then (l.getD 0 a).corr - a.corr else (l.getD (l.countP (fun y => decide (y.at_ < t))) a).corr - (l.getD (l.countP (fun y => decide (y.at_ < t)) - 1) a).corr) else 0) else 0) = sp a.corr l t := by
  intro l
  induction l with
  | nil => intro a t _; simp [sp]
  | cons x l ih =>
    intro a t h
    have h4 := h.2.2.2
    simp only [sp, List.length_cons]
    by_cases hx : x.at_ < t
    · have e : (x :: l).countP (fun y => decide (y.at_ < t)) = l.countP (fun y => decide (y.at_ < t)) + 1 := by simp [hx]
      rw [e, if_pos (show x.at_ ≤ t by omega), if_neg (show ¬ x.at_ = t by omega), ← ih x t h4]
      have gd : ∀ n, n < l.length → (x :: l).getD (n + 1) a = l.getD n x := by intro n hn; simp [hn]
      by_cases hl : l.countP (fun y => decide (y.at_ < t)) < l.length
      · rw [if_pos (by omega), if_pos hl, gd _ hl]
        by_cases ht : (l.getD (l.countP (fun y => decide (y.at_ < t))) x).at_ = t
        · rw [if_pos ht, if_pos ht, if_neg (by omega)]
          by_cases hz : l.countP (fun y => decide (y.at_ < t)) = 0
          · rw [if_pos hz, hz]; simp
          · rw [if_neg hz]
            obtain ⟨m, hm⟩ : ∃ m, l.countP (fun y => decide (y.at_ < t)) = m + 1 := ⟨_, (Nat.succ_pred_eq_of_pos (Nat.pos_of_ne_zero hz)).symm⟩
            rw [hm, Nat.add_sub_cancel, Nat.add_sub_cancel, gd m (by omega)]
        · rw [if_neg ht, if_neg ht]
      · rw [if_neg (by omega), if_neg hl]
    · have hz : l.countP (fun y => decide (y.at_ < t)) = 0 := by
        rw [List.countP_eq_zero]; intro y hy; have := G_above l x h4 y hy; simp; omega
      have e : (x :: l).countP (fun y => decide (y.at_ < t)) = 0 := by simp [hx, hz]
      rw [e, if_pos (by omega)]
      by_cases ht : x.at_ = t
      · rw [if_pos (show x.at_ ≤ t by omega)]; simp [ht]
      · rw [if_neg (show ¬ x.at_ ≤ t by omega)]; simp [ht]
/-- the sum changes by the step -/
theorem sm_step : ∀ (l : List R) (a : R) (t : Int), G a l → sm a.corr l t = sm a.corr l (t - 1) + sp a.corr l t := by
  intro l
  induction l with
  | nil => intro a t _; simp [sm, sp]
  | cons x l ih =>
    intro a t h
    have h4 := h.2.2.2
    simp only [sm, sp]
    by_cases h1 : x.at_ ≤ t
    · rw [if_pos h1, if_pos h1]
      by_cases h2 : x.at_ = t
      · rw [if_neg (by omega), if_pos h2, (sm_ahead l x t h4 (by omega)).1]; omega
      · rw [if_pos (by omega), if_neg h2, ih x t h4]
    · rw [if_neg h1, if_neg (by omega), if_neg h1]; omega
-- ---- tables
/-- the records of leaps, behind a sum; the sum at their end -/
def recs : Int → List LeapP.L → List R
  | _, [] => []
  | n, x :: l => ⟨(x.day + 1) * 86400 + n + min x.step 0, n + x.step⟩ :: recs (n + x.step) l
def tots : Int → List LeapP.L → Int
  | n, [] => n
  | n, x :: l => tots (n + x.step) l
def full (l : List LeapP.L) (has : Bool) (exp : Int) : List R := recs 0 l ++ (if has = true then [⟨exp + tots 0 l, tots 0 l⟩] else [])
theorem recs_len : ∀ (l : List LeapP.L) (n : Int), (recs n l).length = l.length := by
  intro l
  induction l with
  | nil => intro n; rfl
  | cons x l ih => intro n; simp [recs, ih]
theorem tots_bd : ∀ (l : List LeapP.L) (n : Int), (∀ x ∈ l, x.step = 1 ∨ x.step = -1) → n - l.length ≤ tots n l ∧ tots n l ≤ n + l.length := by
  intro l
  induction l with
  | nil => intro n _; simp [tots]
  | cons x l ih =>
    intro n h
    have := h x (by simp)
    have := ih (n + x.step) (fun y hy => h y (by simp [hy]))
    simp only [tots, List.length_cons]; omega
theorem good_steps {l : List LeapP.L} {a : Int} (h : LeapP.Good a l) : ∀ x ∈ l, x.step = 1 ∨ x.step = -1 := fun x hx => (LeapP.good_mem l a h x hx).2.2.2.1
theorem recs_last : ∀ (l : List LeapP.L) (a : R), (lastR a (recs a.corr l)).corr = tots a.corr l := by
  intro l
  induction l with
  | nil => intro a; rfl
  | cons x l ih => intro a; simp only [recs, lastR, tots]; exact ih ⟨_, _⟩
/-- records of right leaps are right -/
theorem recs_G : ∀ (l : List LeapP.L) (a : Int) (b : R), LeapP.Good a l → 729 ≤ a → -a ≤ b.corr → b.corr ≤ a →
    (b.at_ = -2419199 ∧ b.corr = 0 ∨ Cal.isEnd a = true ∧ ∃ s, (s = 1 ∨ s = -1) ∧ b.at_ = (a + 1) * 86400 + (b.corr - s) + min s 0) → G b (recs b.corr l) := by
  intro l
  induction l with
  | nil => intro a b _ _ _ _ _; trivial
  | cons x l ih =>
    intro a b h h0 h1 h2 h3
    obtain ⟨g1, g2, g3, g4, g5, g6⟩ := h
    simp only [recs, G]
    refine ⟨by omega, by omega, ?_, ?_⟩
    · rcases h3 with ⟨e, _⟩ | ⟨e, s, hs, hb⟩
      · omega
      · have := LeapP.ends_apart a x.day e g3 g5; omega
    · refine ih x.day ⟨_, _⟩ g6 (by omega) ?_ ?_ (.inr ⟨g3, x.step, g4, ?_⟩)
      · show -x.day ≤ b.corr + x.step; omega
      · show b.corr + x.step ≤ x.day; omega
      · show (x.day + 1) * 86400 + b.corr + min x.step 0 = (x.day + 1) * 86400 + (b.corr + x.step - x.step) + min x.step 0; omega
theorem recs_G0 (l : List LeapP.L) (h : LeapP.Good 729 l) : G start (recs 0 l) := recs_G l 729 start h (by omega) (by show -729 ≤ (0 : Int); omega) (by show (0 : Int) ≤ 729; omega) (.inl ⟨rfl, rfl⟩)
theorem recs_lastat : ∀ (l : List LeapP.L) (a : Int) (b : R), (∀ x ∈ l, x.step = 1 ∨ x.step = -1) → b.at_ ≤ (a + 1) * 86400 + b.corr → (lastR b (recs b.corr l)).at_ ≤ (LeapP.lastDay a l + 1) * 86400 + tots b.corr l := by
  intro l
  induction l with
  | nil => intro a b _ h; simpa [recs, lastR, LeapP.lastDay, tots] using h
  | cons x l ih =>
    intro a b hs h
    simp only [recs, lastR, LeapP.lastDay, tots]
    have := hs x (by simp)
    refine ih x.day ⟨_, _⟩ (fun y hy => hs y (by simp [hy])) ?_
    show (x.day + 1) * 86400 + b.corr + min x.step 0 ≤ (x.day + 1) * 86400 + (b.corr + x.step); omega
theorem lp_recs : ∀ (l : List LeapP.L) (n : Int), (∀ x ∈ l, x.step = 1 ∨ x.step = -1) → lp n (recs n l) = recs n l ∧ ex n (recs n l) = none := by
  intro l
  induction l with
  | nil => intro n _; exact ⟨rfl, rfl⟩
  | cons x l ih =>
    intro n h
    have := h x (by simp)
    obtain ⟨i1, i2⟩ := ih (n + x.step) (fun y hy => h y (by simp [hy]))
    simp only [recs, lp, ex]
    rw [if_neg (by omega), if_neg (by omega), i1, i2]; exact ⟨rfl, rfl⟩
theorem lp_exp (t : Int) : ∀ (l : List LeapP.L) (n : Int), (∀ x ∈ l, x.step = 1 ∨ x.step = -1) → lp n (recs n l ++ [⟨t, tots n l⟩]) = recs n l ∧ ex n (recs n l ++ [⟨t, tots n l⟩]) = some t := by
  intro l
  induction l with
  | nil => intro n _; simp [recs, lp, ex, tots]
  | cons x l ih =>
    intro n h
    have := h x (by simp)
    obtain ⟨i1, i2⟩ := ih (n + x.step) (fun y hy => h y (by simp [hy]))
    simp only [recs, lp, ex, tots, List.cons_append]
    rw [if_neg (by rintro ⟨_, e⟩; omega), if_neg (by rintro ⟨_, e⟩; omega), i1, i2]; exact ⟨rfl, rfl⟩
theorem lp_full (l : List LeapP.L) (has : Bool) (exp : Int) (h : ∀ x ∈ l, x.step = 1 ∨ x.step = -1) : lp 0 (full l has exp) = recs 0 l ∧ ex 0 (full l has exp) = (if has = true then some (exp + tots 0 l) else none) := by
  unfold full
  cases has with
  | true => simp only [if_true]; exact lp_exp _ l 0 h
  | false => simp only [Bool.false_eq_true, if_false, List.append_nil]; exact lp_recs l 0 h
theorem full_right (l : List LeapP.L) (has : Bool) (exp : Int) (h : LeapP.Right l has exp) : Right (full l has exp) := by
  obtain ⟨h1, h2, h3⟩ := h
  obtain ⟨e1, e2⟩ := lp_full l has exp (good_steps h1)
  have tb := tots_bd l 0 (good_steps h1)
  unfold Right
  rw [e1, e2]
  refine ⟨recs_G0 l h1, fun e he => ?_, ?_⟩
  · cases has with
    | false => simp at he
    | true =>
      simp only [if_true] at he
      obtain rfl := Option.some.inj he
      unfold LeapP.badEnd at h3
      simp only [if_true] at h3
      refine ⟨by omega, ?_⟩
      cases l with
      | nil => show (-2419199 : Int) ≤ exp + 0; omega
      | cons x l =>
        have hx := good_steps h1 x (by simp)
        have := recs_lastat l x.day ⟨(x.day + 1) * 86400 + 0 + min x.step 0, 0 + x.step⟩ (fun y hy => good_steps h1 y (by simp [hy])) (by show (x.day + 1) * 86400 + 0 + min x.step 0 ≤ (x.day + 1) * 86400 + (0 + x.step); omega)
        simp only [recs, lastR, LeapP.lastDay, tots] at this h3 ⊢
        omega
  · unfold full
    rw [List.length_append, recs_len]
    cases has <;> simp <;> omega
/-- the leaps of records; where a number goes round it does so as the program's -/
def unr : Int → List R → Option (List LeapP.L)
  | _, [] => some []
  | n, c :: l => if wrap64 (c.at_ - n - min (c.corr - n) 0) % 86400 = 0 then (unr c.corr l).map (fun y => ⟨wrap64 (c.at_ - n - min (c.corr - n) 0) / 86400 - 1, c.corr - n, false⟩ :: y) else none
theorem w64_id {n : Int} (h : -9223372036854775808 ≤ n) (h' : n ≤ 9223372036854775807) : wrap64 n = n := by unfold wrap64; omega
theorem unr_recs : ∀ (l : List LeapP.L) (a n : Int), LeapP.Good a l → (∀ x ∈ l, x.roll = false) → -300 ≤ n - l.length → n + l.length ≤ 300 → unr n (recs n l) = some l := by
  intro l
  induction l with
  | nil => intro a n _ _ _ _; rfl
  | cons x l ih =>
    intro a n h hr h1 h2
    obtain ⟨g1, g2, g3, g4, g5, g6⟩ := h
    simp only [List.length_cons] at h1 h2
    simp only [recs, unr]
    have e : (x.day + 1) * 86400 + n + min x.step 0 - n - min (n + x.step - n) 0 = (x.day + 1) * 86400 := by omega
    rw [e, w64_id (by omega) (by omega), if_pos (by omega), ih x.day (n + x.step) g6 (fun y hy => hr y (by simp [hy])) (by omega) (by omega)]
    simp only [Option.map_some]
    have r := hr x (by simp)
    rw [show (x.day + 1) * 86400 / 86400 - 1 = x.day by omega, show n + x.step - n = x.step by omega, ← r]
theorem unr_back : ∀ (l : List R) (b : R) (xs : List LeapP.L) (a : Int), G b l → (∀ c ∈ l, c.at_ ≤ 9223372036854775807) → -300 ≤ b.corr - l.length → b.corr + l.length ≤ 300 → unr b.corr l = some xs → LeapP.Good a xs → recs b.corr xs = l ∧ (∀ x ∈ xs, x.roll = false) := by
  intro l
  induction l with
  | nil => intro b xs a _ _ _ _ h _; obtain rfl := Option.some.inj h; exact ⟨rfl, by simp⟩
  | cons c l ih =>
    intro b xs a g hb h1 h2 h hg
    obtain ⟨g1, g2, g3, g4⟩ := g
    simp only [List.length_cons] at h1 h2
    simp only [unr] at h
    split at h
    · rename_i hm
      obtain ⟨ys, hy, rfl⟩ := Option.map_eq_some_iff.mp h
      obtain ⟨q1, q2, _, q4, q5, q6⟩ := hg
      simp only at q1 q2
      obtain ⟨i1, i2⟩ := ih c ys _ g4 (fun y hy => hb y (by simp [hy])) (by omega) (by omega) hy q6
      have hc := hb c (by simp)
      have e : wrap64 (c.at_ - b.corr - min (c.corr - b.corr) 0) = c.at_ - b.corr - min (c.corr - b.corr) 0 := by
        unfold wrap64 at q1 q2 ⊢; omega
      rw [e] at hm ⊢
      refine ⟨?_, fun x hx => ?_⟩
      · simp only [recs]
        rw [show b.corr + (c.corr - b.corr) = c.corr by omega, i1]
        congr 1
        have : ((c.at_ - b.corr - min (c.corr - b.corr) 0) / 86400 - 1 + 1) * 86400 + b.corr + min (c.corr - b.corr) 0 = c.at_ := by omega
        rw [this]
      · rcases List.mem_cons.1 hx with rfl | hx
        · rfl
        · exact i2 x hx
    · simp at h
/-- the POSIX second of an expiry; where it goes round it does so as the program's -/
def expOf : Option Int → Int → Int
  | none, _ => 0
  | some e, c => wrap64 (e - c)
/-- the table of records -/
def table (l : List R) : Option (List LeapP.L × Bool × Int) :=
  match unr 0 (lp 0 l) with
  | none => none
  | some xs =>
    if (LeapP.check xs (ex 0 l).isSome (expOf (ex 0 l) (lastR start (lp 0 l)).corr)).2 = 0 then some (xs, (ex 0 l).isSome, expOf (ex 0 l) (lastR start (lp 0 l)).corr) else none
theorem ex_le {l : List R} (hb : ∀ c ∈ l, c.at_ ≤ 9223372036854775807) : ∀ (a : Int) (e : Int), ex a l = some e → e ≤ 9223372036854775807 := by
  induction l with
  | nil => intro a e h; simp [ex] at h
  | cons c l ih =>
    intro a e h
    simp only [ex] at h
    split at h
    · obtain rfl := Option.some.inj h; exact hb c (by simp)
    · exact ih (fun y hy => hb y (by simp [hy])) _ e h
theorem lp_mem {l : List R} : ∀ (a : Int) (c : R), c ∈ lp a l → c ∈ l := by
  induction l with
  | nil => intro a c h; simp [lp] at h
  | cons x l ih =>
    intro a c h
    simp only [lp] at h
    split at h
    · simp at h
    · rcases List.mem_cons.1 h with rfl | h
      · simp
      · exact List.mem_cons_of_mem _ (ih _ c h)
theorem lastR_bd (l : List R) (h : G start l) : -(l.length : Int) ≤ (lastR start l).corr ∧ (lastR start l).corr ≤ l.length := by
  rcases lastR_mem l start with e | e
  · rw [e]; show -(l.length : Int) ≤ 0 ∧ (0 : Int) ≤ l.length; omega
  · have := G_corr l start h _ e
    have z : start.corr = 0 := rfl
    omega
/-- THE TABLE OF RECORDS: right records have a table just if they are a table's records, and it is that one -/
theorem table_iff (l : List R) (hr : Right l) (hb : ∀ c ∈ l, c.at_ ≤ 9223372036854775807) (xs : List LeapP.L) (has : Bool) (exp : Int) :
    table l = some (xs, has, exp) ↔ LeapP.Right xs has exp ∧ (∀ x ∈ xs, x.roll = false) ∧ l = full xs has exp := by
  obtain ⟨r1, r2, r3⟩ := hr
  have ll := lp_len l start
  have sc : start.corr = 0 := rfl
  rw [sc] at ll
  constructor
  · intro h
    unfold table at h
    split at h
    · simp at h
    · rename_i ys hy
      split at h
      · rename_i hc
        obtain ⟨rfl, rfl, rfl⟩ : ys = xs ∧ (ex 0 l).isSome = has ∧ expOf (ex 0 l) (lastR start (lp 0 l)).corr = exp := by
          have := Option.some.inj h; simp only [Prod.mk.injEq] at this; exact this
        have R := (LeapP.check_right _ _ _).1 hc
        have lb : (lp 0 l).length ≤ 201 := by omega
        obtain ⟨b1, b2⟩ := unr_back (lp 0 l) start ys 729 r1 (fun c hc => hb c (lp_mem 0 c hc)) (by rw [sc]; omega) (by rw [sc]; omega) (by rw [sc]; exact hy) R.1
        refine ⟨R, b2, ?_⟩
        rw [sc] at b1
        have sp := lp_split l start
        rw [sc] at sp
        have lc := lastR_bd _ r1
        have tl : (lastR start (lp 0 l)).corr = tots 0 ys := by rw [← b1]; exact recs_last ys start
        unfold full
        rw [b1]
        have R3 := R.2.2
        have re := r2
        cases he : ex 0 l with
        | none => rw [he] at sp; simpa using sp
        | some e =>
          rw [he] at sp R3
          simp only [expOf] at R3 ⊢
          have e0 := (re e he).1
          have e1 := ex_le hb 0 e he
          have ew : wrap64 (e - (lastR start (lp 0 l)).corr) = e - (lastR start (lp 0 l)).corr := by
            unfold LeapP.badEnd at R3
            simp only [Option.isSome_some, if_true] at R3
            unfold wrap64 at R3 ⊢; omega
          simp only [Option.isSome_some, if_true]
          rw [ew, ← tl, show e - (lastR start (lp 0 l)).corr + (lastR start (lp 0 l)).corr = e by omega]
          exact sp
      · simp at h
  · rintro ⟨R, nr, rfl⟩
    have st := good_steps R.1
    obtain ⟨e1, e2⟩ := lp_full xs has exp st
    have tb := tots_bd xs 0 st
    have r2' := R.2.1
    unfold table
    rw [e1, e2, unr_recs xs 729 0 R.1 nr (by omega) (by omega)]
    have tl : (lastR start (recs 0 xs)).corr = tots 0 xs := recs_last xs start
    have R3 := R.2.2
    have hc := (LeapP.check_right xs has exp).2 R
    cases has with
    | false =>
      unfold LeapP.badEnd at R3
      simp only [Bool.false_eq_true, if_false, Option.isSome_none, expOf] at R3 ⊢
      have : exp = 0 := by omega
      subst this
      rw [if_pos hc]
    | true =>
      unfold LeapP.badEnd at R3
      simp only [if_true, Option.isSome_some, expOf] at R3 ⊢
      rw [tl, w64_id (by omega) (by omega), show exp + tots 0 xs - tots 0 xs = exp by omega, if_pos hc]
end Go.Proofs.Ytlfnkamhokfeaaa.RecP
