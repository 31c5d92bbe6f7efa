/- More of records in plain lists: beginnings, sums of steps, expiries. -/
import Derived.Test.YtmnkfafnfjpliaaRecP
namespace Go.Proofs.Ytmnkfafnfjpliaa.RecP
open Go.Proofs.Ytmnkfafnfjpliaa Go.RowKit
theorem wr_mono (k : Int) (a c : R) (h : wr k a c false = 0) : wr k a c true = 0 := by
  obtain ⟨h1, h2, h3, h4⟩ := (wr_zero k a c false).1 h
  have h3 : c.corr - a.corr = 1 ∨ c.corr - a.corr = -1 := by rcases h3 with ⟨h, _⟩ | h; exact absurd h (by simp); exact h
  refine (wr_zero k a c true).2 ⟨h1, h2, .inr h3, fun hk => ⟨fun e => ?_, fun _ => (h4 hk).2 (by simp)⟩⟩
  omega
theorem chk_ge : ∀ (l : List R) (k : Int) (a : R), k ≤ (chk l k a).1 ∧ (chk l k a).1 ≤ k + l.length ∧ ((chk l k a).2 ≠ 0 → (chk l k a).1 < k + l.length) := by
  intro l
  induction l with
  | nil => intro k a; simp [chk]
  | cons c l ih =>
    intro k a
    simp only [chk, List.length_cons]
    split
    · have := ih (k + 1) c
      exact ⟨by omega, by omega, fun h => by have := this.2.2 h; omega⟩
    · exact ⟨by simp, by simp only; omega, fun _ => by simp only; omega⟩
theorem chk_parts : ∀ (l : List R) (n : Nat) (k : Int) (a : R), n ≤ l.length →
    ((chk l k a).2 = 0 → (chk (l.take n) k a).2 = 0) ∧ ((chk (l.take n) k a).2 ≠ 0 → (chk l k a).1 ≤ (chk (l.take n) k a).1 ∧ (chk (l.take n) k a).1 < k + n) ∧ ((chk (l.take n) k a).2 = 0 → k + n - 1 ≤ (chk l k a).1) := by
  intro l
  induction l with
  | nil => intro n k a h; simp at h; subst h; simp [chk]; omega
  | cons c l ih =>
    intro n k a h
    simp only [List.length_cons] at h
    cases n with
    | zero =>
      have := (chk_ge (c :: l) k a).1
      simp only [List.take_zero]
      have e : chk [] k a = (k, 0) := rfl
      rw [e]
      exact ⟨fun _ => rfl, fun h => absurd rfl h, fun _ => by simp; omega⟩
    | succ n =>
      simp only [List.take_succ_cons]
      have le : (l.take n).length = n := by rw [List.length_take]; omega
      have flags : wr k a c l.isEmpty = 0 → wr k a c (l.take n).isEmpty = 0 := by
        intro w
        cases n with
        | zero =>
          simp only [List.take_zero, List.isEmpty_nil]
          cases l with
          | nil => exact w
          | cons d l => exact wr_mono k a c w
        | succ n =>
          cases l with
          | nil => simp at h
          | cons d l => exact w
      have i := ih n (k + 1) c (by omega)
      have e1 : chk (c :: l) k a = if wr k a c l.isEmpty = 0 then chk l (k + 1) c else (k, wr k a c l.isEmpty) := rfl
      have e2 : chk (c :: l.take n) k a = if wr k a c (l.take n).isEmpty = 0 then chk (l.take n) (k + 1) c else (k, wr k a c (l.take n).isEmpty) := rfl
      by_cases w : wr k a c l.isEmpty = 0
      · have w2 := flags w
        rw [if_pos w] at e1
        rw [if_pos w2] at e2
        rw [e1, e2]
        obtain ⟨i1, i2, i3⟩ := i
        exact ⟨i1, fun q => by have := i2 q; omega, fun q => by have := i3 q; omega⟩
      · rw [if_neg w] at e1
        rw [e1]
        refine ⟨fun q => absurd q w, fun q => ?_, fun q => ?_⟩
        · by_cases w2 : wr k a c (l.take n).isEmpty = 0
          · rw [if_pos w2] at e2
            rw [e2] at q ⊢
            have g := chk_ge (l.take n) (k + 1) c
            rw [le] at g
            have := g.2.2 q
            exact ⟨by simp only; omega, by omega⟩
          · rw [if_neg w2] at e2
            rw [e2]
            exact ⟨by simp, by simp only; omega⟩
        · cases n with
          | zero => simp only; omega
          | succ n =>
            cases l with
            | nil => simp at h
            | cons d l =>
              have w2 : ¬ wr k a c (List.take (n + 1) (d :: l)).isEmpty = 0 := w
              rw [if_neg w2] at e2
              rw [e2] at q
              exact absurd q w2
/-- without an expiry nothing is left out -/
theorem G_lp : ∀ (l : List R) (a : R), G a l → lp a.corr l = l ∧ ex a.corr l = none := by
  intro l
  induction l with
  | nil => intro a _; exact ⟨rfl, rfl⟩
  | cons c l ih =>
    intro a h
    obtain ⟨_, h2, _, h4⟩ := h
    obtain ⟨i1, i2⟩ := ih c h4
    simp only [lp, ex]
    rw [if_neg (by rintro ⟨_, e⟩; omega), if_neg (by rintro ⟨_, e⟩; omega), i1, i2]; exact ⟨rfl, rfl⟩
theorem lp_right {l : List R} (h : Right l) : Right (lp 0 l) ∧ lp 0 (lp 0 l) = lp 0 l ∧ ex 0 (lp 0 l) = none := by
  obtain ⟨h1, h2, h3⟩ := h
  have g := G_lp _ _ h1
  have sc : start.corr = 0 := rfl
  have ll := lp_len l start
  rw [sc] at g ll
  refine ⟨⟨by rw [g.1]; exact h1, fun e he => ?_, by omega⟩, g.1, g.2⟩
  rw [g.2] at he; exact absurd he (by simp)
theorem lastR_getD : ∀ (l : List R) (a d : R), l ≠ [] → lastR a l = l.getD (l.length - 1) d := by
  intro l
  induction l with
  | nil => intro a d h; exact absurd rfl h
  | cons c l ih =>
    intro a d _
    cases l with
    | nil => simp [lastR]
    | cons e l =>
      rw [show (c :: e :: l).length - 1 = ((e :: l).length - 1) + 1 by simp, List.getD_cons_succ, ← ih c d (by simp)]
      rfl
theorem sp_last : ∀ (l : List R) (a : R), G a l → l ≠ [] → sp a.corr l (lastR a l).at_ ≠ 0 := by
  intro l
  induction l with
  | nil => intro a _ h; exact absurd rfl h
  | cons c l ih =>
    intro a h _
    obtain ⟨_, h2, _, h4⟩ := h
    rw [show lastR a (c :: l) = lastR c l from rfl]
    simp only [sp]
    cases l with
    | nil => rw [show lastR c [] = c from rfl, if_pos (Int.le_refl _), if_pos rfl]; omega
    | cons d l =>
      have m : lastR c (d :: l) ∈ d :: l := by
        rcases lastR_mem l d with e | e
        · simp [lastR, e]
        · simp [lastR, e]
      have := G_above _ _ h4 _ m
      rw [if_pos (by omega), if_neg (by omega)]
      exact ih c h4 (by simp)
theorem sp_behind : ∀ (l : List R) (a : R) (e : Int), (∀ c ∈ l, c.at_ < e) → sp a.corr l e = 0 := by
  intro l
  induction l with
  | nil => intro a e _; rfl
  | cons c l ih =>
    intro a e h
    have := h c (by simp)
    simp only [sp]
    rw [if_pos (by omega), if_neg (by omega)]
    exact ih c e (fun y hy => h y (by simp [hy]))
/-- the sum of what a function says of all seconds of records up to one -/
def ssum (f : Int → Int) (t : Int) : List R → Int
  | [] => 0
  | c :: l => (if c.at_ ≤ t then f c.at_ else 0) + ssum f t l
theorem ssum_congr (f g : Int → Int) (t : Int) : ∀ (l : List R), (∀ c ∈ l, f c.at_ = g c.at_) → ssum f t l = ssum g t l := by
  intro l
  induction l with
  | nil => intro _; rfl
  | cons c l ih => intro h; simp only [ssum]; rw [h c (by simp), ih (fun y hy => h y (by simp [hy]))]
theorem ssum_app (f : Int → Int) (t : Int) : ∀ (a b : List R), ssum f t (a ++ b) = ssum f t a + ssum f t b := by
  intro a
  induction a with
  | nil => intro b; simp [ssum]
  | cons c a ih => intro b; simp only [List.cons_append, ssum, ih]; omega
theorem ssum_sm : ∀ (l : List R) (a : R) (t : Int), G a l → ssum (fun x => sp a.corr l x) t l = sm a.corr l t - a.corr := by
  intro l
  induction l with
  | nil => intro a t _; simp [ssum, sm]
  | cons c l ih =>
    intro a t h
    obtain ⟨_, h2, h3, h4⟩ := h
    have cg : ssum (fun x => sp a.corr (c :: l) x) t l = ssum (fun x => sp c.corr l x) t l := by
      refine ssum_congr _ _ t l (fun d hd => ?_)
      have := G_above l c h4 d hd
      simp only [sp]
      rw [if_pos (by omega), if_neg (by omega)]
    simp only [ssum]
    rw [cg, ih c t h4]
    have e : sp a.corr (c :: l) c.at_ = c.corr - a.corr := by simp only [sp]; rw [if_pos (by omega), if_pos trivial]
    rw [e]
    simp only [sm]
    by_cases ht : c.at_ ≤ t
    · rw [if_pos ht, if_pos ht]; omega
    · rw [if_neg ht, if_neg ht, (sm_ahead l c t h4 (by omega)).1]; omega
/-- all steps up to a second; where the expiry stands on the last leap, that one is told twice -/
theorem ssum_all (l : List R) (h : Right l) (t : Int) : ssum (fun x => sp 0 (lp 0 l) x) t l =
    sm 0 (lp 0 l) t + (match ex 0 l with | some e => if e ≤ t then sp 0 (lp 0 l) e else 0 | none => 0) := by
  obtain ⟨h1, h2, h3⟩ := h
  have sl := lp_split l start
  have sc : start.corr = 0 := rfl
  have s := ssum_sm _ _ t h1
  rw [sc] at sl s
  have e : ssum (fun x => sp 0 (lp 0 l) x) t l = ssum (fun x => sp 0 (lp 0 l) x) t (lp 0 l ++ (match ex 0 l with | some e => [⟨e, (lastR start (lp 0 l)).corr⟩] | none => [])) := congrArg _ sl
  rw [e, ssum_app, s]
  cases ex 0 l with
  | none => simp [ssum]
  | some e => simp [ssum]
end Go.Proofs.Ytmnkfafnfjpliaa.RecP
namespace Go.Proofs.Ytmnkfafnfjpliaa.RecP
/-- no leap is behind the last one -/
theorem G_le_last : ∀ (l : List R) (a : R), G a l → ∀ c ∈ l, c.at_ ≤ (lastR a l).at_ := by
  intro l
  induction l with
  | nil => intro a _ c h; simp at h
  | cons x l ih =>
    intro a h c hc
    have h4 := h.2.2.2
    simp only [lastR]
    rcases List.mem_cons.1 hc with rfl | hc
    · rcases lastR_mem l c with e | e
      · rw [e]; omega
      · have := G_above l c h4 _ e; omega
    · exact ih x h4 c hc
end Go.Proofs.Ytmnkfafnfjpliaa.RecP
