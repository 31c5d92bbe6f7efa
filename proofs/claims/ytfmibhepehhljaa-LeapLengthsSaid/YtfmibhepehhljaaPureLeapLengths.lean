/- LeapLengths: as many days as there are leaps are longer, or shorter, by one second, and all others have 86400, for any table and any day: no condition. -/
import Derived.Test.YtfmibhepehhljaaSmall09
import Derived.Test.YtfmibhepehhljaaStmtLeapLengths
namespace Go.Proofs.Ytfmibhepehhljaa.Pure
open Go.RowKit Go.Proofs.Ytfmibhepehhljaa.PAll Go.Proofs.YtfmibhepehhljaaW.PrintWords Go.Proofs.YtfmibhepehhljaaW.PrintLast

theorem stp_elem : ∀ (l : List LeapP.L) (a : Int), LeapP.Good a l → ∀ (i : Nat) (x : LeapP.L), l[i]? = some x → LeapP.stp l x.day = x.step := by
  intro l
  induction l with
  | nil => intro a _ i x h; simp at h
  | cons y l ih =>
    intro a h i x hx
    obtain ⟨h1, h2, h3, h4, h5, h6⟩ := h
    cases i with
    | zero => simp at hx; subst hx; simp [LeapP.stp]
    | succ i =>
      simp at hx
      have := (LeapP.good_mem l y.day h6 x (List.mem_of_getElem? hx)).2.2.2.2
      simp only [LeapP.stp]
      rw [if_neg (by omega)]; exact ih y.day h6 i x hx
theorem apart (l : List LeapP.L) (a : Int) (h : LeapP.Good a l) (i : Nat) (x y : LeapP.L) (hx : l[i]? = some x) (hy : l[i + 1]? = some y) : 28 ≤ y.day - x.day := by
  have mx := LeapP.good_mem l a h x (List.mem_of_getElem? hx)
  have my := LeapP.good_mem l a h y (List.mem_of_getElem? hy)
  have lt : x.day < y.day := by
    have p := LeapP.good_asc l a h
    obtain ⟨h1, e1⟩ := List.getElem?_eq_some_iff.1 hx
    obtain ⟨h2, e2⟩ := List.getElem?_eq_some_iff.1 hy
    have := List.pairwise_iff_getElem.1 p i (i + 1) h1 h2 (by omega)
    rw [e1, e2] at this; exact this
  exact LeapP.ends_apart x.day y.day mx.2.2.1 my.2.2.1 lt
theorem lengths_loop (l : List S26) (has : Bool) (exp d : Int) (G : LeapP.Good 729 (l.map toL)) (hl : l.length ≤ 200) (n : Nat) : ∀ (i k : Nat), i + n = l.length → n < k →
    epactlaw09_LeapLengths.l0 k d true (i : Int) l has exp = some true := by
  have cl := LeapP.cnt_le (l.map toL) d
  rw [List.length_map] at cl
  induction n with
  | zero =>
    intro i k hi hk
    obtain ⟨k, rfl⟩ : ∃ m, k = m + 1 := ⟨k - 1, by omega⟩
    have sm := LeapP.stp_mem _ d 729 G
    simp only [epactlaw09_LeapLengths.l0]
    rw [if_neg (by omega), length_law l has exp d 729 G (by omega), find_law l has exp d 729 G (by omega)]
    simp only [Option.bind_some, if_true]
    have st := LeapP.stp_at _ 729 d G
    by_cases h1 : LeapP.cnt (l.map toL) d < l.length
    · rw [rd_map l _ h1] at st
      simp only at st
      have mem := LeapP.good_mem _ _ G _ (List.mem_of_getElem? (rd_map l _ h1))
      have e1 : (toL (rd_T26 l ((LeapP.cnt (l.map toL) d : Nat) : Int))).day = (rd_T26 l ((LeapP.cnt (l.map toL) d : Nat) : Int)).f0 := rfl
      rw [e1] at st
      rw [if_neg (by omega), if_pos (by omega), if_pos (by omega)]
      rw [if_pos, if_pos (by omega), decide_eq_true (by omega)]
      by_cases h2 : (rd_T26 l ((LeapP.cnt (l.map toL) d : Nat) : Int)).f0 = d
      · rw [if_pos h2] at st
        have : (86400 + LeapP.stp (l.map toL) d == 86400) = false := by rw [beq_eq_false_iff_ne]; rw [st]; omega
        rw [this]; simp [h2]
      · rw [if_neg h2] at st
        rw [st]; simp [h2]
    · rw [List.getElem?_eq_none (by simp; omega)] at st
      simp only at st
      rw [if_pos (by omega), st]; simp
  | succ n ih =>
    intro i k hi hk
    obtain ⟨k, rfl⟩ : ∃ m, k = m + 1 := ⟨k - 1, by omega⟩
    have next := ih (i + 1) k (by omega) (by omega)
    rw [show ((i + 1 : Nat) : Int) = (i : Int) + 1 by omega] at next
    simp only [epactlaw09_LeapLengths.l0]
    rw [if_pos (by omega), if_pos (by omega), length_law l has exp _ 729 G (by omega)]
    simp only [Option.bind_some]
    have hx := rd_map l i (by omega)
    have s := stp_elem _ 729 G i _ hx
    have m := LeapP.good_mem _ _ G _ (List.mem_of_getElem? hx)
    have e1 : (toL (rd_T26 l (i : Int))).day = (rd_T26 l (i : Int)).f0 := rfl
    have e2 : (toL (rd_T26 l (i : Int))).step = (rd_T26 l (i : Int)).f1 := rfl
    rw [e1, e2] at s
    rw [e1, e2] at m
    rw [s]
    have gap : i > 0 → 28 ≤ (rd_T26 l (i : Int)).f0 - (rd_T26 l ((i : Int) - 1)).f0 ∧ 730 ≤ (rd_T26 l ((i : Int) - 1)).f0 := by
      intro hi0
      obtain ⟨j, rfl⟩ : ∃ j, i = j + 1 := ⟨i - 1, by omega⟩
      have hy := rd_map l j (by omega)
      have := apart _ 729 G j _ _ hy hx
      have mj := LeapP.good_mem _ _ G _ (List.mem_of_getElem? hy)
      rw [show ((j + 1 : Nat) : Int) - 1 = (j : Int) by omega]
      exact ⟨this, mj.1⟩
    have tail : (if (i : Int) > 0 then (if 0 ≤ (wrap64 ((i : Int) - 1)) then (if (wrap64 ((i : Int) - 1)) < (l.length : Int) then (if (wrap64 (((rd_T26 l (i : Int)).f0) - ((rd_T26 l (wrap64 ((i : Int) - 1))).f0))) < 28 then (none) else (epactlaw09_LeapLengths.l0 k d true (wrap64 ((i : Int) + 1)) l has exp)) else (none)) else (none)) else (epactlaw09_LeapLengths.l0 k d true (wrap64 ((i : Int) + 1)) l has exp)) = some true := by
      rw [w64 (n := (i : Int) + 1) (by omega) (by omega), next]
      by_cases h0 : (i : Int) > 0
      · have g := gap (by omega)
        rw [if_pos h0, w64 (n := (i : Int) - 1) (by omega) (by omega), if_pos (by omega), if_pos (by omega), w64 (by omega) (by omega), if_neg (by omega)]
      · rw [if_neg h0]
    by_cases h1 : (rd_T26 l (i : Int)).f1 = 1
    · rw [h1, if_pos (by omega), w64 (n := 86400 + 1 - 86400) (by omega) (by omega), if_pos (by omega)]; exact tail
    · have h2 : (rd_T26 l (i : Int)).f1 = -1 := by omega
      rw [h2, if_neg (by omega), if_pos (by omega), w64 (n := 86400 + -1 - 86400) (by omega) (by omega), if_pos (by omega)]; exact tail
theorem LeapLengths : epactlaw09_LeapLengths.Pure := by
  intro l has exp d hg hm he hd
  refine ⟨400, ?_⟩
  unfold epactlaw09_LeapLengths.f
  rw [small09 400 (by omega), few_law]
  simp only [Option.bind_some]
  have out : epactlaw09_LeapLengths.j0 400 d true true l has exp = some true := by simp [epactlaw09_LeapLengths.j0]
  by_cases hf : (l.length : Int) ≤ 300
  · rw [decide_eq_true hf, if_pos rfl, right_law l has exp (by omega) 400 (by omega)]
    simp only [Option.bind_some]
    cases hr : ((LeapP.check (l.map toL) has exp).2 == 0) with
    | false => exact out
    | true =>
      clear out
      obtain ⟨R, G, hl⟩ := right_of hr
      simp only [epactlaw09_LeapLengths.j0, Bool.not_true, Bool.false_eq_true, if_false]
      exact lengths_loop l has exp d G hl l.length 0 _ (by omega) (by omega)
  · rw [decide_eq_false hf, if_neg (by simp)]; exact out

end Go.Proofs.Ytfmibhepehhljaa.Pure
