/- LeapFinds: what is found is the first one that is not ahead of a day, for any table and any day: no condition. -/
import Derived.Test.YtfmibhepehhljaaSmall09
import Derived.Test.YtfmibhepehhljaaStmtLeapFinds
namespace Go.Proofs.Ytfmibhepehhljaa.Pure
open Go.RowKit Go.Proofs.Ytfmibhepehhljaa.PAll Go.Proofs.YtfmibhepehhljaaW.PrintWords Go.Proofs.YtfmibhepehhljaaW.PrintLast

theorem finds_loop (l : List S26) (has : Bool) (exp d : Int) (G : LeapP.Good 729 (l.map toL)) (hl : l.length ≤ 200) (n : Nat) : ∀ (i k : Nat), i + n = l.length → n < k →
    epactlaw09_LeapFinds.l0 k d true ((LeapP.cnt (l.map toL) d : Nat) : Int) (i : Int) l has exp = some true := by
  have cl := LeapP.cnt_le (l.map toL) d
  rw [List.length_map] at cl
  induction n with
  | zero =>
    intro i k hi hk
    obtain ⟨k, rfl⟩ : ∃ m, k = m + 1 := ⟨k - 1, by omega⟩
    simp only [epactlaw09_LeapFinds.l0]
    rw [if_neg (by omega), step_law l has exp d 729 G (by omega), LeapP.stp_at _ 729 d G]
    by_cases h1 : LeapP.cnt (l.map toL) d < l.length
    · rw [if_pos (by omega), if_pos (by omega), rd_map l _ h1]
      simp only [Option.bind_some, if_true]
      by_cases h2 : (rd_T26 l ((LeapP.cnt (l.map toL) d : Nat) : Int)).f0 = d
      · rw [if_pos h2]; simp [toL, h2]
      · rw [if_neg h2]; simp [toL, h2]
    · rw [if_neg (by omega), List.getElem?_eq_none (by simp; omega)]; simp
  | succ n ih =>
    intro i k hi hk
    obtain ⟨k, rfl⟩ : ∃ m, k = m + 1 := ⟨k - 1, by omega⟩
    simp only [epactlaw09_LeapFinds.l0]
    rw [if_pos (by omega), if_pos (by omega)]
    have a := LeapP.cnt_at _ 729 d G i _ (rd_map l i (by omega))
    have e : (toL (rd_T26 l (i : Int))).day = (rd_T26 l (i : Int)).f0 := rfl
    rw [e] at a
    rw [if_neg, w64 (by omega) (by omega)]
    · have := ih (i + 1) k (by omega) (by omega)
      rw [show ((i : Int) + 1) = ((i + 1 : Nat) : Int) by omega]; exact this
    · have : decide ((rd_T26 l (i : Int)).f0 ≥ d) = decide ((i : Int) ≥ ((LeapP.cnt (l.map toL) d : Nat) : Int)) := by rw [decide_eq_decide]; omega
      rw [this]; simp
theorem LeapFinds : epactlaw09_LeapFinds.Pure := by
  intro l has exp d hg hm he hd
  refine ⟨400, ?_⟩
  unfold epactlaw09_LeapFinds.f
  rw [small09 400 (by omega), few_law]
  simp only [Option.bind_some]
  have out : epactlaw09_LeapFinds.j0 400 d true true l has exp = some true := by simp [epactlaw09_LeapFinds.j0]
  by_cases hf : (l.length : Int) ≤ 300
  · rw [decide_eq_true hf, if_pos rfl, right_law l has exp (by omega) 400 (by omega)]
    simp only [Option.bind_some]
    cases hr : ((LeapP.check (l.map toL) has exp).2 == 0) with
    | false => exact out
    | true =>
      clear out
      obtain ⟨R, G, hl⟩ := right_of hr
      have cl := LeapP.cnt_le (l.map toL) d
      rw [List.length_map] at cl
      simp only [epactlaw09_LeapFinds.j0, Bool.not_true, Bool.false_eq_true, if_false]
      rw [find_law l has exp d 729 G (by omega)]
      simp only [Option.bind_some]
      rw [if_neg (by omega), decide_eq_false (by omega)]
      simp only [epactlaw09_LeapFinds.j1, Bool.false_eq_true, if_false]
      exact finds_loop l has exp d G hl l.length 0 _ (by omega) (by omega)
  · rw [decide_eq_false hf, if_neg (by simp)]; exact out

end Go.Proofs.Ytfmibhepehhljaa.Pure
