/- LeapTotals: the Total of the next day is that of the day, and its Step, for any table and any day: no condition. -/
import Derived.Test.YtfmibhepehhljaaSmall09
import Derived.Test.YtfmibhepehhljaaStmtLeapTotals
namespace Go.Proofs.Ytfmibhepehhljaa.Pure
open Go.RowKit Go.Proofs.Ytfmibhepehhljaa.PAll Go.Proofs.YtfmibhepehhljaaW.PrintWords Go.Proofs.YtfmibhepehhljaaW.PrintLast

theorem tot_first (l : List LeapP.L) (a d : Int) (x : LeapP.L) (h : LeapP.Good a (x :: l)) (hd : d ≤ x.day) : LeapP.tot (x :: l) d = 0 := by
  obtain ⟨h1, h2, h3, h4, h5, h6⟩ := h
  exact (LeapP.good_above (x :: l) (x.day - 1) d ⟨h1, h2, h3, h4, by omega, h6⟩ (by omega)).2
theorem LeapTotals : epactlaw09_LeapTotals.Pure := by
  intro l has exp d hg hm he hd
  have hd := i64_of hd
  unfold I64 at hd
  refine ⟨400, ?_⟩
  unfold epactlaw09_LeapTotals.f
  rw [small09 400 (by omega), few_law]
  simp only [Option.bind_some]
  have out : epactlaw09_LeapTotals.j0 400 d true true l has exp = some true := by simp [epactlaw09_LeapTotals.j0]
  by_cases hf : (l.length : Int) ≤ 300
  · rw [decide_eq_true hf, if_pos rfl, right_law l has exp (by omega) 400 (by omega)]
    simp only [Option.bind_some]
    cases hr : ((LeapP.check (l.map toL) has exp).2 == 0) with
    | false => rw [if_neg (by simp)]; exact out
    | true =>
      rw [if_pos rfl]
      obtain ⟨R, G, hl⟩ := right_of hr
      by_cases h1 : d < -1099511627776
      · rw [if_pos h1]; exact out
      · rw [if_neg h1]
        by_cases h2 : d > 1099511627776
        · rw [decide_eq_true h2]; exact out
        · rw [decide_eq_false h2]
          clear out
          simp only [epactlaw09_LeapTotals.j0, Bool.false_eq_true, if_false]
          rw [total_law l has exp d 729 G hl _ (by omega), find_law l has exp d 729 G (by omega)]
          simp only [Option.bind_some]
          have nx := LeapP.tot_next _ 729 d G
          have bd := LeapP.tot_bd _ 729 d G
          have cl := LeapP.cnt_le (l.map toL) d
          rw [List.length_map] at cl
          have cm := LeapP.cnt_mono (l.map toL) d (d + 1) (by omega)
          have sm := LeapP.stp_mem _ d 729 G
          have key : ∀ first : Bool, (first = true → LeapP.tot (l.map toL) d = 0) → epactlaw09_LeapTotals.j1 399 d true (LeapP.tot (l.map toL) d) ((LeapP.cnt (l.map toL) d : Nat) : Int) first l has exp = some true := by
            intro first hfirst
            simp only [epactlaw09_LeapTotals.j1, if_true]
            rw [w64 (n := d + 1) (by omega) (by omega), total_law l has exp (d + 1) 729 G hl _ (by omega), step_law l has exp d 729 G (by omega), length_law l has exp d 729 G (by omega), find_law l has exp (d + 1) 729 G (by omega)]
            simp only [Option.bind_some]
            rw [w64 (n := LeapP.tot (l.map toL) d + LeapP.stp (l.map toL) d) (by omega) (by omega), if_pos nx, w64 (n := 86400 + LeapP.stp (l.map toL) d) (by omega) (by omega), if_pos rfl, w64 (n := -((LeapP.cnt (l.map toL) d : Nat) : Int)) (by omega) (by omega)]
            have hfin : decide (((LeapP.cnt (l.map toL) (d + 1) : Nat) : Int) ≥ ((LeapP.cnt (l.map toL) d : Nat) : Int)) = true := decide_eq_true (by omega)
            cases first with
            | true => rw [if_pos rfl, if_pos (hfirst rfl), if_pos (by omega), if_pos (by omega), hfin]
            | false => rw [if_neg (by simp), if_pos (by omega), if_pos (by omega), hfin]
          by_cases h3 : (l.length : Int) = 0
          · rw [if_pos h3]
            refine key true (fun _ => ?_)
            have : l = [] := by cases l with
              | nil => rfl
              | cons x l => simp at h3; omega
            subst this; rfl
          · rw [if_neg h3, if_pos (by omega)]
            refine key _ (fun e => ?_)
            cases l with
            | nil => simp at h3
            | cons x l =>
              have e := of_decide_eq_true e
              exact tot_first _ 729 d (toL x) G (by have : rd_T26 (x :: l) 0 = x := rfl
                                                    rw [this] at e; exact e)
  · rw [decide_eq_false hf, if_neg (by simp)]; exact out

end Go.Proofs.Ytfmibhepehhljaa.Pure
