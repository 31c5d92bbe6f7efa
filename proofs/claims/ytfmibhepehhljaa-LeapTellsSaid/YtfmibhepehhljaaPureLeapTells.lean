/- LeapTells: what is wrong of tables, and what is found, is as the document says, and what is added is a table of its own, for any table, any day, any leap and any other table: no condition. -/
import Derived.Test.YtfmibhepehhljaaSmall09T
import Derived.Test.YtfmibhepehhljaaLeapS
import Derived.Test.YtfmibhepehhljaaRef09B
import Derived.Test.YtfmibhepehhljaaStmtLeapTells
namespace Go.Proofs.Ytfmibhepehhljaa.Pure
open Go.RowKit Go.Proofs.Ytfmibhepehhljaa.PAll Go.Proofs.YtfmibhepehhljaaW.PrintWords Go.Proofs.YtfmibhepehhljaaW.PrintLast
set_option linter.unusedVariables false

theorem tells_end (k : Nat) (hk : 2000 ≤ k) (i d : Int) (l y : List S26) (has h' : Bool) (exp e' : Int) (hr : ((LeapP.check (l.map toL) has exp).2 == 0) = true) (hi : ¬ i < (y.length : Int)) :
    epactlaw09_LeapTells.l0 (k + 1) d true i l has exp l has exp y h' e' = some true := by
  obtain ⟨R, G, hl⟩ := right_of hr
  rw [epactlaw09_LeapTells.l0, if_neg hi, if_pos rfl, find_law l has exp d 729 G (by omega), ref_find9 l has exp d (by omega) G k (by omega)]
  simp only [Option.bind_some, if_true]
  rw [total_law l has exp d 729 G hl k (by omega), ref_total9 l has exp d (by omega) G k (by omega)]
  simp only [Option.bind_some, if_true]
  rw [step_law l has exp d 729 G (by omega), ref_step9 l has exp d (by omega) k (by omega)]
  simp only [Option.bind_some, if_true]
  rw [length_law l has exp d 729 G (by omega), ref_length9 l has exp d (by omega) G k (by omega)]
  simp only [Option.bind_some, if_true]
  rw [ref_same_law l l has has exp exp (by omega) k (by omega), samT_self]
  rfl
theorem tells_loop (d : Int) (l : List S26) (has h' : Bool) (exp e' : Int) (hr : ((LeapP.check (l.map toL) has exp).2 == 0) = true) (j : Nat) : ∀ (i k : Nat) (y : List S26), y.length ≤ 400 → y.length - i = j → j + 2001 ≤ k →
    epactlaw09_LeapTells.l0 (k + 1) d true (i : Int) l has exp l has exp y h' e' = some true := by
  induction j with
  | zero =>
    intro i k y hy hj hk
    exact tells_end k (by omega) _ d l y has h' exp e' hr (by omega)
  | succ j ih =>
    intro i k y hy hj hk
    obtain ⟨k, rfl⟩ : ∃ q, k = q + 1 := ⟨k - 1, by omega⟩
    rw [epactlaw09_LeapTells.l0, if_pos (by omega), if_pos (by omega), w64 (n := (i : Int) + 1) (by omega) (by omega), show ((i : Int) + 1) = ((i + 1 : Nat) : Int) by omega]
    exact ih (i + 1) k _ (by rw [List.length_set]; exact hy) (by rw [List.length_set]; omega) (by omega)
theorem LeapTells : epactlaw09_LeapTells.Pure := by
  intro l has exp d a b c m has' exp' _ _ _ _ _ _ _ _ _
  refine ⟨15000, ?_⟩
  unfold epactlaw09_LeapTells.f
  rw [small09 15000 (by omega), few_law, few_law]
  simp only [Option.bind_some]
  have hj : epactlaw09_LeapTells.j0 15000 d true true l has exp a b c m has' exp' = some true := by
    rw [epactlaw09_LeapTells.j0, if_pos rfl]
  by_cases h1 : (l.length : Int) ≤ 300
  · rw [if_pos (by simpa using h1)]
    by_cases h2 : (m.length : Int) ≤ 300
    · rw [decide_eq_true h2]
      simp only [Bool.not_true]
      rw [epactlaw09_LeapTells.j0, if_neg (by decide), check_law l has exp (by omega) 14999 (by omega), ref_check_law l has exp (by omega) 14999 (by omega)]
      simp only [Option.bind_some, if_true]
      rw [right_law l has exp (by omega) 14999 (by omega), ref_right_law l has exp (by omega) 14999 (by omega)]
      simp only [Option.bind_some]
      rw [if_neg (by simp), same_law l m has has' exp exp' (by omega) 14999 (by omega), ref_same_law l m has has' exp exp' (by omega) 14999 (by omega)]
      simp only [Option.bind_some, bne_self_eq_false]
      rw [epactlaw09_LeapTells.j1, if_neg (by decide), ref_right_law l has exp (by omega) 14998 (by omega)]
      simp only [Option.bind_some]
      cases hr : ((LeapP.check (l.map toL) has exp).2 == 0) with
      | false => simp
      | true =>
        simp only [if_true]
        rw [ref_copy_law l has exp (by omega), add_law l has exp a b c (by omega) 14998 (by omega), ref_add_law l has exp a b c (by omega) 14998 (by omega)]
        simp only [Option.bind_some]
        have hlen := addR_len l has exp a b c (by omega)
        rw [ref_same_law _ _ _ _ _ _ (by omega) 14998 (by omega), samT_self]
        simp only [Option.bind_some, if_true, bne_self_eq_false]
        rw [epactlaw09_LeapTells.j2, if_neg (by decide)]
        exact tells_loop d l has _ exp _ hr _ 0 14996 _ (by omega) rfl (by omega)
    · rw [decide_eq_false h2]; exact hj
  · rw [if_neg (by simpa using h1)]; exact hj

end Go.Proofs.Ytfmibhepehhljaa.Pure
