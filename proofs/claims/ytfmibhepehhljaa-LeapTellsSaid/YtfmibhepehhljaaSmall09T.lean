/- The small case of layer 9 comes out right. -/
import Derived.Test.YtfmibhepehhljaaLeapF
import Derived.Test.YtfmibhepehhljaaPAllx5
namespace Go.Proofs.Ytfmibhepehhljaa.Pure
open Go.RowKit Go.Proofs.Ytfmibhepehhljaa.PAll Go.Proofs.YtfmibhepehhljaaW.PrintWords Go.Proofs.YtfmibhepehhljaaW.PrintLast
theorem small09 (k : Nat) (hk : 60 ≤ k) : epactlaw09_small.f k = some true :=
  at_rounds (g := epactlaw09_small.f) epactlaw09_small.mono (k := 60) hk (by decide +kernel)
theorem few_law (l : List S26) (has : Bool) (exp : Int) : epactlaw09_Few.f l has exp = some (decide ((l.length : Int) ≤ 300)) := rfl
/-- what holds of a right table -/
theorem right_of {l : List S26} {has : Bool} {exp : Int} (h : ((LeapP.check (l.map toL) has exp).2 == 0) = true) : LeapP.Right (l.map toL) has exp ∧ LeapP.Good 729 (l.map toL) ∧ l.length ≤ 200 := by
  have r := (LeapP.check_right _ has exp).1 (by simpa using h)
  refine ⟨r, r.1, ?_⟩
  have := r.2.1; rwa [List.length_map] at this
theorem rd_map (l : List S26) (i : Nat) (h : i < l.length) : (l.map toL)[i]? = some (toL (rd_T26 l (i : Int))) := by
  unfold rd_T26
  rw [List.getElem?_map, Int.toNat_natCast]
  simp [h]
end Go.Proofs.Ytfmibhepehhljaa.Pure
