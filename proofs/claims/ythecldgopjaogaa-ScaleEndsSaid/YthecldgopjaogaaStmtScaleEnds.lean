import Derived.Test.YthecldgopjaogaaPAllx11
namespace Go.Proofs.Ythecldgopjaogaa.PAll
open Go.RowKit
/-- The one pure statement of this law. -/
def epactlaw22_ScaleEnds.Pure : Prop := ∀ (l0 : List (S45)) (a1 : Int), (∀ x ∈ l0, (Lit.int .i64 x.f0).wf = true ∧ (Lit.int .i64 x.f1).wf = true) → l0.length ≤ 9223372036854775807 → (Lit.int .i64 a1).wf = true → ∃ k, epactlaw22_ScaleEnds.f k l0 a1 = some true
end Go.Proofs.Ythecldgopjaogaa.PAll
