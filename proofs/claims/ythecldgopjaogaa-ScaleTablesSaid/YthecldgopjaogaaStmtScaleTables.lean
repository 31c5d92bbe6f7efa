import Derived.Test.YthecldgopjaogaaPAllx13
namespace Go.Proofs.Ythecldgopjaogaa.PAll
open Go.RowKit
/-- The one pure statement of this law. -/
def epactlaw22_ScaleTables.Pure : Prop := ∀ (l0_0 : List (S53)) (a0_1 : Bool) (a0_2 : Int) (a1 : Int), (∀ x ∈ l0_0, (Lit.int .i64 x.f0).wf = true ∧ (Lit.int .i64 x.f1).wf = true) → l0_0.length ≤ 9223372036854775807 → (Lit.int .i64 a0_2).wf = true → (Lit.int .i64 a1).wf = true → ∃ k, epactlaw22_ScaleTables.f k l0_0 a0_1 a0_2 a1 = some true
end Go.Proofs.Ythecldgopjaogaa.PAll
