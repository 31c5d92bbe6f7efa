import Derived.Test.YtfmibhepehhljaaPAllx9
namespace Go.Proofs.Ytfmibhepehhljaa.PAll
open Go.RowKit
/-- The one pure statement of this law. -/
def epactlaw09_LeapTells.Pure : Prop := ∀ (l0_0 : List (S26)) (a0_1 : Bool) (a0_2 : Int) (a1 : Int) (a2_0 : Int) (a2_1 : Int) (a2_2 : Bool) (l3_0 : List (S26)) (a3_1 : Bool) (a3_2 : Int), (∀ x ∈ l0_0, (Lit.int .i64 x.f0).wf = true ∧ (Lit.int .i64 x.f1).wf = true) → l0_0.length ≤ 9223372036854775807 → (Lit.int .i64 a0_2).wf = true → (Lit.int .i64 a1).wf = true → (Lit.int .i64 a2_0).wf = true → (Lit.int .i64 a2_1).wf = true → (∀ x ∈ l3_0, (Lit.int .i64 x.f0).wf = true ∧ (Lit.int .i64 x.f1).wf = true) → l3_0.length ≤ 9223372036854775807 → (Lit.int .i64 a3_2).wf = true → ∃ k, epactlaw09_LeapTells.f k l0_0 a0_1 a0_2 a1 a2_0 a2_1 a2_2 l3_0 a3_1 a3_2 = some true
end Go.Proofs.Ytfmibhepehhljaa.PAll
