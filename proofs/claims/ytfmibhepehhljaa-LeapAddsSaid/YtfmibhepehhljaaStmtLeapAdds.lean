import Derived.Test.YtfmibhepehhljaaPAllx11
namespace Go.Proofs.Ytfmibhepehhljaa.PAll
open Go.RowKit
/-- The one pure statement of this law. -/
def epactlaw09_LeapAdds.Pure : Prop := ∀ (l0_0 : List (S26)) (a0_1 : Bool) (a0_2 : Int) (a1_0 : Int) (a1_1 : Int) (a1_2 : Bool) (a2 : Int), (∀ x ∈ l0_0, (Lit.int .i64 x.f0).wf = true ∧ (Lit.int .i64 x.f1).wf = true) → l0_0.length ≤ 9223372036854775807 → (Lit.int .i64 a0_2).wf = true → (Lit.int .i64 a1_0).wf = true → (Lit.int .i64 a1_1).wf = true → (Lit.int .i64 a2).wf = true → ∃ k, epactlaw09_LeapAdds.f k l0_0 a0_1 a0_2 a1_0 a1_1 a1_2 a2 = some true
end Go.Proofs.Ytfmibhepehhljaa.PAll
