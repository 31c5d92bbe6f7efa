import Derived.Test.YthoigncoojcanaaPAllx28
namespace Go.Proofs.Ythoigncoojcanaa.PAll
open Go.RowKit
/-- The one pure statement of this law. -/
def epactlaw25_SmearTells.Pure : Prop := ∀ (l0 : List (S53)) (a1_0 : Int) (a1_1 : Int) (a2_0 : Int) (a2_1 : Int), (∀ x ∈ l0, (Lit.int .i64 x.f0).wf = true ∧ (Lit.int .i64 x.f1).wf = true) → l0.length ≤ 9223372036854775807 → (Lit.int .i64 a1_0).wf = true → (Lit.int .i64 a1_1).wf = true → (Lit.int .i64 a2_0).wf = true → (Lit.int .i64 a2_1).wf = true → ∃ k, epactlaw25_SmearTells.f k l0 a1_0 a1_1 a2_0 a2_1 = some true
end Go.Proofs.Ythoigncoojcanaa.PAll
