import Derived.Test.YthoigncoojcanaaPAllx18
namespace Go.Proofs.Ythoigncoojcanaa.PAll
open Go.RowKit
/-- The one pure statement of this law. -/
def epactlaw25_SmearWindows.Pure : Prop := ∀ (l0_0 : List (S49)) (a0_1 : Bool) (a0_2 : Int) (a1 : Int), (∀ x ∈ l0_0, (Lit.int .i64 x.f0).wf = true ∧ (Lit.int .i64 x.f1).wf = true) → l0_0.length ≤ 9223372036854775807 → (Lit.int .i64 a0_2).wf = true → (Lit.int .i64 a1).wf = true → ∃ k, epactlaw25_SmearWindows.f k l0_0 a0_1 a0_2 a1 = some true
end Go.Proofs.Ythoigncoojcanaa.PAll
