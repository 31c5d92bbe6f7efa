import Derived.Test.YtlfnkamhokfeaaaPAllx11
namespace Go.Proofs.Ytlfnkamhokfeaaa.PAll
open Go.RowKit
/-- The one pure statement of this law. -/
def epactlaw23_PosixTells.Pure : Prop := ∀ (l0 : List (S40)) (a1 : Int) (a2 : Int) (a3 : Int), (∀ x ∈ l0, (Lit.int .i64 x.f0).wf = true ∧ (Lit.int .i64 x.f1).wf = true) → l0.length ≤ 9223372036854775807 → (Lit.int .i64 a1).wf = true → (Lit.int .i64 a2).wf = true → (Lit.int .i64 a3).wf = true → ∃ k, epactlaw23_PosixTells.f k l0 a1 a2 a3 = some true
end Go.Proofs.Ytlfnkamhokfeaaa.PAll
