import Derived.Test.YtmnkfafnfjpliaaPAllx13
namespace Go.Proofs.Ytmnkfafnfjpliaa.PAll
open Go.RowKit
/-- The one pure statement of this law. -/
def epactlaw12_RecordTells.Pure : Prop := ∀ (l0_0 : List (S47)) (a0_1 : Bool) (a0_2 : Int) (l1 : List (S44)) (a2 : Int) (l3 : List (S44)), (∀ x ∈ l0_0, (Lit.int .i64 x.f0).wf = true ∧ (Lit.int .i64 x.f1).wf = true) → l0_0.length ≤ 9223372036854775807 → (Lit.int .i64 a0_2).wf = true → (∀ x ∈ l1, (Lit.int .i64 x.f0).wf = true ∧ (Lit.int .i64 x.f1).wf = true) → l1.length ≤ 9223372036854775807 → (Lit.int .i64 a2).wf = true → (∀ x ∈ l3, (Lit.int .i64 x.f0).wf = true ∧ (Lit.int .i64 x.f1).wf = true) → l3.length ≤ 9223372036854775807 → ∃ k, epactlaw12_RecordTells.f k l0_0 a0_1 a0_2 l1 a2 l3 = some true
end Go.Proofs.Ytmnkfafnfjpliaa.PAll
