import Derived.Test.YthoigncoojcanaaPAllx14
namespace Go.Proofs.Ythoigncoojcanaa.PAll
open Go.RowKit
/-- The one pure statement of this law. -/
def epactlaw25_SmearPlain.Pure : Prop := ∀ (a0_0 : Int) (a0_1 : Int), (Lit.int .i64 a0_0).wf = true → (Lit.int .i64 a0_1).wf = true → ∃ k, epactlaw25_SmearPlain.f k a0_0 a0_1 = some true
end Go.Proofs.Ythoigncoojcanaa.PAll
