-- Written for this claim by wip/tools of this repo (the print's words, what no text uses left out).
import Derived.Test.YtfmibhepehhljaaWInv
import Derived.Test.YtfmibhepehhljaaWFootNe
namespace Go.Proofs.YtfmibhepehhljaaW.PrintWords
open Go.RowKit
end Go.Proofs.YtfmibhepehhljaaW.PrintWords
namespace Go.Proofs.YtfmibhepehhljaaW.PrintLast
section
variable {ops : Array Oper} {a : Act} {o og : Oper} {g : Nat} {t : Tmp} {u : Bool}
end
end Go.Proofs.YtfmibhepehhljaaW.PrintLast
