-- Written for this claim by wip/tools of this repo (the print's words, what no text uses left out).
import Derived.Test.YthoigncoojcanaaWInv
import Derived.Test.YthoigncoojcanaaWFootNe
namespace Go.Proofs.YthoigncoojcanaaW.PrintWords
open Go.RowKit
end Go.Proofs.YthoigncoojcanaaW.PrintWords
namespace Go.Proofs.YthoigncoojcanaaW.PrintLast
section
variable {ops : Array Oper} {a : Act} {o og : Oper} {g : Nat} {t : Tmp} {u : Bool}
end
end Go.Proofs.YthoigncoojcanaaW.PrintLast
