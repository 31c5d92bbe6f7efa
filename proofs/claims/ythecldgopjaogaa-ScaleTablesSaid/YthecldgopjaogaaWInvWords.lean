-- Written for this claim by wip/tools of this repo (the print's words, what no text uses left out).
import Derived.Test.YthecldgopjaogaaWInv
import Derived.Test.YthecldgopjaogaaWFootNe
namespace Go.Proofs.YthecldgopjaogaaW.PrintWords
open Go.RowKit
end Go.Proofs.YthecldgopjaogaaW.PrintWords
namespace Go.Proofs.YthecldgopjaogaaW.PrintLast
section
variable {ops : Array Oper} {a : Act} {o og : Oper} {g : Nat} {t : Tmp} {u : Bool}
end
end Go.Proofs.YthecldgopjaogaaW.PrintLast
