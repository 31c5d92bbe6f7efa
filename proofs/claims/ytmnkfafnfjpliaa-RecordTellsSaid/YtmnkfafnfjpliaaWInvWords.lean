-- Written for this claim by wip/tools of this repo (the print's words, what no text uses left out).
import Derived.Test.YtmnkfafnfjpliaaWInv
import Derived.Test.YtmnkfafnfjpliaaWFootNe
namespace Go.Proofs.YtmnkfafnfjpliaaW.PrintWords
open Go.RowKit
end Go.Proofs.YtmnkfafnfjpliaaW.PrintWords
namespace Go.Proofs.YtmnkfafnfjpliaaW.PrintLast
section
variable {ops : Array Oper} {a : Act} {o og : Oper} {g : Nat} {t : Tmp} {u : Bool}
end
end Go.Proofs.YtmnkfafnfjpliaaW.PrintLast
