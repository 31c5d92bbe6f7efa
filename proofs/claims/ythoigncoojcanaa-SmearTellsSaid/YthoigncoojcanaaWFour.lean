-- Written for this claim by wip/tools of this repo (the print's words, what no text uses left out).
import Derived.Test.YthoigncoojcanaaWTab
namespace Go.Proofs.YthoigncoojcanaaW.PrintLast
section
variable {P : Program} {ops : Array Oper} {Q : Exit → Act → World → Prop} {md : Region.Mode} {S : World → Prop} {ds : List Nat} {T : Bool × List (List Nat × List Nat)}
end
end Go.Proofs.YthoigncoojcanaaW.PrintLast
