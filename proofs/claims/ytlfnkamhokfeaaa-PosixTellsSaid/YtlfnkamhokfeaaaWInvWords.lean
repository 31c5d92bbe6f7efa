-- Written for this claim by wip/tools of this repo (the print's words, what no text uses left out).
import Derived.Test.YtlfnkamhokfeaaaWInv
import Derived.Test.YtlfnkamhokfeaaaWFootNe
namespace Go.Proofs.YtlfnkamhokfeaaaW.PrintWords
open Go.RowKit
end Go.Proofs.YtlfnkamhokfeaaaW.PrintWords
namespace Go.Proofs.YtlfnkamhokfeaaaW.PrintLast
section
variable {ops : Array Oper} {a : Act} {o og : Oper} {g : Nat} {t : Tmp} {u : Bool}
end
end Go.Proofs.YtlfnkamhokfeaaaW.PrintLast
