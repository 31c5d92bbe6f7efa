-- Written for this claim by wip/tools of this repo (the print's words, what no text uses left out).
import Derived.Test.YtpgkdagjlbcgkaaWInv
import Derived.Test.YtpgkdagjlbcgkaaWFootNe
namespace Go.Proofs.YtpgkdagjlbcgkaaW.PrintWords
open Go.RowKit
end Go.Proofs.YtpgkdagjlbcgkaaW.PrintWords
namespace Go.Proofs.YtpgkdagjlbcgkaaW.PrintLast
section
variable {ops : Array Oper} {a : Act} {o og : Oper} {g : Nat} {t : Tmp} {u : Bool}
end
end Go.Proofs.YtpgkdagjlbcgkaaW.PrintLast
