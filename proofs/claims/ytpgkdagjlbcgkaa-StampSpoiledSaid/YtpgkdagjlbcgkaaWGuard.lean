-- Written for this claim by wip/tools of this repo (the print's words, what no text uses left out).
import Derived.Test.YtpgkdagjlbcgkaaWWords
namespace Go.Proofs.YtpgkdagjlbcgkaaW.PrintWords
open Go.RowKit
section
variable {P : Program} {ops : Array Oper} {rest : List Oper} {o : Oper} {a : Act} {Q : Exit → Act → World → Prop} {W : World}
end
end Go.Proofs.YtpgkdagjlbcgkaaW.PrintWords
