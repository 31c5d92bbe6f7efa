-- Written for this claim by wip/tools of this repo (the print's words, what no text uses left out).
import Derived.Test.YtpgkdagjlbcgkaaWWords
import Derived.Laws.StructEq
namespace Go.Proofs.YtpgkdagjlbcgkaaW.PrintWords
open Go.RowKit
section
variable {P : Program} {d : Nat} {xs ys : Array Value} {f : Field} {fs : List Field} {a b : Value} {r s : Bool} {w : World}
end
end Go.Proofs.YtpgkdagjlbcgkaaW.PrintWords
