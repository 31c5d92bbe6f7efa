-- Written for this claim by wip/tools of this repo (the print's words, what no text uses left out).
import Derived.Test.YthoigncoojcanaaWN
namespace Go.Proofs.YthoigncoojcanaaW.PrintWords
open Go.RowKit
namespace Kd
section
variable {α : Type} {d : Kd α} {W : World} {g n : Nat} {S ok : Nat → Prop} {A : Option Addr} {ad : Addr} {xs : List α}
end
end Kd
end Go.Proofs.YthoigncoojcanaaW.PrintWords
