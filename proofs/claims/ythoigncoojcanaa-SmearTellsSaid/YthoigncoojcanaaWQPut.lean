-- Written for this claim by wip/tools of this repo (the print's words, what no text uses left out).
import Derived.Test.YthoigncoojcanaaWWords
import Derived.Test.YthoigncoojcanaaWLast
namespace Go.Proofs.YthoigncoojcanaaW.PrintWords
open Go.RowKit
namespace Kd
section
variable {α : Type} {d : Kd α} {e base g o n cap : Nat} {ok okp : Nat → Prop} {w W : World} {v : Value} {xs : List α}
end
section
variable {α : Type} {enc : α → Value} {h1 : ∀ x, (enc x).oneCell' = true} {e base g o n cap : Nat} {ok : Nat → Prop} {W : World} {xs : List α}
end
end Kd
end Go.Proofs.YthoigncoojcanaaW.PrintWords
