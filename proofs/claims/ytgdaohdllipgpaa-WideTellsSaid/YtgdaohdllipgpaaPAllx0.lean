-- Written for this claim by wip/tools of this repo (after the kit's print; own contracts laid in).
import Derived.Test.YtgdaohdllipgpaaProg
import Derived.Below
import Derived.Deep.Draws
import Derived.Deep.AppendLies
import Derived.Maps.AppendAt
import Derived.OwnWalk
import Derived.Laws.BytesArg
import Derived.Laws.MakeOwn
import Derived.Laws.OwnMore
import Derived.Deep.OwnRows
import Derived.Tactics
import Derived.Lib.ConvBytes
import Derived.Laws.Slices
import Derived.WalkKit
import Derived.KernelRfl
import Derived.RowKit3
import Derived.Deep.LoopGhost
import Derived.Deep.QuietTactic
import Derived.BigQuiet
import Derived.WideLaws
import Derived.Deep.DeepCutAuto
import Derived.Deep.CutBlock
import Derived.Deep.RegionHeld3
import Derived.Laws.Rows
import Derived.Lib.AppendStr
import Derived.ArgAppend
import Derived.Laws.IdiomCopy
import Derived.OrdersHeld
import Derived.Laws.BitsLemmas
import Derived.RowKit
import Derived.Test.YtgdaohdllipgpaaShelf
import Derived.Lib.BitFns
import Derived.Test.YtgdaohdllipgpaaWWords
import Derived.Test.YtgdaohdllipgpaaWLast
import Derived.Test.YtgdaohdllipgpaaWTab
import Derived.Test.YtgdaohdllipgpaaWFour
import Derived.Test.YtgdaohdllipgpaaWQPut
import Derived.Test.YtgdaohdllipgpaaWApart
import Derived.Test.YtgdaohdllipgpaaWArr
import Derived.Test.YtgdaohdllipgpaaWZeros
import Derived.Test.YtgdaohdllipgpaaWFoot
import Derived.Test.YtgdaohdllipgpaaWKept
import Derived.Test.YtgdaohdllipgpaaWShare
import Derived.Test.YtgdaohdllipgpaaWN
import Derived.Test.YtgdaohdllipgpaaWFootNe
import Derived.Test.YtgdaohdllipgpaaWAt
import Derived.Test.YtgdaohdllipgpaaWEqStruct
import Derived.Test.YtgdaohdllipgpaaWRepsOne
import Derived.Test.YtgdaohdllipgpaaWInv
import Derived.Test.YtgdaohdllipgpaaWInvWords
import Derived.Test.YtgdaohdllipgpaaWGuard
import Derived.Test.YtgdaohdllipgpaaWNEv
import Derived.Test.YtgdaohdllipgpaaWMore
namespace Go.Proofs.Ytgdaohdllipgpaa.PAll
open Go.RowKit Go.Proofs.YtgdaohdllipgpaaW.PrintWords Go.Proofs.YtgdaohdllipgpaaW.PrintLast Go.Proofs.YtgdaohdllipgpaaW.PrintMore
attribute [local go_sem] max2_int min2_int max_two min_two max_three min_three max_four min_four   -- for this text's walks alone
set_option linter.unusedVariables false
set_option linter.unusedSimpArgs false



def errW : Option Int → Value
  | none => .nilIface
  | some c => .iface 0 (.int .i64 c)
theorem errW_none : errW none = .nilIface := rfl
theorem errW_some (c : Int) : errW (some c) = .iface 0 (.int .i64 c) := rfl

-- the values' own types

end Go.Proofs.Ytgdaohdllipgpaa.PAll
