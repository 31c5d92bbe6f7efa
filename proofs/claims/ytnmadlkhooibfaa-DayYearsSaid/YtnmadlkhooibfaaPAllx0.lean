-- Written for this claim by wip/tools of this repo (after the kit's print; own contracts laid in).
import Derived.Test.YtnmadlkhooibfaaProg
import Derived.Below
import Derived.Deep.Draws
import Derived.Deep.AppendLies
import Derived.Maps.AppendAt
import Derived.OwnWalk
import Derived.Laws.BytesArg
import Derived.Laws.MakeOwn
import Derived.Laws.OwnMore
import Derived.Deep.OwnRows
import Derived.Tactics
import Derived.Lib.ConvBytes
import Derived.Laws.Slices
import Derived.WalkKit
import Derived.KernelRfl
import Derived.RowKit3
import Derived.Deep.LoopGhost
import Derived.Deep.QuietTactic
import Derived.BigQuiet
import Derived.WideLaws
import Derived.Deep.DeepCutAuto
import Derived.Deep.CutBlock
import Derived.Deep.RegionHeld3
import Derived.Laws.Rows
import Derived.Lib.AppendStr
import Derived.ArgAppend
import Derived.Laws.IdiomCopy
import Derived.OrdersHeld
import Derived.Laws.BitsLemmas
import Derived.RowKit
import Derived.Test.YtnmadlkhooibfaaWWords
import Derived.Test.YtnmadlkhooibfaaWLast
import Derived.Test.YtnmadlkhooibfaaWTab
import Derived.Test.YtnmadlkhooibfaaWFour
import Derived.Test.YtnmadlkhooibfaaWQPut
import Derived.Test.YtnmadlkhooibfaaWApart
import Derived.Test.YtnmadlkhooibfaaWArr
import Derived.Test.YtnmadlkhooibfaaWZeros
import Derived.Test.YtnmadlkhooibfaaWFoot
import Derived.Test.YtnmadlkhooibfaaWKept
import Derived.Test.YtnmadlkhooibfaaWShare
import Derived.Test.YtnmadlkhooibfaaWN
import Derived.Test.YtnmadlkhooibfaaWFootNe
import Derived.Test.YtnmadlkhooibfaaWAt
import Derived.Test.YtnmadlkhooibfaaWEqStruct
import Derived.Test.YtnmadlkhooibfaaWRepsOne
import Derived.Test.YtnmadlkhooibfaaWInv
import Derived.Test.YtnmadlkhooibfaaWInvWords
import Derived.Test.YtnmadlkhooibfaaWGuard
import Derived.Test.YtnmadlkhooibfaaWNEv
import Derived.Test.YtnmadlkhooibfaaWMore
namespace Go.Proofs.Ytnmadlkhooibfaa.PAll
open Go.RowKit Go.Proofs.YtnmadlkhooibfaaW.PrintWords Go.Proofs.YtnmadlkhooibfaaW.PrintLast Go.Proofs.YtnmadlkhooibfaaW.PrintMore
attribute [local go_sem] max2_int min2_int max_two min_two max_three min_three max_four min_four   -- for this text's walks alone
set_option linter.unusedVariables false
set_option linter.unusedSimpArgs false



def errW : Option Int → Value
  | none => .nilIface
  | some c => .iface 0 (.int .i64 c)
theorem errW_none : errW none = .nilIface := rfl
theorem errW_some (c : Int) : errW (some c) = .iface 0 (.int .i64 c) := rfl

-- the values' own types

end Go.Proofs.Ytnmadlkhooibfaa.PAll
