/- The small case of layer 3 comes out right. -/
import Derived.Test.YtnmadlkhooibfaaPAllx2
namespace Go.Proofs.Ytnmadlkhooibfaa.Pure
open Go.RowKit Go.Proofs.Ytnmadlkhooibfaa.PAll Go.Proofs.YtnmadlkhooibfaaW.PrintWords Go.Proofs.YtnmadlkhooibfaaW.PrintLast
theorem small03 (k : Nat) : epactlaw03_small.f (k + 2) = some true :=
  at_rounds (g := epactlaw03_small.f) epactlaw03_small.mono (k := 2) (by omega) (by decide +kernel)
end Go.Proofs.Ytnmadlkhooibfaa.Pure
