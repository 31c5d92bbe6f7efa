/- The small case of layer 12 comes out right; records of right tables. -/
import Derived.Test.YtmnkfafnfjpliaaRec2
import Derived.Test.YtmnkfafnfjpliaaScaleP
import Derived.Test.YtmnkfafnfjpliaaPAllx8
import Derived.Test.YtmnkfafnfjpliaaPAllx7
namespace Go.Proofs.Ytmnkfafnfjpliaa.Pure
open Go.RowKit Go.Proofs.Ytmnkfafnfjpliaa.PAll Go.Proofs.YtmnkfafnfjpliaaW.PrintWords Go.Proofs.YtmnkfafnfjpliaaW.PrintLast
theorem small12 (k : Nat) (hk : 60 ≤ k) : epactlaw12_small.f k = some true :=
  at_rounds (g := epactlaw12_small.f) epactlaw12_small.mono (k := 60) hk (by decide +kernel)
end Go.Proofs.Ytmnkfafnfjpliaa.Pure
