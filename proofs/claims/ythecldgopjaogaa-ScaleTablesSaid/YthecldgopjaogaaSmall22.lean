/- The small case of layer 22 comes out right. -/
import Derived.Test.YthecldgopjaogaaScale
import Derived.Test.YthecldgopjaogaaPAllx5
namespace Go.Proofs.Ythecldgopjaogaa.Pure
open Go.RowKit Go.Proofs.Ythecldgopjaogaa.PAll Go.Proofs.YthecldgopjaogaaW.PrintWords Go.Proofs.YthecldgopjaogaaW.PrintLast
theorem small22 (k : Nat) (hk : 60 ≤ k) : epactlaw22_small.f k = some true :=
  at_rounds (g := epactlaw22_small.f) epactlaw22_small.mono (k := 60) hk (by decide +kernel)
end Go.Proofs.Ythecldgopjaogaa.Pure
