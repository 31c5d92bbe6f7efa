/- The small case of layer 2 comes out right. -/
import Derived.Test.YtgdaohdllipgpaaPAllx2
namespace Go.Proofs.Ytgdaohdllipgpaa.Pure
open Go.RowKit Go.Proofs.Ytgdaohdllipgpaa.PAll Go.Proofs.YtgdaohdllipgpaaW.PrintWords Go.Proofs.YtgdaohdllipgpaaW.PrintLast
theorem small02 (k : Nat) : epactlaw02_small.f (k + 30) = some true :=
  at_rounds (g := epactlaw02_small.f) epactlaw02_small.mono (k := 30) (by omega) (by decide +kernel)
end Go.Proofs.Ytgdaohdllipgpaa.Pure
