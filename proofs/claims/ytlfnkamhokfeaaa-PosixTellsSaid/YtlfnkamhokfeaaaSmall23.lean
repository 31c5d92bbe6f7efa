/- The small case of layer 23 comes out right. -/
import Derived.Test.YtlfnkamhokfeaaaPosix
import Derived.Test.YtlfnkamhokfeaaaPAllx6
namespace Go.Proofs.Ytlfnkamhokfeaaa.Pure
open Go.RowKit Go.Proofs.Ytlfnkamhokfeaaa.PAll Go.Proofs.YtlfnkamhokfeaaaW.PrintWords Go.Proofs.YtlfnkamhokfeaaaW.PrintLast
theorem small23 (k : Nat) (hk : 60 ≤ k) : epactlaw23_small.f k = some true :=
  at_rounds (g := epactlaw23_small.f) epactlaw23_small.mono (k := 60) hk (by decide +kernel)
end Go.Proofs.Ytlfnkamhokfeaaa.Pure
