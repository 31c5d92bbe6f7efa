/- The small case of layer 4 comes out right. -/
import Derived.Test.YtpgkdagjlbcgkaaPAllx3
namespace Go.Proofs.Ytpgkdagjlbcgkaa.Pure
open Go.RowKit Go.Proofs.Ytpgkdagjlbcgkaa.PAll Go.Proofs.YtpgkdagjlbcgkaaW.PrintWords Go.Proofs.YtpgkdagjlbcgkaaW.PrintLast
theorem small04 (k : Nat) : epactlaw04_small.f (k + 2) = some true :=
  at_rounds (g := epactlaw04_small.f) epactlaw04_small.mono (k := 2) (by omega) (by decide +kernel)
end Go.Proofs.Ytpgkdagjlbcgkaa.Pure
