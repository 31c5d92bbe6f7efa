/-
  No cell of these rows narrows 'for every input' (looked for: loops, veiled, ifaces, maps, wideKeys, modest, calm, conditions, laid).
  DERIVED. THE GIVEN ROWS OF THIS SEAT. 6 by the template 'for every input the law returns true; each argument reads behind the call as it read before'; 0 by the template 'total and deterministic' (their statements: YtfmibhepehhljaaTotals.lean).
  GIVEN WITH THE SEED: the statements are not yours to turn. If you find one false, say at which input.
  Laid BY PROGRAM, IN A SANDBOX (cutbox-rows.mjs): the forced cells as the released guide's own fill.sh prints them over the translation 14a653d1d447873d… (all of the seat's roots in one cut). By AI agents, Wed Nov 11 2026. No macro, syntax, notation, axiom, sorry.
-/
import Derived.Test.YtfmibhepehhljaaChecked
import GoSem.Claim
import GoSem.ClaimJoined
import GoSem.ClaimMapViews
import Derived.JoinedTies
import Derived.KernelRfl
namespace Go.Proofs.Ytfmibhepehhljaa
/- THE CELL 'sum', in the pinned program and in every row, IS THE sha256 OF THE DUMP (.gsa) THAT YtfmibhepehhljaaProg.lean LOADS. Nothing in Lean hashes anything: it is a label: what it is worth is what the hold of that sum in a sandbox is worth. -/
noncomputable def Try.pinned : Pinned := { name := "ytfmibhepehhljaa", sum := "14a653d1d447873d561ae0c2f25343c1b225483bf4c63fda6b01f62f412cc8d7", checked := Try.checked }
namespace Rows
def none {H : Type} : Left H := { results := [], args := [] }

/-- 'epactlaw09.LeapTells': WHATEVER THE INPUT: true; the input reads as it did. -/
def leapTellsSpec : ChangeSpec := { name := "leapTells", fn := fun _ => fun
  | [d1, d2, d3, d4] => { results := [.lit (.bool true)], args := [d1, d2, d3, d4] }
  | _ => none }
def leapTellsRow : OpenClaim := { program := "ytfmibhepehhljaa", sum := "14a653d1d447873d561ae0c2f25343c1b225483bf4c63fda6b01f62f412cc8d7", func := "epact/epactlaw09.LeapTells", spec := "leapTells", unfollowed := true, recurses := true, apart := false }
def LeapTellsSaid : Prop := leapTellsRow.holds Try.pinned (OpenSpec.ofChange leapTellsSpec)

/-- ITS FALSE NEIGHBOUR: 'it returns false'. Refute it at one input. -/
def leapTellsWrong : ChangeSpec := { name := "leapTells", fn := fun _ => fun
  | [d1, d2, d3, d4] => { results := [.lit (.bool false)], args := [d1, d2, d3, d4] }
  | _ => none }
def LeapTellsWrongFalsely : Prop := leapTellsRow.holds Try.pinned (OpenSpec.ofChange leapTellsWrong)

/-- 'epactlaw09.LeapTotals': WHATEVER THE INPUT: true; the input reads as it did. -/
def leapTotalsSpec : ChangeSpec := { name := "leapTotals", fn := fun _ => fun
  | [d1, d2] => { results := [.lit (.bool true)], args := [d1, d2] }
  | _ => none }
def leapTotalsRow : OpenClaim := { program := "ytfmibhepehhljaa", sum := "14a653d1d447873d561ae0c2f25343c1b225483bf4c63fda6b01f62f412cc8d7", func := "epact/epactlaw09.LeapTotals", spec := "leapTotals", unfollowed := true, recurses := true, apart := false }
def LeapTotalsSaid : Prop := leapTotalsRow.holds Try.pinned (OpenSpec.ofChange leapTotalsSpec)

/-- ITS FALSE NEIGHBOUR: 'it returns false'. Refute it at one input. -/
def leapTotalsWrong : ChangeSpec := { name := "leapTotals", fn := fun _ => fun
  | [d1, d2] => { results := [.lit (.bool false)], args := [d1, d2] }
  | _ => none }
def LeapTotalsWrongFalsely : Prop := leapTotalsRow.holds Try.pinned (OpenSpec.ofChange leapTotalsWrong)

/-- 'epactlaw09.LeapFinds': WHATEVER THE INPUT: true; the input reads as it did. -/
def leapFindsSpec : ChangeSpec := { name := "leapFinds", fn := fun _ => fun
  | [d1, d2] => { results := [.lit (.bool true)], args := [d1, d2] }
  | _ => none }
def leapFindsRow : OpenClaim := { program := "ytfmibhepehhljaa", sum := "14a653d1d447873d561ae0c2f25343c1b225483bf4c63fda6b01f62f412cc8d7", func := "epact/epactlaw09.LeapFinds", spec := "leapFinds", unfollowed := true, recurses := true, apart := false }
def LeapFindsSaid : Prop := leapFindsRow.holds Try.pinned (OpenSpec.ofChange leapFindsSpec)

/-- ITS FALSE NEIGHBOUR: 'it returns false'. Refute it at one input. -/
def leapFindsWrong : ChangeSpec := { name := "leapFinds", fn := fun _ => fun
  | [d1, d2] => { results := [.lit (.bool false)], args := [d1, d2] }
  | _ => none }
def LeapFindsWrongFalsely : Prop := leapFindsRow.holds Try.pinned (OpenSpec.ofChange leapFindsWrong)

/-- 'epactlaw09.LeapParts': WHATEVER THE INPUT: true; the input reads as it did. -/
def leapPartsSpec : ChangeSpec := { name := "leapParts", fn := fun _ => fun
  | [d1, d2] => { results := [.lit (.bool true)], args := [d1, d2] }
  | _ => none }
def leapPartsRow : OpenClaim := { program := "ytfmibhepehhljaa", sum := "14a653d1d447873d561ae0c2f25343c1b225483bf4c63fda6b01f62f412cc8d7", func := "epact/epactlaw09.LeapParts", spec := "leapParts", unfollowed := true, recurses := true, apart := false }
def LeapPartsSaid : Prop := leapPartsRow.holds Try.pinned (OpenSpec.ofChange leapPartsSpec)

/-- ITS FALSE NEIGHBOUR: 'it returns false'. Refute it at one input. -/
def leapPartsWrong : ChangeSpec := { name := "leapParts", fn := fun _ => fun
  | [d1, d2] => { results := [.lit (.bool false)], args := [d1, d2] }
  | _ => none }
def LeapPartsWrongFalsely : Prop := leapPartsRow.holds Try.pinned (OpenSpec.ofChange leapPartsWrong)

/-- 'epactlaw09.LeapAdds': WHATEVER THE INPUT: true; the input reads as it did. -/
def leapAddsSpec : ChangeSpec := { name := "leapAdds", fn := fun _ => fun
  | [d1, d2, d3] => { results := [.lit (.bool true)], args := [d1, d2, d3] }
  | _ => none }
def leapAddsRow : OpenClaim := { program := "ytfmibhepehhljaa", sum := "14a653d1d447873d561ae0c2f25343c1b225483bf4c63fda6b01f62f412cc8d7", func := "epact/epactlaw09.LeapAdds", spec := "leapAdds", unfollowed := true, recurses := true, apart := false }
def LeapAddsSaid : Prop := leapAddsRow.holds Try.pinned (OpenSpec.ofChange leapAddsSpec)

/-- ITS FALSE NEIGHBOUR: 'it returns false'. Refute it at one input. -/
def leapAddsWrong : ChangeSpec := { name := "leapAdds", fn := fun _ => fun
  | [d1, d2, d3] => { results := [.lit (.bool false)], args := [d1, d2, d3] }
  | _ => none }
def LeapAddsWrongFalsely : Prop := leapAddsRow.holds Try.pinned (OpenSpec.ofChange leapAddsWrong)

/-- 'epactlaw09.LeapLengths': WHATEVER THE INPUT: true; the input reads as it did. -/
def leapLengthsSpec : ChangeSpec := { name := "leapLengths", fn := fun _ => fun
  | [d1, d2] => { results := [.lit (.bool true)], args := [d1, d2] }
  | _ => none }
def leapLengthsRow : OpenClaim := { program := "ytfmibhepehhljaa", sum := "14a653d1d447873d561ae0c2f25343c1b225483bf4c63fda6b01f62f412cc8d7", func := "epact/epactlaw09.LeapLengths", spec := "leapLengths", unfollowed := true, recurses := true, apart := false }
def LeapLengthsSaid : Prop := leapLengthsRow.holds Try.pinned (OpenSpec.ofChange leapLengthsSpec)

/-- ITS FALSE NEIGHBOUR: 'it returns false'. Refute it at one input. -/
def leapLengthsWrong : ChangeSpec := { name := "leapLengths", fn := fun _ => fun
  | [d1, d2] => { results := [.lit (.bool false)], args := [d1, d2] }
  | _ => none }
def LeapLengthsWrongFalsely : Prop := leapLengthsRow.holds Try.pinned (OpenSpec.ofChange leapLengthsWrong)

/- THE SECOND FORM. 'bulk': how many values and letters a reading holds, each counted each time it is reached (what is shared counts as often as it is met; a slice's spare places count too). A statement '..UptoSaid' is the law's where the arguments, and the package variables that the reading takes, are together of bulk at most 1048576: NARROWER than '..Said'. Prove '..Said' where nothing that the law and all that it calls make is longer than what came in: it says more and counts as full. Else prove '..UptoSaid'. A law counts once. -/
mutual
def uptoBulk {H : Type} : DataW H → Nat
  | .lit (.string bytes) => bytes.length + 1
  | .lit _ => 1
  | .nil => 1
  | .ptr d => uptoBulk d + 1
  | .slice elems spare => uptoBulkAll elems + uptoBulkAll spare + 1
  | .agg parts => uptoBulkAll parts + 1
  | .iface _ d => uptoBulk d + 1
  | .map entries => uptoBulkEntries entries + 1
  | .held _ => 1
def uptoBulkAll {H : Type} : List (DataW H) → Nat
  | [] => 0
  | d :: r => uptoBulk d + uptoBulkAll r
def uptoBulkEntries {H : Type} : List (Lit × DataW H) → Nat
  | [] => 0
  | x :: r => uptoBulkEntry x + uptoBulkEntries r
def uptoBulkEntry {H : Type} : Lit × DataW H → Nat
  | (.string bytes, d) => bytes.length + uptoBulk d + 1
  | (_, d) => uptoBulk d + 1
 end
def uptoSmall : (H : Type) → List (DataW H) → Bool := fun _ ds => decide (uptoBulkAll ds ≤ 1048576)
def OpenSpec.upto (s : _root_.Go.ChangeSpec) : _root_.Go.OpenSpec := { _root_.Go.OpenSpec.ofChange s with cond := some uptoSmall }

/-- 'epactlaw09.LeapTells', WHERE WHAT IT READS IS OF BULK AT MOST 1048576: true; the input reads as it did. -/
def leapTellsUptoRow : OpenClaim := { program := "ytfmibhepehhljaa", sum := "14a653d1d447873d561ae0c2f25343c1b225483bf4c63fda6b01f62f412cc8d7", func := "epact/epactlaw09.LeapTells", spec := "leapTells", unfollowed := true, recurses := true, apart := false, narrowed := true }
def LeapTellsUptoSaid : Prop := leapTellsUptoRow.holds Try.pinned (OpenSpec.upto leapTellsSpec)

/-- 'epactlaw09.LeapTotals', WHERE WHAT IT READS IS OF BULK AT MOST 1048576: true; the input reads as it did. -/
def leapTotalsUptoRow : OpenClaim := { program := "ytfmibhepehhljaa", sum := "14a653d1d447873d561ae0c2f25343c1b225483bf4c63fda6b01f62f412cc8d7", func := "epact/epactlaw09.LeapTotals", spec := "leapTotals", unfollowed := true, recurses := true, apart := false, narrowed := true }
def LeapTotalsUptoSaid : Prop := leapTotalsUptoRow.holds Try.pinned (OpenSpec.upto leapTotalsSpec)

/-- 'epactlaw09.LeapFinds', WHERE WHAT IT READS IS OF BULK AT MOST 1048576: true; the input reads as it did. -/
def leapFindsUptoRow : OpenClaim := { program := "ytfmibhepehhljaa", sum := "14a653d1d447873d561ae0c2f25343c1b225483bf4c63fda6b01f62f412cc8d7", func := "epact/epactlaw09.LeapFinds", spec := "leapFinds", unfollowed := true, recurses := true, apart := false, narrowed := true }
def LeapFindsUptoSaid : Prop := leapFindsUptoRow.holds Try.pinned (OpenSpec.upto leapFindsSpec)

/-- 'epactlaw09.LeapParts', WHERE WHAT IT READS IS OF BULK AT MOST 1048576: true; the input reads as it did. -/
def leapPartsUptoRow : OpenClaim := { program := "ytfmibhepehhljaa", sum := "14a653d1d447873d561ae0c2f25343c1b225483bf4c63fda6b01f62f412cc8d7", func := "epact/epactlaw09.LeapParts", spec := "leapParts", unfollowed := true, recurses := true, apart := false, narrowed := true }
def LeapPartsUptoSaid : Prop := leapPartsUptoRow.holds Try.pinned (OpenSpec.upto leapPartsSpec)

/-- 'epactlaw09.LeapAdds', WHERE WHAT IT READS IS OF BULK AT MOST 1048576: true; the input reads as it did. -/
def leapAddsUptoRow : OpenClaim := { program := "ytfmibhepehhljaa", sum := "14a653d1d447873d561ae0c2f25343c1b225483bf4c63fda6b01f62f412cc8d7", func := "epact/epactlaw09.LeapAdds", spec := "leapAdds", unfollowed := true, recurses := true, apart := false, narrowed := true }
def LeapAddsUptoSaid : Prop := leapAddsUptoRow.holds Try.pinned (OpenSpec.upto leapAddsSpec)

/-- 'epactlaw09.LeapLengths', WHERE WHAT IT READS IS OF BULK AT MOST 1048576: true; the input reads as it did. -/
def leapLengthsUptoRow : OpenClaim := { program := "ytfmibhepehhljaa", sum := "14a653d1d447873d561ae0c2f25343c1b225483bf4c63fda6b01f62f412cc8d7", func := "epact/epactlaw09.LeapLengths", spec := "leapLengths", unfollowed := true, recurses := true, apart := false, narrowed := true }
def LeapLengthsUptoSaid : Prop := leapLengthsUptoRow.holds Try.pinned (OpenSpec.upto leapLengthsSpec)

end Rows
end Go.Proofs.Ytfmibhepehhljaa
