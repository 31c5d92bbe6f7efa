/-
  No cell of these rows narrows 'for every input' (looked for: loops, veiled, ifaces, maps, wideKeys, modest, calm, conditions, laid).
  DERIVED. THE GIVEN ROWS OF THIS SEAT. 5 by the template 'for every input the law returns true; each argument reads behind the call as it read before'; 0 by the template 'total and deterministic' (their statements: YtpgkdagjlbcgkaaTotals.lean).
  GIVEN WITH THE SEED: the statements are not yours to turn. If you find one false, say at which input.
  Laid BY PROGRAM, IN A SANDBOX (cutbox-rows.mjs): the forced cells as the released guide's own fill.sh prints them over the translation 4716243ce74cce85… (all of the seat's roots in one cut). By AI agents, Wed Nov 11 2026. No macro, syntax, notation, axiom, sorry.
-/
import Derived.Test.YtpgkdagjlbcgkaaChecked
import GoSem.Claim
import GoSem.ClaimJoined
import GoSem.ClaimMapViews
import Derived.JoinedTies
import Derived.KernelRfl
namespace Go.Proofs.Ytpgkdagjlbcgkaa
/- THE CELL 'sum', in the pinned program and in every row, IS THE sha256 OF THE DUMP (.gsa) THAT YtpgkdagjlbcgkaaProg.lean LOADS. Nothing in Lean hashes anything: it is a label: what it is worth is what the hold of that sum in a sandbox is worth. -/
noncomputable def Try.pinned : Pinned := { name := "ytpgkdagjlbcgkaa", sum := "4716243ce74cce85f02808db2a00f1a0807b1eccfa28075edb541d08cf49ef50", checked := Try.checked }
namespace Rows
def none {H : Type} : Left H := { results := [], args := [] }

/-- 'epactlaw04.StampTells': WHATEVER THE INPUT: true; the input reads as it did. -/
def stampTellsSpec : ChangeSpec := { name := "stampTells", fn := fun _ => fun
  | [d1, d2, d3, d4, d5, d6] => { results := [.lit (.bool true)], args := [d1, d2, d3, d4, d5, d6] }
  | _ => none }
def stampTellsRow : OpenClaim := { program := "ytpgkdagjlbcgkaa", sum := "4716243ce74cce85f02808db2a00f1a0807b1eccfa28075edb541d08cf49ef50", func := "epact/epactlaw04.StampTells", spec := "stampTells", apart := false }
def StampTellsSaid : Prop := stampTellsRow.holds Try.pinned (OpenSpec.ofChange stampTellsSpec)

/-- ITS FALSE NEIGHBOUR: 'it returns false'. Refute it at one input. -/
def stampTellsWrong : ChangeSpec := { name := "stampTells", fn := fun _ => fun
  | [d1, d2, d3, d4, d5, d6] => { results := [.lit (.bool false)], args := [d1, d2, d3, d4, d5, d6] }
  | _ => none }
def StampTellsWrongFalsely : Prop := stampTellsRow.holds Try.pinned (OpenSpec.ofChange stampTellsWrong)

/-- 'epactlaw04.StampBack': WHATEVER THE INPUT: true; the input reads as it did. -/
def stampBackSpec : ChangeSpec := { name := "stampBack", fn := fun _ => fun
  | [d1, d2, d3] => { results := [.lit (.bool true)], args := [d1, d2, d3] }
  | _ => none }
def stampBackRow : OpenClaim := { program := "ytpgkdagjlbcgkaa", sum := "4716243ce74cce85f02808db2a00f1a0807b1eccfa28075edb541d08cf49ef50", func := "epact/epactlaw04.StampBack", spec := "stampBack", apart := false }
def StampBackSaid : Prop := stampBackRow.holds Try.pinned (OpenSpec.ofChange stampBackSpec)

/-- ITS FALSE NEIGHBOUR: 'it returns false'. Refute it at one input. -/
def stampBackWrong : ChangeSpec := { name := "stampBack", fn := fun _ => fun
  | [d1, d2, d3] => { results := [.lit (.bool false)], args := [d1, d2, d3] }
  | _ => none }
def StampBackWrongFalsely : Prop := stampBackRow.holds Try.pinned (OpenSpec.ofChange stampBackWrong)

/-- 'epactlaw04.StampClocks': WHATEVER THE INPUT: true; the input reads as it did. -/
def stampClocksSpec : ChangeSpec := { name := "stampClocks", fn := fun _ => fun
  | [d1, d2, d3, d4] => { results := [.lit (.bool true)], args := [d1, d2, d3, d4] }
  | _ => none }
def stampClocksRow : OpenClaim := { program := "ytpgkdagjlbcgkaa", sum := "4716243ce74cce85f02808db2a00f1a0807b1eccfa28075edb541d08cf49ef50", func := "epact/epactlaw04.StampClocks", spec := "stampClocks", apart := false }
def StampClocksSaid : Prop := stampClocksRow.holds Try.pinned (OpenSpec.ofChange stampClocksSpec)

/-- ITS FALSE NEIGHBOUR: 'it returns false'. Refute it at one input. -/
def stampClocksWrong : ChangeSpec := { name := "stampClocks", fn := fun _ => fun
  | [d1, d2, d3, d4] => { results := [.lit (.bool false)], args := [d1, d2, d3, d4] }
  | _ => none }
def StampClocksWrongFalsely : Prop := stampClocksRow.holds Try.pinned (OpenSpec.ofChange stampClocksWrong)

/-- 'epactlaw04.StampOrder': WHATEVER THE INPUT: true; the input reads as it did. -/
def stampOrderSpec : ChangeSpec := { name := "stampOrder", fn := fun _ => fun
  | [d1, d2, d3, d4] => { results := [.lit (.bool true)], args := [d1, d2, d3, d4] }
  | _ => none }
def stampOrderRow : OpenClaim := { program := "ytpgkdagjlbcgkaa", sum := "4716243ce74cce85f02808db2a00f1a0807b1eccfa28075edb541d08cf49ef50", func := "epact/epactlaw04.StampOrder", spec := "stampOrder", apart := false }
def StampOrderSaid : Prop := stampOrderRow.holds Try.pinned (OpenSpec.ofChange stampOrderSpec)

/-- ITS FALSE NEIGHBOUR: 'it returns false'. Refute it at one input. -/
def stampOrderWrong : ChangeSpec := { name := "stampOrder", fn := fun _ => fun
  | [d1, d2, d3, d4] => { results := [.lit (.bool false)], args := [d1, d2, d3, d4] }
  | _ => none }
def StampOrderWrongFalsely : Prop := stampOrderRow.holds Try.pinned (OpenSpec.ofChange stampOrderWrong)

/-- 'epactlaw04.StampSpoiled': WHATEVER THE INPUT: true; the input reads as it did. -/
def stampSpoiledSpec : ChangeSpec := { name := "stampSpoiled", fn := fun _ => fun
  | [d1, d2, d3, d4] => { results := [.lit (.bool true)], args := [d1, d2, d3, d4] }
  | _ => none }
def stampSpoiledRow : OpenClaim := { program := "ytpgkdagjlbcgkaa", sum := "4716243ce74cce85f02808db2a00f1a0807b1eccfa28075edb541d08cf49ef50", func := "epact/epactlaw04.StampSpoiled", spec := "stampSpoiled", apart := false }
def StampSpoiledSaid : Prop := stampSpoiledRow.holds Try.pinned (OpenSpec.ofChange stampSpoiledSpec)

/-- ITS FALSE NEIGHBOUR: 'it returns false'. Refute it at one input. -/
def stampSpoiledWrong : ChangeSpec := { name := "stampSpoiled", fn := fun _ => fun
  | [d1, d2, d3, d4] => { results := [.lit (.bool false)], args := [d1, d2, d3, d4] }
  | _ => none }
def StampSpoiledWrongFalsely : Prop := stampSpoiledRow.holds Try.pinned (OpenSpec.ofChange stampSpoiledWrong)

/- THE SECOND FORM. 'bulk': how many values and letters a reading holds, each counted each time it is reached (what is shared counts as often as it is met; a slice's spare places count too). A statement '..UptoSaid' is the law's where the arguments, and the package variables that the reading takes, are together of bulk at most 1048576: NARROWER than '..Said'. Prove '..Said' where nothing that the law and all that it calls make is longer than what came in: it says more and counts as full. Else prove '..UptoSaid'. A law counts once. -/
mutual
def uptoBulk {H : Type} : DataW H → Nat
  | .lit (.string bytes) => bytes.length + 1
  | .lit _ => 1
  | .nil => 1
  | .ptr d => uptoBulk d + 1
  | .slice elems spare => uptoBulkAll elems + uptoBulkAll spare + 1
  | .agg parts => uptoBulkAll parts + 1
  | .iface _ d => uptoBulk d + 1
  | .map entries => uptoBulkEntries entries + 1
  | .held _ => 1
def uptoBulkAll {H : Type} : List (DataW H) → Nat
  | [] => 0
  | d :: r => uptoBulk d + uptoBulkAll r
def uptoBulkEntries {H : Type} : List (Lit × DataW H) → Nat
  | [] => 0
  | x :: r => uptoBulkEntry x + uptoBulkEntries r
def uptoBulkEntry {H : Type} : Lit × DataW H → Nat
  | (.string bytes, d) => bytes.length + uptoBulk d + 1
  | (_, d) => uptoBulk d + 1
 end
def uptoSmall : (H : Type) → List (DataW H) → Bool := fun _ ds => decide (uptoBulkAll ds ≤ 1048576)
def OpenSpec.upto (s : _root_.Go.ChangeSpec) : _root_.Go.OpenSpec := { _root_.Go.OpenSpec.ofChange s with cond := some uptoSmall }

/-- 'epactlaw04.StampTells', WHERE WHAT IT READS IS OF BULK AT MOST 1048576: true; the input reads as it did. -/
def stampTellsUptoRow : OpenClaim := { program := "ytpgkdagjlbcgkaa", sum := "4716243ce74cce85f02808db2a00f1a0807b1eccfa28075edb541d08cf49ef50", func := "epact/epactlaw04.StampTells", spec := "stampTells", apart := false, narrowed := true }
def StampTellsUptoSaid : Prop := stampTellsUptoRow.holds Try.pinned (OpenSpec.upto stampTellsSpec)

/-- 'epactlaw04.StampBack', WHERE WHAT IT READS IS OF BULK AT MOST 1048576: true; the input reads as it did. -/
def stampBackUptoRow : OpenClaim := { program := "ytpgkdagjlbcgkaa", sum := "4716243ce74cce85f02808db2a00f1a0807b1eccfa28075edb541d08cf49ef50", func := "epact/epactlaw04.StampBack", spec := "stampBack", apart := false, narrowed := true }
def StampBackUptoSaid : Prop := stampBackUptoRow.holds Try.pinned (OpenSpec.upto stampBackSpec)

/-- 'epactlaw04.StampClocks', WHERE WHAT IT READS IS OF BULK AT MOST 1048576: true; the input reads as it did. -/
def stampClocksUptoRow : OpenClaim := { program := "ytpgkdagjlbcgkaa", sum := "4716243ce74cce85f02808db2a00f1a0807b1eccfa28075edb541d08cf49ef50", func := "epact/epactlaw04.StampClocks", spec := "stampClocks", apart := false, narrowed := true }
def StampClocksUptoSaid : Prop := stampClocksUptoRow.holds Try.pinned (OpenSpec.upto stampClocksSpec)

/-- 'epactlaw04.StampOrder', WHERE WHAT IT READS IS OF BULK AT MOST 1048576: true; the input reads as it did. -/
def stampOrderUptoRow : OpenClaim := { program := "ytpgkdagjlbcgkaa", sum := "4716243ce74cce85f02808db2a00f1a0807b1eccfa28075edb541d08cf49ef50", func := "epact/epactlaw04.StampOrder", spec := "stampOrder", apart := false, narrowed := true }
def StampOrderUptoSaid : Prop := stampOrderUptoRow.holds Try.pinned (OpenSpec.upto stampOrderSpec)

/-- 'epactlaw04.StampSpoiled', WHERE WHAT IT READS IS OF BULK AT MOST 1048576: true; the input reads as it did. -/
def stampSpoiledUptoRow : OpenClaim := { program := "ytpgkdagjlbcgkaa", sum := "4716243ce74cce85f02808db2a00f1a0807b1eccfa28075edb541d08cf49ef50", func := "epact/epactlaw04.StampSpoiled", spec := "stampSpoiled", apart := false, narrowed := true }
def StampSpoiledUptoSaid : Prop := stampSpoiledUptoRow.holds Try.pinned (OpenSpec.upto stampSpoiledSpec)

end Rows
end Go.Proofs.Ytpgkdagjlbcgkaa
