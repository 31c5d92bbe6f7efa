/-
  No cell of these rows narrows 'for every input' (looked for: loops, veiled, ifaces, maps, wideKeys, modest, calm, conditions, laid).
  DERIVED. THE GIVEN ROWS OF THIS SEAT. 7 by the template 'for every input the law returns true; each argument reads behind the call as it read before'; 0 by the template 'total and deterministic' (their statements: YthoigncoojcanaaTotals.lean).
  GIVEN WITH THE SEED: the statements are not yours to turn. If you find one false, say at which input.
  Laid BY PROGRAM, IN A SANDBOX (cutbox-rows.mjs): the forced cells as the released guide's own fill.sh prints them over the translation 22deec1d034b33da… (all of the seat's roots in one cut). By AI agents, Wed Nov 11 2026. No macro, syntax, notation, axiom, sorry.
-/
import Derived.Test.YthoigncoojcanaaChecked
import GoSem.Claim
import GoSem.ClaimJoined
import GoSem.ClaimMapViews
import Derived.JoinedTies
import Derived.KernelRfl
namespace Go.Proofs.Ythoigncoojcanaa
/- THE CELL 'sum', in the pinned program and in every row, IS THE sha256 OF THE DUMP (.gsa) THAT YthoigncoojcanaaProg.lean LOADS. Nothing in Lean hashes anything: it is a label: what it is worth is what the hold of that sum in a sandbox is worth. -/
noncomputable def Try.pinned : Pinned := { name := "ythoigncoojcanaa", sum := "22deec1d034b33da542661869d1fec24fb0111b26fdc4cc8582c02673c4bef9b", checked := Try.checked }
namespace Rows
def none {H : Type} : Left H := { results := [], args := [] }

/-- 'epactlaw25.SmearTells': WHATEVER THE INPUT: true; the input reads as it did. -/
def smearTellsSpec : ChangeSpec := { name := "smearTells", fn := fun _ => fun
  | [d1, d2, d3] => { results := [.lit (.bool true)], args := [d1, d2, d3] }
  | _ => none }
def smearTellsRow : OpenClaim := { program := "ythoigncoojcanaa", sum := "22deec1d034b33da542661869d1fec24fb0111b26fdc4cc8582c02673c4bef9b", func := "epact/epactlaw25.SmearTells", spec := "smearTells", unfollowed := true, recurses := true, named := ["math/bits.divideError", "math/bits.overflowError"], apart := false }
def SmearTellsSaid : Prop := smearTellsRow.holds Try.pinned (OpenSpec.ofChange smearTellsSpec)

/-- ITS FALSE NEIGHBOUR: 'it returns false'. Refute it at one input. -/
def smearTellsWrong : ChangeSpec := { name := "smearTells", fn := fun _ => fun
  | [d1, d2, d3] => { results := [.lit (.bool false)], args := [d1, d2, d3] }
  | _ => none }
def SmearTellsWrongFalsely : Prop := smearTellsRow.holds Try.pinned (OpenSpec.ofChange smearTellsWrong)

/-- 'epactlaw25.SmearBack': WHATEVER THE INPUT: true; the input reads as it did. -/
def smearBackSpec : ChangeSpec := { name := "smearBack", fn := fun _ => fun
  | [d1, d2] => { results := [.lit (.bool true)], args := [d1, d2] }
  | _ => none }
def smearBackRow : OpenClaim := { program := "ythoigncoojcanaa", sum := "22deec1d034b33da542661869d1fec24fb0111b26fdc4cc8582c02673c4bef9b", func := "epact/epactlaw25.SmearBack", spec := "smearBack", unfollowed := true, recurses := true, named := ["math/bits.divideError", "math/bits.overflowError"], apart := false }
def SmearBackSaid : Prop := smearBackRow.holds Try.pinned (OpenSpec.ofChange smearBackSpec)

/-- ITS FALSE NEIGHBOUR: 'it returns false'. Refute it at one input. -/
def smearBackWrong : ChangeSpec := { name := "smearBack", fn := fun _ => fun
  | [d1, d2] => { results := [.lit (.bool false)], args := [d1, d2] }
  | _ => none }
def SmearBackWrongFalsely : Prop := smearBackRow.holds Try.pinned (OpenSpec.ofChange smearBackWrong)

/-- 'epactlaw25.SmearNear': WHATEVER THE INPUT: true; the input reads as it did. -/
def smearNearSpec : ChangeSpec := { name := "smearNear", fn := fun _ => fun
  | [d1, d2] => { results := [.lit (.bool true)], args := [d1, d2] }
  | _ => none }
def smearNearRow : OpenClaim := { program := "ythoigncoojcanaa", sum := "22deec1d034b33da542661869d1fec24fb0111b26fdc4cc8582c02673c4bef9b", func := "epact/epactlaw25.SmearNear", spec := "smearNear", unfollowed := true, recurses := true, named := ["math/bits.divideError", "math/bits.overflowError"], apart := false }
def SmearNearSaid : Prop := smearNearRow.holds Try.pinned (OpenSpec.ofChange smearNearSpec)

/-- ITS FALSE NEIGHBOUR: 'it returns false'. Refute it at one input. -/
def smearNearWrong : ChangeSpec := { name := "smearNear", fn := fun _ => fun
  | [d1, d2] => { results := [.lit (.bool false)], args := [d1, d2] }
  | _ => none }
def SmearNearWrongFalsely : Prop := smearNearRow.holds Try.pinned (OpenSpec.ofChange smearNearWrong)

/-- 'epactlaw25.SmearRises': WHATEVER THE INPUT: true; the input reads as it did. -/
def smearRisesSpec : ChangeSpec := { name := "smearRises", fn := fun _ => fun
  | [d1, d2, d3] => { results := [.lit (.bool true)], args := [d1, d2, d3] }
  | _ => none }
def smearRisesRow : OpenClaim := { program := "ythoigncoojcanaa", sum := "22deec1d034b33da542661869d1fec24fb0111b26fdc4cc8582c02673c4bef9b", func := "epact/epactlaw25.SmearRises", spec := "smearRises", unfollowed := true, recurses := true, named := ["math/bits.divideError", "math/bits.overflowError"], apart := false }
def SmearRisesSaid : Prop := smearRisesRow.holds Try.pinned (OpenSpec.ofChange smearRisesSpec)

/-- ITS FALSE NEIGHBOUR: 'it returns false'. Refute it at one input. -/
def smearRisesWrong : ChangeSpec := { name := "smearRises", fn := fun _ => fun
  | [d1, d2, d3] => { results := [.lit (.bool false)], args := [d1, d2, d3] }
  | _ => none }
def SmearRisesWrongFalsely : Prop := smearRisesRow.holds Try.pinned (OpenSpec.ofChange smearRisesWrong)

/-- 'epactlaw25.SmearPlain': WHATEVER THE INPUT: true; the input reads as it did. -/
def smearPlainSpec : ChangeSpec := { name := "smearPlain", fn := fun _ => fun
  | [d] => { results := [.lit (.bool true)], args := [d] }
  | _ => none }
def smearPlainRow : OpenClaim := { program := "ythoigncoojcanaa", sum := "22deec1d034b33da542661869d1fec24fb0111b26fdc4cc8582c02673c4bef9b", func := "epact/epactlaw25.SmearPlain", spec := "smearPlain", unfollowed := true, recurses := true, named := ["math/bits.divideError", "math/bits.overflowError"], apart := false }
def SmearPlainSaid : Prop := smearPlainRow.holds Try.pinned (OpenSpec.ofChange smearPlainSpec)

/-- ITS FALSE NEIGHBOUR: 'it returns false'. Refute it at one input. -/
def smearPlainWrong : ChangeSpec := { name := "smearPlain", fn := fun _ => fun
  | [d] => { results := [.lit (.bool false)], args := [d] }
  | _ => none }
def SmearPlainWrongFalsely : Prop := smearPlainRow.holds Try.pinned (OpenSpec.ofChange smearPlainWrong)

/-- 'epactlaw25.SmearFloor': WHATEVER THE INPUT: true; the input reads as it did. -/
def smearFloorSpec : ChangeSpec := { name := "smearFloor", fn := fun _ => fun
  | [d1, d2] => { results := [.lit (.bool true)], args := [d1, d2] }
  | _ => none }
def smearFloorRow : OpenClaim := { program := "ythoigncoojcanaa", sum := "22deec1d034b33da542661869d1fec24fb0111b26fdc4cc8582c02673c4bef9b", func := "epact/epactlaw25.SmearFloor", spec := "smearFloor", unfollowed := true, recurses := true, named := ["math/bits.divideError", "math/bits.overflowError"], apart := false }
def SmearFloorSaid : Prop := smearFloorRow.holds Try.pinned (OpenSpec.ofChange smearFloorSpec)

/-- ITS FALSE NEIGHBOUR: 'it returns false'. Refute it at one input. -/
def smearFloorWrong : ChangeSpec := { name := "smearFloor", fn := fun _ => fun
  | [d1, d2] => { results := [.lit (.bool false)], args := [d1, d2] }
  | _ => none }
def SmearFloorWrongFalsely : Prop := smearFloorRow.holds Try.pinned (OpenSpec.ofChange smearFloorWrong)

/-- 'epactlaw25.SmearWindows': WHATEVER THE INPUT: true; the input reads as it did. -/
def smearWindowsSpec : ChangeSpec := { name := "smearWindows", fn := fun _ => fun
  | [d1, d2] => { results := [.lit (.bool true)], args := [d1, d2] }
  | _ => none }
def smearWindowsRow : OpenClaim := { program := "ythoigncoojcanaa", sum := "22deec1d034b33da542661869d1fec24fb0111b26fdc4cc8582c02673c4bef9b", func := "epact/epactlaw25.SmearWindows", spec := "smearWindows", unfollowed := true, recurses := true, named := ["math/bits.divideError", "math/bits.overflowError"], apart := false }
def SmearWindowsSaid : Prop := smearWindowsRow.holds Try.pinned (OpenSpec.ofChange smearWindowsSpec)

/-- ITS FALSE NEIGHBOUR: 'it returns false'. Refute it at one input. -/
def smearWindowsWrong : ChangeSpec := { name := "smearWindows", fn := fun _ => fun
  | [d1, d2] => { results := [.lit (.bool false)], args := [d1, d2] }
  | _ => none }
def SmearWindowsWrongFalsely : Prop := smearWindowsRow.holds Try.pinned (OpenSpec.ofChange smearWindowsWrong)

/- THE SECOND FORM. 'bulk': how many values and letters a reading holds, each counted each time it is reached (what is shared counts as often as it is met; a slice's spare places count too). A statement '..UptoSaid' is the law's where the arguments, and the package variables that the reading takes, are together of bulk at most 1048576: NARROWER than '..Said'. Prove '..Said' where nothing that the law and all that it calls make is longer than what came in: it says more and counts as full. Else prove '..UptoSaid'. A law counts once. -/
mutual
def uptoBulk {H : Type} : DataW H → Nat
  | .lit (.string bytes) => bytes.length + 1
  | .lit _ => 1
  | .nil => 1
  | .ptr d => uptoBulk d + 1
  | .slice elems spare => uptoBulkAll elems + uptoBulkAll spare + 1
  | .agg parts => uptoBulkAll parts + 1
  | .iface _ d => uptoBulk d + 1
  | .map entries => uptoBulkEntries entries + 1
  | .held _ => 1
def uptoBulkAll {H : Type} : List (DataW H) → Nat
  | [] => 0
  | d :: r => uptoBulk d + uptoBulkAll r
def uptoBulkEntries {H : Type} : List (Lit × DataW H) → Nat
  | [] => 0
  | x :: r => uptoBulkEntry x + uptoBulkEntries r
def uptoBulkEntry {H : Type} : Lit × DataW H → Nat
  | (.string bytes, d) => bytes.length + uptoBulk d + 1
  | (_, d) => uptoBulk d + 1
 end
def uptoSmall : (H : Type) → List (DataW H) → Bool := fun _ ds => decide (uptoBulkAll ds ≤ 1048576)
def OpenSpec.upto (s : _root_.Go.ChangeSpec) : _root_.Go.OpenSpec := { _root_.Go.OpenSpec.ofChange s with cond := some uptoSmall }

/-- 'epactlaw25.SmearTells', WHERE WHAT IT READS IS OF BULK AT MOST 1048576: true; the input reads as it did. -/
def smearTellsUptoRow : OpenClaim := { program := "ythoigncoojcanaa", sum := "22deec1d034b33da542661869d1fec24fb0111b26fdc4cc8582c02673c4bef9b", func := "epact/epactlaw25.SmearTells", spec := "smearTells", unfollowed := true, recurses := true, named := ["math/bits.divideError", "math/bits.overflowError"], apart := false, narrowed := true }
def SmearTellsUptoSaid : Prop := smearTellsUptoRow.holds Try.pinned (OpenSpec.upto smearTellsSpec)

/-- 'epactlaw25.SmearBack', WHERE WHAT IT READS IS OF BULK AT MOST 1048576: true; the input reads as it did. -/
def smearBackUptoRow : OpenClaim := { program := "ythoigncoojcanaa", sum := "22deec1d034b33da542661869d1fec24fb0111b26fdc4cc8582c02673c4bef9b", func := "epact/epactlaw25.SmearBack", spec := "smearBack", unfollowed := true, recurses := true, named := ["math/bits.divideError", "math/bits.overflowError"], apart := false, narrowed := true }
def SmearBackUptoSaid : Prop := smearBackUptoRow.holds Try.pinned (OpenSpec.upto smearBackSpec)

/-- 'epactlaw25.SmearNear', WHERE WHAT IT READS IS OF BULK AT MOST 1048576: true; the input reads as it did. -/
def smearNearUptoRow : OpenClaim := { program := "ythoigncoojcanaa", sum := "22deec1d034b33da542661869d1fec24fb0111b26fdc4cc8582c02673c4bef9b", func := "epact/epactlaw25.SmearNear", spec := "smearNear", unfollowed := true, recurses := true, named := ["math/bits.divideError", "math/bits.overflowError"], apart := false, narrowed := true }
def SmearNearUptoSaid : Prop := smearNearUptoRow.holds Try.pinned (OpenSpec.upto smearNearSpec)

/-- 'epactlaw25.SmearRises', WHERE WHAT IT READS IS OF BULK AT MOST 1048576: true; the input reads as it did. -/
def smearRisesUptoRow : OpenClaim := { program := "ythoigncoojcanaa", sum := "22deec1d034b33da542661869d1fec24fb0111b26fdc4cc8582c02673c4bef9b", func := "epact/epactlaw25.SmearRises", spec := "smearRises", unfollowed := true, recurses := true, named := ["math/bits.divideError", "math/bits.overflowError"], apart := false, narrowed := true }
def SmearRisesUptoSaid : Prop := smearRisesUptoRow.holds Try.pinned (OpenSpec.upto smearRisesSpec)

/-- 'epactlaw25.SmearPlain', WHERE WHAT IT READS IS OF BULK AT MOST 1048576: true; the input reads as it did. -/
def smearPlainUptoRow : OpenClaim := { program := "ythoigncoojcanaa", sum := "22deec1d034b33da542661869d1fec24fb0111b26fdc4cc8582c02673c4bef9b", func := "epact/epactlaw25.SmearPlain", spec := "smearPlain", unfollowed := true, recurses := true, named := ["math/bits.divideError", "math/bits.overflowError"], apart := false, narrowed := true }
def SmearPlainUptoSaid : Prop := smearPlainUptoRow.holds Try.pinned (OpenSpec.upto smearPlainSpec)

/-- 'epactlaw25.SmearFloor', WHERE WHAT IT READS IS OF BULK AT MOST 1048576: true; the input reads as it did. -/
def smearFloorUptoRow : OpenClaim := { program := "ythoigncoojcanaa", sum := "22deec1d034b33da542661869d1fec24fb0111b26fdc4cc8582c02673c4bef9b", func := "epact/epactlaw25.SmearFloor", spec := "smearFloor", unfollowed := true, recurses := true, named := ["math/bits.divideError", "math/bits.overflowError"], apart := false, narrowed := true }
def SmearFloorUptoSaid : Prop := smearFloorUptoRow.holds Try.pinned (OpenSpec.upto smearFloorSpec)

/-- 'epactlaw25.SmearWindows', WHERE WHAT IT READS IS OF BULK AT MOST 1048576: true; the input reads as it did. -/
def smearWindowsUptoRow : OpenClaim := { program := "ythoigncoojcanaa", sum := "22deec1d034b33da542661869d1fec24fb0111b26fdc4cc8582c02673c4bef9b", func := "epact/epactlaw25.SmearWindows", spec := "smearWindows", unfollowed := true, recurses := true, named := ["math/bits.divideError", "math/bits.overflowError"], apart := false, narrowed := true }
def SmearWindowsUptoSaid : Prop := smearWindowsUptoRow.holds Try.pinned (OpenSpec.upto smearWindowsSpec)

end Rows
end Go.Proofs.Ythoigncoojcanaa
