/-
  No cell of these rows narrows 'for every input' (looked for: loops, veiled, ifaces, maps, wideKeys, modest, calm, conditions, laid).
  DERIVED. THE GIVEN ROWS OF THIS SEAT. 6 by the template 'for every input the law returns true; each argument reads behind the call as it read before'; 0 by the template 'total and deterministic' (their statements: YthecldgopjaogaaTotals.lean).
  GIVEN WITH THE SEED: the statements are not yours to turn. If you find one false, say at which input.
  Laid BY PROGRAM, IN A SANDBOX (cutbox-rows.mjs): the forced cells as the released guide's own fill.sh prints them over the translation 7b7bbbf001cad9a9… (all of the seat's roots in one cut). By AI agents, Wed Nov 11 2026. No macro, syntax, notation, axiom, sorry.
-/
import Derived.Test.YthecldgopjaogaaChecked
import GoSem.Claim
import GoSem.ClaimJoined
import GoSem.ClaimMapViews
import Derived.JoinedTies
import Derived.KernelRfl
namespace Go.Proofs.Ythecldgopjaogaa
/- THE CELL 'sum', in the pinned program and in every row, IS THE sha256 OF THE DUMP (.gsa) THAT YthecldgopjaogaaProg.lean LOADS. Nothing in Lean hashes anything: it is a label: what it is worth is what the hold of that sum in a sandbox is worth. -/
noncomputable def Try.pinned : Pinned := { name := "ythecldgopjaogaa", sum := "7b7bbbf001cad9a9bef6b0d5b23a4db0ec14e4fc93157aca1aa4f49bd04f3ca3", checked := Try.checked }
namespace Rows
def none {H : Type} : Left H := { results := [], args := [] }

/-- 'epactlaw22.ScaleTells': WHATEVER THE INPUT: true; the input reads as it did. -/
def scaleTellsSpec : ChangeSpec := { name := "scaleTells", fn := fun _ => fun
  | [d1, d2, d3, d4] => { results := [.lit (.bool true)], args := [d1, d2, d3, d4] }
  | _ => none }
def scaleTellsRow : OpenClaim := { program := "ythecldgopjaogaa", sum := "7b7bbbf001cad9a9bef6b0d5b23a4db0ec14e4fc93157aca1aa4f49bd04f3ca3", func := "epact/epactlaw22.ScaleTells", spec := "scaleTells", unfollowed := true, recurses := true, apart := false }
def ScaleTellsSaid : Prop := scaleTellsRow.holds Try.pinned (OpenSpec.ofChange scaleTellsSpec)

/-- ITS FALSE NEIGHBOUR: 'it returns false'. Refute it at one input. -/
def scaleTellsWrong : ChangeSpec := { name := "scaleTells", fn := fun _ => fun
  | [d1, d2, d3, d4] => { results := [.lit (.bool false)], args := [d1, d2, d3, d4] }
  | _ => none }
def ScaleTellsWrongFalsely : Prop := scaleTellsRow.holds Try.pinned (OpenSpec.ofChange scaleTellsWrong)

/-- 'epactlaw22.ScaleBack': WHATEVER THE INPUT: true; the input reads as it did. -/
def scaleBackSpec : ChangeSpec := { name := "scaleBack", fn := fun _ => fun
  | [d1, d2, d3, d4] => { results := [.lit (.bool true)], args := [d1, d2, d3, d4] }
  | _ => none }
def scaleBackRow : OpenClaim := { program := "ythecldgopjaogaa", sum := "7b7bbbf001cad9a9bef6b0d5b23a4db0ec14e4fc93157aca1aa4f49bd04f3ca3", func := "epact/epactlaw22.ScaleBack", spec := "scaleBack", unfollowed := true, recurses := true, apart := false }
def ScaleBackSaid : Prop := scaleBackRow.holds Try.pinned (OpenSpec.ofChange scaleBackSpec)

/-- ITS FALSE NEIGHBOUR: 'it returns false'. Refute it at one input. -/
def scaleBackWrong : ChangeSpec := { name := "scaleBack", fn := fun _ => fun
  | [d1, d2, d3, d4] => { results := [.lit (.bool false)], args := [d1, d2, d3, d4] }
  | _ => none }
def ScaleBackWrongFalsely : Prop := scaleBackRow.holds Try.pinned (OpenSpec.ofChange scaleBackWrong)

/-- 'epactlaw22.ScaleNext': WHATEVER THE INPUT: true; the input reads as it did. -/
def scaleNextSpec : ChangeSpec := { name := "scaleNext", fn := fun _ => fun
  | [d1, d2] => { results := [.lit (.bool true)], args := [d1, d2] }
  | _ => none }
def scaleNextRow : OpenClaim := { program := "ythecldgopjaogaa", sum := "7b7bbbf001cad9a9bef6b0d5b23a4db0ec14e4fc93157aca1aa4f49bd04f3ca3", func := "epact/epactlaw22.ScaleNext", spec := "scaleNext", unfollowed := true, recurses := true, apart := false }
def ScaleNextSaid : Prop := scaleNextRow.holds Try.pinned (OpenSpec.ofChange scaleNextSpec)

/-- ITS FALSE NEIGHBOUR: 'it returns false'. Refute it at one input. -/
def scaleNextWrong : ChangeSpec := { name := "scaleNext", fn := fun _ => fun
  | [d1, d2] => { results := [.lit (.bool false)], args := [d1, d2] }
  | _ => none }
def ScaleNextWrongFalsely : Prop := scaleNextRow.holds Try.pinned (OpenSpec.ofChange scaleNextWrong)

/-- 'epactlaw22.ScaleEnds': WHATEVER THE INPUT: true; the input reads as it did. -/
def scaleEndsSpec : ChangeSpec := { name := "scaleEnds", fn := fun _ => fun
  | [d1, d2] => { results := [.lit (.bool true)], args := [d1, d2] }
  | _ => none }
def scaleEndsRow : OpenClaim := { program := "ythecldgopjaogaa", sum := "7b7bbbf001cad9a9bef6b0d5b23a4db0ec14e4fc93157aca1aa4f49bd04f3ca3", func := "epact/epactlaw22.ScaleEnds", spec := "scaleEnds", unfollowed := true, recurses := true, apart := false }
def ScaleEndsSaid : Prop := scaleEndsRow.holds Try.pinned (OpenSpec.ofChange scaleEndsSpec)

/-- ITS FALSE NEIGHBOUR: 'it returns false'. Refute it at one input. -/
def scaleEndsWrong : ChangeSpec := { name := "scaleEnds", fn := fun _ => fun
  | [d1, d2] => { results := [.lit (.bool false)], args := [d1, d2] }
  | _ => none }
def ScaleEndsWrongFalsely : Prop := scaleEndsRow.holds Try.pinned (OpenSpec.ofChange scaleEndsWrong)

/-- 'epactlaw22.ScaleSums': WHATEVER THE INPUT: true; the input reads as it did. -/
def scaleSumsSpec : ChangeSpec := { name := "scaleSums", fn := fun _ => fun
  | [d1, d2, d3] => { results := [.lit (.bool true)], args := [d1, d2, d3] }
  | _ => none }
def scaleSumsRow : OpenClaim := { program := "ythecldgopjaogaa", sum := "7b7bbbf001cad9a9bef6b0d5b23a4db0ec14e4fc93157aca1aa4f49bd04f3ca3", func := "epact/epactlaw22.ScaleSums", spec := "scaleSums", unfollowed := true, recurses := true, apart := false }
def ScaleSumsSaid : Prop := scaleSumsRow.holds Try.pinned (OpenSpec.ofChange scaleSumsSpec)

/-- ITS FALSE NEIGHBOUR: 'it returns false'. Refute it at one input. -/
def scaleSumsWrong : ChangeSpec := { name := "scaleSums", fn := fun _ => fun
  | [d1, d2, d3] => { results := [.lit (.bool false)], args := [d1, d2, d3] }
  | _ => none }
def ScaleSumsWrongFalsely : Prop := scaleSumsRow.holds Try.pinned (OpenSpec.ofChange scaleSumsWrong)

/-- 'epactlaw22.ScaleTables': WHATEVER THE INPUT: true; the input reads as it did. -/
def scaleTablesSpec : ChangeSpec := { name := "scaleTables", fn := fun _ => fun
  | [d1, d2] => { results := [.lit (.bool true)], args := [d1, d2] }
  | _ => none }
def scaleTablesRow : OpenClaim := { program := "ythecldgopjaogaa", sum := "7b7bbbf001cad9a9bef6b0d5b23a4db0ec14e4fc93157aca1aa4f49bd04f3ca3", func := "epact/epactlaw22.ScaleTables", spec := "scaleTables", unfollowed := true, recurses := true, apart := false }
def ScaleTablesSaid : Prop := scaleTablesRow.holds Try.pinned (OpenSpec.ofChange scaleTablesSpec)

/-- ITS FALSE NEIGHBOUR: 'it returns false'. Refute it at one input. -/
def scaleTablesWrong : ChangeSpec := { name := "scaleTables", fn := fun _ => fun
  | [d1, d2] => { results := [.lit (.bool false)], args := [d1, d2] }
  | _ => none }
def ScaleTablesWrongFalsely : Prop := scaleTablesRow.holds Try.pinned (OpenSpec.ofChange scaleTablesWrong)

/- THE SECOND FORM. 'bulk': how many values and letters a reading holds, each counted each time it is reached (what is shared counts as often as it is met; a slice's spare places count too). A statement '..UptoSaid' is the law's where the arguments, and the package variables that the reading takes, are together of bulk at most 1048576: NARROWER than '..Said'. Prove '..Said' where nothing that the law and all that it calls make is longer than what came in: it says more and counts as full. Else prove '..UptoSaid'. A law counts once. -/
mutual
def uptoBulk {H : Type} : DataW H → Nat
  | .lit (.string bytes) => bytes.length + 1
  | .lit _ => 1
  | .nil => 1
  | .ptr d => uptoBulk d + 1
  | .slice elems spare => uptoBulkAll elems + uptoBulkAll spare + 1
  | .agg parts => uptoBulkAll parts + 1
  | .iface _ d => uptoBulk d + 1
  | .map entries => uptoBulkEntries entries + 1
  | .held _ => 1
def uptoBulkAll {H : Type} : List (DataW H) → Nat
  | [] => 0
  | d :: r => uptoBulk d + uptoBulkAll r
def uptoBulkEntries {H : Type} : List (Lit × DataW H) → Nat
  | [] => 0
  | x :: r => uptoBulkEntry x + uptoBulkEntries r
def uptoBulkEntry {H : Type} : Lit × DataW H → Nat
  | (.string bytes, d) => bytes.length + uptoBulk d + 1
  | (_, d) => uptoBulk d + 1
 end
def uptoSmall : (H : Type) → List (DataW H) → Bool := fun _ ds => decide (uptoBulkAll ds ≤ 1048576)
def OpenSpec.upto (s : _root_.Go.ChangeSpec) : _root_.Go.OpenSpec := { _root_.Go.OpenSpec.ofChange s with cond := some uptoSmall }

/-- 'epactlaw22.ScaleTells', WHERE WHAT IT READS IS OF BULK AT MOST 1048576: true; the input reads as it did. -/
def scaleTellsUptoRow : OpenClaim := { program := "ythecldgopjaogaa", sum := "7b7bbbf001cad9a9bef6b0d5b23a4db0ec14e4fc93157aca1aa4f49bd04f3ca3", func := "epact/epactlaw22.ScaleTells", spec := "scaleTells", unfollowed := true, recurses := true, apart := false, narrowed := true }
def ScaleTellsUptoSaid : Prop := scaleTellsUptoRow.holds Try.pinned (OpenSpec.upto scaleTellsSpec)

/-- 'epactlaw22.ScaleBack', WHERE WHAT IT READS IS OF BULK AT MOST 1048576: true; the input reads as it did. -/
def scaleBackUptoRow : OpenClaim := { program := "ythecldgopjaogaa", sum := "7b7bbbf001cad9a9bef6b0d5b23a4db0ec14e4fc93157aca1aa4f49bd04f3ca3", func := "epact/epactlaw22.ScaleBack", spec := "scaleBack", unfollowed := true, recurses := true, apart := false, narrowed := true }
def ScaleBackUptoSaid : Prop := scaleBackUptoRow.holds Try.pinned (OpenSpec.upto scaleBackSpec)

/-- 'epactlaw22.ScaleNext', WHERE WHAT IT READS IS OF BULK AT MOST 1048576: true; the input reads as it did. -/
def scaleNextUptoRow : OpenClaim := { program := "ythecldgopjaogaa", sum := "7b7bbbf001cad9a9bef6b0d5b23a4db0ec14e4fc93157aca1aa4f49bd04f3ca3", func := "epact/epactlaw22.ScaleNext", spec := "scaleNext", unfollowed := true, recurses := true, apart := false, narrowed := true }
def ScaleNextUptoSaid : Prop := scaleNextUptoRow.holds Try.pinned (OpenSpec.upto scaleNextSpec)

/-- 'epactlaw22.ScaleEnds', WHERE WHAT IT READS IS OF BULK AT MOST 1048576: true; the input reads as it did. -/
def scaleEndsUptoRow : OpenClaim := { program := "ythecldgopjaogaa", sum := "7b7bbbf001cad9a9bef6b0d5b23a4db0ec14e4fc93157aca1aa4f49bd04f3ca3", func := "epact/epactlaw22.ScaleEnds", spec := "scaleEnds", unfollowed := true, recurses := true, apart := false, narrowed := true }
def ScaleEndsUptoSaid : Prop := scaleEndsUptoRow.holds Try.pinned (OpenSpec.upto scaleEndsSpec)

/-- 'epactlaw22.ScaleSums', WHERE WHAT IT READS IS OF BULK AT MOST 1048576: true; the input reads as it did. -/
def scaleSumsUptoRow : OpenClaim := { program := "ythecldgopjaogaa", sum := "7b7bbbf001cad9a9bef6b0d5b23a4db0ec14e4fc93157aca1aa4f49bd04f3ca3", func := "epact/epactlaw22.ScaleSums", spec := "scaleSums", unfollowed := true, recurses := true, apart := false, narrowed := true }
def ScaleSumsUptoSaid : Prop := scaleSumsUptoRow.holds Try.pinned (OpenSpec.upto scaleSumsSpec)

/-- 'epactlaw22.ScaleTables', WHERE WHAT IT READS IS OF BULK AT MOST 1048576: true; the input reads as it did. -/
def scaleTablesUptoRow : OpenClaim := { program := "ythecldgopjaogaa", sum := "7b7bbbf001cad9a9bef6b0d5b23a4db0ec14e4fc93157aca1aa4f49bd04f3ca3", func := "epact/epactlaw22.ScaleTables", spec := "scaleTables", unfollowed := true, recurses := true, apart := false, narrowed := true }
def ScaleTablesUptoSaid : Prop := scaleTablesUptoRow.holds Try.pinned (OpenSpec.upto scaleTablesSpec)

end Rows
end Go.Proofs.Ythecldgopjaogaa
