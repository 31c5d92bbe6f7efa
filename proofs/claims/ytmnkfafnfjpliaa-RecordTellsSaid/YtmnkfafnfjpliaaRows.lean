/-
  No cell of these rows narrows 'for every input' (looked for: loops, veiled, ifaces, maps, wideKeys, modest, calm, conditions, laid).
  DERIVED. THE GIVEN ROWS OF THIS SEAT. 6 by the template 'for every input the law returns true; each argument reads behind the call as it read before'; 0 by the template 'total and deterministic' (their statements: YtmnkfafnfjpliaaTotals.lean).
  GIVEN WITH THE SEED: the statements are not yours to turn. If you find one false, say at which input.
  Laid BY PROGRAM, IN A SANDBOX (cutbox-rows.mjs): the forced cells as the released guide's own fill.sh prints them over the translation 5e93c5bf2a5128e1… (all of the seat's roots in one cut). By AI agents, Wed Nov 11 2026. No macro, syntax, notation, axiom, sorry.
-/
import Derived.Test.YtmnkfafnfjpliaaChecked
import GoSem.Claim
import GoSem.ClaimJoined
import GoSem.ClaimMapViews
import Derived.JoinedTies
import Derived.KernelRfl
namespace Go.Proofs.Ytmnkfafnfjpliaa
/- THE CELL 'sum', in the pinned program and in every row, IS THE sha256 OF THE DUMP (.gsa) THAT YtmnkfafnfjpliaaProg.lean LOADS. Nothing in Lean hashes anything: it is a label: what it is worth is what the hold of that sum in a sandbox is worth. -/
noncomputable def Try.pinned : Pinned := { name := "ytmnkfafnfjpliaa", sum := "5e93c5bf2a5128e12efbe700f880de7d7f35de704459f8766fb3f493b4acc48b", checked := Try.checked }
namespace Rows
def none {H : Type} : Left H := { results := [], args := [] }

/-- 'epactlaw12.RecordTells': WHATEVER THE INPUT: true; the input reads as it did. -/
def recordTellsSpec : ChangeSpec := { name := "recordTells", fn := fun _ => fun
  | [d1, d2, d3, d4] => { results := [.lit (.bool true)], args := [d1, d2, d3, d4] }
  | _ => none }
def recordTellsRow : OpenClaim := { program := "ytmnkfafnfjpliaa", sum := "5e93c5bf2a5128e12efbe700f880de7d7f35de704459f8766fb3f493b4acc48b", func := "epact/epactlaw12.RecordTells", spec := "recordTells", unfollowed := true, recurses := true, apart := false }
def RecordTellsSaid : Prop := recordTellsRow.holds Try.pinned (OpenSpec.ofChange recordTellsSpec)

/-- ITS FALSE NEIGHBOUR: 'it returns false'. Refute it at one input. -/
def recordTellsWrong : ChangeSpec := { name := "recordTells", fn := fun _ => fun
  | [d1, d2, d3, d4] => { results := [.lit (.bool false)], args := [d1, d2, d3, d4] }
  | _ => none }
def RecordTellsWrongFalsely : Prop := recordTellsRow.holds Try.pinned (OpenSpec.ofChange recordTellsWrong)

/-- 'epactlaw12.RecordBack': WHATEVER THE INPUT: true; the input reads as it did. -/
def recordBackSpec : ChangeSpec := { name := "recordBack", fn := fun _ => fun
  | [d1, d2] => { results := [.lit (.bool true)], args := [d1, d2] }
  | _ => none }
def recordBackRow : OpenClaim := { program := "ytmnkfafnfjpliaa", sum := "5e93c5bf2a5128e12efbe700f880de7d7f35de704459f8766fb3f493b4acc48b", func := "epact/epactlaw12.RecordBack", spec := "recordBack", unfollowed := true, recurses := true, apart := false }
def RecordBackSaid : Prop := recordBackRow.holds Try.pinned (OpenSpec.ofChange recordBackSpec)

/-- ITS FALSE NEIGHBOUR: 'it returns false'. Refute it at one input. -/
def recordBackWrong : ChangeSpec := { name := "recordBack", fn := fun _ => fun
  | [d1, d2] => { results := [.lit (.bool false)], args := [d1, d2] }
  | _ => none }
def RecordBackWrongFalsely : Prop := recordBackRow.holds Try.pinned (OpenSpec.ofChange recordBackWrong)

/-- 'epactlaw12.RecordSums': WHATEVER THE INPUT: true; the input reads as it did. -/
def recordSumsSpec : ChangeSpec := { name := "recordSums", fn := fun _ => fun
  | [d1, d2] => { results := [.lit (.bool true)], args := [d1, d2] }
  | _ => none }
def recordSumsRow : OpenClaim := { program := "ytmnkfafnfjpliaa", sum := "5e93c5bf2a5128e12efbe700f880de7d7f35de704459f8766fb3f493b4acc48b", func := "epact/epactlaw12.RecordSums", spec := "recordSums", unfollowed := true, recurses := true, apart := false }
def RecordSumsSaid : Prop := recordSumsRow.holds Try.pinned (OpenSpec.ofChange recordSumsSpec)

/-- ITS FALSE NEIGHBOUR: 'it returns false'. Refute it at one input. -/
def recordSumsWrong : ChangeSpec := { name := "recordSums", fn := fun _ => fun
  | [d1, d2] => { results := [.lit (.bool false)], args := [d1, d2] }
  | _ => none }
def RecordSumsWrongFalsely : Prop := recordSumsRow.holds Try.pinned (OpenSpec.ofChange recordSumsWrong)

/-- 'epactlaw12.RecordEnds': WHATEVER THE INPUT: true; the input reads as it did. -/
def recordEndsSpec : ChangeSpec := { name := "recordEnds", fn := fun _ => fun
  | [d1, d2] => { results := [.lit (.bool true)], args := [d1, d2] }
  | _ => none }
def recordEndsRow : OpenClaim := { program := "ytmnkfafnfjpliaa", sum := "5e93c5bf2a5128e12efbe700f880de7d7f35de704459f8766fb3f493b4acc48b", func := "epact/epactlaw12.RecordEnds", spec := "recordEnds", unfollowed := true, recurses := true, apart := false }
def RecordEndsSaid : Prop := recordEndsRow.holds Try.pinned (OpenSpec.ofChange recordEndsSpec)

/-- ITS FALSE NEIGHBOUR: 'it returns false'. Refute it at one input. -/
def recordEndsWrong : ChangeSpec := { name := "recordEnds", fn := fun _ => fun
  | [d1, d2] => { results := [.lit (.bool false)], args := [d1, d2] }
  | _ => none }
def RecordEndsWrongFalsely : Prop := recordEndsRow.holds Try.pinned (OpenSpec.ofChange recordEndsWrong)

/-- 'epactlaw12.RecordParts': WHATEVER THE INPUT: true; the input reads as it did. -/
def recordPartsSpec : ChangeSpec := { name := "recordParts", fn := fun _ => fun
  | [d1, d2] => { results := [.lit (.bool true)], args := [d1, d2] }
  | _ => none }
def recordPartsRow : OpenClaim := { program := "ytmnkfafnfjpliaa", sum := "5e93c5bf2a5128e12efbe700f880de7d7f35de704459f8766fb3f493b4acc48b", func := "epact/epactlaw12.RecordParts", spec := "recordParts", unfollowed := true, recurses := true, apart := false }
def RecordPartsSaid : Prop := recordPartsRow.holds Try.pinned (OpenSpec.ofChange recordPartsSpec)

/-- ITS FALSE NEIGHBOUR: 'it returns false'. Refute it at one input. -/
def recordPartsWrong : ChangeSpec := { name := "recordParts", fn := fun _ => fun
  | [d1, d2] => { results := [.lit (.bool false)], args := [d1, d2] }
  | _ => none }
def RecordPartsWrongFalsely : Prop := recordPartsRow.holds Try.pinned (OpenSpec.ofChange recordPartsWrong)

/-- 'epactlaw12.RecordDays': WHATEVER THE INPUT: true; the input reads as it did. -/
def recordDaysSpec : ChangeSpec := { name := "recordDays", fn := fun _ => fun
  | [d1, d2] => { results := [.lit (.bool true)], args := [d1, d2] }
  | _ => none }
def recordDaysRow : OpenClaim := { program := "ytmnkfafnfjpliaa", sum := "5e93c5bf2a5128e12efbe700f880de7d7f35de704459f8766fb3f493b4acc48b", func := "epact/epactlaw12.RecordDays", spec := "recordDays", unfollowed := true, recurses := true, apart := false }
def RecordDaysSaid : Prop := recordDaysRow.holds Try.pinned (OpenSpec.ofChange recordDaysSpec)

/-- ITS FALSE NEIGHBOUR: 'it returns false'. Refute it at one input. -/
def recordDaysWrong : ChangeSpec := { name := "recordDays", fn := fun _ => fun
  | [d1, d2] => { results := [.lit (.bool false)], args := [d1, d2] }
  | _ => none }
def RecordDaysWrongFalsely : Prop := recordDaysRow.holds Try.pinned (OpenSpec.ofChange recordDaysWrong)

/- THE SECOND FORM. 'bulk': how many values and letters a reading holds, each counted each time it is reached (what is shared counts as often as it is met; a slice's spare places count too). A statement '..UptoSaid' is the law's where the arguments, and the package variables that the reading takes, are together of bulk at most 1048576: NARROWER than '..Said'. Prove '..Said' where nothing that the law and all that it calls make is longer than what came in: it says more and counts as full. Else prove '..UptoSaid'. A law counts once. -/
mutual
def uptoBulk {H : Type} : DataW H → Nat
  | .lit (.string bytes) => bytes.length + 1
  | .lit _ => 1
  | .nil => 1
  | .ptr d => uptoBulk d + 1
  | .slice elems spare => uptoBulkAll elems + uptoBulkAll spare + 1
  | .agg parts => uptoBulkAll parts + 1
  | .iface _ d => uptoBulk d + 1
  | .map entries => uptoBulkEntries entries + 1
  | .held _ => 1
def uptoBulkAll {H : Type} : List (DataW H) → Nat
  | [] => 0
  | d :: r => uptoBulk d + uptoBulkAll r
def uptoBulkEntries {H : Type} : List (Lit × DataW H) → Nat
  | [] => 0
  | x :: r => uptoBulkEntry x + uptoBulkEntries r
def uptoBulkEntry {H : Type} : Lit × DataW H → Nat
  | (.string bytes, d) => bytes.length + uptoBulk d + 1
  | (_, d) => uptoBulk d + 1
 end
def uptoSmall : (H : Type) → List (DataW H) → Bool := fun _ ds => decide (uptoBulkAll ds ≤ 1048576)
def OpenSpec.upto (s : _root_.Go.ChangeSpec) : _root_.Go.OpenSpec := { _root_.Go.OpenSpec.ofChange s with cond := some uptoSmall }

/-- 'epactlaw12.RecordTells', WHERE WHAT IT READS IS OF BULK AT MOST 1048576: true; the input reads as it did. -/
def recordTellsUptoRow : OpenClaim := { program := "ytmnkfafnfjpliaa", sum := "5e93c5bf2a5128e12efbe700f880de7d7f35de704459f8766fb3f493b4acc48b", func := "epact/epactlaw12.RecordTells", spec := "recordTells", unfollowed := true, recurses := true, apart := false, narrowed := true }
def RecordTellsUptoSaid : Prop := recordTellsUptoRow.holds Try.pinned (OpenSpec.upto recordTellsSpec)

/-- 'epactlaw12.RecordBack', WHERE WHAT IT READS IS OF BULK AT MOST 1048576: true; the input reads as it did. -/
def recordBackUptoRow : OpenClaim := { program := "ytmnkfafnfjpliaa", sum := "5e93c5bf2a5128e12efbe700f880de7d7f35de704459f8766fb3f493b4acc48b", func := "epact/epactlaw12.RecordBack", spec := "recordBack", unfollowed := true, recurses := true, apart := false, narrowed := true }
def RecordBackUptoSaid : Prop := recordBackUptoRow.holds Try.pinned (OpenSpec.upto recordBackSpec)

/-- 'epactlaw12.RecordSums', WHERE WHAT IT READS IS OF BULK AT MOST 1048576: true; the input reads as it did. -/
def recordSumsUptoRow : OpenClaim := { program := "ytmnkfafnfjpliaa", sum := "5e93c5bf2a5128e12efbe700f880de7d7f35de704459f8766fb3f493b4acc48b", func := "epact/epactlaw12.RecordSums", spec := "recordSums", unfollowed := true, recurses := true, apart := false, narrowed := true }
def RecordSumsUptoSaid : Prop := recordSumsUptoRow.holds Try.pinned (OpenSpec.upto recordSumsSpec)

/-- 'epactlaw12.RecordEnds', WHERE WHAT IT READS IS OF BULK AT MOST 1048576: true; the input reads as it did. -/
def recordEndsUptoRow : OpenClaim := { program := "ytmnkfafnfjpliaa", sum := "5e93c5bf2a5128e12efbe700f880de7d7f35de704459f8766fb3f493b4acc48b", func := "epact/epactlaw12.RecordEnds", spec := "recordEnds", unfollowed := true, recurses := true, apart := false, narrowed := true }
def RecordEndsUptoSaid : Prop := recordEndsUptoRow.holds Try.pinned (OpenSpec.upto recordEndsSpec)

/-- 'epactlaw12.RecordParts', WHERE WHAT IT READS IS OF BULK AT MOST 1048576: true; the input reads as it did. -/
def recordPartsUptoRow : OpenClaim := { program := "ytmnkfafnfjpliaa", sum := "5e93c5bf2a5128e12efbe700f880de7d7f35de704459f8766fb3f493b4acc48b", func := "epact/epactlaw12.RecordParts", spec := "recordParts", unfollowed := true, recurses := true, apart := false, narrowed := true }
def RecordPartsUptoSaid : Prop := recordPartsUptoRow.holds Try.pinned (OpenSpec.upto recordPartsSpec)

/-- 'epactlaw12.RecordDays', WHERE WHAT IT READS IS OF BULK AT MOST 1048576: true; the input reads as it did. -/
def recordDaysUptoRow : OpenClaim := { program := "ytmnkfafnfjpliaa", sum := "5e93c5bf2a5128e12efbe700f880de7d7f35de704459f8766fb3f493b4acc48b", func := "epact/epactlaw12.RecordDays", spec := "recordDays", unfollowed := true, recurses := true, apart := false, narrowed := true }
def RecordDaysUptoSaid : Prop := recordDaysUptoRow.holds Try.pinned (OpenSpec.upto recordDaysSpec)

end Rows
end Go.Proofs.Ytmnkfafnfjpliaa
