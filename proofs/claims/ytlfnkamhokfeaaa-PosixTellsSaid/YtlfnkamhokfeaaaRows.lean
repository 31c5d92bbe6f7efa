/-
  No cell of these rows narrows 'for every input' (looked for: loops, veiled, ifaces, maps, wideKeys, modest, calm, conditions, laid).
  DERIVED. THE GIVEN ROWS OF THIS SEAT. 5 by the template 'for every input the law returns true; each argument reads behind the call as it read before'; 0 by the template 'total and deterministic' (their statements: YtlfnkamhokfeaaaTotals.lean).
  GIVEN WITH THE SEED: the statements are not yours to turn. If you find one false, say at which input.
  Laid BY PROGRAM, IN A SANDBOX (cutbox-rows.mjs): the forced cells as the released guide's own fill.sh prints them over the translation 7fc92abeac9ee5b2… (all of the seat's roots in one cut). By AI agents, Wed Nov 11 2026. No macro, syntax, notation, axiom, sorry.
-/
import Derived.Test.YtlfnkamhokfeaaaChecked
import GoSem.Claim
import GoSem.ClaimJoined
import GoSem.ClaimMapViews
import Derived.JoinedTies
import Derived.KernelRfl
namespace Go.Proofs.Ytlfnkamhokfeaaa
/- THE CELL 'sum', in the pinned program and in every row, IS THE sha256 OF THE DUMP (.gsa) THAT YtlfnkamhokfeaaaProg.lean LOADS. Nothing in Lean hashes anything: it is a label: what it is worth is what the hold of that sum in a sandbox is worth. -/
noncomputable def Try.pinned : Pinned := { name := "ytlfnkamhokfeaaa", sum := "7fc92abeac9ee5b21116e34d71a810927aab81d14d120242f22440de3ba2250a", checked := Try.checked }
namespace Rows
def none {H : Type} : Left H := { results := [], args := [] }

/-- 'epactlaw23.PosixTells': WHATEVER THE INPUT: true; the input reads as it did. -/
def posixTellsSpec : ChangeSpec := { name := "posixTells", fn := fun _ => fun
  | [d1, d2, d3, d4] => { results := [.lit (.bool true)], args := [d1, d2, d3, d4] }
  | _ => none }
def posixTellsRow : OpenClaim := { program := "ytlfnkamhokfeaaa", sum := "7fc92abeac9ee5b21116e34d71a810927aab81d14d120242f22440de3ba2250a", func := "epact/epactlaw23.PosixTells", spec := "posixTells", unfollowed := true, recurses := true, apart := false }
def PosixTellsSaid : Prop := posixTellsRow.holds Try.pinned (OpenSpec.ofChange posixTellsSpec)

/-- ITS FALSE NEIGHBOUR: 'it returns false'. Refute it at one input. -/
def posixTellsWrong : ChangeSpec := { name := "posixTells", fn := fun _ => fun
  | [d1, d2, d3, d4] => { results := [.lit (.bool false)], args := [d1, d2, d3, d4] }
  | _ => none }
def PosixTellsWrongFalsely : Prop := posixTellsRow.holds Try.pinned (OpenSpec.ofChange posixTellsWrong)

/-- 'epactlaw23.PosixBack': WHATEVER THE INPUT: true; the input reads as it did. -/
def posixBackSpec : ChangeSpec := { name := "posixBack", fn := fun _ => fun
  | [d1, d2] => { results := [.lit (.bool true)], args := [d1, d2] }
  | _ => none }
def posixBackRow : OpenClaim := { program := "ytlfnkamhokfeaaa", sum := "7fc92abeac9ee5b21116e34d71a810927aab81d14d120242f22440de3ba2250a", func := "epact/epactlaw23.PosixBack", spec := "posixBack", unfollowed := true, recurses := true, apart := false }
def PosixBackSaid : Prop := posixBackRow.holds Try.pinned (OpenSpec.ofChange posixBackSpec)

/-- ITS FALSE NEIGHBOUR: 'it returns false'. Refute it at one input. -/
def posixBackWrong : ChangeSpec := { name := "posixBack", fn := fun _ => fun
  | [d1, d2] => { results := [.lit (.bool false)], args := [d1, d2] }
  | _ => none }
def PosixBackWrongFalsely : Prop := posixBackRow.holds Try.pinned (OpenSpec.ofChange posixBackWrong)

/-- 'epactlaw23.PosixOrder': WHATEVER THE INPUT: true; the input reads as it did. -/
def posixOrderSpec : ChangeSpec := { name := "posixOrder", fn := fun _ => fun
  | [d1, d2] => { results := [.lit (.bool true)], args := [d1, d2] }
  | _ => none }
def posixOrderRow : OpenClaim := { program := "ytlfnkamhokfeaaa", sum := "7fc92abeac9ee5b21116e34d71a810927aab81d14d120242f22440de3ba2250a", func := "epact/epactlaw23.PosixOrder", spec := "posixOrder", unfollowed := true, recurses := true, apart := false }
def PosixOrderSaid : Prop := posixOrderRow.holds Try.pinned (OpenSpec.ofChange posixOrderSpec)

/-- ITS FALSE NEIGHBOUR: 'it returns false'. Refute it at one input. -/
def posixOrderWrong : ChangeSpec := { name := "posixOrder", fn := fun _ => fun
  | [d1, d2] => { results := [.lit (.bool false)], args := [d1, d2] }
  | _ => none }
def PosixOrderWrongFalsely : Prop := posixOrderRow.holds Try.pinned (OpenSpec.ofChange posixOrderWrong)

/-- 'epactlaw23.PosixPlain': WHATEVER THE INPUT: true; the input reads as it did. -/
def posixPlainSpec : ChangeSpec := { name := "posixPlain", fn := fun _ => fun
  | [d] => { results := [.lit (.bool true)], args := [d] }
  | _ => none }
def posixPlainRow : OpenClaim := { program := "ytlfnkamhokfeaaa", sum := "7fc92abeac9ee5b21116e34d71a810927aab81d14d120242f22440de3ba2250a", func := "epact/epactlaw23.PosixPlain", spec := "posixPlain", unfollowed := true, recurses := true, apart := false }
def PosixPlainSaid : Prop := posixPlainRow.holds Try.pinned (OpenSpec.ofChange posixPlainSpec)

/-- ITS FALSE NEIGHBOUR: 'it returns false'. Refute it at one input. -/
def posixPlainWrong : ChangeSpec := { name := "posixPlain", fn := fun _ => fun
  | [d] => { results := [.lit (.bool false)], args := [d] }
  | _ => none }
def PosixPlainWrongFalsely : Prop := posixPlainRow.holds Try.pinned (OpenSpec.ofChange posixPlainWrong)

/-- 'epactlaw23.PosixDays': WHATEVER THE INPUT: true; the input reads as it did. -/
def posixDaysSpec : ChangeSpec := { name := "posixDays", fn := fun _ => fun
  | [d1, d2] => { results := [.lit (.bool true)], args := [d1, d2] }
  | _ => none }
def posixDaysRow : OpenClaim := { program := "ytlfnkamhokfeaaa", sum := "7fc92abeac9ee5b21116e34d71a810927aab81d14d120242f22440de3ba2250a", func := "epact/epactlaw23.PosixDays", spec := "posixDays", unfollowed := true, recurses := true, apart := false }
def PosixDaysSaid : Prop := posixDaysRow.holds Try.pinned (OpenSpec.ofChange posixDaysSpec)

/-- ITS FALSE NEIGHBOUR: 'it returns false'. Refute it at one input. -/
def posixDaysWrong : ChangeSpec := { name := "posixDays", fn := fun _ => fun
  | [d1, d2] => { results := [.lit (.bool false)], args := [d1, d2] }
  | _ => none }
def PosixDaysWrongFalsely : Prop := posixDaysRow.holds Try.pinned (OpenSpec.ofChange posixDaysWrong)

/- THE SECOND FORM. 'bulk': how many values and letters a reading holds, each counted each time it is reached (what is shared counts as often as it is met; a slice's spare places count too). A statement '..UptoSaid' is the law's where the arguments, and the package variables that the reading takes, are together of bulk at most 1048576: NARROWER than '..Said'. Prove '..Said' where nothing that the law and all that it calls make is longer than what came in: it says more and counts as full. Else prove '..UptoSaid'. A law counts once. -/
mutual
def uptoBulk {H : Type} : DataW H → Nat
  | .lit (.string bytes) => bytes.length + 1
  | .lit _ => 1
  | .nil => 1
  | .ptr d => uptoBulk d + 1
  | .slice elems spare => uptoBulkAll elems + uptoBulkAll spare + 1
  | .agg parts => uptoBulkAll parts + 1
  | .iface _ d => uptoBulk d + 1
  | .map entries => uptoBulkEntries entries + 1
  | .held _ => 1
def uptoBulkAll {H : Type} : List (DataW H) → Nat
  | [] => 0
  | d :: r => uptoBulk d + uptoBulkAll r
def uptoBulkEntries {H : Type} : List (Lit × DataW H) → Nat
  | [] => 0
  | x :: r => uptoBulkEntry x + uptoBulkEntries r
def uptoBulkEntry {H : Type} : Lit × DataW H → Nat
  | (.string bytes, d) => bytes.length + uptoBulk d + 1
  | (_, d) => uptoBulk d + 1
 end
def uptoSmall : (H : Type) → List (DataW H) → Bool := fun _ ds => decide (uptoBulkAll ds ≤ 1048576)
def OpenSpec.upto (s : _root_.Go.ChangeSpec) : _root_.Go.OpenSpec := { _root_.Go.OpenSpec.ofChange s with cond := some uptoSmall }

/-- 'epactlaw23.PosixTells', WHERE WHAT IT READS IS OF BULK AT MOST 1048576: true; the input reads as it did. -/
def posixTellsUptoRow : OpenClaim := { program := "ytlfnkamhokfeaaa", sum := "7fc92abeac9ee5b21116e34d71a810927aab81d14d120242f22440de3ba2250a", func := "epact/epactlaw23.PosixTells", spec := "posixTells", unfollowed := true, recurses := true, apart := false, narrowed := true }
def PosixTellsUptoSaid : Prop := posixTellsUptoRow.holds Try.pinned (OpenSpec.upto posixTellsSpec)

/-- 'epactlaw23.PosixBack', WHERE WHAT IT READS IS OF BULK AT MOST 1048576: true; the input reads as it did. -/
def posixBackUptoRow : OpenClaim := { program := "ytlfnkamhokfeaaa", sum := "7fc92abeac9ee5b21116e34d71a810927aab81d14d120242f22440de3ba2250a", func := "epact/epactlaw23.PosixBack", spec := "posixBack", unfollowed := true, recurses := true, apart := false, narrowed := true }
def PosixBackUptoSaid : Prop := posixBackUptoRow.holds Try.pinned (OpenSpec.upto posixBackSpec)

/-- 'epactlaw23.PosixOrder', WHERE WHAT IT READS IS OF BULK AT MOST 1048576: true; the input reads as it did. -/
def posixOrderUptoRow : OpenClaim := { program := "ytlfnkamhokfeaaa", sum := "7fc92abeac9ee5b21116e34d71a810927aab81d14d120242f22440de3ba2250a", func := "epact/epactlaw23.PosixOrder", spec := "posixOrder", unfollowed := true, recurses := true, apart := false, narrowed := true }
def PosixOrderUptoSaid : Prop := posixOrderUptoRow.holds Try.pinned (OpenSpec.upto posixOrderSpec)

/-- 'epactlaw23.PosixPlain', WHERE WHAT IT READS IS OF BULK AT MOST 1048576: true; the input reads as it did. -/
def posixPlainUptoRow : OpenClaim := { program := "ytlfnkamhokfeaaa", sum := "7fc92abeac9ee5b21116e34d71a810927aab81d14d120242f22440de3ba2250a", func := "epact/epactlaw23.PosixPlain", spec := "posixPlain", unfollowed := true, recurses := true, apart := false, narrowed := true }
def PosixPlainUptoSaid : Prop := posixPlainUptoRow.holds Try.pinned (OpenSpec.upto posixPlainSpec)

/-- 'epactlaw23.PosixDays', WHERE WHAT IT READS IS OF BULK AT MOST 1048576: true; the input reads as it did. -/
def posixDaysUptoRow : OpenClaim := { program := "ytlfnkamhokfeaaa", sum := "7fc92abeac9ee5b21116e34d71a810927aab81d14d120242f22440de3ba2250a", func := "epact/epactlaw23.PosixDays", spec := "posixDays", unfollowed := true, recurses := true, apart := false, narrowed := true }
def PosixDaysUptoSaid : Prop := posixDaysUptoRow.holds Try.pinned (OpenSpec.upto posixDaysSpec)

end Rows
end Go.Proofs.Ytlfnkamhokfeaaa
