/-
  DERIVED. GIVEN WITH THE SEED: THE CARDS: each row of YtblkhnacgnlbdaaGreatDoorRows.lean that lists a variable, with what it lists TIED to the program's text (the seventh form; the later family's looks); each row that meets fmt, with fmt's text TOLD by the authors' own Lean function (tested against real Go, not proved from fmt's source: count such statements apart). THE CARD IS WHAT COUNTS. Prove the row's statement (the work); the ties are given (YtblkhnacgnlbdaaGreatDoorTie.lean); close each card by the builder's one call (the guide's Derived/Test/ToyasCard.lean, 'card_holds'). Laid BY PROGRAM, IN A SANDBOX (cutbox-door.mjs). By AI agents, Wed Nov 11 2026. No macro, syntax, notation, axiom, sorry.
-/
import Derived.Test.YtblkhnacgnlbdaaGreatDoorRows
import GoSem.ClaimSeven
namespace Go.Proofs.YtblkhnacgnlbdaaGreatDoor
namespace Rows

/-- THE TIED CARD OF 'epacttop.TopRolls'. -/
def topRollsCard : Claim7 := { stood := { row := topRollsRow, standIns := [], harness := (true, "fc5a707f52dd220b636a6b121abbe52ee47024017c6c15e56edf9c8c18972ea7"), looks := true }, kinds := [], alts := [], laidByText := true, laidKinds := [.data, .data, .data, .data, .sentinel, .sentinel, .pinned], laidTests := true, laidLooks := .later }
def TopRollsCardSaid : Prop := Claim7.holds Tryz.pinned (.plain (OpenSpec.ofChange topRollsSpec)) topRollsCard

/-- THE TIED CARD OF 'epacttop.TopZones'. -/
def topZonesCard : Claim7 := { stood := { row := topZonesRow, standIns := [], harness := (true, "fc5a707f52dd220b636a6b121abbe52ee47024017c6c15e56edf9c8c18972ea7"), looks := true }, kinds := [], alts := [], laidByText := true, laidKinds := [.data, .data, .data, .data, .sentinel, .sentinel, .pinned], laidTests := true, laidLooks := .later }
def TopZonesCardSaid : Prop := Claim7.holds Tryz.pinned (.plain (OpenSpec.ofChange topZonesSpec)) topZonesCard

/-- THE SECOND FORM's CARD OF 'epacttop.TopRolls'. -/
def topRollsUptoCard : Claim7 := { stood := { row := topRollsUptoRow, standIns := [], harness := (true, "fc5a707f52dd220b636a6b121abbe52ee47024017c6c15e56edf9c8c18972ea7"), looks := true }, kinds := [], alts := [], laidByText := true, laidKinds := [.data, .data, .data, .data, .sentinel, .sentinel, .pinned], laidTests := true, laidLooks := .later }
def TopRollsUptoCardSaid : Prop := Claim7.holds Tryz.pinned (.plain (OpenSpec.upto topRollsSpec)) topRollsUptoCard

/-- THE SECOND FORM's CARD OF 'epacttop.TopZones'. -/
def topZonesUptoCard : Claim7 := { stood := { row := topZonesUptoRow, standIns := [], harness := (true, "fc5a707f52dd220b636a6b121abbe52ee47024017c6c15e56edf9c8c18972ea7"), looks := true }, kinds := [], alts := [], laidByText := true, laidKinds := [.data, .data, .data, .data, .sentinel, .sentinel, .pinned], laidTests := true, laidLooks := .later }
def TopZonesUptoCardSaid : Prop := Claim7.holds Tryz.pinned (.plain (OpenSpec.upto topZonesSpec)) topZonesUptoCard
end Rows
end Go.Proofs.YtblkhnacgnlbdaaGreatDoor
