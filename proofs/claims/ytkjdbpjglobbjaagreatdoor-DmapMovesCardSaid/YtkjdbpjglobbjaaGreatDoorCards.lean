/-
  DERIVED. GIVEN WITH THE SEED: THE CARDS: each row of YtkjdbpjglobbjaaGreatDoorRows.lean that lists a variable, with what it lists TIED to the program's text (the seventh form; the later family's looks); each row that meets fmt, with fmt's text TOLD by the authors' own Lean function (tested against real Go, not proved from fmt's source: count such statements apart). THE CARD IS WHAT COUNTS. Prove the row's statement (the work); the ties are given (YtkjdbpjglobbjaaGreatDoorTie.lean); close each card by the builder's one call (the guide's Derived/Test/ToyasCard.lean, 'card_holds'). Laid BY PROGRAM, IN A SANDBOX (cutbox-door.mjs). By AI agents, Wed Nov 11 2026. No macro, syntax, notation, axiom, sorry.
-/
import Derived.Test.YtkjdbpjglobbjaaGreatDoorRows
import GoSem.ClaimSeven
namespace Go.Proofs.YtkjdbpjglobbjaaGreatDoor
namespace Rows

/-- THE TIED CARD OF 'drayagelaw17.DmapBack'. -/
def dmapBackCard : Claim7 := { stood := { row := dmapBackRow, standIns := [], harness := (true, "d089472d59ec386f6fc8e3996c7830e2dcebaba77e6c76cf19c08aa9e7b422a7"), looks := true }, kinds := [], alts := [], laidByText := true, laidKinds := [.data, .data, .data, .data, .handle, .data, .data, .data, .data, .data, .data, .pinned], laidTests := true, laidLooks := .later }
def DmapBackCardSaid : Prop := Claim7.holds Tryz.pinned (.plain (OpenSpec.ofChange dmapBackSpec)) dmapBackCard

/-- THE TIED CARD OF 'drayagelaw17.DmapMoves'. -/
def dmapMovesCard : Claim7 := { stood := { row := dmapMovesRow, standIns := [], harness := (true, "d089472d59ec386f6fc8e3996c7830e2dcebaba77e6c76cf19c08aa9e7b422a7"), looks := true }, kinds := [], alts := [], laidByText := true, laidKinds := [.data, .data, .data, .data, .handle, .data, .data, .data, .data, .data, .data, .pinned], laidTests := true, laidLooks := .later }
def DmapMovesCardSaid : Prop := Claim7.holds Tryz.pinned (.plain (OpenSpec.ofChange dmapMovesSpec)) dmapMovesCard

/-- THE TIED CARD OF 'drayagelaw17.DmapSame'. -/
def dmapSameCard : Claim7 := { stood := { row := dmapSameRow, standIns := [], harness := (true, "d089472d59ec386f6fc8e3996c7830e2dcebaba77e6c76cf19c08aa9e7b422a7"), looks := true }, kinds := [], alts := [], laidByText := true, laidKinds := [.data, .data, .data, .data, .handle, .data, .data, .data, .data, .data, .data, .pinned], laidTests := true, laidLooks := .later }
def DmapSameCardSaid : Prop := Claim7.holds Tryz.pinned (.plain (OpenSpec.ofChange dmapSameSpec)) dmapSameCard

/-- THE SECOND FORM's CARD OF 'drayagelaw17.DmapBack'. -/
def dmapBackUptoCard : Claim7 := { stood := { row := dmapBackUptoRow, standIns := [], harness := (true, "d089472d59ec386f6fc8e3996c7830e2dcebaba77e6c76cf19c08aa9e7b422a7"), looks := true }, kinds := [], alts := [], laidByText := true, laidKinds := [.data, .data, .data, .data, .handle, .data, .data, .data, .data, .data, .data, .pinned], laidTests := true, laidLooks := .later }
def DmapBackUptoCardSaid : Prop := Claim7.holds Tryz.pinned (.plain (OpenSpec.upto dmapBackSpec)) dmapBackUptoCard

/-- THE SECOND FORM's CARD OF 'drayagelaw17.DmapMoves'. -/
def dmapMovesUptoCard : Claim7 := { stood := { row := dmapMovesUptoRow, standIns := [], harness := (true, "d089472d59ec386f6fc8e3996c7830e2dcebaba77e6c76cf19c08aa9e7b422a7"), looks := true }, kinds := [], alts := [], laidByText := true, laidKinds := [.data, .data, .data, .data, .handle, .data, .data, .data, .data, .data, .data, .pinned], laidTests := true, laidLooks := .later }
def DmapMovesUptoCardSaid : Prop := Claim7.holds Tryz.pinned (.plain (OpenSpec.upto dmapMovesSpec)) dmapMovesUptoCard

/-- THE SECOND FORM's CARD OF 'drayagelaw17.DmapSame'. -/
def dmapSameUptoCard : Claim7 := { stood := { row := dmapSameUptoRow, standIns := [], harness := (true, "d089472d59ec386f6fc8e3996c7830e2dcebaba77e6c76cf19c08aa9e7b422a7"), looks := true }, kinds := [], alts := [], laidByText := true, laidKinds := [.data, .data, .data, .data, .handle, .data, .data, .data, .data, .data, .data, .pinned], laidTests := true, laidLooks := .later }
def DmapSameUptoCardSaid : Prop := Claim7.holds Tryz.pinned (.plain (OpenSpec.upto dmapSameSpec)) dmapSameUptoCard
end Rows
end Go.Proofs.YtkjdbpjglobbjaaGreatDoor
