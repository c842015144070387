/-
  DERIVED. GIVEN WITH THE SEED: THE CARDS: each row of YtkmjcombhjombaaGreatDoorRows.lean that lists a variable, with what it lists TIED to the program's text (the seventh form; the later family's looks); each row that meets fmt, with fmt's text TOLD by the authors' own Lean function (tested against real Go, not proved from fmt's source: count such statements apart). THE CARD IS WHAT COUNTS. Prove the row's statement (the work); the ties are given (YtkmjcombhjombaaGreatDoorTie.lean); close each card by the builder's one call (the guide's Derived/Test/ToyasCard.lean, 'card_holds'). Laid BY PROGRAM, IN A SANDBOX (cutbox-door.mjs). By AI agents, Wed Nov 11 2026. No macro, syntax, notation, axiom, sorry.
-/
import Derived.Test.YtkmjcombhjombaaGreatDoorRows
import GoSem.ClaimSeven
namespace Go.Proofs.YtkmjcombhjombaaGreatDoor
namespace Rows

/-- THE TIED CARD OF 'drayagelaw24.ConvertBack'. -/
def convertBackCard : Claim7 := { stood := { row := convertBackRow, standIns := [], harness := (true, "0b8e1f1137afdade76188368423485e2b1e85a09e1524df8875d03c826391ff8"), looks := true }, kinds := [], alts := [], laidByText := true, laidKinds := [.data, .data, .data, .data, .handle, .data, .data, .data, .data, .data, .data, .pinned], laidTests := true, laidLooks := .later }
def ConvertBackCardSaid : Prop := Claim7.holds Tryz.pinned (.plain (OpenSpec.ofChange convertBackSpec)) convertBackCard

/-- THE TIED CARD OF 'drayagelaw24.ConvertHolds'. -/
def convertHoldsCard : Claim7 := { stood := { row := convertHoldsRow, standIns := [], harness := (true, "0b8e1f1137afdade76188368423485e2b1e85a09e1524df8875d03c826391ff8"), looks := true }, kinds := [], alts := [], laidByText := true, laidKinds := [.data, .data, .data, .data, .handle, .data, .data, .data, .data, .data, .data, .pinned], laidTests := true, laidLooks := .later }
def ConvertHoldsCardSaid : Prop := Claim7.holds Tryz.pinned (.plain (OpenSpec.ofChange convertHoldsSpec)) convertHoldsCard

/-- THE TIED CARD OF 'drayagelaw24.ConvertRight'. -/
def convertRightCard : Claim7 := { stood := { row := convertRightRow, standIns := [], harness := (true, "0b8e1f1137afdade76188368423485e2b1e85a09e1524df8875d03c826391ff8"), looks := true }, kinds := [], alts := [], laidByText := true, laidKinds := [.data, .data, .data, .data, .handle, .data, .data, .data, .data, .data, .data, .pinned], laidTests := true, laidLooks := .later }
def ConvertRightCardSaid : Prop := Claim7.holds Tryz.pinned (.plain (OpenSpec.ofChange convertRightSpec)) convertRightCard

/-- THE SECOND FORM's CARD OF 'drayagelaw24.ConvertBack'. -/
def convertBackUptoCard : Claim7 := { stood := { row := convertBackUptoRow, standIns := [], harness := (true, "0b8e1f1137afdade76188368423485e2b1e85a09e1524df8875d03c826391ff8"), looks := true }, kinds := [], alts := [], laidByText := true, laidKinds := [.data, .data, .data, .data, .handle, .data, .data, .data, .data, .data, .data, .pinned], laidTests := true, laidLooks := .later }
def ConvertBackUptoCardSaid : Prop := Claim7.holds Tryz.pinned (.plain (OpenSpec.upto convertBackSpec)) convertBackUptoCard

/-- THE SECOND FORM's CARD OF 'drayagelaw24.ConvertHolds'. -/
def convertHoldsUptoCard : Claim7 := { stood := { row := convertHoldsUptoRow, standIns := [], harness := (true, "0b8e1f1137afdade76188368423485e2b1e85a09e1524df8875d03c826391ff8"), looks := true }, kinds := [], alts := [], laidByText := true, laidKinds := [.data, .data, .data, .data, .handle, .data, .data, .data, .data, .data, .data, .pinned], laidTests := true, laidLooks := .later }
def ConvertHoldsUptoCardSaid : Prop := Claim7.holds Tryz.pinned (.plain (OpenSpec.upto convertHoldsSpec)) convertHoldsUptoCard

/-- THE SECOND FORM's CARD OF 'drayagelaw24.ConvertRight'. -/
def convertRightUptoCard : Claim7 := { stood := { row := convertRightUptoRow, standIns := [], harness := (true, "0b8e1f1137afdade76188368423485e2b1e85a09e1524df8875d03c826391ff8"), looks := true }, kinds := [], alts := [], laidByText := true, laidKinds := [.data, .data, .data, .data, .handle, .data, .data, .data, .data, .data, .data, .pinned], laidTests := true, laidLooks := .later }
def ConvertRightUptoCardSaid : Prop := Claim7.holds Tryz.pinned (.plain (OpenSpec.upto convertRightSpec)) convertRightUptoCard
end Rows
end Go.Proofs.YtkmjcombhjombaaGreatDoor
