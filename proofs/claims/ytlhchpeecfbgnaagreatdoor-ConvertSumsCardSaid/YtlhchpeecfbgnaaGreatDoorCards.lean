/-
  DERIVED. GIVEN WITH THE SEED: THE CARDS: each row of YtlhchpeecfbgnaaGreatDoorRows.lean that lists a variable, with what it lists TIED to the program's text (the seventh form; the later family's looks); each row that meets fmt, with fmt's text TOLD by the authors' own Lean function (tested against real Go, not proved from fmt's source: count such statements apart). THE CARD IS WHAT COUNTS. Prove the row's statement (the work); the ties are given (YtlhchpeecfbgnaaGreatDoorTie.lean); close each card by the builder's one call (the guide's Derived/Test/ToyasCard.lean, 'card_holds'). Laid BY PROGRAM, IN A SANDBOX (cutbox-door.mjs). By AI agents, Wed Nov 11 2026. No macro, syntax, notation, axiom, sorry.
-/
import Derived.Test.YtlhchpeecfbgnaaGreatDoorRows
import GoSem.ClaimSeven
namespace Go.Proofs.YtlhchpeecfbgnaaGreatDoor
namespace Rows

/-- THE TIED CARD OF 'drayagelaw24.ConvertSums'. -/
def convertSumsCard : Claim7 := { stood := { row := convertSumsRow, standIns := [], harness := (true, "4c7264261888e8a1e47404a5188fac2697908eaff8432ef8f38fe669a17915f0"), looks := true }, kinds := [], alts := [], laidByText := true, laidKinds := [.data, .data, .data, .data, .data, .data, .handle, .data, .data, .data, .data, .data, .data, .data, .pinned], laidTests := true, laidLooks := .later }
def ConvertSumsCardSaid : Prop := Claim7.holds Tryz.pinned (.plain (OpenSpec.ofChange convertSumsSpec)) convertSumsCard

/-- THE SECOND FORM's CARD OF 'drayagelaw24.ConvertSums'. -/
def convertSumsUptoCard : Claim7 := { stood := { row := convertSumsUptoRow, standIns := [], harness := (true, "4c7264261888e8a1e47404a5188fac2697908eaff8432ef8f38fe669a17915f0"), looks := true }, kinds := [], alts := [], laidByText := true, laidKinds := [.data, .data, .data, .data, .data, .data, .handle, .data, .data, .data, .data, .data, .data, .data, .pinned], laidTests := true, laidLooks := .later }
def ConvertSumsUptoCardSaid : Prop := Claim7.holds Tryz.pinned (.plain (OpenSpec.upto convertSumsSpec)) convertSumsUptoCard
end Rows
end Go.Proofs.YtlhchpeecfbgnaaGreatDoor
