/-
  DERIVED. GIVEN WITH THE SEED: THE CARDS: each row of YtdfdllbebfoggaaGreatDoorRows.lean that lists a variable, with what it lists TIED to the program's text (the seventh form; the later family's looks); each row that meets fmt, with fmt's text TOLD by the authors' own Lean function (tested against real Go, not proved from fmt's source: count such statements apart). THE CARD IS WHAT COUNTS. Prove the row's statement (the work); the ties are given (YtdfdllbebfoggaaGreatDoorTie.lean); close each card by the builder's one call (the guide's Derived/Test/ToyasCard.lean, 'card_holds'). Laid BY PROGRAM, IN A SANDBOX (cutbox-door.mjs). By AI agents, Wed Nov 11 2026. No macro, syntax, notation, axiom, sorry.
-/
import Derived.Test.YtdfdllbebfoggaaGreatDoorRows
import GoSem.ClaimSeven
namespace Go.Proofs.YtdfdllbebfoggaaGreatDoor
namespace Rows

/-- THE TIED CARD OF 'drayagelaw19.ModelPackages'. -/
def modelPackagesCard : Claim7 := { stood := { row := modelPackagesRow, standIns := [], harness := (true, "688299f1f7de2b4bd3740c98e0187b8c15b353db2e5592896798092d8835af96"), looks := true }, kinds := [], alts := [], laidByText := true, laidKinds := [.data, .handle, .data, .data, .data, .data, .data, .pinned], laidTests := true, laidLooks := .later }
def ModelPackagesCardSaid : Prop := Claim7.holds Tryz.pinned (.plain (OpenSpec.ofChange modelPackagesSpec)) modelPackagesCard

/-- THE TIED CARD OF 'drayagelaw19.ModelWords'. -/
def modelWordsCard : Claim7 := { stood := { row := modelWordsRow, standIns := [], harness := (true, "688299f1f7de2b4bd3740c98e0187b8c15b353db2e5592896798092d8835af96"), looks := true }, kinds := [], alts := [], laidByText := true, laidKinds := [.data, .handle, .data, .data, .data, .data, .data, .pinned], laidTests := true, laidLooks := .later }
def ModelWordsCardSaid : Prop := Claim7.holds Tryz.pinned (.plain (OpenSpec.ofChange modelWordsSpec)) modelWordsCard

/-- THE TIED CARD OF 'drayagelaw19.ModelChecks'. -/
def modelChecksCard : Claim7 := { stood := { row := modelChecksRow, standIns := [], harness := (true, "688299f1f7de2b4bd3740c98e0187b8c15b353db2e5592896798092d8835af96"), looks := true }, kinds := [], alts := [], laidByText := true, laidKinds := [.data, .handle, .data, .data, .data, .data, .data, .pinned], laidTests := true, laidLooks := .later }
def ModelChecksCardSaid : Prop := Claim7.holds Tryz.pinned (.plain (OpenSpec.ofChange modelChecksSpec)) modelChecksCard

/-- THE TIED CARD OF 'drayagelaw19.ModelKeeps'. -/
def modelKeepsCard : Claim7 := { stood := { row := modelKeepsRow, standIns := [], harness := (true, "688299f1f7de2b4bd3740c98e0187b8c15b353db2e5592896798092d8835af96"), looks := true }, kinds := [], alts := [], laidByText := true, laidKinds := [.data, .handle, .data, .data, .data, .data, .data, .pinned], laidTests := true, laidLooks := .later }
def ModelKeepsCardSaid : Prop := Claim7.holds Tryz.pinned (.plain (OpenSpec.ofChange modelKeepsSpec)) modelKeepsCard

/-- THE TIED CARD OF 'drayagelaw19.ModelOwners'. -/
def modelOwnersCard : Claim7 := { stood := { row := modelOwnersRow, standIns := [], harness := (true, "688299f1f7de2b4bd3740c98e0187b8c15b353db2e5592896798092d8835af96"), looks := true }, kinds := [], alts := [], laidByText := true, laidKinds := [.data, .handle, .data, .data, .data, .data, .data, .pinned], laidTests := true, laidLooks := .later }
def ModelOwnersCardSaid : Prop := Claim7.holds Tryz.pinned (.plain (OpenSpec.ofChange modelOwnersSpec)) modelOwnersCard

/-- THE SECOND FORM's CARD OF 'drayagelaw19.ModelPackages'. -/
def modelPackagesUptoCard : Claim7 := { stood := { row := modelPackagesUptoRow, standIns := [], harness := (true, "688299f1f7de2b4bd3740c98e0187b8c15b353db2e5592896798092d8835af96"), looks := true }, kinds := [], alts := [], laidByText := true, laidKinds := [.data, .handle, .data, .data, .data, .data, .data, .pinned], laidTests := true, laidLooks := .later }
def ModelPackagesUptoCardSaid : Prop := Claim7.holds Tryz.pinned (.plain (OpenSpec.upto modelPackagesSpec)) modelPackagesUptoCard

/-- THE SECOND FORM's CARD OF 'drayagelaw19.ModelWords'. -/
def modelWordsUptoCard : Claim7 := { stood := { row := modelWordsUptoRow, standIns := [], harness := (true, "688299f1f7de2b4bd3740c98e0187b8c15b353db2e5592896798092d8835af96"), looks := true }, kinds := [], alts := [], laidByText := true, laidKinds := [.data, .handle, .data, .data, .data, .data, .data, .pinned], laidTests := true, laidLooks := .later }
def ModelWordsUptoCardSaid : Prop := Claim7.holds Tryz.pinned (.plain (OpenSpec.upto modelWordsSpec)) modelWordsUptoCard

/-- THE SECOND FORM's CARD OF 'drayagelaw19.ModelChecks'. -/
def modelChecksUptoCard : Claim7 := { stood := { row := modelChecksUptoRow, standIns := [], harness := (true, "688299f1f7de2b4bd3740c98e0187b8c15b353db2e5592896798092d8835af96"), looks := true }, kinds := [], alts := [], laidByText := true, laidKinds := [.data, .handle, .data, .data, .data, .data, .data, .pinned], laidTests := true, laidLooks := .later }
def ModelChecksUptoCardSaid : Prop := Claim7.holds Tryz.pinned (.plain (OpenSpec.upto modelChecksSpec)) modelChecksUptoCard

/-- THE SECOND FORM's CARD OF 'drayagelaw19.ModelKeeps'. -/
def modelKeepsUptoCard : Claim7 := { stood := { row := modelKeepsUptoRow, standIns := [], harness := (true, "688299f1f7de2b4bd3740c98e0187b8c15b353db2e5592896798092d8835af96"), looks := true }, kinds := [], alts := [], laidByText := true, laidKinds := [.data, .handle, .data, .data, .data, .data, .data, .pinned], laidTests := true, laidLooks := .later }
def ModelKeepsUptoCardSaid : Prop := Claim7.holds Tryz.pinned (.plain (OpenSpec.upto modelKeepsSpec)) modelKeepsUptoCard

/-- THE SECOND FORM's CARD OF 'drayagelaw19.ModelOwners'. -/
def modelOwnersUptoCard : Claim7 := { stood := { row := modelOwnersUptoRow, standIns := [], harness := (true, "688299f1f7de2b4bd3740c98e0187b8c15b353db2e5592896798092d8835af96"), looks := true }, kinds := [], alts := [], laidByText := true, laidKinds := [.data, .handle, .data, .data, .data, .data, .data, .pinned], laidTests := true, laidLooks := .later }
def ModelOwnersUptoCardSaid : Prop := Claim7.holds Tryz.pinned (.plain (OpenSpec.upto modelOwnersSpec)) modelOwnersUptoCard
end Rows
end Go.Proofs.YtdfdllbebfoggaaGreatDoor
