/-
  DERIVED. GIVEN WITH THE SEED: THE CARDS: each row of YtfgidaaipmbibaaGreatDoorRows.lean that lists a variable, with what it lists TIED to the program's text (the seventh form; the later family's looks); each row that meets fmt, with fmt's text TOLD by the authors' own Lean function (tested against real Go, not proved from fmt's source: count such statements apart). THE CARD IS WHAT COUNTS. Prove the row's statement (the work); the ties are given (YtfgidaaipmbibaaGreatDoorTie.lean); close each card by the builder's one call (the guide's Derived/Test/ToyasCard.lean, 'card_holds'). Laid BY PROGRAM, IN A SANDBOX (cutbox-door.mjs). By AI agents, Wed Nov 11 2026. No macro, syntax, notation, axiom, sorry.
-/
import Derived.Test.YtfgidaaipmbibaaGreatDoorRows
import GoSem.ClaimSeven
namespace Go.Proofs.YtfgidaaipmbibaaGreatDoor
namespace Rows

/-- THE TIED CARD OF 'drayagelaw30.AuditAdmits'. -/
def auditAdmitsCard : Claim7 := { stood := { row := auditAdmitsRow, standIns := [], harness := (true, "8e0867f582687e4e1183b2d7c04c6db86a27edc79f1afebf6aa7ad93580ec652"), looks := true }, kinds := [], alts := [], laidByText := true, laidKinds := [.data, .data, .data, .handle, .data, .data, .data, .data, .data, .data, .pinned], laidTests := true, laidLooks := .later }
def AuditAdmitsCardSaid : Prop := Claim7.holds Tryz.pinned (.plain (OpenSpec.ofChange auditAdmitsSpec)) auditAdmitsCard

/-- THE SECOND FORM's CARD OF 'drayagelaw30.AuditAdmits'. -/
def auditAdmitsUptoCard : Claim7 := { stood := { row := auditAdmitsUptoRow, standIns := [], harness := (true, "8e0867f582687e4e1183b2d7c04c6db86a27edc79f1afebf6aa7ad93580ec652"), looks := true }, kinds := [], alts := [], laidByText := true, laidKinds := [.data, .data, .data, .handle, .data, .data, .data, .data, .data, .data, .pinned], laidTests := true, laidLooks := .later }
def AuditAdmitsUptoCardSaid : Prop := Claim7.holds Tryz.pinned (.plain (OpenSpec.upto auditAdmitsSpec)) auditAdmitsUptoCard
end Rows
end Go.Proofs.YtfgidaaipmbibaaGreatDoor
