/-
  DERIVED. GIVEN WITH THE SEED: THE CARDS: each row of YtaohgmcbpafdeaaGreatDoorRows.lean that lists a variable, with what it lists TIED to the program's text (the seventh form; the later family's looks); each row that meets fmt, with fmt's text TOLD by the authors' own Lean function (tested against real Go, not proved from fmt's source: count such statements apart). THE CARD IS WHAT COUNTS. Prove the row's statement (the work); the ties are given (YtaohgmcbpafdeaaGreatDoorTie.lean); close each card by the builder's one call (the guide's Derived/Test/ToyasCard.lean, 'card_holds'). Laid BY PROGRAM, IN A SANDBOX (cutbox-door.mjs). By AI agents, Wed Nov 11 2026. No macro, syntax, notation, axiom, sorry.
-/
import Derived.Test.YtaohgmcbpafdeaaGreatDoorRows
import GoSem.ClaimSeven
namespace Go.Proofs.YtaohgmcbpafdeaaGreatDoor
namespace Rows

/-- THE TIED CARD OF 'drayagelaw30.AuditClean'. -/
def auditCleanCard : Claim7 := { stood := { row := auditCleanRow, standIns := [], harness := (true, "7a34aad16860bb89f5180a8403b5f24513d7ab3bc68c2a2d3e14981741974640"), looks := true }, kinds := [], alts := [], laidByText := true, laidKinds := [.data, .data, .data, .handle, .data, .data, .data, .data, .data, .data, .pinned], laidTests := true, laidLooks := .later }
def AuditCleanCardSaid : Prop := Claim7.holds Tryz.pinned (.plain (OpenSpec.ofChange auditCleanSpec)) auditCleanCard

/-- THE SECOND FORM's CARD OF 'drayagelaw30.AuditClean'. -/
def auditCleanUptoCard : Claim7 := { stood := { row := auditCleanUptoRow, standIns := [], harness := (true, "7a34aad16860bb89f5180a8403b5f24513d7ab3bc68c2a2d3e14981741974640"), looks := true }, kinds := [], alts := [], laidByText := true, laidKinds := [.data, .data, .data, .handle, .data, .data, .data, .data, .data, .data, .pinned], laidTests := true, laidLooks := .later }
def AuditCleanUptoCardSaid : Prop := Claim7.holds Tryz.pinned (.plain (OpenSpec.upto auditCleanSpec)) auditCleanUptoCard
end Rows
end Go.Proofs.YtaohgmcbpafdeaaGreatDoor
