/-
  DERIVED. GIVEN WITH THE SEED: THE CARDS: each row of YtlglfpbhapmhiaaGreatDoorRows.lean that lists a variable, with what it lists TIED to the program's text (the seventh form; the later family's looks); each row that meets fmt, with fmt's text TOLD by the authors' own Lean function (tested against real Go, not proved from fmt's source: count such statements apart). THE CARD IS WHAT COUNTS. Prove the row's statement (the work); the ties are given (YtlglfpbhapmhiaaGreatDoorTie.lean); close each card by the builder's one call (the guide's Derived/Test/ToyasCard.lean, 'card_holds'). Laid BY PROGRAM, IN A SANDBOX (cutbox-door.mjs). By AI agents, Wed Nov 11 2026. No macro, syntax, notation, axiom, sorry.
-/
import Derived.Test.YtlglfpbhapmhiaaGreatDoorRows
import GoSem.ClaimSeven
namespace Go.Proofs.YtlglfpbhapmhiaaGreatDoor
namespace Rows

/-- THE TIED CARD OF 'drayagelaw25.BundleKeeps'. -/
def bundleKeepsCard : Claim7 := { stood := { row := bundleKeepsRow, standIns := [], harness := (true, "584589c7e9d42d9bc9ea8720ce860d0992cb116e0981cfbae7707a2f04c54ee1"), looks := true }, kinds := [], alts := [], laidByText := true, laidKinds := [.data, .data, .data, .handle, .data, .data, .data, .data, .data, .data, .pinned], laidTests := true, laidLooks := .later }
def BundleKeepsCardSaid : Prop := Claim7.holds Tryz.pinned (.plain (OpenSpec.ofChange bundleKeepsSpec)) bundleKeepsCard

/-- THE TIED CARD OF 'drayagelaw25.BundleCanon'. -/
def bundleCanonCard : Claim7 := { stood := { row := bundleCanonRow, standIns := [], harness := (true, "584589c7e9d42d9bc9ea8720ce860d0992cb116e0981cfbae7707a2f04c54ee1"), looks := true }, kinds := [], alts := [], laidByText := true, laidKinds := [.data, .data, .data, .handle, .data, .data, .data, .data, .data, .data, .pinned], laidTests := true, laidLooks := .later }
def BundleCanonCardSaid : Prop := Claim7.holds Tryz.pinned (.plain (OpenSpec.ofChange bundleCanonSpec)) bundleCanonCard

/-- THE SECOND FORM's CARD OF 'drayagelaw25.BundleKeeps'. -/
def bundleKeepsUptoCard : Claim7 := { stood := { row := bundleKeepsUptoRow, standIns := [], harness := (true, "584589c7e9d42d9bc9ea8720ce860d0992cb116e0981cfbae7707a2f04c54ee1"), looks := true }, kinds := [], alts := [], laidByText := true, laidKinds := [.data, .data, .data, .handle, .data, .data, .data, .data, .data, .data, .pinned], laidTests := true, laidLooks := .later }
def BundleKeepsUptoCardSaid : Prop := Claim7.holds Tryz.pinned (.plain (OpenSpec.upto bundleKeepsSpec)) bundleKeepsUptoCard

/-- THE SECOND FORM's CARD OF 'drayagelaw25.BundleCanon'. -/
def bundleCanonUptoCard : Claim7 := { stood := { row := bundleCanonUptoRow, standIns := [], harness := (true, "584589c7e9d42d9bc9ea8720ce860d0992cb116e0981cfbae7707a2f04c54ee1"), looks := true }, kinds := [], alts := [], laidByText := true, laidKinds := [.data, .data, .data, .handle, .data, .data, .data, .data, .data, .data, .pinned], laidTests := true, laidLooks := .later }
def BundleCanonUptoCardSaid : Prop := Claim7.holds Tryz.pinned (.plain (OpenSpec.upto bundleCanonSpec)) bundleCanonUptoCard
end Rows
end Go.Proofs.YtlglfpbhapmhiaaGreatDoor
