/- What the rows' list of variables gives (Gl), and a world for the witness. -/
import Derived.Test.YtdfdllbebfoggaaGreatDoorCards
import Derived.Test.YtdfdllbebfoggaaGreatDoorTie
import Derived.Test.YtdfdllbebfoggaaGreatDoorGl
import Derived.ProofKit
import Derived.OpenShut
import Derived.Deep.DeepHandedRow
import Derived.Deep.DeepWitnessRowRef
import Derived.Lib.LaidTab
import Derived.LaidHandle
import Derived.Lay
namespace Go.Proofs.YtdfdllbebfoggaaGreatDoor
open Go.ChangeShapes Go.WideShapes Go.ChangeAt Go.RowKit

theorem own : ownKnob Tryz.prog.godebug = none := by kernel_rfl

/-- The listed variables, all rows alike; those that hold plain data. -/
def laidAllL : List (String × DataW Unit) := Rows.modelWordsRow.laid
def laidDataL : List (String × DataW Unit) := [("unicode/utf8.acceptRanges", Rows.laid_unicode_utf8_acceptRanges), ("drayage/version.words", Rows.laid_drayage_version_words), ("drayage/adep.signs", Rows.laid_drayage_adep_signs), ("drayage/ddep.signs", Rows.laid_drayage_ddep_signs), ("drayage/rdep.signs", Rows.laid_drayage_rdep_signs), ("drayage/rdep.words", Rows.laid_drayage_rdep_words), ("unicode/utf8.first", Rows.laid_unicode_utf8_first)]

theorem data_of_laid {W : World} (h : laidMetH Tryz.prog laidAllL W) : laidMet Tryz.prog laidDataL W := h.1

/-- A world that holds the listed variables. -/
noncomputable def laidWorld (os : Os) : World :=
  ({ World.holding Tryz.prog os ⟨#[], #[], []⟩ with heap := (World.holding Tryz.prog os ⟨#[], #[], []⟩).heap.modify 5 fun
      | .cells _ t frozen => .cells #[.iface 301 (.agg #[typeHandle Tryz.prog 174])] t frozen
      | o => o } : World).layVars Tryz.prog laidDataL
theorem laidWorld_os (os : Os) : (laidWorld os).os = os := World.layVars_os _ _ _

theorem wit_data (os : Os) (args : Array Value) : laidMet Tryz.prog laidDataL ((laidWorld os).forCall (fun _ _ => 0) ⟨#[], args, []⟩).memory := by
  have h : laidMet Tryz.prog laidDataL (laidWorld os) := by
    refine laidMet_layVars (w0 := { World.holding Tryz.prog os ⟨#[], #[], []⟩ with heap := (World.holding Tryz.prog os ⟨#[], #[], []⟩).heap.modify 5 fun
      | .cells _ t frozen => .cells #[.iface 301 (.agg #[typeHandle Tryz.prog 174])] t frozen
      | o => o }) (laidDataL.map (·.1)) [] ?_ ?_ ?_ ?_
    · rfl
    · kernel_rfl
    · kernel_rfl
    · exact LaidIn.none
  exact h.of_heap (by simp [World.memory, World.forCall, Input.heap])
theorem wit_laid (os : Os) (args : Array Value) : laidMetH Tryz.prog laidAllL ((laidWorld os).forCall (fun _ _ => 0) ⟨#[], args, []⟩).memory :=
  laidMetH_of_parts (wit_data os args) (by kernel_rfl)
theorem wit_vars (os : Os) (args : Array Value) : ((laidWorld os).forCall (fun _ _ => 0) ⟨#[], args, []⟩).variablesRefB Tryz.prog = true := by kernel_rfl
theorem wit_rest (os : Os) (args : Array Value) : (((laidWorld os).forCall (fun _ _ => 0) ⟨#[], args, []⟩).heap.toList.drop Tryz.prog.globals.size).take ((begin Tryz.prog (fun _ _ => 0) default).world.heap.size - Tryz.prog.globals.size) =
      (begin Tryz.prog (fun _ _ => 0) default).world.heap.toList.drop Tryz.prog.globals.size := by kernel_rfl
end Go.Proofs.YtdfdllbebfoggaaGreatDoor
