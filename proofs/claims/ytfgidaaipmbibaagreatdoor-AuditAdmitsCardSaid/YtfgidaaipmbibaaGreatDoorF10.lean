/- A part of the proof of a law on which findings a policy admits. No condition. -/
import Derived.Test.YtfgidaaipmbibaaGreatDoorCards
import Derived.Test.YtfgidaaipmbibaaGreatDoorProg
import Derived.Test.YtfgidaaipmbibaaGreatDoorTie
import Derived.Below
import Derived.Deep.DeepHandedRow
import Derived.Deep.DeepWitnessRowRef
import Derived.Deep.Draws
import Derived.LaidHandle
import Derived.Lay
import Derived.Lib.LaidTab
import Derived.OpenShut
import Derived.ProofKit
import Derived.WalkKit
set_option maxRecDepth 100000
set_option maxHeartbeats 20000000
set_option linter.unusedVariables false
set_option linter.unusedSimpArgs false
namespace Go.Proofs.YtfgidaaipmbibaaGreatDoor
section
open Go.RowKit
def vWord : Nat → ByteArray
  | 0 => ⟨#[97, 108, 112, 104, 97]⟩
  | 1 => ⟨#[98, 101, 116, 97]⟩
  | 2 => ⟨#[112, 114, 101]⟩
  | 3 => ⟨#[114, 99]⟩
  | 4 => ⟨#[99, 118, 115]⟩
  | 5 => ⟨#[115, 118, 110]⟩
  | 6 => ⟨#[103, 105, 116]⟩
  | 7 => ⟨#[104, 103]⟩
  | _ => ⟨#[112]⟩
def dSign : Nat → ByteArray
  | 0 => ⟨#[]⟩
  | 1 => ⟨#[60, 60]⟩
  | 2 => ⟨#[60, 61]⟩
  | 3 => ⟨#[61]⟩
  | 4 => ⟨#[62, 61]⟩
  | _ => ⟨#[62, 62]⟩
def rSign : Nat → ByteArray
  | 0 => ⟨#[]⟩
  | 1 => ⟨#[60]⟩
  | 2 => ⟨#[60, 61]⟩
  | 3 => ⟨#[61]⟩
  | 4 => ⟨#[62, 61]⟩
  | _ => ⟨#[62]⟩
def aSign : Nat → ByteArray
  | 0 => ⟨#[]⟩
  | 1 => ⟨#[60]⟩
  | 2 => ⟨#[60, 61]⟩
  | 3 => ⟨#[61]⟩
  | 4 => ⟨#[62, 61]⟩
  | 5 => ⟨#[62]⟩
  | _ => ⟨#[126]⟩
def rWord : Nat → ByteArray
  | 0 => ⟨#[97, 110, 100]⟩
  | 1 => ⟨#[111, 114]⟩
  | 2 => ⟨#[105, 102]⟩
  | 3 => ⟨#[117, 110, 108, 101, 115, 115]⟩
  | 4 => ⟨#[119, 105, 116, 104]⟩
  | _ => ⟨#[119, 105, 116, 104, 111, 117, 116]⟩
structure Gl (w : World) : Prop where
  ml : ∃ m : Int, w.cell? ⟨0, 0, none⟩ = some (.int .i64 m)
  vwd : ∀ i, i < 9 → w.cell? ⟨5, i, none⟩ = some (.string (vWord i))
  dsg : ∀ i, i < 6 → w.cell? ⟨6, i, none⟩ = some (.string (dSign i))
  rsg : ∀ i, i < 6 → w.cell? ⟨7, i, none⟩ = some (.string (rSign i))
  rwd : ∀ i, i < 6 → w.cell? ⟨9, i, none⟩ = some (.string (rWord i))
  asg : ∀ i, i < 7 → w.cell? ⟨1, i, none⟩ = some (.string (aSign i))
theorem Gl.keep {w w' : World} (h : Gl w) (hk : ∀ p : Addr, p.block < w.heap.size → w'.cell? p = w.cell? p) : Gl w' := by
  obtain ⟨⟨m, hm⟩, h1, h2, h3, h4, h5⟩ := h
  refine ⟨⟨m, ?_⟩, fun i hi => ?_, fun i hi => ?_, fun i hi => ?_, fun i hi => ?_, fun i hi => ?_⟩
  · exact (hk _ (World.block_lt_of_cell? _ _ hm)).trans hm
  · exact (hk _ (World.block_lt_of_cell? _ _ (h1 i hi))).trans (h1 i hi)
  · exact (hk _ (World.block_lt_of_cell? _ _ (h2 i hi))).trans (h2 i hi)
  · exact (hk _ (World.block_lt_of_cell? _ _ (h3 i hi))).trans (h3 i hi)
  · exact (hk _ (World.block_lt_of_cell? _ _ (h4 i hi))).trans (h4 i hi)
  · exact (hk _ (World.block_lt_of_cell? _ _ (h5 i hi))).trans (h5 i hi)
theorem Gl.below {w w' : World} (h : Gl w) (hb : Below w.heap.size w w') : Gl w' := h.keep fun _ hp => hb.cell hp
theorem below_drewN {B : Nat} {a w : World} (h : Below B a w) (n : Nat) : Below B a (w.drewN n) := ⟨h.os, h.tape, h.output, h.size, h.block⟩
end
section
open Go.ChangeShapes Go.WideShapes Go.ChangeAt Go.RowKit
theorem own : ownKnob Tryz.prog.godebug = none := by kernel_rfl
def laidAllL : List (String × DataW Unit) := Rows.auditAdmitsRow.laid
def laidDataL : List (String × DataW Unit) := [("drayage/api.Md5Table", Rows.laid_drayage_api_Md5Table), ("drayage/api.ShaTable", Rows.laid_drayage_api_ShaTable), ("unicode/utf8.acceptRanges", Rows.laid_unicode_utf8_acceptRanges), ("drayage/digest.turns", Rows.laid_drayage_digest_turns), ("drayage/version.words", Rows.laid_drayage_version_words), ("drayage/adep.signs", Rows.laid_drayage_adep_signs), ("drayage/ddep.signs", Rows.laid_drayage_ddep_signs), ("drayage/rdep.signs", Rows.laid_drayage_rdep_signs), ("drayage/rdep.words", Rows.laid_drayage_rdep_words), ("unicode/utf8.first", Rows.laid_unicode_utf8_first)]
theorem data_of_laid {W : World} (h : laidMetH Tryz.prog laidAllL W) : laidMet Tryz.prog laidDataL W := h.1
noncomputable def laidWorld (os : Os) : World :=
  ({ World.holding Tryz.prog os ⟨#[], #[], []⟩ with heap := (World.holding Tryz.prog os ⟨#[], #[], []⟩).heap.modify 8 fun
      | .cells _ t frozen => .cells #[.iface 319 (.agg #[typeHandle Tryz.prog 229])] t frozen
      | o => o } : World).layVars Tryz.prog laidDataL
theorem laidWorld_os (os : Os) : (laidWorld os).os = os := World.layVars_os _ _ _
theorem wit_data (os : Os) (args : Array Value) : laidMet Tryz.prog laidDataL ((laidWorld os).forCall (fun _ _ => 0) ⟨#[], args, []⟩).memory := by
  have h : laidMet Tryz.prog laidDataL (laidWorld os) := by
    refine laidMet_layVars (w0 := { World.holding Tryz.prog os ⟨#[], #[], []⟩ with heap := (World.holding Tryz.prog os ⟨#[], #[], []⟩).heap.modify 8 fun
      | .cells _ t frozen => .cells #[.iface 319 (.agg #[typeHandle Tryz.prog 229])] t frozen
      | o => o }) (laidDataL.map (·.1)) [] ?_ ?_ ?_ ?_
    · rfl
    · kernel_rfl
    · kernel_rfl
    · exact LaidIn.none
  exact h.of_heap (by simp [World.memory, World.forCall, Input.heap])
theorem wit_laid (os : Os) (args : Array Value) : laidMetH Tryz.prog laidAllL ((laidWorld os).forCall (fun _ _ => 0) ⟨#[], args, []⟩).memory :=
  laidMetH_of_parts (wit_data os args) (by kernel_rfl)
theorem wit_vars (os : Os) (args : Array Value) : ((laidWorld os).forCall (fun _ _ => 0) ⟨#[], args, []⟩).variablesRefB Tryz.prog = true := by kernel_rfl
theorem wit_rest (os : Os) (args : Array Value) : (((laidWorld os).forCall (fun _ _ => 0) ⟨#[], args, []⟩).heap.toList.drop Tryz.prog.globals.size).take ((begin Tryz.prog (fun _ _ => 0) default).world.heap.size - Tryz.prog.globals.size) =
      (begin Tryz.prog (fun _ _ => 0) default).world.heap.toList.drop Tryz.prog.globals.size := by kernel_rfl
end
end Go.Proofs.YtfgidaaipmbibaaGreatDoor
