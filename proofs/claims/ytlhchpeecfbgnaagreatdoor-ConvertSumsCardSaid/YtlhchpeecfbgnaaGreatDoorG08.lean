/- A part of the proof that the digests of any content are the three of it, and that an installed set is new memory. No condition. -/
import Derived.Test.YtlhchpeecfbgnaaGreatDoorProg
import Derived.Below
import Derived.Deep.Draws
import Derived.WalkKit
set_option maxRecDepth 100000
set_option maxHeartbeats 20000000
set_option linter.unusedVariables false
set_option linter.unusedSimpArgs false
namespace Go.Proofs.YtlhchpeecfbgnaaGreatDoor
section
open Go.RowKit
def vWord : Nat → ByteArray
  | 0 => ⟨#[97, 108, 112, 104, 97]⟩
  | 1 => ⟨#[98, 101, 116, 97]⟩
  | 2 => ⟨#[112, 114, 101]⟩
  | 3 => ⟨#[114, 99]⟩
  | 4 => ⟨#[99, 118, 115]⟩
  | 5 => ⟨#[115, 118, 110]⟩
  | 6 => ⟨#[103, 105, 116]⟩
  | 7 => ⟨#[104, 103]⟩
  | _ => ⟨#[112]⟩
def dSign : Nat → ByteArray
  | 0 => ⟨#[]⟩
  | 1 => ⟨#[60, 60]⟩
  | 2 => ⟨#[60, 61]⟩
  | 3 => ⟨#[61]⟩
  | 4 => ⟨#[62, 61]⟩
  | _ => ⟨#[62, 62]⟩
def rSign : Nat → ByteArray
  | 0 => ⟨#[]⟩
  | 1 => ⟨#[60]⟩
  | 2 => ⟨#[60, 61]⟩
  | 3 => ⟨#[61]⟩
  | 4 => ⟨#[62, 61]⟩
  | _ => ⟨#[62]⟩
def aSign : Nat → ByteArray
  | 0 => ⟨#[]⟩
  | 1 => ⟨#[60]⟩
  | 2 => ⟨#[60, 61]⟩
  | 3 => ⟨#[61]⟩
  | 4 => ⟨#[62, 61]⟩
  | 5 => ⟨#[62]⟩
  | _ => ⟨#[126]⟩
def rWord : Nat → ByteArray
  | 0 => ⟨#[97, 110, 100]⟩
  | 1 => ⟨#[111, 114]⟩
  | 2 => ⟨#[105, 102]⟩
  | 3 => ⟨#[117, 110, 108, 101, 115, 115]⟩
  | 4 => ⟨#[119, 105, 116, 104]⟩
  | _ => ⟨#[119, 105, 116, 104, 111, 117, 116]⟩
structure Gl (w : World) : Prop where
  ml : ∃ m : Int, w.cell? ⟨8, 0, none⟩ = some (.int .i64 m)
  vwd : ∀ i, i < 9 → w.cell? ⟨7, i, none⟩ = some (.string (vWord i))
  dsg : ∀ i, i < 6 → w.cell? ⟨5, i, none⟩ = some (.string (dSign i))
  rsg : ∀ i, i < 6 → w.cell? ⟨6, i, none⟩ = some (.string (rSign i))
  rwd : ∀ i, i < 6 → w.cell? ⟨12, i, none⟩ = some (.string (rWord i))
  asg : ∀ i, i < 7 → w.cell? ⟨4, i, none⟩ = some (.string (aSign i))
theorem Gl.keep {w w' : World} (h : Gl w) (hk : ∀ p : Addr, p.block < w.heap.size → w'.cell? p = w.cell? p) : Gl w' := by
  obtain ⟨⟨m, hm⟩, h1, h2, h3, h4, h5⟩ := h
  refine ⟨⟨m, ?_⟩, fun i hi => ?_, fun i hi => ?_, fun i hi => ?_, fun i hi => ?_, fun i hi => ?_⟩
  · exact (hk _ (World.block_lt_of_cell? _ _ hm)).trans hm
  · exact (hk _ (World.block_lt_of_cell? _ _ (h1 i hi))).trans (h1 i hi)
  · exact (hk _ (World.block_lt_of_cell? _ _ (h2 i hi))).trans (h2 i hi)
  · exact (hk _ (World.block_lt_of_cell? _ _ (h3 i hi))).trans (h3 i hi)
  · exact (hk _ (World.block_lt_of_cell? _ _ (h4 i hi))).trans (h4 i hi)
  · exact (hk _ (World.block_lt_of_cell? _ _ (h5 i hi))).trans (h5 i hi)
theorem Gl.below {w w' : World} (h : Gl w) (hb : Below w.heap.size w w') : Gl w' := h.keep fun _ hp => hb.cell hp
theorem below_drewN {B : Nat} {a w : World} (h : Below B a w) (n : Nat) : Below B a (w.drewN n) := ⟨h.os, h.tape, h.output, h.size, h.block⟩
end
end Go.Proofs.YtlhchpeecfbgnaaGreatDoor
