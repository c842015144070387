/- A part of the proof that the digests of any content are the three of it, and that an installed set is new memory. No condition. -/
import Derived.Test.YtlhchpeecfbgnaaGreatDoorProg
import Derived.Below
import Derived.BigQuiet
import Derived.ChangeAlike
import Derived.Deep.AppendLies
import Derived.Deep.CutBlock
import Derived.Deep.DeepCutAuto
import Derived.Deep.Draws
import Derived.Deep.LoopGhost
import Derived.Deep.QuietTactic
import Derived.IntWalk
import Derived.Laws.OwnMore
import Derived.Lib.Hide
import Derived.Lib.IndexMore
import Derived.Lib.LastIndexByte
import Derived.Lib.SplitLaws
import Derived.Maps.AppendAt
import Derived.OwnWalk
import Derived.ProofKit
import Derived.RegionTactic
import Derived.Shelf.LaysM
import Derived.Shelf.Slices.Turned
import Derived.Shelf.Small.Strs
import Derived.Shelf.Small.Utf8
import Derived.Shelf.Small.Wraps
import Derived.Shelf.Strconv.Itoa0
import Derived.Shelf.Strconv.Itoa1
import Derived.Shelf.Strconv.Itoa2
import Derived.Shelf.Strconv.Itoa3
import Derived.Shelf.Strings.AsciiSet
import Derived.Shelf.Strings.Builder1
import Derived.Shelf.Strings.Builder2
import Derived.Shelf.Strings.BuilderF
import Derived.Shelf.Strings.Count
import Derived.Shelf.Strings.Cut
import Derived.Shelf.Strings.IndexAny
import Derived.Shelf.Strings.IndexAnyAll
import Derived.Shelf.Strings.LastIndex
import Derived.Shelf.Strings.OnBuilder
import Derived.Shelf.Strings.Prefix
import Derived.Shelf.Strings.Runes
import Derived.Shelf.Strings.Search1
import Derived.Shelf.Strings.Search2
import Derived.Shelf.Strings.Search3
import Derived.Shelf.Strings.Shaped
import Derived.Shelf.Strings.Split
import Derived.Shelf.Strings.SplitShaped
import Derived.Shelf.Strings.Trim
import Derived.Shelf.Unicode.Decode
import Derived.Shelf.Unicode.DecodeAny
import Derived.Shelf.Unicode.DecodeSlow
import Derived.WalkKit
import Derived.WalkLawsBesides
import Derived.WalkSpells
set_option maxRecDepth 100000
set_option maxHeartbeats 20000000
set_option linter.unusedVariables false
set_option linter.unusedSimpArgs false
namespace Go.Proofs.YtlhchpeecfbgnaaGreatDoor
section
open Go.RowKit
structure HidN (p : Prop) : Prop where
  out : ¬ p
structure Blk (wr : World) (b : Nat) (vs : List Value) : Prop where
  sz : b < wr.heap.size
  cell : ∀ (j : Nat) (u : Value), vs[j]? = some u → wr.cell? ⟨b, j, none⟩ = some u
  free : ∀ j : Nat, j < vs.length → wr.frozen? ⟨b, j, none⟩ = false
theorem Blk.new (w : World) (vs : List Value) (t : TypeId) : Blk (w.alloc (.cells vs.toArray t)) w.heap.size vs :=
  ⟨by simp, fun j u hu => by simp [hu], fun j _ => by simp⟩
theorem Blk.below {wr w' : World} {b : Nat} {vs : List Value} (h : Blk wr b vs) (hb : Below wr.heap.size wr w') : Blk w' b vs :=
  ⟨Nat.lt_of_lt_of_le h.sz hb.size, fun j u hu => (hb.cell (p := ⟨b, j, none⟩) h.sz).trans (h.cell j u hu), fun j hj => (hb.frozen (p := ⟨b, j, none⟩) h.sz).trans (h.free j hj)⟩
theorem Blk.belowN {wr w' : World} {b n : Nat} {vs : List Value} (h : Blk wr b vs) (hb : Below n wr w') (hn : b < n) : Blk w' b vs :=
  ⟨Nat.lt_of_lt_of_le h.sz hb.size, fun j u hu => (hb.cell (p := ⟨b, j, none⟩) hn).trans (h.cell j u hu), fun j hj => (hb.frozen (p := ⟨b, j, none⟩) hn).trans (h.free j hj)⟩
theorem Blk.alloc {wr : World} {b : Nat} {vs : List Value} (h : Blk wr b vs) (o : Obj) : Blk (wr.alloc o) b vs := h.below ((Below.refl _ _).alloc (Nat.le_refl _) o)
theorem Blk.drewN {wr : World} {b : Nat} {vs : List Value} (h : Blk wr b vs) (k : Nat) : Blk (wr.drewN k) b vs := h.below ⟨rfl, rfl, rfl, Nat.le_refl _, fun _ _ => rfl⟩
theorem Blk.drew {wr : World} {b : Nat} {vs : List Value} (h : Blk wr b vs) : Blk wr.drew b vs := h.below ⟨rfl, rfl, rfl, Nat.le_refl _, fun _ _ => rfl⟩
theorem Blk.set {wr : World} {b : Nat} {vs : List Value} (h : Blk wr b vs) (j : Nat) (hj : j < vs.length) (v : Value) : Blk (wr.setCell ⟨b, j, none⟩ v) b (vs.set j v) := by
  refine ⟨by simpa using h.sz, fun i u hu => ?_, fun i hi => by rw [World.frozen?_setCell]; exact h.free i (by simpa using hi)⟩
  by_cases e : j = i
  · subst e
    rw [List.getElem?_set_self hj] at hu
    injection hu with hu; subst hu
    exact World.cell?_setCell_same' _ _ _ (by rw [h.cell j vs[j] (List.getElem?_eq_getElem hj)]; rfl)
  · rw [List.getElem?_set_ne e] at hu
    rw [World.cell?_setCell_other (h := by intro h; injection h with _ h; exact e h)]
    exact h.cell i u hu
theorem Blk.far {wr : World} {b c j : Nat} {vs : List Value} (h : Blk wr b vs) (hne : c ≠ b) (v : Value) : Blk (wr.setCell ⟨c, j, none⟩ v) b vs :=
  ⟨by simpa using h.sz, fun i u hu => by rw [World.cell?_setCell_other (h := by intro h; injection h with h; exact hne h)]; exact h.cell i u hu, fun i hi => by rw [World.frozen?_setCell]; exact h.free i hi⟩
theorem below_set {n c j : Nat} {a wr : World} (h : Below n a wr) (hc : n ≤ c) (v : Value) : Below n a (wr.setCell ⟨c, j, none⟩ v) := h.setCell (p := ⟨c, j, none⟩) hc v
end
end Go.Proofs.YtlhchpeecfbgnaaGreatDoor
