/- A part of the proof of a law on which findings a policy admits. No condition. -/
import Derived.Ground.GgzProg
import Derived.Ground.SlsfProg
import Derived.LoopIn
import Derived.LoopNIn
import Derived.Maps.OwnIn
import Derived.Maps.RangeRun
import Derived.OwnWalkIn
import Derived.RangeFuncBound
import Derived.RangeFuncCalls
import Derived.RangeFuncLeaves
import Derived.RangeFuncNested
import Derived.Shelf.Abstract
import Derived.Shelf.RegionOpen
import Derived.Shelf.SlGeneric
import Derived.Shelf.SlIter.Nil
import Derived.TacticsInMore
import Derived.Test.YtfgidaaipmbibaaGreatDoorF31
import Derived.Test.YtfgidaaipmbibaaGreatDoorF34
set_option maxRecDepth 100000
set_option maxHeartbeats 20000000
set_option linter.unusedVariables false
set_option linter.unusedSimpArgs false
namespace Go.Proofs.YtfgidaaipmbibaaGreatDoor
section
open Go.RowKit Go.Maps Go.Shelf
def rfL : List Value := [.string ⟨#[]⟩, .string ⟨#[]⟩, .int .i64 0]
theorem Aud.grown {wr w' : World} {b ab m1 m2 c : Nat} {es : Array MapEntry} (h : Aud wr ab m1 m2 es c) (hg : wr.grownBy w' (some b)) (h1 : ab ≠ b) (h2 : m2 ≠ b) : Aud w' ab m1 m2 es c :=
  ⟨h.blk.grownC hg h1, (hg.block m2 (Array.getElem?_eq_some_iff.1 h.map).1 (by intro e; injection e with e; exact h2 e)).trans h.map⟩
structure AU (w0 wr : World) (r ab m1 m2 : Nat) (es : Array MapEntry) (c n1 : Nat) (f1 : ByteArray → Option Value) : Prop where
  bel : Below w0.heap.size w0 wr
  res : Blk wr r rfL
  aud : Aud wr ab m1 m2 es c
  ent : MapIs wr m1 n1 f1
  ord : w0.heap.size ≤ r ∧ r < m1 ∧ m1 < m2 ∧ m2 < ab
theorem AU.step {w0 wr w' : World} {r ab m1 m2 c n1 : Nat} {es : Array MapEntry} {f1 : ByteArray → Option Value} (h : AU w0 wr r ab m1 m2 es c n1 f1) (hb : Below wr.heap.size wr w') : AU w0 w' r ab m1 m2 es c n1 f1 :=
  ⟨bthen h.bel hb, h.res.below hb, h.aud.below hb, h.ent.below hb, h.ord⟩
theorem AU.put {w0 wr w' : World} {r ab m1 m2 c n1 n2 : Nat} {es : Array MapEntry} {f1 f2 : ByteArray → Option Value} (h : AU w0 wr r ab m1 m2 es c n1 f1) (hg : wr.grownBy w' (some m1)) (hm : MapIs w' m1 n2 f2) : AU w0 w' r ab m1 m2 es c n2 f2 := by
  obtain ⟨o1, o2, o3, o4⟩ := h.ord
  exact ⟨h.bel.grown hg h.bel.size (fun j hj => by injection hj with hj; omega), h.res.grownC hg (by omega), h.aud.grown hg (by omega) (by omega), hm, h.ord⟩
theorem AU.far {w0 wr w' : World} {r ab m1 m2 m3 c n1 : Nat} {es : Array MapEntry} {f1 : ByteArray → Option Value} (h : AU w0 wr r ab m1 m2 es c n1 f1) (hg : wr.grownBy w' (some m3)) (h3 : ab < m3) : AU w0 w' r ab m1 m2 es c n1 f1 := by
  obtain ⟨o1, o2, o3, o4⟩ := h.ord
  exact ⟨h.bel.grown hg h.bel.size (fun j hj => by injection hj with hj; omega), h.res.grownC hg (by omega), h.aud.grown hg (by omega) (by omega), h.ent.kept hg (by intro e; injection e with e; omega), h.ord⟩
theorem AU.noted {w0 wr w' : World} {r ab m1 m2 c n1 c2 : Nat} {es es2 : Array MapEntry} {f1 : ByteArray → Option Value} (h : AU w0 wr r ab m1 m2 es c n1 f1) (hg : wr.grownBy w' (some m2)) (hm : w'.heap[m2]? = some (.map es2 c2)) : AU w0 w' r ab m1 m2 es2 c2 n1 f1 := by
  obtain ⟨o1, o2, o3, o4⟩ := h.ord
  exact ⟨h.bel.grown hg h.bel.size (fun j hj => by injection hj with hj; omega), h.res.grownC hg (by omega), ⟨h.aud.blk.grownC hg (by omega), hm⟩, h.ent.kept hg (by intro e; injection e with e; omega), h.ord⟩
theorem AU.made {w0 wr : World} {r : Nat} (hb : Below w0.heap.size w0 wr) (hr : Blk wr r rfL) (h0 : w0.heap.size ≤ r) (h1 : r < wr.heap.size) :
    AU w0 (((wr.alloc (.map #[] 0)).alloc (.map #[] 0)).alloc (.cells #[.int .i64 1, .map (some wr.heap.size), .map (some (wr.heap.size + 1))] 53)) r (wr.heap.size + 1 + 1) wr.heap.size (wr.heap.size + 1) #[] 0 0 (fun _ => none) := by
  have m1 := MapIs.made wr
  have b := Blk.new ((wr.alloc (.map #[] 0)).alloc (.map #[] 0)) [.int .i64 1, .map (some wr.heap.size), .map (some (wr.heap.size + 1))] 53
  have k := World.alloc_heap_new (wr.alloc (.map #[] 0)) (.map #[] 0)
  simp only [World.size_alloc] at b k
  have B1 : Below wr.heap.size wr (wr.alloc (.map #[] 0)) := (Below.refl _ _).alloc (Nat.le_refl _) _
  have B2 : Below (wr.alloc (.map #[] 0)).heap.size (wr.alloc (.map #[] 0)) ((wr.alloc (.map #[] 0)).alloc (.map #[] 0)) := (Below.refl _ _).alloc (Nat.le_refl _) _
  have B3 : Below ((wr.alloc (.map #[] 0)).alloc (.map #[] 0)).heap.size ((wr.alloc (.map #[] 0)).alloc (.map #[] 0)) (((wr.alloc (.map #[] 0)).alloc (.map #[] 0)).alloc (.cells #[.int .i64 1, .map (some wr.heap.size), .map (some (wr.heap.size + 1))] 53)) := (Below.refl _ _).alloc (Nat.le_refl _) _
  have BB := bthen (bthen B1 B2) B3
  exact ⟨bthen hb BB, hr.below BB, ⟨b, (B3.block _ (by simp)).trans k⟩, (m1.below B2).below B3, h0, h1, by omega, by omega⟩
theorem under_none (p : Value) (W : World) : Calls Tryz.prog 14 #[.string ⟨#[]⟩, p] W fun e w' => e = .returned (.bool true) ∧ w' = W := by
  go_enter Tryz.func14, Tryz.ntmps14
  go_wp2_with fail
  go_ret
  exact ⟨rfl, rfl⟩
theorem roots_any (rb c : Nat) (p : Value) (w : World) (h : Blk w rb [.string ⟨#[]⟩]) :
    Calls Tryz.prog 16 #[.slice (some ⟨rb, 0, none⟩) 1 c, .func (.func 14) #[] #[p]] w fun e w' => e = .returned (.bool true) ∧ Below w.heap.size w w' := by
  have eg : ∀ args w, (callFunc 14 args).run Tryz.prog w = .ok (.enter 14 args) w := enters_of Tryz.func14 (by kernel_rfl) rfl
  refine (Tryz.slices_ContainsFunc (α := Unit) (fun _ => .string ⟨#[]⟩) (fun _ => true) 14 #[p] eg rb 0 1 c [()] w (fun W _ _ => (under_none p W).mono fun _ _ ⟨he, hw⟩ => ⟨he, 0, hw⟩) (by simp) (by omega) (fun j hj => by
    have : j = 0 := by simpa using hj
    subst this; exact h.cell 0 _ rfl)).mono ?_
  rintro e w' ⟨rfl, q, rfl⟩
  exact ⟨rfl, below_drewN (Below.refl _ _) q⟩
end
end Go.Proofs.YtfgidaaipmbibaaGreatDoor
