/- A part of the proof of a law on which findings a policy admits. No condition. -/
import Derived.Test.YtfgidaaipmbibaaGreatDoorF35
import Derived.Test.YtfgidaaipmbibaaGreatDoorF36
set_option maxRecDepth 100000
set_option maxHeartbeats 20000000
set_option linter.unusedVariables false
set_option linter.unusedSimpArgs false
namespace Go.Proofs.YtfgidaaipmbibaaGreatDoor
section
open Go.RowKit Go.Shelf Go.Lib Go.Sort
def fA : ByteArray × Int := (⟨#[97]⟩, 1)
def fB : ByteArray × Int := (⟨#[98]⟩, 5)
theorem sort_ab : Sort.insertionSort (ltOf cmpF) #[fA, fB] 0 2 = #[fA, fB] := by kernel_rfl
theorem sort_ba : Sort.insertionSort (ltOf cmpF) #[fB, fA] 0 2 = #[fA, fB] := by kernel_rfl
theorem sw_grown {w : World} {blk off n : Nat} {dk : Array (ByteArray × Int)} {os : Array Obj} : w.grownBy (sortWorldK encF 2 w blk off n dk os) (some blk) :=
  ⟨rfl, rfl, rfl, size_sortWorldK_c encF 2 w blk off n dk os, fun i hi hne => by
    have hne' : blk ≠ i := fun e => hne (by rw [e])
    show (w.heap.modify blk _ ++ os)[i]? = _
    rw [Array.getElem?_append_left (by simpa using hi), Array.getElem?_modify, if_neg hne']⟩
theorem flat0 (x y : ByteArray × Int) : (flatK encF 2 #[x, y])[0]! = .string x.1 := by rw [get_flatK _ _ _ _ (by simp)]; rfl
theorem flat1 (x y : ByteArray × Int) : (flatK encF 2 #[x, y])[1]! = .int .i64 x.2 := by rw [get_flatK _ _ _ _ (by simp)]; rfl
theorem flat2 (x y : ByteArray × Int) : (flatK encF 2 #[x, y])[2]! = .string y.1 := by rw [get_flatK _ _ _ _ (by simp)]; rfl
theorem flat3 (x y : ByteArray × Int) : (flatK encF 2 #[x, y])[3]! = .int .i64 y.2 := by rw [get_flatK _ _ _ _ (by simp)]; rfl
theorem two_cells {w : World} {blk : Nat} {d : Array (ByteArray × Int)} {x y : ByteArray × Int} (h : HoldsK encF 2 w blk 0 d) (hd : d = #[x, y]) :
    w.cell? ⟨blk, 0, none⟩ = some (.string x.1) ∧ w.cell? ⟨blk, 1, none⟩ = some (.int .i64 x.2) ∧ w.cell? ⟨blk, 2, none⟩ = some (.string y.1) ∧ w.cell? ⟨blk, 3, none⟩ = some (.int .i64 y.2) := by
  subst hd
  have h0 := (h 0 (by simp)).1
  have h1 := (h 1 (by simp)).1
  have h2 := (h 2 (by simp)).1
  have h3 := (h 3 (by simp)).1
  rw [flat0] at h0; rw [flat1] at h1; rw [flat2] at h2; rw [flat3] at h3
  simp only [Nat.zero_add] at h0 h1 h2 h3
  exact ⟨h0, h1, h2, h3⟩
theorem holds_two {w : World} {blk : Nat} {x y : ByteArray × Int} (h : Blk w blk [.string x.1, .int .i64 x.2, .string y.1, .int .i64 y.2]) : HoldsK encF 2 w blk 0 #[x, y] := by
  intro j hj
  have hj' : j < 4 := by simpa using hj
  match j, hj' with
  | 0, _ => rw [flat0]; exact ⟨h.cell 0 _ rfl, h.free 0 (by simp)⟩
  | 1, _ => rw [flat1]; exact ⟨h.cell 1 _ rfl, h.free 1 (by simp)⟩
  | 2, _ => rw [flat2]; exact ⟨h.cell 2 _ rfl, h.free 2 (by simp)⟩
  | 3, _ => rw [flat3]; exact ⟨h.cell 3 _ rfl, h.free 3 (by simp)⟩
theorem SortFunc_two (blk cap : Nat) (x y : ByteArray × Int) (hs : Sort.insertionSort (ltOf cmpF) #[x, y] 0 2 = #[fA, fB]) (w : World) (hb : Blk w blk [.string x.1, .int .i64 x.2, .string y.1, .int .i64 y.2]) :
    Calls Tryz.prog 36 #[.slice (some ⟨blk, 0, none⟩) 2 cap, .func (.func 19) #[] #[]] w fun e w' => e = .returned (.tuple #[]) ∧ w.grownBy w' (some blk) ∧
      (w'.cell? ⟨blk, 0, none⟩ = some (.string ⟨#[97]⟩) ∧ w'.cell? ⟨blk, 1, none⟩ = some (.int .i64 1) ∧ w'.cell? ⟨blk, 2, none⟩ = some (.string ⟨#[98]⟩) ∧ w'.cell? ⟨blk, 3, none⟩ = some (.int .i64 5)) := by
  have eg : ∀ args w, (callFunc 19 args).run Tryz.prog w = .ok (.enter 19 args) w := enters_of Tryz.func19 (by kernel_rfl) rfl
  have hcmp : CmpLays Tryz.prog 19 #[] encF 2 cmpF blk 0 2 w := fun m os dk _ a b => cmp_clos a b _
  have hH := holds_two hb
  have hcon := AnyQ.slices_SortFunc_small Tryz.sortF 2 Tryz.isAgg45 Tryz.sizeOf45 encF (fun _ => rfl) (fun x v hv => by simp [encF] at hv; rcases hv with rfl | rfl <;> rfl) cmpF 19 #[] blk 0 cap #[x, y] w eg hcmp hH hb.sz (by simp)
    (fun n W h => (Tryz.bits_Len n W (by omega) (by omega)).mono fun _ _ ⟨he, hw⟩ => ⟨⟨_, he⟩, hw⟩)
  refine hcon.mono ?_
  rintro e w' ⟨rfl, n, os, rfl⟩
  rw [show (#[x, y] : Array (ByteArray × Int)).size = 2 from rfl, hs]
  exact ⟨rfl, sw_grown, two_cells (holdsK_sortWorldK_c encF 2 w blk 0 #[x, y] #[fA, fB] n os hH hb.sz rfl) rfl⟩
end
end Go.Proofs.YtfgidaaipmbibaaGreatDoor
