/- A part of the proof of a law on which findings a policy admits. No condition. -/
import Derived.Test.YtfgidaaipmbibaaGreatDoorF20
import Derived.Test.YtfgidaaipmbibaaGreatDoorF31
set_option maxRecDepth 100000
set_option maxHeartbeats 20000000
set_option linter.unusedVariables false
set_option linter.unusedSimpArgs false
namespace Go.Proofs.YtfgidaaipmbibaaGreatDoor
section
open Go.RowKit Go.Maps
def enL : List Value := [.string ⟨#[98]⟩, .int .i64 1, .int .i64 0, .int .i64 0, .int .i64 0, .string ⟨#[]⟩, .string ⟨#[]⟩, .int .i64 0, .string ⟨#[]⟩, .slice none 0 0]
theorem CheckAll_b (eb c : Nat) (w : World) (hG : Gl w) (hE : Blk w eb enL) : Calls Tryz.prog 10 #[.slice (some ⟨eb, 0, none⟩) 1 c] w fun e w' => e = .returned (.tuple #[.int .i64 0, .int .i64 0]) ∧ Below w.heap.size w w' := by
  have HG := Lib.hid hG
  have HE := Lib.hid hE
  clear hG hE
  obtain ⟨W1, hW1⟩ : ∃ W1, ((w.alloc (.map #[] 0)).alloc (.map #[] 0)).alloc (.cells #[.slice (some ⟨eb, 0, none⟩) 1 c, .map (some w.heap.size), .map (some (w.heap.size + 1))] 83) = W1 := ⟨_, rfl⟩
  have L1 : Hid (Below w.heap.size w W1) := by show Below _ _ _; rw [← hW1]; exact (((Below.refl _ _).alloc (Nat.le_refl _) _).alloc (by simp) _).alloc (by simp; omega) _
  have C1 : Hid (Ckr W1 (w.heap.size + 1 + 1) w.heap.size (w.heap.size + 1) (.slice (some ⟨eb, 0, none⟩) 1 c)) := by
    show Ckr _ _ _ _ _
    rw [← hW1]
    have m1 := MapIs.made w
    have m2 := MapIs.made (w.alloc (.map #[] 0))
    have b := Blk.new ((w.alloc (.map #[] 0)).alloc (.map #[] 0)) [.slice (some ⟨eb, 0, none⟩) 1 c, .map (some w.heap.size), .map (some (w.heap.size + 1))] 83
    simp only [World.size_alloc] at m2 b
    exact ⟨b, (m1.below ((Below.refl _ _).alloc (Nat.le_refl _) _)).below ((Below.refl _ _).alloc (Nat.le_refl _) _), m2.below ((Below.refl _ _).alloc (Nat.le_refl _) _)⟩
  have E1 := Lib.hid (HE.out.below L1.out)
  have hmm := @run_makeMap Tryz.prog
  go_enter Tryz.func10, Tryz.ntmps10
  go_wp2_with fail
  clear hmm
  have hix : ∀ W, (Instr.indexAt 43 (.slice (some ⟨eb, 0, none⟩) 1 c) (.int .i64 0)).run Tryz.prog W = .ok (.pointer (some ⟨eb, 0, none⟩)) W := fun W => by
    have := idx_of (T := 43) (E := 42) (sz := 10) (n := 1) (k := 0) (c := c) (A := some ⟨eb, 0, none⟩) (off := 0) (b := eb) Tryz.underlying43 rfl Tryz.sizeOf42 rfl (by omega) W
    simpa using this
  have e0 := E1.out.cell 0 _ rfl
  have e1 := E1.out.cell 1 _ rfl
  have e2 := E1.out.cell 2 _ rfl
  have e3 := E1.out.cell 3 _ rfl
  have e4 := E1.out.cell 4 _ rfl
  have e5 := E1.out.cell 5 _ rfl
  have e6 := E1.out.cell 6 _ rfl
  have e7 := E1.out.cell 7 _ rfl
  have e8 := E1.out.cell 8 _ rfl
  have e9 := E1.out.cell 9 _ rfl
  clear hW1
  obtain ⟨W2, hW2⟩ : ∃ W2, W1.alloc (.cells #[.string ⟨#[98]⟩, .int .i64 1, .int .i64 0, .int .i64 0, .int .i64 0, .string ⟨#[]⟩, .string ⟨#[]⟩, .int .i64 0, .string ⟨#[]⟩, .slice none 0 0] 42) = W2 := ⟨_, rfl⟩
  have B2 : Hid (Blk W2 W1.heap.size enL) := by show Blk _ _ _; rw [← hW2]; exact Blk.new W1 enL _
  have L2 : Hid (Below W1.heap.size W1 W2) := by show Below _ _ _; rw [← hW2]; exact (Below.refl _ _).alloc (Nat.le_refl _) _
  have HW2 := Lib.hid hW2
  clear hW2
  refine wp_loop_rounds 2 ?_; rw [rounds_succ]; go_wp2_with fail
  rw [HW2.out]
  clear HW2 hix e0 e1 e2 e3 e4 e5 e6 e7 e8 e9
  have CK := check_b _ _ _ _ W2 (HG.out.below (bthen L1.out L2.out)) (C1.out.below L2.out)
  unfold enV at CK
  refine CK.mono ?_; rintro e w3 ⟨rfl, hb3⟩
  have L3 := Lib.hid (bthen (bthen L1.out L2.out) hb3)
  have B3 := Lib.hid (B2.out.below hb3)
  have C3 := Lib.hid ((C1.out.below L2.out).below hb3)
  have HZ := Lib.hid hb3.size
  have HZ2 := Lib.hid L2.out.size
  have HS1 := Lib.hid (show w.heap.size < W1.heap.size from C1.out.two.lt |> fun h => by omega)
  clear hb3 CK L1 L2 B2 C1 E1 HE
  have b0 := B3.out.cell 0 _ rfl
  have k1 := C3.out.blk.cell 1 _ rfl
  obtain ⟨w4, hrun, hm, hg⟩ := (C3.out.one.below (show Below w3.heap.size w3 w3.drew from ⟨rfl, rfl, rfl, Nat.le_refl _, fun _ _ => rfl⟩)).put Tryz.underlying81 (by unfold maxLen; omega) ⟨#[98]⟩ (by decide) (.int .i64 0)
  have HM := Lib.hid hm; have HGR := Lib.hid hg
  clear hm hg
  have B4 : Hid (Blk w4 W1.heap.size enL) := B3.out.drew.grownC HGR.out (by have := HS1.out; omega)
  have L4 : Hid (Below w.heap.size w w4) := (bthen L3.out (show Below w3.heap.size w3 w3.drew from ⟨rfl, rfl, rfl, Nat.le_refl _, fun _ _ => rfl⟩)).grown HGR.out (bthen L3.out (show Below w3.heap.size w3 w3.drew from ⟨rfl, rfl, rfl, Nat.le_refl _, fun _ _ => rfl⟩)).size (fun j hj => by injection hj with hj; omega)
  have d0 := B4.out.cell 0 _ rfl
  go_wp2_with fail
  go_region
  go_wp2_with fail
  refine (parents_b _).mono ?_; rintro e w' ⟨rfl, rfl⟩
  go_wp2_with fail
  refine wp_loop_rounds 1 ?_; rw [rounds_succ]; go_wp2_with fail
  rw [rounds_succ]; go_wp2_with fail
  go_ret2
  exact ⟨rfl, L4.out⟩
end
end Go.Proofs.YtfgidaaipmbibaaGreatDoor
