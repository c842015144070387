/- A part of the proof of a law on which findings a policy admits. No condition. -/
import Derived.Test.YtfgidaaipmbibaaGreatDoorF14
set_option maxRecDepth 100000
set_option maxHeartbeats 20000000
set_option linter.unusedVariables false
set_option linter.unusedSimpArgs false
namespace Go.Proofs.YtfgidaaipmbibaaGreatDoor
section
open Go.RowKit
def enV : Array Value := #[.string ⟨#[98]⟩, .int .i64 1, .int .i64 0, .int .i64 0, .int .i64 0, .string ⟨#[]⟩, .string ⟨#[]⟩, .int .i64 0, .string ⟨#[]⟩, .slice none 0 0]
theorem parents_b (w : World) : Calls Tryz.prog 27 #[.string ⟨#[98]⟩] w fun e w' => e = .returned (.slice none 0 0) ∧ w' = w := by
  go_enter Tryz.func27, Tryz.ntmps27
  go_wp2_with fail
  refine wp_loop_rounds 2 ?_
  rw [rounds_succ]; go_wp2_with fail
  rw [rounds_succ]; go_wp2_with fail
  go_ret
  exact ⟨rfl, rfl⟩
theorem owner_none (w : World) : Calls Tryz.prog 75 #[.string ⟨#[]⟩] w fun e w' => e = .returned (.bool true) ∧ Below w.heap.size w w' := by
  have hcon := fun W => Tryz.strings_ContainsAny_laid ⟨#[]⟩ ⟨#[0, 10, 58]⟩ W (by decide) (by decide) (by intro j b h; simp at h) (by intro j b h; have := List.mem_of_getElem? h; simp at this; rcases this with rfl | rfl | rfl <;> decide)
  have hv : Lib.containsAny (⟨#[]⟩ : ByteArray).data.toList (⟨#[0, 10, 58]⟩ : ByteArray).data.toList = false := by decide
  rw [hv] at hcon
  go_enter Tryz.func75, Tryz.ntmps75
  go_wp2_with fail
  refine (hcon _).mono ?_; rintro e w' ⟨rfl, hb⟩
  go_wp2_with fail
  go_ret
  exact ⟨rfl, hb⟩
theorem entry_Check_b (w : World) (hG : Gl w) : Calls Tryz.prog 50 #[.agg enV] w fun e w' => e = .returned (.int .i64 0) ∧ Below w.heap.size w w' := by
  have HG := Lib.hid hG
  clear hG
  unfold enV
  go_enter Tryz.func50, Tryz.ntmps50
  obtain ⟨W0, hW0⟩ : ∃ W0, w.alloc (.cells #[.string ⟨#[98]⟩, .int .i64 1, .int .i64 0, .int .i64 0, .int .i64 0, .string ⟨#[]⟩, .string ⟨#[]⟩, .int .i64 0, .string ⟨#[]⟩, .slice none 0 0] 42) = W0 := ⟨_, rfl⟩
  have B0 : Hid (Blk W0 w.heap.size [.string ⟨#[98]⟩, .int .i64 1, .int .i64 0, .int .i64 0, .int .i64 0, .string ⟨#[]⟩, .string ⟨#[]⟩, .int .i64 0, .string ⟨#[]⟩, .slice none 0 0]) := by
    show Blk _ _ _; rw [← hW0]; exact Blk.new w [.string ⟨#[98]⟩, .int .i64 1, .int .i64 0, .int .i64 0, .int .i64 0, .string ⟨#[]⟩, .string ⟨#[]⟩, .int .i64 0, .string ⟨#[]⟩, .slice none 0 0] _
  have L0 : Hid (Below w.heap.size w W0) := by show Below _ _ _; rw [← hW0]; exact (Below.refl _ _).alloc (Nat.le_refl _) _
  have c0 := B0.out.cell 0 _ rfl
  go_wp2_with fail
  clear hW0 c0
  refine (entry_Path ⟨#[98]⟩ _ (HG.out.below L0.out) (by decide)).mono ?_; rintro e w1 ⟨rfl, hb1⟩
  have hp : pathB (bl ⟨#[98]⟩) = true := by decide
  rw [hp]
  have B1 := Lib.hid (B0.out.below hb1)
  have L1 := Lib.hid (bthen L0.out hb1)
  clear hb1 hp B0 L0
  have c0 := B1.out.cell 0 _ rfl
  have c1 := B1.out.cell 1 _ rfl
  have c2 := B1.out.cell 2 _ rfl
  have c3 := B1.out.cell 3 _ rfl
  have c4 := B1.out.cell 4 _ rfl
  have c5 := B1.out.cell 5 _ rfl
  have c6 := B1.out.cell 6 _ rfl
  have c7 := B1.out.cell 7 _ rfl
  go_wp2_with fail
  refine (owner_none _).mono ?_; rintro e w2 ⟨rfl, hb2⟩
  have B2 := Lib.hid (B1.out.below hb2)
  have L2 := Lib.hid (bthen L1.out hb2)
  clear hb2 c0 c1 c2 c3 c4 c5 c6 c7 B1 L1
  have c6 := B2.out.cell 6 _ rfl
  go_wp2_with fail
  refine (owner_none _).mono ?_; rintro e w3 ⟨rfl, hb3⟩
  have B3 := Lib.hid (B2.out.below hb3)
  have L3 := Lib.hid (bthen L2.out hb3)
  clear hb3 c6 B2 L2
  have c1 := B3.out.cell 1 _ rfl
  have c8 := B3.out.cell 8 _ rfl
  have c9 := B3.out.cell 9 _ rfl
  go_wp2_with fail
  go_ret
  exact ⟨rfl, L3.out⟩
end
end Go.Proofs.YtfgidaaipmbibaaGreatDoor
