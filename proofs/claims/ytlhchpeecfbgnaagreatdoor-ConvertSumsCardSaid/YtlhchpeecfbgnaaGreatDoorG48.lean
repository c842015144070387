/- A part of the proof that the digests of any content are the three of it, and that an installed set is new memory. No condition. -/
import Derived.Test.YtlhchpeecfbgnaaGreatDoorG47
set_option maxRecDepth 100000
set_option maxHeartbeats 20000000
set_option linter.unusedVariables false
set_option linter.unusedSimpArgs false
namespace Go.Proofs.YtlhchpeecfbgnaaGreatDoor
section
open Go.RowKit Go.Maps
theorem law24_awake (w : World) (hG : GlP w) :
    Calls Tryz.prog 4 #[] w fun e w' => e = .returned (.bool true) ∧ Below w.heap.size w w' := by
  have HG := Lib.hid hG
  clear hG
  go_enter Tryz.func4, Tryz.ntmps4
  go_wp2_with fail
  obtain ⟨W1, hW1⟩ : ∃ W1, w.alloc (.cells #[.string ⟨#[97, 97]⟩, .string ⟨#[49, 46, 50]⟩, .string ⟨#[97, 108, 108]⟩, .string ⟨#[115]⟩, .slice none 0 0, .slice none 0 0, .slice none 0 0, .slice none 0 0, .slice none 0 0] 43) = W1 := ⟨_, rfl⟩
  obtain ⟨W2, hW2⟩ : ∃ W2, W1.alloc (.cells #[.string ⟨#[97, 97]⟩, .string ⟨#[49, 46, 50]⟩, .string ⟨#[97, 108, 108]⟩, .string ⟨#[115]⟩, .slice none 0 0, .slice none 0 0, .slice none 0 0, .slice none 0 0, .slice none 0 0] 43) = W2 := ⟨_, rfl⟩
  have B2 : Hid (Below w.heap.size w W2) := by show Below _ _ _; rw [← hW2, ← hW1]; exact ((Below.refl _ _).alloc (Nat.le_refl _) _).alloc (by simp) _
  have P2 : Hid (Blk W2 w.heap.size (pkV v12).cells) := by show Blk _ _ _; rw [← hW2, ← hW1]; exact (Blk.new w (pkV v12).cells _).alloc _
  have Q2 : Hid (Blk W2 (w.heap.size + 1) (pkV v12).cells) := by
    show Blk _ _ _
    have h := Blk.new W1 (pkV v12).cells 43
    rw [show W1.heap.size = w.heap.size + 1 by rw [← hW1]; simp] at h
    rw [← hW2]
    exact h
  rw [hW1, hW2]
  clear hW1 hW2
  refine (Convert_bad 2 (.inl rfl) (.inl rfl) ⟨#[]⟩ 11 (by decide) (by rw [trans_12]; rfl) (w.heap.size + 1) 1 W2 (HG.out.below B2.out) Q2.out).mono ?_
  rintro e w3 ⟨g3, c3, rfl, hr3, hl3, hb3⟩
  have P3 := Lib.hid (P2.out.below hb3)
  have B3 := Lib.hid (below_thenC B2.out hb3)
  have R3 := Lib.hid hr3
  have y1 : w3.cell? ⟨w.heap.size, 1, none⟩ = some (.string ⟨#[49, 46, 50]⟩) := P3.out.cell 1 _ rfl
  have f1 := P3.out.free 1 (by decide)
  have P4 := Lib.hid (P3.out.set 1 (by decide) (.string ⟨#[49, 46, 50, 45, 51]⟩))
  have B4 := Lib.hid (below_set B3.out (Nat.le_refl _) (j := 1) (.string ⟨#[49, 46, 50, 45, 51]⟩))
  have R4 : Hid (Blk (w3.setCell ⟨w.heap.size, 1, none⟩ (.string ⟨#[49, 46, 50, 45, 51]⟩)) g3 [.string ⟨#[97, 97]⟩, .string ⟨#[118, 101, 114, 115, 105, 111, 110]⟩, .int .i64 11]) := R3.out.far (by have := P2.out.sz; omega) _
  obtain ⟨W4, hW4⟩ : ∃ W4, w3.setCell ⟨w.heap.size, 1, none⟩ (.string ⟨#[49, 46, 50, 45, 51]⟩) = W4 := ⟨_, rfl⟩
  rw [hW4] at P4 B4 R4
  have z0 : W4.cell? ⟨w.heap.size, 0, none⟩ = some (.string ⟨#[97, 97]⟩) := P4.out.cell 0 _ rfl
  have z1 : W4.cell? ⟨w.heap.size, 1, none⟩ = some (.string ⟨#[49, 46, 50, 45, 51]⟩) := P4.out.cell 1 _ rfl
  have z2 : W4.cell? ⟨w.heap.size, 2, none⟩ = some (.string ⟨#[97, 108, 108]⟩) := P4.out.cell 2 _ rfl
  have z3 : W4.cell? ⟨w.heap.size, 3, none⟩ = some (.string ⟨#[115]⟩) := P4.out.cell 3 _ rfl
  have z4 : W4.cell? ⟨w.heap.size, 4, none⟩ = some (.slice none 0 0) := P4.out.cell 4 _ rfl
  have z5 : W4.cell? ⟨w.heap.size, 5, none⟩ = some (.slice none 0 0) := P4.out.cell 5 _ rfl
  have z6 : W4.cell? ⟨w.heap.size, 6, none⟩ = some (.slice none 0 0) := P4.out.cell 6 _ rfl
  have z7 : W4.cell? ⟨w.heap.size, 7, none⟩ = some (.slice none 0 0) := P4.out.cell 7 _ rfl
  have z8 : W4.cell? ⟨w.heap.size, 8, none⟩ = some (.slice none 0 0) := P4.out.cell 8 _ rfl
  clear hr3 hl3 hb3
  go_wp2_with fail
  obtain ⟨W5, hW5⟩ : ∃ W5, W4.alloc (.cells #[.string ⟨#[97, 97]⟩, .string ⟨#[49, 46, 50, 45, 51]⟩, .string ⟨#[97, 108, 108]⟩, .string ⟨#[115]⟩, .slice none 0 0, .slice none 0 0, .slice none 0 0, .slice none 0 0, .slice none 0 0] 43) = W5 := ⟨_, rfl⟩
  have B5 : Hid (Below w.heap.size w W5) := by show Below _ _ _; rw [← hW5]; exact B4.out.alloc B4.out.size _
  have Q5 : Hid (Blk W5 W4.heap.size (pkV v123).cells) := by show Blk _ _ _; rw [← hW5]; exact Blk.new W4 (pkV v123).cells _
  have R5 : Hid (Blk W5 g3 [.string ⟨#[97, 97]⟩, .string ⟨#[118, 101, 114, 115, 105, 111, 110]⟩, .int .i64 11]) := by show Blk _ _ _; rw [← hW5]; exact R4.out.alloc _
  rw [hW5]
  clear z0 z1 z2 z3 z4 z5 z6 z7 z8 y1 f1 hW5
  refine (Convert_ok 3 (.inr rfl) (.inr rfl) ⟨#[49, 46, 50, 45, 114, 51]⟩ (by rw [trans_123]; rfl) W4.heap.size 1 W5 (HG.out.below B5.out) Q5.out).mono ?_
  rintro e w6 ⟨g6, c6, rfl, ⟨r6, hr6⟩, hb6⟩
  have R6 := Lib.hid (R5.out.below hb6)
  have B6 := Lib.hid (below_thenC B5.out hb6)
  have x0 := R6.out.cell 0 _ rfl
  have x1 := R6.out.cell 1 _ rfl
  have x2 := R6.out.cell 2 _ rfl
  have q1 := hr6.cell 1 _ rfl
  have q2 := hr6.cell 2 _ rfl
  clear hr6 hb6 hW4
  go_wp2_with fail
  go_ret
  exact ⟨rfl, B6.out⟩
end
end Go.Proofs.YtlhchpeecfbgnaaGreatDoor
