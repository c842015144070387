/- A part of the proof of a law on which findings a policy admits. No condition. -/
import Derived.Test.YtfgidaaipmbibaaGreatDoorF18
import Derived.Test.YtfgidaaipmbibaaGreatDoorF19
set_option maxRecDepth 100000
set_option maxHeartbeats 20000000
set_option linter.unusedVariables false
set_option linter.unusedSimpArgs false
namespace Go.Proofs.YtfgidaaipmbibaaGreatDoor
section
open Go.RowKit Go.Maps
theorem zero_int_e (w : World) : (zeroValue 3).run Tryz.prog w = .ok (.int .i64 0) w := by kernel_rfl
structure Ckr (w : World) (c m1 m2 : Nat) (v : Value) : Prop where
  blk : Blk w c [v, .map (some m1), .map (some m2)]
  one : MapIs w m1 0 (fun _ => none)
  two : MapIs w m2 0 (fun _ => none)
theorem Ckr.below {w w' : World} {c m1 m2 : Nat} {v : Value} (h : Ckr w c m1 m2 v) (hb : Below w.heap.size w w') : Ckr w' c m1 m2 v := ⟨h.blk.below hb, h.one.below hb, h.two.below hb⟩
theorem Ckr.look {w : World} {c m1 m2 : Nat} {v : Value} (h : Ckr w c m1 m2 v) :
    (Instr.lookup 81 (.map (some m1)) (.string ⟨#[98]⟩) true).run Tryz.prog w = .ok (.tuple #[.int .i64 0, .bool false]) w ∧ (Instr.lookup 81 (.map (some m2)) (.string ⟨#[98]⟩) true).run Tryz.prog w = .ok (.tuple #[.int .i64 0, .bool false]) w :=
  ⟨h.one.look_ok Tryz.underlying81 zero_int_e ⟨#[98]⟩ (by decide), h.two.look_ok Tryz.underlying81 zero_int_e ⟨#[98]⟩ (by decide)⟩
theorem check_b (c m1 m2 : Nat) (v : Value) (w : World) (hG : Gl w) (hC : Ckr w c m1 m2 v) : Calls Tryz.prog 26 #[.pointer (some ⟨c, 0, none⟩), .agg enV] w fun e w' => e = .returned (.int .i64 0) ∧ Below w.heap.size w w' := by
  have HG := Lib.hid hG
  have HC := Lib.hid hC
  clear hG hC
  obtain ⟨W0, hW0⟩ : ∃ W0, w.alloc (.cells enV 42) = W0 := ⟨_, rfl⟩
  have B0 : Hid (Blk W0 w.heap.size [.string ⟨#[98]⟩, .int .i64 1, .int .i64 0, .int .i64 0, .int .i64 0, .string ⟨#[]⟩, .string ⟨#[]⟩, .int .i64 0, .string ⟨#[]⟩, .slice none 0 0]) := by
    show Blk _ _ _; rw [← hW0]; exact Blk.new w [.string ⟨#[98]⟩, .int .i64 1, .int .i64 0, .int .i64 0, .int .i64 0, .string ⟨#[]⟩, .string ⟨#[]⟩, .int .i64 0, .string ⟨#[]⟩, .slice none 0 0] _
  have L0 : Hid (Below w.heap.size w W0) := by show Below _ _ _; rw [← hW0]; exact (Below.refl _ _).alloc (Nat.le_refl _) _
  have C0 : Hid (Ckr W0 c m1 m2 v) := HC.out.below (by have := L0.out; exact this)
  clear HC
  have c0 := B0.out.cell 0 _ rfl
  have c1 := B0.out.cell 1 _ rfl
  have c2 := B0.out.cell 2 _ rfl
  have c3 := B0.out.cell 3 _ rfl
  have c4 := B0.out.cell 4 _ rfl
  have c5 := B0.out.cell 5 _ rfl
  have c6 := B0.out.cell 6 _ rfl
  have c7 := B0.out.cell 7 _ rfl
  have c8 := B0.out.cell 8 _ rfl
  have c9 := B0.out.cell 9 _ rfl
  unfold enV at hW0 ⊢
  go_enter Tryz.func26, Tryz.ntmps26
  go_wp2_with fail
  clear c0 c1 c2 c3 c4 c5 c6 c7 c8 c9 hW0
  refine (entry_Check_b _ (HG.out.below L0.out)).mono ?_; rintro e w1 ⟨rfl, hb1⟩
  have B1 := Lib.hid (B0.out.below hb1)
  have L1 := Lib.hid (bthen L0.out hb1)
  have C1 := Lib.hid (C0.out.below hb1)
  clear hb1 B0 L0 C0
  have c0 := B1.out.cell 0 _ rfl
  have c1 := B1.out.cell 1 _ rfl
  have k0 := C1.out.blk.cell 0 _ rfl
  have k1 := C1.out.blk.cell 1 _ rfl
  have k2 := C1.out.blk.cell 2 _ rfl
  have q1 : ∀ k, (Instr.lookup 81 (.map (some m1)) (.string ⟨#[98]⟩) true).run Tryz.prog (w1.drewN k) = .ok (.tuple #[.int .i64 0, .bool false]) (w1.drewN k) := fun k => (C1.out.below (below_drewN (Below.refl _ _) k)).look.1
  have q2 : ∀ k, (Instr.lookup 81 (.map (some m2)) (.string ⟨#[98]⟩) true).run Tryz.prog (w1.drewN k) = .ok (.tuple #[.int .i64 0, .bool false]) (w1.drewN k) := fun k => (C1.out.below (below_drewN (Below.refl _ _) k)).look.2
  go_wp2_with fail
  go_quiet (fail)
  go_wp2_with fail
  refine (parents_b _).mono ?_; rintro e w' ⟨rfl, rfl⟩
  go_wp2_with fail
  refine wp_loop_rounds 1 ?_; rw [rounds_succ]; go_wp2_with fail
  go_quiet (fail)
  go_wp2_with fail
  go_ret
  exact ⟨rfl, below_drewN L1.out _⟩
end
end Go.Proofs.YtfgidaaipmbibaaGreatDoor
