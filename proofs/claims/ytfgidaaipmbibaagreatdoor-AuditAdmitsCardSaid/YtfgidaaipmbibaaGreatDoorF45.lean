/- A part of the proof of a law on which findings a policy admits. No condition. -/
import Derived.Test.YtfgidaaipmbibaaGreatDoorF32
import Derived.Test.YtfgidaaipmbibaaGreatDoorF40
import Derived.Test.YtfgidaaipmbibaaGreatDoorF43
import Derived.Test.YtfgidaaipmbibaaGreatDoorF44
set_option maxRecDepth 100000
set_option maxHeartbeats 20000000
set_option linter.unusedVariables false
set_option linter.unusedSimpArgs false
namespace Go.Proofs.YtfgidaaipmbibaaGreatDoor
section
open Go.RowKit Go.Maps Go.Shelf
structure InA (w : World) (fb pb eb rb : Nat) : Prop where
  file : Blk w fb fileA.cells
  pk : Blk w pb (pkA fb).cells
  ent : Blk w eb enL
  root : Blk w rb [.string ⟨#[]⟩]
theorem InA.below {w w' : World} {fb pb eb rb : Nat} (h : InA w fb pb eb rb) (hb : Below w.heap.size w w') : InA w' fb pb eb rb := ⟨h.file.below hb, h.pk.below hb, h.ent.below hb, h.root.below hb⟩
def zeF : Array Value := #[.string ⟨#[]⟩, .int .i64 0, .int .i64 0, .string ⟨#[]⟩, .string ⟨#[]⟩, .string ⟨#[]⟩, .string ⟨#[]⟩, .bool false]
theorem zero_file (w : World) : (zeroValue 27).run Tryz.prog w = .ok (.agg zeF) w := by kernel_rfl
theorem Audit_A (fb pb eb rb c1 c2 c3 : Nat) (w : World) (hG : Gl w) (hI : InA w fb pb eb rb) :
    Calls Tryz.prog 7 #[.int .i64 1, .slice (some ⟨pb, 0, none⟩) 1 c1, .slice (some ⟨eb, 0, none⟩) 1 c2, .slice (some ⟨rb, 0, none⟩) 1 c3] w fun e w' => ∃ g cap, e = .returned (.tuple #[.slice (some ⟨g, 0, none⟩) 2 cap, .agg #[.string ⟨#[]⟩, .string ⟨#[]⟩, .int .i64 0]]) ∧ Below w.heap.size w w' ∧
      (w'.cell? ⟨g, 0, none⟩ = some (.string ⟨#[97]⟩) ∧ w'.cell? ⟨g, 1, none⟩ = some (.int .i64 1) ∧ w'.cell? ⟨g, 2, none⟩ = some (.string ⟨#[98]⟩) ∧ w'.cell? ⟨g, 3, none⟩ = some (.int .i64 5)) := by
  have HG := Lib.hid hG; have HI := Lib.hid hI
  clear hG hI
  obtain ⟨W0, hW0⟩ : ∃ W0, w.alloc (.cells #[.string ⟨#[]⟩, .string ⟨#[]⟩, .int .i64 0] 36) = W0 := ⟨_, rfl⟩
  have L0 : Hid (Below w.heap.size w W0) := by show Below _ _ _; rw [← hW0]; exact (Below.refl _ _).alloc (Nat.le_refl _) _
  have R0 : Hid (Blk W0 w.heap.size rfL) := by show Blk _ _ _; rw [← hW0]; exact Blk.new w rfL _
  have HW0 := Lib.hid hW0
  clear hW0
  have hmm := @run_makeMap Tryz.prog
  go_enter Tryz.func7, Tryz.ntmps7
  go_wp2_with fail
  rw [HW0.out]
  clear HW0
  refine (Check_A fb pb c1 W0 (HG.out.below L0.out) (dbA_ok (HI.out.file.below L0.out) (HI.out.pk.below L0.out))).mono ?_; rintro e w1 ⟨rfl, hb1⟩
  have L1 := Lib.hid (bthen L0.out hb1)
  have R1 := Lib.hid (R0.out.below hb1)
  clear hb1 L0 R0
  obtain ⟨W2, hW2⟩ : ∃ W2, w1.alloc (.cells #[.string ⟨#[]⟩, .string ⟨#[]⟩, .int .i64 0] 36) = W2 := ⟨_, rfl⟩
  have B2 : Hid (Below w1.heap.size w1 W2) := by show Below _ _ _; rw [← hW2]; exact (Below.refl _ _).alloc (Nat.le_refl _) _
  have HW2 := Lib.hid hW2
  clear hW2
  go_wp2_with fail
  rw [HW2.out]
  have L2 := Lib.hid (bthen L1.out B2.out)
  have R2 := Lib.hid (R1.out.below B2.out)
  clear HW2 B2 L1 R1
  refine (CheckAll_b eb c2 W2 (HG.out.below L2.out) (HI.out.below L2.out).ent).mono ?_; rintro e w3 ⟨rfl, hb3⟩
  have L3 := Lib.hid (bthen L2.out hb3)
  have R3 := Lib.hid (R2.out.below hb3)
  clear hb3 L2 R2
  have A4 := Lib.hid (AU.made L3.out R3.out (Nat.le_refl _) R3.out.sz)
  obtain ⟨W4, hW4⟩ : ∃ W4, ((w3.alloc (.map #[] 0)).alloc (.map #[] 0)).alloc (.cells #[.int .i64 1, .map (some w3.heap.size), .map (some (w3.heap.size + 1))] 53) = W4 := ⟨_, rfl⟩
  rw [hW4] at A4
  have HW4 := Lib.hid hW4
  clear hW4
  go_wp2_with fail
  rw [HW4.out]
  clear HW4 L3 R3
  generalize w3.heap.size + 1 + 1 = ab at A4 ⊢
  generalize w3.heap.size + 1 = m2 at A4 ⊢
  generalize w3.heap.size = m1 at A4 ⊢
  have E4 := HI.out.below A4.out.bel
  have hixE : ∀ W, (Instr.indexAt 43 (.slice (some ⟨eb, 0, none⟩) 1 c2) (.int .i64 0)).run Tryz.prog W = .ok (.pointer (some ⟨eb, 0, none⟩)) W := fun W => by
    have := idx_of (T := 43) (E := 42) (sz := 10) (n := 1) (k := 0) (c := c2) (A := some ⟨eb, 0, none⟩) (off := 0) (b := eb) Tryz.underlying43 rfl Tryz.sizeOf42 rfl (by omega) W
    simpa using this
  have e0 := E4.ent.cell 0 _ rfl
  have e1 := E4.ent.cell 1 _ rfl
  have e2 := E4.ent.cell 2 _ rfl
  have e3 := E4.ent.cell 3 _ rfl
  have e4 := E4.ent.cell 4 _ rfl
  have e5 := E4.ent.cell 5 _ rfl
  have e6 := E4.ent.cell 6 _ rfl
  have e7 := E4.ent.cell 7 _ rfl
  have e8 := E4.ent.cell 8 _ rfl
  have e9 := E4.ent.cell 9 _ rfl
  obtain ⟨W5, hW5⟩ : ∃ W5, W4.alloc (.cells #[.string ⟨#[98]⟩, .int .i64 1, .int .i64 0, .int .i64 0, .int .i64 0, .string ⟨#[]⟩, .string ⟨#[]⟩, .int .i64 0, .string ⟨#[]⟩, .slice none 0 0] 42) = W5 := ⟨_, rfl⟩
  have L5 : Hid (Below W4.heap.size W4 W5) := by show Below _ _ _; rw [← hW5]; exact (Below.refl _ _).alloc (Nat.le_refl _) _
  have B5 : Hid (Blk W5 W4.heap.size enL) := by show Blk _ _ _; rw [← hW5]; exact Blk.new W4 enL _
  have A5 := Lib.hid (A4.out.step L5.out)
  have HW5 := Lib.hid hW5
  clear hW5 E4
  refine wp_loop_rounds 2 ?_; rw [rounds_succ]
  go_upto_region 11 with (fail)
  rw [HW5.out]
  clear HW5 hixE e0 e1 e2 e3 e4 e5 e6 e7 e8 e9 L5
  have b0 := B5.out.cell 0 _ rfl
  have b1 := B5.out.cell 1 _ rfl
  have b2 := B5.out.cell 2 _ rfl
  have b3 := B5.out.cell 3 _ rfl
  have b4 := B5.out.cell 4 _ rfl
  have b5 := B5.out.cell 5 _ rfl
  have b6 := B5.out.cell 6 _ rfl
  have b7 := B5.out.cell 7 _ rfl
  have b8 := B5.out.cell 8 _ rfl
  have b9 := B5.out.cell 9 _ rfl
  have k1 := A5.out.aud.blk.cell 1 _ rfl
  obtain ⟨W6, hput, hm6, hg6⟩ := A5.out.ent.put Tryz.underlying50 (by unfold maxLen; omega) ⟨#[98]⟩ (by decide) (.agg #[.string ⟨#[98]⟩, .int .i64 1, .int .i64 0, .int .i64 0, .int .i64 0, .string ⟨#[]⟩, .string ⟨#[]⟩, .int .i64 0, .string ⟨#[]⟩, .slice none 0 0])
  have A6 := Lib.hid (A5.out.put hg6 hm6)
  clear hm6 hg6 A4 A5 B5
  obtain ⟨W7, hW7⟩ : ∃ W7, W6.alloc (.map #[] 0) = W7 := ⟨_, rfl⟩
  have L7 : Hid (Below W6.heap.size W6 W7) := by show Below _ _ _; rw [← hW7]; exact (Below.refl _ _).alloc (Nat.le_refl _) _
  have M7 : Hid (MapIs W7 W6.heap.size 0 (fun _ => none)) := by show MapIs _ _ _ _; rw [← hW7]; exact MapIs.made W6
  have A7 := Lib.hid (A6.out.step L7.out)
  have O7 : Hid (ab < W6.heap.size) := A6.out.aud.blk.sz
  have HW7 := Lib.hid hW7
  clear hW7
  go_wp2_with fail
  clear b0 b1 b2 b3 b4 b5 b6 b7 b8 b9 k1 hput
  rw [rounds_succ]; go_wp2_with fail
  rw [HW7.out]
  clear HW7 L7 A6
  generalize W6.heap.size = m3 at M7 O7 ⊢
  have I7 := HI.out.below A7.out.bel
  have p0 : W7.cell? ⟨pb, 0, none⟩ = some (.string ⟨#[97, 97]⟩) := I7.pk.cell 0 _ rfl
  have p1 : W7.cell? ⟨pb, 1, none⟩ = some (.string ⟨#[49, 45, 49]⟩) := I7.pk.cell 1 _ rfl
  have p2 : W7.cell? ⟨pb, 2, none⟩ = some (.string ⟨#[97, 108, 108]⟩) := I7.pk.cell 2 _ rfl
  have p3 : W7.cell? ⟨pb, 3, none⟩ = some (.string ⟨#[115]⟩) := I7.pk.cell 3 _ rfl
  have p4 : W7.cell? ⟨pb, 4, none⟩ = some (.slice none 0 0) := I7.pk.cell 4 _ rfl
  have p5 : W7.cell? ⟨pb, 5, none⟩ = some (.slice none 0 0) := I7.pk.cell 5 _ rfl
  have p6 : W7.cell? ⟨pb, 6, none⟩ = some (.slice none 0 0) := I7.pk.cell 6 _ rfl
  have p7 : W7.cell? ⟨pb, 7, none⟩ = some (.slice (some ⟨fb, 0, none⟩) 1 1) := I7.pk.cell 7 _ rfl
  have p8 : W7.cell? ⟨pb, 8, none⟩ = some (.slice none 0 0) := I7.pk.cell 8 _ rfl
  have hixP : ∀ W, (Instr.indexAt 39 (.slice (some ⟨pb, 0, none⟩) 1 c1) (.int .i64 0)).run Tryz.prog W = .ok (.pointer (some ⟨pb, 0, none⟩)) W := fun W => by
    have := idx_of (T := 39) (E := 33) (sz := 9) (n := 1) (k := 0) (c := c1) (A := some ⟨pb, 0, none⟩) (off := 0) (b := pb) Tryz.underlying39 rfl Tryz.sizeOf33 rfl (by omega) W
    simpa using this
  have hixF : ∀ W, (Instr.indexAt 28 (.slice (some ⟨fb, 0, none⟩) 1 1) (.int .i64 0)).run Tryz.prog W = .ok (.pointer (some ⟨fb, 0, none⟩)) W := fun W => by
    have := idx_of (T := 28) (E := 27) (sz := 8) (n := 1) (k := 0) (c := 1) (A := some ⟨fb, 0, none⟩) (off := 0) (b := fb) Tryz.underlying28 rfl Tryz.sizeOf27 rfl (by omega) W
    simpa using this
  obtain ⟨W8, hW8⟩ : ∃ W8, W7.alloc (.cells #[.string ⟨#[97, 97]⟩, .string ⟨#[49, 45, 49]⟩, .string ⟨#[97, 108, 108]⟩, .string ⟨#[115]⟩, .slice none 0 0, .slice none 0 0, .slice none 0 0, .slice (some ⟨fb, 0, none⟩) 1 1, .slice none 0 0] 33) = W8 := ⟨_, rfl⟩
  have L8 : Hid (Below W7.heap.size W7 W8) := by show Below _ _ _; rw [← hW8]; exact (Below.refl _ _).alloc (Nat.le_refl _) _
  have B8 : Hid (Blk W8 W7.heap.size (pkA fb).cells) := by show Blk _ _ _; rw [← hW8]; exact Blk.new W7 (pkA fb).cells _
  have A8 := Lib.hid (A7.out.step L8.out)
  have M8 := Lib.hid (M7.out.below L8.out)
  have HW8 := Lib.hid hW8
  clear hW8
  refine wp_loop_rounds 2 ?_; rw [rounds_succ]
  go_upto_region 17 with (fail)
  rw [HW8.out]
  clear HW8 p0 p1 p2 p3 p4 p5 p6 p7 p8 hixP I7 L8
  have q7 : W8.cell? ⟨W7.heap.size, 7, none⟩ = some (.slice (some ⟨fb, 0, none⟩) 1 1) := B8.out.cell 7 _ rfl
  go_wp2_with fail
  have I8 := HI.out.below A8.out.bel
  have f0 : W8.cell? ⟨fb, 0, none⟩ = some (.string ⟨#[97]⟩) := I8.file.cell 0 _ rfl
  have f1 : W8.cell? ⟨fb, 1, none⟩ = some (.int .i64 2) := I8.file.cell 1 _ rfl
  have f2 : W8.cell? ⟨fb, 2, none⟩ = some (.int .i64 0) := I8.file.cell 2 _ rfl
  have f3 : W8.cell? ⟨fb, 3, none⟩ = some (.string ⟨#[114, 111, 111, 116]⟩) := I8.file.cell 3 _ rfl
  have f4 : W8.cell? ⟨fb, 4, none⟩ = some (.string ⟨#[114, 111, 111, 116]⟩) := I8.file.cell 4 _ rfl
  have f5 : W8.cell? ⟨fb, 5, none⟩ = some (.string ⟨#[]⟩) := I8.file.cell 5 _ rfl
  have f6 : W8.cell? ⟨fb, 6, none⟩ = some (.string ⟨#[]⟩) := I8.file.cell 6 _ rfl
  have f7 : W8.cell? ⟨fb, 7, none⟩ = some (.bool false) := I8.file.cell 7 _ rfl
  obtain ⟨W9, hW9⟩ : ∃ W9, W8.alloc (.cells #[.string ⟨#[97]⟩, .int .i64 2, .int .i64 0, .string ⟨#[114, 111, 111, 116]⟩, .string ⟨#[114, 111, 111, 116]⟩, .string ⟨#[]⟩, .string ⟨#[]⟩, .bool false] 27) = W9 := ⟨_, rfl⟩
  have L9 : Hid (Below W8.heap.size W8 W9) := by show Below _ _ _; rw [← hW9]; exact (Below.refl _ _).alloc (Nat.le_refl _) _
  have B9 : Hid (Blk W9 W8.heap.size fiA.toList) := by show Blk _ _ _; rw [← hW9]; exact Blk.new W8 fiA.toList _
  have A9 := Lib.hid (A8.out.step L9.out)
  have M9 := Lib.hid (M8.out.below L9.out)
  have HW9 := Lib.hid hW9
  have OM : Hid (m3 < W8.heap.size) := M8.out.lt
  clear hW9
  refine wp_loop_rounds 2 ?_; rw [rounds_succ]
  go_upto_region 20 with (fail)
  rw [HW9.out]
  clear HW9 f0 f1 f2 f3 f4 f5 f6 f7 hixF I8 L9 q7
  have g0 := B9.out.cell 0 _ rfl
  have g1 := B9.out.cell 1 _ rfl
  have g2 := B9.out.cell 2 _ rfl
  have g3 := B9.out.cell 3 _ rfl
  have g4 := B9.out.cell 4 _ rfl
  have g5 := B9.out.cell 5 _ rfl
  have g6 := B9.out.cell 6 _ rfl
  have g7 := B9.out.cell 7 _ rfl
  obtain ⟨W10, hput, hm10, hg10⟩ := M9.out.put Tryz.underlying54 (by unfold maxLen; omega) ⟨#[97]⟩ (by decide) (.agg #[.string ⟨#[97]⟩, .int .i64 2, .int .i64 0, .string ⟨#[114, 111, 111, 116]⟩, .string ⟨#[114, 111, 111, 116]⟩, .string ⟨#[]⟩, .string ⟨#[]⟩, .bool false])
  have A10 := Lib.hid (A9.out.far hg10 O7.out)
  have M10 := Lib.hid hm10
  have B10 := Lib.hid (B9.out.grownC hg10 (by have := OM.out; omega))
  clear hm10 hg10 A9 M9 B9
  have k0 := B10.out.cell 0 _ rfl
  have k1 := B10.out.cell 1 _ rfl
  have k2 := B10.out.cell 2 _ rfl
  have k3 := B10.out.cell 3 _ rfl
  have k4 := B10.out.cell 4 _ rfl
  have k5 := B10.out.cell 5 _ rfl
  have k6 := B10.out.cell 6 _ rfl
  have k7 := B10.out.cell 7 _ rfl
  go_wp2_with fail
  clear g0 g1 g2 g3 g4 g5 g6 g7 k0 k1 k2 k3 k4 k5 k6 k7 hput B10
  have HH := hold_a ab m1 m2 _ _ W10 A10.out.aud A10.out.ent (by decide)
  unfold fiA at HH
  refine HH.mono ?_; rintro e w11 ⟨rfl, hh, hg⟩
  have A11 := Lib.hid (A10.out.noted hg hh)
  have M11 := Lib.hid (M10.out.kept hg (by have := A10.out.ord; have := O7.out; intro e; injection e with e; omega))
  clear hh hg A10 M10 HH
  go_wp2_with fail
  rw [rounds_succ]; go_wp2_with fail
  rw [rounds_succ]; go_wp2_with fail
  have I11 := HI.out.below A11.out.bel
  refine (Owners_A fb pb c1 w11 (dbA_ok I11.file I11.pk)).mono ?_; rintro e w12 ⟨ob, oo, oc, x, rfl, hx1, ⟨ho0, ho1⟩, hb12⟩
  have A12 := Lib.hid (A11.out.step hb12)
  have M12 := Lib.hid (M11.out.below hb12)
  unfold OwL.sl at ho1
  rw [hx1] at ho1
  clear hx1 hb12 A11 M11 I11
  have hixO : ∀ W, (Instr.indexAt 56 (.slice (some ⟨ob, oo, none⟩) 1 oc) (.int .i64 0)).run Tryz.prog W = .ok (.pointer (some ⟨ob, oo, none⟩)) W := fun W => by
    have := idx_of (T := 56) (E := 59) (sz := 2) (n := 1) (k := 0) (c := oc) (A := some ⟨ob, oo, none⟩) (off := oo) (b := ob) Tryz.underlying56 rfl Tryz.sizeOf59 rfl (by omega) W
    simpa using this
  obtain ⟨W13, hW13⟩ : ∃ W13, w12.alloc (.cells #[.string x.path, .slice x.na 1 x.nc] 59) = W13 := ⟨_, rfl⟩
  have L13 : Hid (Below w12.heap.size w12 W13) := by show Below _ _ _; rw [← hW13]; exact (Below.refl _ _).alloc (Nat.le_refl _) _
  have B13 : Hid (Blk W13 w12.heap.size [.string x.path, .slice x.na 1 x.nc]) := by show Blk _ _ _; rw [← hW13]; exact Blk.new w12 [.string x.path, .slice x.na 1 x.nc] _
  have A13 := Lib.hid (A12.out.step L13.out)
  have M13 := Lib.hid (M12.out.below L13.out)
  have HW13 := Lib.hid hW13
  clear hW13
  go_wp2_with fail
  refine wp_loop_rounds 2 ?_; rw [rounds_succ]
  go_upto_region 27 with (fail)
  rw [HW13.out]
  clear HW13 ho0 ho1 hixO L13 A12 M12
  have n1 := B13.out.cell 1 _ rfl
  go_wp2_with fail
  rw [rounds_succ]; go_wp2_with fail
  clear n1 B13
  have I13 := HI.out.below A13.out.bel
  have e0 := I13.ent.cell 0 _ rfl
  have e1 := I13.ent.cell 1 _ rfl
  have e2 := I13.ent.cell 2 _ rfl
  have e3 := I13.ent.cell 3 _ rfl
  have e4 := I13.ent.cell 4 _ rfl
  have e5 := I13.ent.cell 5 _ rfl
  have e6 := I13.ent.cell 6 _ rfl
  have e7 := I13.ent.cell 7 _ rfl
  have e8 := I13.ent.cell 8 _ rfl
  have e9 := I13.ent.cell 9 _ rfl
  have hixE : ∀ W, (Instr.indexAt 43 (.slice (some ⟨eb, 0, none⟩) 1 c2) (.int .i64 0)).run Tryz.prog W = .ok (.pointer (some ⟨eb, 0, none⟩)) W := fun W => by
    have := idx_of (T := 43) (E := 42) (sz := 10) (n := 1) (k := 0) (c := c2) (A := some ⟨eb, 0, none⟩) (off := 0) (b := eb) Tryz.underlying43 rfl Tryz.sizeOf42 rfl (by omega) W
    simpa using this
  obtain ⟨W14, hW14⟩ : ∃ W14, W13.alloc (.cells #[.string ⟨#[98]⟩, .int .i64 1, .int .i64 0, .int .i64 0, .int .i64 0, .string ⟨#[]⟩, .string ⟨#[]⟩, .int .i64 0, .string ⟨#[]⟩, .slice none 0 0] 42) = W14 := ⟨_, rfl⟩
  have L14 : Hid (Below W13.heap.size W13 W14) := by show Below _ _ _; rw [← hW14]; exact (Below.refl _ _).alloc (Nat.le_refl _) _
  have B14 : Hid (Blk W14 W13.heap.size enL) := by show Blk _ _ _; rw [← hW14]; exact Blk.new W13 enL _
  have A14 := Lib.hid (A13.out.step L14.out)
  have M14 := Lib.hid (M13.out.below L14.out)
  have HW14 := Lib.hid hW14
  clear hW14
  refine wp_loop_rounds 2 ?_; rw [rounds_succ]
  go_upto_region 33 with (fail)
  rw [HW14.out]
  clear HW14 e0 e1 e2 e3 e4 e5 e6 e7 e8 e9 hixE L14 A13 M13 I13
  have b0 := B14.out.cell 0 _ rfl
  have lk := M14.out.look_ok Tryz.underlying54 zero_file ⟨#[98]⟩ (by decide)
  rw [show (if (⟨#[98]⟩ : ByteArray) = ⟨#[97]⟩ then some (Value.agg #[.string ⟨#[97]⟩, .int .i64 2, .int .i64 0, .string ⟨#[114, 111, 111, 116]⟩, .string ⟨#[114, 111, 111, 116]⟩, .string ⟨#[]⟩, .string ⟨#[]⟩, .bool false]) else none) = none from by decide] at lk
  simp only [Option.getD_none, Option.isSome_none] at lk
  unfold zeF at lk
  obtain ⟨W15, hW15⟩ : ∃ W15, W14.alloc (.cells #[.string ⟨#[]⟩, .int .i64 0, .int .i64 0, .string ⟨#[]⟩, .string ⟨#[]⟩, .string ⟨#[]⟩, .string ⟨#[]⟩, .bool false] 27) = W15 := ⟨_, rfl⟩
  have L15 : Hid (Below W14.heap.size W14 W15) := by show Below _ _ _; rw [← hW15]; exact (Below.refl _ _).alloc (Nat.le_refl _) _
  have A15 := Lib.hid (A14.out.step L15.out)
  have B15 := Lib.hid (B14.out.below L15.out)
  have HW15 := Lib.hid hW15
  clear hW15
  go_upto_region 35 with (fail)
  rw [HW15.out]
  clear HW15 b0 lk L15 A14 M14 B14
  go_wp2_with fail
  refine (roots_any rb c3 _ W15 (HI.out.below A15.out.bel).root).mono ?_; rintro e w16 ⟨rfl, hb16⟩
  have A16 := Lib.hid (A15.out.step hb16)
  have B16 := Lib.hid (B15.out.below hb16)
  clear hb16 A15 B15
  have b0 := B16.out.cell 0 _ rfl
  go_wp2_with fail
  clear b0
  have HN := note_of ab m1 m2 1 1 1 #[ZN KA 1 0] E2 ⟨#[98]⟩ 5 w16 A16.out.aud (fun w => findB0 w 1 0) (fun w => findB1 w 1 0 0 1) (fi_1 _ _ _) (by rfl)
  refine HN.mono ?_; rintro e w17 ⟨rfl, hh, hg⟩
  have A17 := Lib.hid (A16.out.noted hg hh)
  clear hh hg A16 HN B16
  have k2 := A17.out.aud.blk.cell 2 _ rfl
  go_wp2_with fail
  rw [rounds_succ]; go_wp2_with fail
  refine (Keys_f m2 w17).mono ?_; rintro e w' ⟨rfl, rfl⟩
  clear k2
  have L18 : Hid (Below w17.heap.size w17 (w17.alloc (.cells #[.map (some m2)] 51))) := (Below.refl _ _).alloc (Nat.le_refl _) _
  have A18 := Lib.hid (A17.out.step L18.out)
  have K18 : Hid ((w17.alloc (.cells #[.map (some m2)] 51)).cell? ⟨w17.heap.size, 0, none⟩ = some (.map (some m2))) := by show _ = _; simp
  have hsz : w17.heap.size < (w17.alloc (.cells #[.map (some m2)] 51)).heap.size := by simp
  have HS := SortedFunc_f w17.heap.size m2 _ hsz K18.out A18.out.aud.map
  clear hsz
  go_wp2_with fail
  refine HS.mono ?_; rintro e w19 ⟨g, cap, rfl, hb19, hcells⟩
  have A19 := Lib.hid (A18.out.step hb19)
  have HC := Lib.hid hcells
  clear hb19 hcells HS A17 A18 K18 L18
  have r0 : w19.cell? ⟨w.heap.size, 0, none⟩ = some (.string ⟨#[]⟩) := A19.out.res.cell 0 _ rfl
  have r1 : w19.cell? ⟨w.heap.size, 1, none⟩ = some (.string ⟨#[]⟩) := A19.out.res.cell 1 _ rfl
  have r2 : w19.cell? ⟨w.heap.size, 2, none⟩ = some (.int .i64 0) := A19.out.res.cell 2 _ rfl
  have z0 := A19.out.res.free 0 (by decide)
  have z1 := A19.out.res.free 1 (by decide)
  have z2 := A19.out.res.free 2 (by decide)
  have HGR : Hid (g ≠ w.heap.size) := by
    intro e
    have h := HC.out.1
    rw [e, r0] at h
    injection h with h; injection h with h
    exact absurd h (by decide)
  go_wp2_with fail
  refine bodyPost_ret (v := .tuple #[.slice (some ⟨g, 0, none⟩) 2 cap, .agg #[.string ⟨#[]⟩, .string ⟨#[]⟩, .int .i64 0]]) ?_ rfl ?_
  · simp [results, Tryz.results7, go_sem, r0, r1, r2]
  · refine ⟨g, cap, rfl, A19.out.res |> fun _ => below_set (below_set (below_set A19.out.bel (Nat.le_refl _) _) (Nat.le_refl _) _) (Nat.le_refl _) _, ?_⟩
    have hk : ∀ k, (((w19.setCell ⟨w.heap.size, 0, none⟩ (.string ⟨#[]⟩)).setCell ⟨w.heap.size, 1, none⟩ (.string ⟨#[]⟩)).setCell ⟨w.heap.size, 2, none⟩ (.int .i64 0)).cell? ⟨g, k, none⟩ = w19.cell? ⟨g, k, none⟩ := fun k => by
      rw [World.cell?_setCell_other (h := by intro h; injection h with h; exact HGR.out h.symm), World.cell?_setCell_other (h := by intro h; injection h with h; exact HGR.out h.symm), World.cell?_setCell_other (h := by intro h; injection h with h; exact HGR.out h.symm)]
    rw [hk, hk, hk, hk]
    exact HC.out
end
end Go.Proofs.YtfgidaaipmbibaaGreatDoor
