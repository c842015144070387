/- A part of the proof of a law on which findings a policy admits. No condition. -/
import Derived.Test.YtfgidaaipmbibaaGreatDoorF45
set_option maxRecDepth 100000
set_option maxHeartbeats 20000000
set_option linter.unusedVariables false
set_option linter.unusedSimpArgs false
namespace Go.Proofs.YtfgidaaipmbibaaGreatDoor
section
open Go.RowKit Go.Maps Go.Shelf
theorem adm1 : admB [1] [fA, fB] = false := by rfl
theorem adm2 : admB [5, 1] [fA, fB] = true := by rfl
theorem rd_ints (w : World) (l : List Int) (t : TypeId) : Rd (w.alloc (.cells (intC l).toArray t)) 1 (some ⟨w.heap.size, 0, none⟩) l.length (intC l) :=
  ⟨by simp [intC], fun _ => ⟨_, 0, rfl, fun j u hu => by simpa using (Blk.new w (intC l) t).cell j u hu⟩⟩
theorem law30_awake (w : World) (hG : Gl w) : Calls Tryz.prog 4 #[] w fun e w' => e = .returned (.bool true) ∧ Below w.heap.size w w' := by
  have HG := Lib.hid hG
  clear hG
  obtain ⟨W1, hW1⟩ : ∃ W1, w.alloc (.cells #[.string ⟨#[97]⟩, .int .i64 2, .int .i64 0, .string ⟨#[114, 111, 111, 116]⟩, .string ⟨#[114, 111, 111, 116]⟩, .string ⟨#[]⟩, .string ⟨#[]⟩, .bool false] 27) = W1 := ⟨_, rfl⟩
  obtain ⟨W2, hW2⟩ : ∃ W2, W1.alloc (.cells #[.string ⟨#[97, 97]⟩, .string ⟨#[49, 45, 49]⟩, .string ⟨#[97, 108, 108]⟩, .string ⟨#[115]⟩, .slice none 0 0, .slice none 0 0, .slice none 0 0, .slice (some ⟨w.heap.size, 0, none⟩) 1 1, .slice none 0 0] 33) = W2 := ⟨_, rfl⟩
  obtain ⟨W3, hW3⟩ : ∃ W3, W2.alloc (.cells #[.string ⟨#[97, 97]⟩, .string ⟨#[49, 45, 49]⟩, .string ⟨#[97, 108, 108]⟩, .string ⟨#[115]⟩, .slice none 0 0, .slice none 0 0, .slice none 0 0, .slice (some ⟨w.heap.size, 0, none⟩) 1 1, .slice none 0 0] 33) = W3 := ⟨_, rfl⟩
  obtain ⟨W4, hW4⟩ : ∃ W4, W3.alloc (.cells #[.string ⟨#[98]⟩, .int .i64 1, .int .i64 0, .int .i64 0, .int .i64 0, .string ⟨#[]⟩, .string ⟨#[]⟩, .int .i64 0, .string ⟨#[]⟩, .slice none 0 0] 42) = W4 := ⟨_, rfl⟩
  obtain ⟨W5, hW5⟩ : ∃ W5, W4.alloc (.cells #[.string ⟨#[]⟩] 9) = W5 := ⟨_, rfl⟩
  have b1 : Blk W1 w.heap.size fileA.cells := by rw [← hW1]; exact Blk.new w fileA.cells _
  have l1 : Below w.heap.size w W1 := by rw [← hW1]; exact (Below.refl _ _).alloc (Nat.le_refl _) _
  have l2 : Below W1.heap.size W1 W2 := by rw [← hW2]; exact (Below.refl _ _).alloc (Nat.le_refl _) _
  have b3 : Blk W3 W2.heap.size (pkA w.heap.size).cells := by rw [← hW3]; exact Blk.new W2 (pkA w.heap.size).cells _
  have l3 : Below W2.heap.size W2 W3 := by rw [← hW3]; exact (Below.refl _ _).alloc (Nat.le_refl _) _
  have b4 : Blk W4 W3.heap.size enL := by rw [← hW4]; exact Blk.new W3 enL _
  have l4 : Below W3.heap.size W3 W4 := by rw [← hW4]; exact (Below.refl _ _).alloc (Nat.le_refl _) _
  have b5 : Blk W5 W4.heap.size [.string ⟨#[]⟩] := by rw [← hW5]; exact Blk.new W4 [.string ⟨#[]⟩] _
  have l5 : Below W4.heap.size W4 W5 := by rw [← hW5]; exact (Below.refl _ _).alloc (Nat.le_refl _) _
  have s1 : W1.heap.size = w.heap.size + 1 := by rw [← hW1]; simp
  have s2 : W2.heap.size = w.heap.size + 1 + 1 := by rw [← hW2]; simp [s1]
  have s3 : W3.heap.size = w.heap.size + 1 + 1 + 1 := by rw [← hW3]; simp [s2]
  have s4 : W4.heap.size = w.heap.size + 1 + 1 + 1 + 1 := by rw [← hW4]; simp [s3]
  have L5 := Lib.hid (bthen (bthen (bthen (bthen l1 l2) l3) l4) l5)
  have I5 : Hid (InA W5 w.heap.size (w.heap.size + 1 + 1) (w.heap.size + 1 + 1 + 1) (w.heap.size + 1 + 1 + 1 + 1)) :=
    ⟨(((b1.below l2).below l3).below l4).below l5, s2 ▸ (b3.below l4).below l5, s3 ▸ b4.below l5, s4 ▸ b5⟩
  have HW : Hid (((((w.alloc (.cells #[.string ⟨#[97]⟩, .int .i64 2, .int .i64 0, .string ⟨#[114, 111, 111, 116]⟩, .string ⟨#[114, 111, 111, 116]⟩, .string ⟨#[]⟩, .string ⟨#[]⟩, .bool false] 27)).alloc (.cells #[.string ⟨#[97, 97]⟩, .string ⟨#[49, 45, 49]⟩, .string ⟨#[97, 108, 108]⟩, .string ⟨#[115]⟩, .slice none 0 0, .slice none 0 0, .slice none 0 0, .slice (some ⟨w.heap.size, 0, none⟩) 1 1, .slice none 0 0] 33)).alloc (.cells #[.string ⟨#[97, 97]⟩, .string ⟨#[49, 45, 49]⟩, .string ⟨#[97, 108, 108]⟩, .string ⟨#[115]⟩, .slice none 0 0, .slice none 0 0, .slice none 0 0, .slice (some ⟨w.heap.size, 0, none⟩) 1 1, .slice none 0 0] 33)).alloc (.cells #[.string ⟨#[98]⟩, .int .i64 1, .int .i64 0, .int .i64 0, .int .i64 0, .string ⟨#[]⟩, .string ⟨#[]⟩, .int .i64 0, .string ⟨#[]⟩, .slice none 0 0] 42)).alloc (.cells #[.string ⟨#[]⟩] 9) = W5) := by
    show _ = _
    rw [hW1, hW2, hW3, hW4, hW5]
  clear b1 l1 l2 b3 l3 b4 l4 b5 l5 s1 s2 s3 s4 hW1 hW2 hW3 hW4 hW5
  go_enter Tryz.func4, Tryz.ntmps4
  go_wp2_with fail
  rw [HW.out]
  clear HW
  refine (Audit_A _ _ _ _ 1 1 1 W5 (HG.out.below L5.out) I5.out).mono ?_; rintro e w6 ⟨g, cap, rfl, hb6, c0, c1, c2, c3⟩
  have L6 := Lib.hid (bthen L5.out hb6)
  have RF6 : Hid (Rd w6 2 (some ⟨g, 0, none⟩) 2 ([fA, fB].flatMap finC)) := ⟨rfl, fun _ => ⟨g, 0, rfl, fun j u hu => by
    match j, hu with
    | 0, hu => obtain rfl := Option.some.inj hu; simpa [fA] using c0
    | 1, hu => obtain rfl := Option.some.inj hu; simpa [fA] using c1
    | 2, hu => obtain rfl := Option.some.inj hu; simpa [fB] using c2
    | 3, hu => obtain rfl := Option.some.inj hu; simpa [fB] using c3⟩⟩
  clear hb6 c0 c1 c2 c3 I5 L5
  obtain ⟨W7, hW7⟩ : ∃ W7, w6.alloc (.cells #[.string ⟨#[]⟩, .string ⟨#[]⟩, .int .i64 0] 36) = W7 := ⟨_, rfl⟩
  have L67 : Hid (Below w6.heap.size w6 W7) := by show Below _ _ _; rw [← hW7]; exact (Below.refl _ _).alloc (Nat.le_refl _) _
  have B7 : Hid (Blk W7 w6.heap.size rfL) := by show Blk _ _ _; rw [← hW7]; exact Blk.new w6 rfL _
  have L7 := Lib.hid (bthen L6.out L67.out)
  have RF7 := Lib.hid (RF6.out.below L67.out)
  have HW7 := Lib.hid hW7
  clear hW7 L6 L67 RF6
  have i0 : ∀ W, (Instr.indexAt 23 (.slice (some ⟨g, 0, none⟩) 2 cap) (.int .i64 0)).run Tryz.prog W = .ok (.pointer (some ⟨g, 0, none⟩)) W := fun W => by
    have := idx_of (T := 23) (E := 45) (sz := 2) (n := 2) (k := 0) (c := cap) (A := some ⟨g, 0, none⟩) (off := 0) (b := g) Tryz.underlying23 rfl Tryz.sizeOf45 rfl (by omega) W
    simpa using this
  have i1 : ∀ W, (Instr.indexAt 23 (.slice (some ⟨g, 0, none⟩) 2 cap) (.int .i64 1)).run Tryz.prog W = .ok (.pointer (some ⟨g, 2, none⟩)) W := fun W => by
    have := idx_of (T := 23) (E := 45) (sz := 2) (n := 2) (k := 1) (c := cap) (A := some ⟨g, 0, none⟩) (off := 0) (b := g) Tryz.underlying23 rfl Tryz.sizeOf45 rfl (by omega) W
    simpa using this
  go_upto_region 3 with (fail)
  rw [HW7.out]
  clear HW7
  obtain ⟨b, off, hA, he⟩ := RF7.out.2 (by omega)
  injection hA with hA; injection hA with hA1 hA2
  subst hA1; subst hA2
  have d0 : W7.cell? ⟨g, 0, none⟩ = some (.string ⟨#[97]⟩) := by simpa using he 0 (.string ⟨#[97]⟩) rfl
  have d1 : W7.cell? ⟨g, 1, none⟩ = some (.int .i64 1) := by simpa using he 1 (.int .i64 1) rfl
  have d2 : W7.cell? ⟨g, 2, none⟩ = some (.string ⟨#[98]⟩) := by simpa using he 2 (.string ⟨#[98]⟩) rfl
  have d3 : W7.cell? ⟨g, 3, none⟩ = some (.int .i64 5) := by simpa using he 3 (.int .i64 5) rfl
  have r0 : W7.cell? ⟨w6.heap.size, 0, none⟩ = some (.string ⟨#[]⟩) := B7.out.cell 0 _ rfl
  have r1 : W7.cell? ⟨w6.heap.size, 1, none⟩ = some (.string ⟨#[]⟩) := B7.out.cell 1 _ rfl
  have r2 : W7.cell? ⟨w6.heap.size, 2, none⟩ = some (.int .i64 0) := B7.out.cell 2 _ rfl
  clear he
  have RI8 := Lib.hid (rd_ints W7 [1] 3)
  have L8 : Hid (Below W7.heap.size W7 (W7.alloc (.cells (intC [1]).toArray 3))) := (Below.refl _ _).alloc (Nat.le_refl _) _
  have AD := audit_Admits (some ⟨W7.heap.size, 0, none⟩) (some ⟨g, 0, none⟩) 1 cap [1] [fA, fB] _ RI8.out (RF7.out.below L8.out) (by decide) (by decide)
  rw [adm1] at AD
  go_wp2_with fail
  refine AD.mono ?_; rintro e w9 ⟨rfl, hb9⟩
  have L9 := Lib.hid (bthen (bthen L7.out L8.out) hb9)
  have RF9 := Lib.hid ((RF7.out.below L8.out).below hb9)
  clear hb9 AD RI8 L8 L7 RF7 d0 d1 d2 d3 r0 r1 r2 i0 i1 B7
  have RI10 := Lib.hid (rd_ints w9 [5, 1] 3)
  have L10 : Hid (Below w9.heap.size w9 (w9.alloc (.cells (intC [5, 1]).toArray 3))) := (Below.refl _ _).alloc (Nat.le_refl _) _
  have AD := audit_Admits (some ⟨w9.heap.size, 0, none⟩) (some ⟨g, 0, none⟩) 2 cap [5, 1] [fA, fB] _ RI10.out (RF9.out.below L10.out) (by decide) (by decide)
  rw [adm2] at AD
  go_wp2_with fail
  refine AD.mono ?_; rintro e w11 ⟨rfl, hb11⟩
  have L11 := Lib.hid (bthen (bthen L9.out L10.out) hb11)
  clear hb11 AD
  go_wp2_with fail
  go_ret
  exact ⟨rfl, L11.out⟩
end
end Go.Proofs.YtfgidaaipmbibaaGreatDoor
