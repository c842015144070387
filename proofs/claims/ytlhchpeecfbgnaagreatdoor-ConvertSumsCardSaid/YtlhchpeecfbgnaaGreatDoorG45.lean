/- A part of the proof that the digests of any content are the three of it, and that an installed set is new memory. No condition. -/
import Derived.Test.YtlhchpeecfbgnaaGreatDoorG29
set_option maxRecDepth 100000
set_option maxHeartbeats 20000000
set_option linter.unusedVariables false
set_option linter.unusedSimpArgs false
namespace Go.Proofs.YtlhchpeecfbgnaaGreatDoor
section
open Go.RowKit
theorem info_refC : (Tryz.prog.info? 49).map (fun i => (i.zero, i.size, i.bytes)) = some (some (.agg #[.string ⟨#[]⟩, .string ⟨#[]⟩, .int .i64 0]), 3, 40) := by kernel_rfl
theorem reads_threeD (w : World) (t : TypeId) (x y z : Value) : Reads ((w.alloc (.cells #[x, y, z] t)).drew) (w.heap.size + 1) 3 (some ⟨w.heap.size, 0, none⟩) 1 [x, y, z] := reads_three w t x y z
def cvC (a b : Int) (m r : Value) : List Value := [.int .i64 a, .int .i64 b, m, r]
def RefPost (a b : Int) (m : Value) (kb : Nat) (nm what : ByteArray) (code : Int) (w w' : World) : Prop :=
  ∃ g c, Blk w' kb (cvC a b m (.slice (some ⟨g, 0, none⟩) 1 c)) ∧ Blk w' g [.string nm, .string what, .int .i64 code] ∧ w.heap.size ≤ g ∧ w.grownBy w' (some kb)
theorem grown_some {a b : World} {k : Nat} (h : a.grownBy b none) : a.grownBy b (some k) := ⟨h.os, h.tape, h.output, h.size, fun i hi _ => h.block i hi (by simp)⟩
theorem owns_blk {w : World} {base : Nat} {e : TypeId} {size n c : Nat} {g : Nat} {xs : List Value} (h : w.ownsRow base e size (.slice (some ⟨g, 0, none⟩) n c) n xs) : Blk w g xs := by
  refine ⟨(h.lt g rfl).2, fun j u hu => ?_, fun j hj => h.frozenAt j⟩
  have hc := h.cells (g := g) rfl j u hu
  rw [show Addr.add ⟨g, 0, none⟩ j = ⟨g, j, none⟩ by unfold Addr.add; split <;> simp_all] at hc
  exact hc
theorem convert_refuse (a b : Int) (m : Value) (kb s : Nat) (nm what : ByteArray) (code : Int) (pr : List Value) (w : World) (hk : Blk w kb (cvC a b m (.slice none 0 0))) (hs : Blk w s [.pointer (some ⟨kb, 0, none⟩)]) (hp : Blk w (s + 1) (.string nm :: pr)) :
    Calls Tryz.prog 44 #[.string what, .int .i64 code, .pointer (some ⟨s, 0, none⟩), .pointer (some ⟨s + 1, 0, none⟩)] w fun e w' => e = .returned (.tuple #[]) ∧ RefPost a b m kb nm what code w w' := by
  obtain ⟨i0, hi0, hz0, hz1, hz2⟩ := info_parts info_refC
  have c0 := hs.cell 0 _ rfl
  have c1 := hp.cell 0 _ rfl
  have c3 := hk.cell 3 _ rfl
  have n0 := fun o => (World.cell?_alloc_lt w o ⟨s, 0, none⟩ hs.sz).trans c0
  have n1 := fun o => (World.cell?_alloc_lt w o ⟨s + 1, 0, none⟩ hp.sz).trans c1
  have n3 := fun o => (World.cell?_alloc_lt w o ⟨kb, 3, none⟩ hk.sz).trans c3
  have HK := Lib.hid hk
  have HS := Lib.hid hs
  have HP := Lib.hid hp
  clear hk hs hp
  go_enter Tryz.func44, Tryz.ntmps44
  go_wp2_with fail
  go_region_law
    (refine step_append_any _ (by rfl) _ _ _ (by rfl) w.heap.size 49 i0 _ 3 40 Tryz.underlying44 hi0 hz0 hz1 hz2 rfl (by omega) (.slice none 0 0) 0 [] (by rfl) (World.ownsRow_nil _ _ _ _) (w.heap.size + 1) (some ⟨w.heap.size, 0, none⟩) 1 1 [.string nm, .string what, .int .i64 code] (by rfl) (reads_threeD w _ _ _ _) (by simp [Value.oneCell']) (by simp only [maxLen]; omega) (by omega) (by simp) ?_
     intro v6 w6 hown6 hg6 hat6
     obtain ⟨g6, c6, rfl, hl6, hl6'⟩ := hown6.form (by decide)
     have K6 := Lib.hid (((HK.out.alloc (.cells #[.string nm, .string what, .int .i64 code] 49)).drew).grownQ hg6 (by simp [Value.ownBlock]))
     have S6 := Lib.hid (((HS.out.alloc (.cells #[.string nm, .string what, .int .i64 code] 49)).drew).grownQ hg6 (by simp [Value.ownBlock]))
     have x0 := S6.out.cell 0 _ rfl
     have x3 := K6.out.cell 3 _ rfl
     have f3 := K6.out.free 3 (by show _ < 4; omega))
  all_goals
    go_wp2_with fail
    go_end0
    have KF := K6.out.set 3 (by show 3 < 4; omega) (.slice (some ⟨g6, 0, none⟩) 1 c6)
    have GF := (owns_blk hown6).far (c := kb) (j := 3) (by have := HK.out.sz; omega) (.slice (some ⟨g6, 0, none⟩) 1 c6)
    exact ⟨rfl, g6, c6, KF, GF, hl6, only_setCell (grown_some (grown_thru (only_drewN (only_alloc (World.grownBy.refl w none) _) 1) hg6)) (.inl rfl) _⟩
end
end Go.Proofs.YtlhchpeecfbgnaaGreatDoor
