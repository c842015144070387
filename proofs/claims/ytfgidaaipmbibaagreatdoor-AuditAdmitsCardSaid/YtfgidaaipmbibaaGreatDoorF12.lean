/- A part of the proof of a law on which findings a policy admits. No condition. -/
import Derived.Deep.RegionHeld3
import Derived.LaidEqlPtr
import Derived.Laws.StructEq
import Derived.MapKept
import Derived.Shelf.SlSortCmp.SmallK
import Derived.Shelf.Strings.SlTrimAscii
import Derived.Test.YtfgidaaipmbibaaGreatDoorF09
set_option maxRecDepth 100000
set_option maxHeartbeats 20000000
set_option linter.unusedVariables false
set_option linter.unusedSimpArgs false
namespace Go.Proofs.YtfgidaaipmbibaaGreatDoor
section
open Go.RowKit
def wDb (l : List PkL) : Nat := (l.map fun p => 1 + wsum p).sum
theorem idx_int {T E : TypeId} {sz : Nat} (hT : Tryz.prog.underlying T = some (.slice (Tryz.prog.elem T))) (hE : Tryz.prog.elem T = E) (hs : ∀ w, (sizeOf E).run Tryz.prog w = .ok sz w)
    {A : Option Addr} {n c k b off : Nat} {i : Int} (hi : i = k) (hA : A = some ⟨b, off, none⟩) (hk : k < n) (w : World) : (Instr.indexAt T (.slice A n c) (.int .i64 i)).run Tryz.prog w = .ok (.pointer (some ⟨b, off + k * sz, none⟩)) w := by
  subst hi; exact idx_of hT hE hs hA hk w
end
section
open Go.RowKit Go.Shelf Go.Lib Go.Sort
def or2V (x y : Int) : Int := if x = 0 then y else x
theorem cmp_or2 (b c : Nat) (x y : Int) (W : World) (h0 : W.cell? ⟨b, 0, none⟩ = some (.int .i64 x)) (h1 : W.cell? ⟨b, 1, none⟩ = some (.int .i64 y)) :
    Calls Tryz.prog 20 #[.slice (some ⟨b, 0, none⟩) 2 c] W fun e w' => e = .returned (.int .i64 (or2V x y)) ∧ w' = W := by
  have i0 : ∀ W, (Instr.indexAt 22 (.slice (some ⟨b, 0, none⟩) 2 c) (.int .i64 0)).run Tryz.prog W = .ok (.pointer (some ⟨b, 0, none⟩)) W := fun W => by
    have := idx_of (T := 22) (E := 3) (sz := 1) (n := 2) (k := 0) (c := c) (A := some ⟨b, 0, none⟩) (off := 0) (b := b) Tryz.underlying22 rfl Tryz.sizeOf3 rfl (by omega) W
    simpa using this
  have i1 : ∀ W, (Instr.indexAt 22 (.slice (some ⟨b, 0, none⟩) 2 c) (.int .i64 1)).run Tryz.prog W = .ok (.pointer (some ⟨b, 1, none⟩)) W := fun W => by
    have := idx_of (T := 22) (E := 3) (sz := 1) (n := 2) (k := 1) (c := c) (A := some ⟨b, 0, none⟩) (off := 0) (b := b) Tryz.underlying22 rfl Tryz.sizeOf3 rfl (by omega) W
    simpa using this
  by_cases hx : x = 0
  · have qx : (x != 0) = false := by rw [hx]; rfl
    by_cases hy : y = 0
    · have qy : (y != 0) = false := by rw [hy]; rfl
      have E : Hid ((0 : Int) = or2V x y) := by show _ = _; unfold or2V; rw [if_pos hx, hy]
      clear hx hy
      go_enter Tryz.func20, Tryz.ntmps20
      go_wp2_with fail
      refine wp_loop_rounds 3 ?_; rw [rounds_succ]; go_wp2_with fail
      rw [rounds_succ]; go_wp2_with fail
      rw [rounds_succ]; go_wp2_with fail
      go_ret
      exact ⟨ret_int E.out, rfl⟩
    · have qy : (y != 0) = true := by simpa [bne] using hy
      have E : Hid (y = or2V x y) := by show _ = _; unfold or2V; rw [if_pos hx]
      clear hx hy
      go_enter Tryz.func20, Tryz.ntmps20
      go_wp2_with fail
      refine wp_loop_rounds 3 ?_; rw [rounds_succ]; go_wp2_with fail
      rw [rounds_succ]; go_wp2_with fail
      go_ret
      exact ⟨ret_int E.out, rfl⟩
  · have qx : (x != 0) = true := by simpa [bne] using hx
    have E : Hid (x = or2V x y) := by show _ = _; unfold or2V; rw [if_neg hx]
    clear hx
    go_enter Tryz.func20, Tryz.ntmps20
    go_wp2_with fail
    refine wp_loop_rounds 3 ?_; rw [rounds_succ]; go_wp2_with fail
    go_ret
    exact ⟨ret_int E.out, rfl⟩
end
end Go.Proofs.YtfgidaaipmbibaaGreatDoor
