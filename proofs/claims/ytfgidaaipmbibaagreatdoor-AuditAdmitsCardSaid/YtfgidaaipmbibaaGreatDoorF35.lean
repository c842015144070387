/- A part of the proof of a law on which findings a policy admits. No condition. -/
import Derived.Ground.GgzProg
import Derived.Ground.SlsfProg
import Derived.LoopIn
import Derived.LoopNIn
import Derived.Maps.OwnIn
import Derived.Maps.RangeRun
import Derived.OwnWalkIn
import Derived.RangeFuncBound
import Derived.RangeFuncCalls
import Derived.RangeFuncLeaves
import Derived.RangeFuncNested
import Derived.Shelf.Abstract
import Derived.Shelf.RegionOpen
import Derived.Shelf.SlGeneric
import Derived.Shelf.SlIter.Nil
import Derived.TacticsInMore
import Derived.Test.YtfgidaaipmbibaaGreatDoorF06
import Derived.Test.YtfgidaaipmbibaaGreatDoorF12
set_option maxRecDepth 100000
set_option maxHeartbeats 20000000
set_option linter.unusedVariables false
set_option linter.unusedSimpArgs false
namespace Go.Proofs.YtfgidaaipmbibaaGreatDoor
section
open Go.RowKit Go.Shelf Go.Lib Go.Sort
def encF (x : ByteArray × Int) : List Value := [.string x.1, .int .i64 x.2]
def cmpF (x y : ByteArray × Int) : Int := or2V (Lib.compareBytes x.1.data.toList y.1.data.toList) (Lib.compareInt x.2 y.2)
theorem cmp_clos (x y : ByteArray × Int) (W : World) : Calls Tryz.prog 19 #[.agg #[.string x.1, .int .i64 x.2], .agg #[.string y.1, .int .i64 y.2]] W fun e w' => e = .returned (.int .i64 (cmpF x y)) ∧ ∃ q os', w' = grow (W.drewN q) os' := by
  obtain ⟨x1, x2⟩ := x
  obtain ⟨y1, y2⟩ := y
  have hS := fun W => Tryz.strings_Compare x1 y1 W
  have hC := fun W => Tryz.cmp_Compare_int x2 y2 W
  unfold cmpF
  dsimp only
  generalize Lib.compareBytes x1.data.toList y1.data.toList = r1 at hS ⊢
  generalize Lib.compareInt x2 y2 = r2 at hC ⊢
  obtain ⟨W0, hW0⟩ : ∃ W0, (W.alloc (.cells #[.string x1, .int .i64 x2] 45)).alloc (.cells #[.string y1, .int .i64 y2] 45) = W0 := ⟨_, rfl⟩
  have c0 : W0.cell? ⟨W.heap.size, 0, none⟩ = some (.string x1) := by rw [← hW0]; simp
  have c1 : W0.cell? ⟨W.heap.size, 1, none⟩ = some (.int .i64 x2) := by rw [← hW0]; simp
  have c2 : W0.cell? ⟨W.heap.size + 1, 0, none⟩ = some (.string y1) := by rw [← hW0]; simp
  have c3 : W0.cell? ⟨W.heap.size + 1, 1, none⟩ = some (.int .i64 y2) := by rw [← hW0]; simp
  have G0 : Hid (W0 = grow (W.drewN 0) #[.cells #[.string x1, .int .i64 x2] 45, .cells #[.string y1, .int .i64 y2] 45]) := by
    show _ = _
    rw [← hW0, alloc_eq_grow, alloc_eq_grow, grow_grow]; rfl
  have HW0 := Lib.hid hW0
  clear hW0
  have hO := fun (W : World) => cmp_or2 W.heap.size 2 r1 r2 (W.alloc (.cells #[.int .i64 r1, .int .i64 r2] 3)) (by simp) (by simp)
  go_enter Tryz.func19, Tryz.ntmps19
  go_wp2_with fail
  rw [HW0.out]
  clear HW0
  go_still_tail 10, (by kernel_rfl)
  still_call (hS _)
  repeat still_step
  still_call (hC _)
  repeat still_step
  refine wpStill_nil ?_
  change wpList _ _ _ _ _ W0.drew
  have G1 : Hid (W0.drew = grow (W.drewN 1) #[.cells #[.string x1, .int .i64 x2] 45, .cells #[.string y1, .int .i64 y2] 45]) := by
    show _ = _
    rw [G0.out]; rfl
  clear c0 c1 c2 c3 hS hC G0
  generalize W0.drew = W2 at *
  go_wp2_with fail
  refine (hO _).mono ?_; rintro e w' ⟨rfl, rfl⟩
  clear hO
  go_wp2_with fail
  go_ret
  exact ⟨rfl, 1, _, by rw [alloc_eq_grow, G1.out, grow_grow]⟩
end
section
open Go.RowKit Go.Maps Go.Shelf
def intC (l : List Int) : List Value := l.map fun x => .int .i64 x
def finC (x : ByteArray × Int) : List Value := [.string x.1, .int .i64 x.2]
theorem fin_len (x : ByteArray × Int) : (finC x).length = 2 := rfl
def admB (ps : List Int) (l : List (ByteArray × Int)) : Bool := l.all fun x => ps.contains x.2
theorem admB_bad {ps : List Int} {l : List (ByteArray × Int)} {k : Nat} {x : ByteArray × Int} (h : l[k]? = some x) (hc : ps.contains x.2 = false) : admB ps l = false := by
  unfold admB
  rw [List.all_eq_false]
  exact ⟨x, List.mem_of_getElem? h, by rw [hc]; simp⟩
theorem contains_any (A : Option Addr) (c : Nat) (ps : List Int) (x : Int) (w : World) (hr : Rd w 1 A ps.length (intC ps)) (hl : ps.length ≤ 1000000) :
    Calls Tryz.prog 8 #[.slice A ps.length c, .int .i64 x] w fun e w' => e = .returned (.bool (ps.contains x)) ∧ w' = w := by
  match ps, hr, hl with
  | [], _, _ => exact Tryz.slices_Contains_int_empty A c x w
  | p :: r, hr, hl =>
    obtain ⟨b, off, rfl, hc⟩ := hr.2 (by simp)
    refine (Tryz.slices_Contains_int b off (p :: r).length c (p :: r) x w (Nat.le_refl _) (by omega) (fun j hj => ?_)).mono ?_
    · refine hc j _ ?_
      unfold intC
      rw [List.getElem?_map, List.getElem?_eq_getElem hj]
      simp [List.getD, List.getElem?_eq_getElem hj]
    · rintro e w' ⟨rfl, rfl⟩
      rw [List.take_length]
      exact ⟨rfl, rfl⟩
theorem audit_Admits (P A : Option Addr) (pc c : Nat) (ps : List Int) (l : List (ByteArray × Int)) (w : World) (hp : Rd w 1 P ps.length (intC ps)) (hr : Rd w 2 A l.length (l.flatMap finC)) (hpl : ps.length ≤ 1000000) (hl : l.length ≤ 1000000) :
    Calls Tryz.prog 5 #[.slice P ps.length pc, .slice A l.length c] w fun e w' => e = .returned (.bool (admB ps l)) ∧ Below w.heap.size w w' := by
  have HP := Lib.hid hp; have HR := Lib.hid hr; have HPL := Lib.hid hpl
  clear hp hr hpl
  go_enter Tryz.func5, Tryz.ntmps5
  go_wp2_with fail
  go_loopw [9] (fun i wr => ∃ k : Nat, k ≤ l.length ∧ i = .int .i64 k ∧ Hid (Below w.heap.size w wr) ∧ Hid (∀ y ∈ l.take k, ps.contains y.2 = true)) (fun i _ => l.length - (intOf i).toNat)
  case atStart => exact ⟨0, Nat.zero_le _, rfl, Below.refl _ _, by simp [Hid]⟩
  case round =>
    obtain ⟨k, hk, rfl, HB, HN⟩ := hrel
    by_cases hlt : k < l.length
    · obtain ⟨x, hx⟩ : ∃ x, l[k]? = some x := ⟨_, List.getElem?_eq_getElem hlt⟩
      obtain ⟨b, off, hA, he⟩ := (HR.out.below HB.out).elem fin_len k x hx
      have e0 := he 0 _ rfl
      have e1 := he 1 _ rfl
      simp only [Nat.add_zero] at e0
      have hix := fun W => idx_of (T := 23) (E := 45) (sz := 2) (c := c) Tryz.underlying23 rfl Tryz.sizeOf45 hA hlt W
      have HX := Lib.hid hx
      clear hx hA he
      have HB1 : Hid (Below w.heap.size w (wr.alloc (.cells #[.string x.1, .int .i64 x.2] 45))) := HB.out.alloc HB.out.size _
      have HC := Lib.hid (contains_any P pc ps x.2 _ (HP.out.below HB1.out) HPL.out)
      cases hcc : ps.contains x.2
      · have E : Hid (admB ps l = false) := admB_bad HX.out hcc
        rw [hcc] at HC
        clear hcc
        go_wp2_with fail
        refine HC.out.mono ?_; rintro e w' ⟨rfl, rfl⟩
        go_wp2_with fail
        go_ret
        exact ⟨ret_bool E.out.symm, HB1.out⟩
      · rw [hcc] at HC
        have HCC := Lib.hid hcc
        clear hcc
        go_wp2_with fail
        refine HC.out.mono ?_; rintro e w' ⟨rfl, rfl⟩
        go_wp2_with fail
        clear HC
        go_roundw
        case rel => exact ⟨k + 1, by omega, by go_num, HB1, fun y hy => by
          obtain ⟨hk', hf'⟩ := List.getElem?_eq_some_iff.1 HX.out
          rw [List.take_succ_eq_append_getElem hk', hf'] at hy
          rcases List.mem_append.1 hy with hy | hy
          · exact HN.out y hy
          · rw [List.mem_singleton.1 hy]; exact HCC.out⟩
        case measure => simp [intOf]; omega
    · have E : Hid (admB ps l = true) := by
        show _ = _
        unfold admB
        rw [List.all_eq_true]
        intro y hy
        exact HN.out y (by rw [List.take_of_length_le (by omega)]; exact hy)
      go_wp2_with fail
      go_ret
      exact ⟨ret_bool E.out.symm, HB.out⟩
end
end Go.Proofs.YtfgidaaipmbibaaGreatDoor
