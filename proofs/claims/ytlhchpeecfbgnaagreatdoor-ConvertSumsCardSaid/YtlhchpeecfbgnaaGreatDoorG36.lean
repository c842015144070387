/- A part of the proof that the digests of any content are the three of it, and that an installed set is new memory. No condition. -/
import Derived.Test.YtlhchpeecfbgnaaGreatDoorG35
set_option maxRecDepth 100000
set_option maxHeartbeats 20000000
set_option linter.unusedVariables false
set_option linter.unusedSimpArgs false
namespace Go.Proofs.YtlhchpeecfbgnaaGreatDoor
section
open Go.RowKit
theorem info_i64 : (Tryz.prog.info? 3).map (fun i => (i.zero, i.size, i.bytes)) = some (some (.int .i64 0), 1, 8) := by kernel_rfl
theorem Grow_nil (n : Nat) (w : World) (h0 : 0 < n) (hn : n ≤ 100000) :
    Calls Tryz.prog 186 #[.slice none 0 0, .int .i64 n] w fun e w' => ∃ cap, e = .returned (.slice (some ⟨w.heap.size, 0, none⟩) 0 cap) ∧ w'.ownsRow w.heap.size 3 1 (.slice (some ⟨w.heap.size, 0, none⟩) 0 cap) 0 [] ∧ Below w.heap.size w w' := by
  obtain ⟨i0, hi, hz0, hz1, hz2⟩ := info_parts info_i64
  have h1 : decide ((n : Int) < 0) = false := decide_eq_false (by omega)
  have h2 : decide ((0 : Int) < (n : Int)) = true := decide_eq_true (by omega)
  have h3 : decide (0 < n) = true := decide_eq_true h0
  have hg := grownCap_ge w n 0 3
  have hm := grownCap_le_maxLen w n 0 3 (by unfold maxLen; omega)
  have hr := Lib.run_append_nil_zeros (P := Tryz.prog) w 52 3 52 3 i0 (.int .i64 0) .i64 .i64 Tryz.underlying52 Tryz.underlying3 hi hz0 n h0 (by omega) (by omega) (by rw [hz2]; omega)
  have HG := Lib.hid hg; have HM := Lib.hid hm
  clear hg hm
  go_enter Tryz.func186, Tryz.ntmps186
  go_wp2_with (at_builtin; refine Lib.wpList_append_run _ rfl _ _ _ _ rfl _ _ rfl rfl _ _ hr ?_)
  clear hr
  go_wp2_with fail
  go_ret
  refine ⟨_, rfl, ⟨rfl, .inr ⟨w.heap.size, _, _, rfl, Nat.le_refl _, heap_alloc_new w.drew _, Nat.zero_le _, HM.out, ?_, ?_⟩⟩, (below_drewN (Below.refl _ _) 1).alloc (Nat.le_refl _) _⟩
  · have := HG.out
    simp [size_zeroCells, Value.cells]; omega
  · simp
theorem num_one (l : List Nat) : ∀ u ∈ numCells l, u.oneCell' = true := by
  intro u hu; obtain ⟨n, _, rfl⟩ := List.mem_map.1 hu; rfl
theorem Concat_two (pb : Nat) (A B : Option Addr) (c d : Nat) (xs ys : List Nat) (w : World) (h0 : w.cell? ⟨pb, 0, none⟩ = some (.slice A xs.length c)) (h1 : w.cell? ⟨pb, 1, none⟩ = some (.slice B ys.length d))
    (hA : Rd w 1 A xs.length (numCells xs)) (hB : Rd w 1 B ys.length (numCells ys)) (n0 : 0 < xs.length) (n1 : xs.length ≤ 1000) (n2 : ys.length ≤ 10000) :
    Calls Tryz.prog 149 #[.slice (some ⟨pb, 0, none⟩) 2 2] w fun e w' => ∃ R cap, e = .returned (.slice R (xs ++ ys).length cap) ∧ Rd w' 1 R (xs ++ ys).length (numCells (xs ++ ys)) ∧ Below w.heap.size w w' := by
  obtain ⟨i0, hi, hz0, hz1, hz2⟩ := info_parts info_i64
  have HA := Lib.hid hA; have HB := Lib.hid hB
  clear hA hB
  have hpb := World.block_lt_of_cell? _ _ h0
  have hx0 : ∀ W, (Instr.indexAt 260 (.slice (some ⟨pb, 0, none⟩) 2 2) (.int .i64 0)).run Tryz.prog W = .ok (.pointer (some ⟨pb, 0, none⟩)) W := fun W => by
    have := idx_of (T := 260) (E := 52) (sz := 1) (A := some ⟨pb, 0, none⟩) (b := pb) (off := 0) (n := 2) (c := 2) (k := 0) Tryz.underlying260 rfl Tryz.sizeOf52 rfl (by omega) W
    simpa using this
  have hx1 : ∀ W, (Instr.indexAt 260 (.slice (some ⟨pb, 0, none⟩) 2 2) (.int .i64 1)).run Tryz.prog W = .ok (.pointer (some ⟨pb, 1, none⟩)) W := fun W => by
    have := idx_of (T := 260) (E := 52) (sz := 1) (A := some ⟨pb, 0, none⟩) (b := pb) (off := 0) (n := 2) (c := 2) (k := 1) Tryz.underlying260 rfl Tryz.sizeOf52 rfl (by omega) W
    simpa using this
  go_enter Tryz.func149, Tryz.ntmps149
  go_wp2_with fail
  go_loop [3, 11] (fun s i => ∃ (k m : Nat), k ≤ 2 ∧ i = .int .i64 k ∧ s = .int .i64 m ∧ Hid (m = if k = 0 then 0 else if k = 1 then xs.length else xs.length + ys.length)) (fun _ i => 2 - (intOf i).toNat)
  case atStart => exact ⟨0, 0, by omega, rfl, rfl, rfl⟩
  case round =>
    obtain ⟨k, m, hk, rfl, rfl, hm⟩ := hrel
    rcases (by omega : k = 0 ∨ k = 1 ∨ k = 2) with rfl | rfl | rfl
    · obtain rfl : m = 0 := hm.out
      have q1 : decide (((0 : Nat) : Int) + (xs.length : Int) < 0) = false := decide_eq_false (by omega)
      have q2 : decide ((xs.length : Int) < 0) = false := decide_eq_false (by omega)
      go_wp2_with fail
      go_round
      case rel => exact ⟨1, xs.length, by omega, by go_num, by go_num, rfl⟩
      case measure => simp [intOf]
    · obtain rfl : m = xs.length := hm.out
      have q1 : decide ((xs.length : Int) + (ys.length : Int) < 0) = false := decide_eq_false (by omega)
      go_wp2_with fail
      go_round
      case rel => exact ⟨2, xs.length + ys.length, by omega, by go_num, by go_num, rfl⟩
      case measure => simp [intOf]
    · obtain rfl : m = xs.length + ys.length := hm.out
      go_wp2_with fail
      refine (Grow_nil (xs.length + ys.length) _ (by omega) (by omega)).mono ?_; rintro e w1 ⟨cap, rfl, ho1, hb1⟩
      have O1 := Lib.hid ho1; have B1 := Lib.hid hb1
      clear ho1 hb1 hm
      have g0 := (B1.out.cell (p := ⟨pb, 0, none⟩) hpb).trans h0
      have g1 := (B1.out.cell (p := ⟨pb, 1, none⟩) hpb).trans h1
      go_wp2_with fail
      go_loopw [6, 27] (fun v i wr => ∃ (k : Nat) (L : List Nat), k ≤ 2 ∧ i = .int .i64 k ∧ Hid (L = if k = 0 then [] else if k = 1 then xs else xs ++ ys) ∧ Hid (wr.ownsRow w.heap.size 3 1 v L.length (numCells L)) ∧ Hid (Below w.heap.size w wr)) (fun _ i _ => 2 - (intOf i).toNat)
      case atStart => exact ⟨0, [], by omega, rfl, rfl, O1, B1⟩
      case round =>
        clear O1 B1 g0 g1
        obtain ⟨k, L, hk, rfl, HL, HO, HBw⟩ := hrel
        obtain ⟨Ao, co, rfl⟩ := owns_form HO.out
        have g0 := (HBw.out.cell (p := ⟨pb, 0, none⟩) hpb).trans h0
        have g1 := (HBw.out.cell (p := ⟨pb, 1, none⟩) hpb).trans h1
        rcases (by omega : k = 0 ∨ k = 1 ∨ k = 2) with rfl | rfl | rfl
        · obtain rfl : L = [] := HL.out
          have RA := Lib.hid ((HA.out.below HBw.out).reads (by omega))
          go_wp2_with (at_builtin; refine wpList_append_any _ rfl _ _ _ rfl w.heap.size 3 i0 _ 1 8 Tryz.underlying52 hi hz0 hz1 hz2 rfl (by omega) (.slice Ao 0 co) 0 _ rfl HO.out _ A xs.length c (numCells xs) rfl RA.out (num_one xs) (by simp only [maxLen]; omega) (by omega) HBw.out.size ?_; intro v1 w5 hown1 hg1 hat1)
          have O2 : Hid (w5.ownsRow w.heap.size 3 1 v1 xs.length (numCells xs)) := Lib.hid (by have := hown1; simpa [numCells] using this)
          have B2 : Hid (Below w.heap.size w w5) := HBw.out.grown hg1 HBw.out.size (fun q hq => (HO.out.lt q hq).1)
          clear hown1 hg1 hat1
          go_wp2_with fail
          go_roundw
          case rel => exact ⟨1, xs, by omega, by go_num, rfl, O2, B2⟩
          case measure => simp [intOf]
        · obtain rfl : L = xs := HL.out
          have RB := Lib.hid ((HB.out.below HBw.out).reads (by omega))
          go_wp2_with (at_builtin; refine wpList_append_any _ rfl _ _ _ rfl w.heap.size 3 i0 _ 1 8 Tryz.underlying52 hi hz0 hz1 hz2 rfl (by omega) (.slice Ao L.length co) L.length _ rfl HO.out _ B ys.length d (numCells ys) rfl RB.out (num_one ys) (by simp only [maxLen]; omega) (by omega) HBw.out.size ?_; intro v1 w5 hown1 hg1 hat1)
          have O2 : Hid (w5.ownsRow w.heap.size 3 1 v1 (L ++ ys).length (numCells (L ++ ys))) := Lib.hid (by have := hown1; simpa [numCells] using this)
          have B2 : Hid (Below w.heap.size w w5) := HBw.out.grown hg1 HBw.out.size (fun q hq => (HO.out.lt q hq).1)
          clear hown1 hg1 hat1
          go_wp2_with fail
          go_roundw
          case rel => exact ⟨2, L ++ ys, by omega, by go_num, rfl, O2, B2⟩
          case measure => simp [intOf]
        · obtain rfl : L = xs ++ ys := HL.out
          go_wp2_with fail
          go_ret
          exact ⟨Ao, co, rfl, owns_rd HO.out, HBw.out⟩
end
end Go.Proofs.YtlhchpeecfbgnaaGreatDoor
