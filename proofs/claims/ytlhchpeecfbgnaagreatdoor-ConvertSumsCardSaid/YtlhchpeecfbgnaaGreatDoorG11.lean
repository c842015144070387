/- A part of the proof that the digests of any content are the three of it, and that an installed set is new memory. No condition. -/
import Derived.BigQuiet
import Derived.Deep.CutBlock
import Derived.Deep.DeepCutAuto
import Derived.Deep.LoopGhost
import Derived.Deep.QuietTactic
import Derived.IntWalk
import Derived.Test.YtlhchpeecfbgnaaGreatDoorG06
import Derived.Test.YtlhchpeecfbgnaaGreatDoorG10
set_option maxRecDepth 100000
set_option maxHeartbeats 20000000
set_option linter.unusedVariables false
set_option linter.unusedSimpArgs false
namespace Go.Proofs.YtlhchpeecfbgnaaGreatDoor
section
open Go.RowKit
def capN (most n : Int) : Int := if n > most then most + 1 else n
theorem capN_bd (most n : Int) (h0 : 0 ≤ most) (hn : 0 ≤ n) : 0 ≤ capN most n ∧ capN most n ≤ most + 1 ∧ (capN most n ≤ most → capN most n = n) := by
  unfold capN; split <;> omega
theorem ref_cap1 (n most : Int) (h0 : 0 ≤ most) (h1 : most ≤ 1000000) (w : World) :
    Calls Tryz.prog 24 #[.int .i64 n, .int .i64 most] w fun e w' => e = .returned (.int .i64 (capN most n)) ∧ w' = w := by
  by_cases h : most < n
  · go_enter Tryz.func24, Tryz.ntmps24
    go_wp2
    go_ret
    exact ⟨ret_int (by unfold capN; rw [if_pos (by omega)]), rfl⟩
  · go_enter Tryz.func24, Tryz.ntmps24
    go_wp2
    go_ret
    exact ⟨ret_int (by unfold capN; rw [if_neg (by omega)]), rfl⟩
def wStrs (l : List ByteArray) : Nat := (l.map fun s => 1 + s.size).sum
def wAtoms (l : List AtomM) : Nat := (l.map fun x => 1 + x.nm.size + x.ver.size).sum
def wFiles (l : List FileM) : Nat := (l.map fun x => 1 + x.path.size + x.owner.size + x.group.size + x.link.size + x.sum.size).sum
def wScripts (l : List ScriptM) : Nat := (l.map fun x => 1 + x.body.size).sum
def wTexts (p : PkL) : Nat := p.nm.size + p.ver.size + p.ar.size + p.sm.size
def wsum (p : PkL) : Nat := wTexts p + wStrs p.needs + wStrs p.bars + wAtoms p.gives + wFiles p.files + wScripts p.scripts
def WInv (most : Int) (base : Nat) (m : Int) : Prop := 0 ≤ m ∧ m ≤ 6 * most + 6 ∧ (m ≤ most → m = base)
structure Bx (w wr : World) (vs : List Value) : Prop where
  bel : Below w.heap.size w wr
  sz : w.heap.size < wr.heap.size
  cell : ∀ (j : Nat) (u : Value), vs[j]? = some u → wr.cell? ⟨w.heap.size, j, none⟩ = some u
  free : ∀ j : Nat, j < vs.length → wr.frozen? ⟨w.heap.size, j, none⟩ = false
theorem Bx.step {w w1 w2 : World} {vs : List Value} (h : Bx w w1 vs) (hb : Below w1.heap.size w1 w2) : Bx w w2 vs :=
  ⟨bthen h.bel hb, Nat.lt_of_lt_of_le h.sz hb.size, fun j u hu => (hb.cell (p := ⟨w.heap.size, j, none⟩) h.sz).trans (h.cell j u hu), fun j hj => (hb.frozen (p := ⟨w.heap.size, j, none⟩) h.sz).trans (h.free j hj)⟩
theorem Bx.start (w : World) (vs : List Value) (t : TypeId) : Bx w (w.alloc (.cells vs.toArray t)) vs :=
  ⟨(Below.refl _ _).alloc (Nat.le_refl _) _, by simp, fun j u hu => by simp [hu], fun j _ => by simp⟩
theorem Bx.drewN {w w1 : World} {vs : List Value} (h : Bx w w1 vs) (k : Nat) : Bx w (w1.drewN k) vs := h.step (below_drewN' k)
  where below_drewN' {w1 : World} (k : Nat) : Below w1.heap.size w1 (w1.drewN k) := ⟨rfl, rfl, rfl, Nat.le_refl _, fun _ _ => rfl⟩
theorem ref_cap1' (n most : Int) (h0 : 0 ≤ most) (h1 : most ≤ 1000000) (w : World) :
    Calls Tryz.prog 24 #[.int .i64 n, .int .i64 most] w fun e w' => e = .returned (.int .i64 (capN most n)) ∧ w = w' :=
  (ref_cap1 n most h0 h1 w).mono fun _ _ ⟨he, hw⟩ => ⟨he, hw.symm⟩
theorem idx_of {T E : TypeId} {sz : Nat} (hT : Tryz.prog.underlying T = some (.slice (Tryz.prog.elem T))) (hE : Tryz.prog.elem T = E) (hs : ∀ w, (sizeOf E).run Tryz.prog w = .ok sz w)
    {A : Option Addr} {n c k b off : Nat} (hA : A = some ⟨b, off, none⟩) (hk : k < n) (w : World) : (Instr.indexAt T (.slice A n c) (.int .i64 k)).run Tryz.prog w = .ok (.pointer (some ⟨b, off + k * sz, none⟩)) w := by
  rw [hA, run_indexAt_slice _ _ _ _ _ _ _ hT, if_pos (by omega), hE, hs]
  simp [Addr.add]
theorem wStrs_snoc (l : List ByteArray) (k : Nat) (x : ByteArray) (h : l[k]? = some x) : wStrs (l.take (k + 1)) = wStrs (l.take k) + 1 + x.size := by
  obtain ⟨hk, hx⟩ := List.getElem?_eq_some_iff.1 h
  unfold wStrs; rw [List.take_succ_eq_append_getElem hk, List.map_append, List.sum_append, hx]; simp; omega
theorem wAtoms_snoc (l : List AtomM) (k : Nat) (x : AtomM) (h : l[k]? = some x) : wAtoms (l.take (k + 1)) = wAtoms (l.take k) + 1 + x.nm.size + x.ver.size := by
  obtain ⟨hk, hx⟩ := List.getElem?_eq_some_iff.1 h
  unfold wAtoms; rw [List.take_succ_eq_append_getElem hk, List.map_append, List.sum_append, hx]; simp; omega
theorem wFiles_snoc (l : List FileM) (k : Nat) (x : FileM) (h : l[k]? = some x) : wFiles (l.take (k + 1)) = wFiles (l.take k) + 1 + x.path.size + x.owner.size + x.group.size + x.link.size + x.sum.size := by
  obtain ⟨hk, hx⟩ := List.getElem?_eq_some_iff.1 h
  unfold wFiles; rw [List.take_succ_eq_append_getElem hk, List.map_append, List.sum_append, hx]; simp; omega
theorem wScripts_snoc (l : List ScriptM) (k : Nat) (x : ScriptM) (h : l[k]? = some x) : wScripts (l.take (k + 1)) = wScripts (l.take k) + 1 + x.body.size := by
  obtain ⟨hk, hx⟩ := List.getElem?_eq_some_iff.1 h
  unfold wScripts; rw [List.take_succ_eq_append_getElem hk, List.map_append, List.sum_append, hx]; simp; omega
theorem ref_Weight (p : PkL) (most : Int) (h0 : 0 ≤ most) (h1 : most ≤ 1000000) (w : World) (hp : p.ok w) (hf : p.fits) :
    Calls Tryz.prog 12 #[p.val, .int .i64 most] w fun e w' => (∃ m : Int, e = .returned (.int .i64 m) ∧ WInv most (wsum p) m) ∧ Below w.heap.size w w' := by
  have HP := Lib.hid hp; clear hp
  have HF := Lib.hid hf; clear hf
  obtain ⟨a1, a2, A3⟩ := capN_bd most p.nm.size h0 (by omega)
  obtain ⟨b1, b2, B3⟩ := capN_bd most p.ver.size h0 (by omega)
  obtain ⟨c1, c2, C3⟩ := capN_bd most p.ar.size h0 (by omega)
  obtain ⟨d1, d2, D3⟩ := capN_bd most p.sm.size h0 (by omega)
  have HS : Hid (WInv most (wTexts p) (capN most ↑p.nm.size + capN most ↑p.ver.size + capN most ↑p.ar.size + capN most ↑p.sm.size)) := by
    show WInv _ _ _; unfold WInv wTexts; omega
  clear A3 B3 C3 D3
  have s1 : IntKind.i64.wrap (capN most ↑p.nm.size + capN most ↑p.ver.size) = capN most ↑p.nm.size + capN most ↑p.ver.size := IntWalk.i64_in _ (by omega)
  have s2 : IntKind.i64.wrap (capN most ↑p.nm.size + capN most ↑p.ver.size + capN most ↑p.ar.size) = capN most ↑p.nm.size + capN most ↑p.ver.size + capN most ↑p.ar.size := IntWalk.i64_in _ (by omega)
  have s3 : IntKind.i64.wrap (capN most ↑p.nm.size + capN most ↑p.ver.size + capN most ↑p.ar.size + capN most ↑p.sm.size) = capN most ↑p.nm.size + capN most ↑p.ver.size + capN most ↑p.ar.size + capN most ↑p.sm.size := IntWalk.i64_in _ (by omega)
  unfold PkL.val
  go_enter Tryz.func12, Tryz.ntmps12
  go_wp2_with fail
  go_quiet ((go_at_call 24; exact Calls.quiet_of_same (ref_cap1 _ _ h0 h1 _)))
  clear s1 s2 s3
  go_upto_block 0 with (fail)
  go_cut [5] (fun s5 wx => ∃ m : Int, s5 = .int .i64 m ∧ 0 ≤ m ∧ m ≤ 6 * most + 6 ∧ Hid (m ≤ most → m = ((wTexts p + wStrs p.needs : Nat) : Int)) ∧ Hid (Bx w wx p.cells))
  case first =>
    go_wp2_with fail
    go_loopw [5, 6] (fun n i wr => ∃ (k : Nat) (m : Int), k ≤ p.needs.length ∧ i = .int .i64 k ∧ n = .int .i64 m ∧ 0 ≤ m ∧ m ≤ 6 * most + 6 ∧ Hid (m ≤ most → m = ((wTexts p + wStrs (p.needs.take k) : Nat) : Int)) ∧ Hid (Bx w wr p.cells)) (fun _ i _ => p.needs.length - (intOf i).toNat)
    case atStart => exact ⟨0, _, Nat.zero_le _, rfl, rfl, HS.out.1, HS.out.2.1, (fun h => by rw [HS.out.2.2 h]; simp [wStrs]), (Bx.start w p.cells _).drewN _⟩
    case round =>
      obtain ⟨k, m, hk, rfl, rfl, m0, m1, M2, BX⟩ := hrel
      have hc := BX.out.cell 4 _ rfl
      have hlen := HF.out.needs
      by_cases hlt : k < p.needs.length
      · by_cases hm : m ≤ most
        · obtain ⟨x, hx⟩ : ∃ x, p.needs[k]? = some x := ⟨_, List.getElem?_eq_getElem hlt⟩
          obtain ⟨b, off, hA, he⟩ := (HP.out.needs.below BX.out.bel).str k x hx
          have hix := fun W => idx_of (T := 39) (E := 9) (sz := 1) (c := p.nc) Tryz.underlying39 rfl Tryz.sizeOf9 hA hlt W
          simp only [Nat.mul_one] at hix
          obtain ⟨q0, r0, R0⟩ := capN_bd most x.size h0 (by omega)
          have HX := Lib.hid hx; clear hx hA
          have HW := Lib.hid (wStrs_snoc p.needs k x HX.out)
          have HR0 := Lib.hid R0; clear R0
          go_wp2_with fail
          refine (ref_cap1' _ _ h0 h1 _).mono ?_; rintro e w' ⟨rfl, rfl⟩
          go_wp2_with fail
          have F1 : Hid (m + 1 + capN most ↑x.size ≤ most → m + 1 + capN most ↑x.size = ((wTexts p + wStrs (p.needs.take (k + 1)) : Nat) : Int)) := by
            intro h; rw [HW.out]; have := M2.out hm
            have := HR0.out (by omega)
            omega
          go_roundw
          case rel => exact ⟨k + 1, _, by omega, by go_num, rfl, by omega, by omega, F1, BX⟩
          case measure => simp [intOf]; omega
        · go_wp2_with fail
          go_meet
          exact ⟨m, rfl, m0, m1, (fun h => by omega), BX⟩
      · go_wp2_with fail
        go_meet
        exact ⟨m, rfl, m0, m1, (fun h => by rw [M2.out h, List.take_of_length_le (by omega)]), BX⟩
  case rest =>
    obtain ⟨m, rfl, m0, m1, M2, BX⟩ := hcut
    go_upto_block 2 with (fail)
    go_cut [5] (fun s5 wx => ∃ m : Int, s5 = .int .i64 m ∧ 0 ≤ m ∧ m ≤ 6 * most + 6 ∧ Hid (m ≤ most → m = ((wTexts p + wStrs p.needs + wStrs p.bars : Nat) : Int)) ∧ Hid (Bx w wx p.cells))
    case first =>
      go_wp2_with fail
      go_loopw [5, 7] (fun n i wr => ∃ (k : Nat) (m : Int), k ≤ p.bars.length ∧ i = .int .i64 k ∧ n = .int .i64 m ∧ 0 ≤ m ∧ m ≤ 6 * most + 6 ∧ Hid (m ≤ most → m = ((wTexts p + wStrs p.needs + wStrs (p.bars.take k) : Nat) : Int)) ∧ Hid (Bx w wr p.cells)) (fun _ i _ => p.bars.length - (intOf i).toNat)
      case atStart => exact ⟨0, _, Nat.zero_le _, rfl, rfl, m0, m1, (fun h => by rw [M2.out h]; simp [wStrs]), BX⟩
      case round =>
        obtain ⟨k, m, hk, rfl, rfl, m0, m1, M2, BX⟩ := hrel
        have hc := BX.out.cell 5 _ rfl
        have hlen := HF.out.bars
        by_cases hlt : k < p.bars.length
        · by_cases hm : m ≤ most
          · obtain ⟨x, hx⟩ : ∃ x, p.bars[k]? = some x := ⟨_, List.getElem?_eq_getElem hlt⟩
            obtain ⟨b, off, hA, he⟩ := (HP.out.bars.below BX.out.bel).str k x hx
            have hix := fun W => idx_of (T := 39) (E := 9) (sz := 1) (c := p.bc) Tryz.underlying39 rfl Tryz.sizeOf9 hA hlt W
            simp only [Nat.mul_one] at hix
            obtain ⟨q0, r0, R0⟩ := capN_bd most x.size h0 (by omega)
            have HX := Lib.hid hx; clear hx hA
            have HW := Lib.hid (wStrs_snoc p.bars k x HX.out)
            have HR0 := Lib.hid R0; clear R0
            go_wp2_with fail
            refine (ref_cap1' _ _ h0 h1 _).mono ?_; rintro e w' ⟨rfl, rfl⟩
            go_wp2_with fail
            have F1 : Hid (m + 1 + capN most ↑x.size ≤ most → m + 1 + capN most ↑x.size = ((wTexts p + wStrs p.needs + wStrs (p.bars.take (k + 1)) : Nat) : Int)) := by
              intro h; rw [HW.out]; have := M2.out hm
              have := HR0.out (by omega)
              omega
            go_roundw
            case rel => exact ⟨k + 1, _, by omega, by go_num, rfl, by omega, by omega, F1, BX⟩
            case measure => simp [intOf]; omega
          · go_wp2_with fail
            go_meet
            exact ⟨m, rfl, m0, m1, (fun h => by omega), BX⟩
        · go_wp2_with fail
          go_meet
          exact ⟨m, rfl, m0, m1, (fun h => by rw [M2.out h, List.take_of_length_le (by omega)]), BX⟩
    case rest =>
      obtain ⟨m, rfl, m0, m1, M2, BX⟩ := hcut
      go_upto_block 4 with (fail)
      go_cut [5] (fun s5 wx => ∃ m : Int, s5 = .int .i64 m ∧ 0 ≤ m ∧ m ≤ 6 * most + 6 ∧ Hid (m ≤ most → m = ((wTexts p + wStrs p.needs + wStrs p.bars + wAtoms p.gives : Nat) : Int)) ∧ Hid (Bx w wx p.cells))
      case first =>
        go_wp2_with fail
        go_loopw [5, 8] (fun n i wr => ∃ (k : Nat) (m : Int), k ≤ p.gives.length ∧ i = .int .i64 k ∧ n = .int .i64 m ∧ 0 ≤ m ∧ m ≤ 6 * most + 6 ∧ Hid (m ≤ most → m = ((wTexts p + wStrs p.needs + wStrs p.bars + wAtoms (p.gives.take k) : Nat) : Int)) ∧ Hid (Bx w wr p.cells)) (fun _ i _ => p.gives.length - (intOf i).toNat)
        case atStart => exact ⟨0, _, Nat.zero_le _, rfl, rfl, m0, m1, (fun h => by rw [M2.out h]; simp [wAtoms]), BX⟩
        case round =>
          obtain ⟨k, m, hk, rfl, rfl, m0, m1, M2, BX⟩ := hrel
          have hc := BX.out.cell 6 _ rfl
          have hlen := HF.out.gives
          by_cases hlt : k < p.gives.length
          · by_cases hm : m ≤ most
            · obtain ⟨x, hx⟩ : ∃ x, p.gives[k]? = some x := ⟨_, List.getElem?_eq_getElem hlt⟩
              obtain ⟨b, off, hA, he⟩ := (HP.out.gives.below BX.out.bel).elem atom_len k x hx
              have e0 := he 0 _ rfl
              have e2 := he 2 _ rfl
              simp only [Nat.add_zero] at e0
              clear he
              have hix := fun W => idx_of (T := 28) (E := 32) (sz := 3) (c := p.gc) Tryz.underlying28 rfl Tryz.sizeOf32 hA hlt W
              obtain ⟨q0, r0, R0⟩ := capN_bd most x.nm.size h0 (by omega)
              obtain ⟨q2, r2, R2⟩ := capN_bd most x.ver.size h0 (by omega)
              have HX := Lib.hid hx; clear hx hA
              have HW := Lib.hid (wAtoms_snoc p.gives k x HX.out)
              have HR0 := Lib.hid R0; clear R0
              have HR2 := Lib.hid R2; clear R2
              have s0 : IntKind.i64.wrap (m + 1) = m + 1 := IntWalk.i64_in _ (by omega)
              have s1 : IntKind.i64.wrap (m + 1 + capN most ↑x.nm.size) = m + 1 + capN most ↑x.nm.size := IntWalk.i64_in _ (by omega)
              have s2 : IntKind.i64.wrap (m + 1 + capN most ↑x.nm.size + capN most ↑x.ver.size) = m + 1 + capN most ↑x.nm.size + capN most ↑x.ver.size := IntWalk.i64_in _ (by omega)
              go_wp2_with fail
              go_quiet ((go_at_call 24; exact Calls.quiet_of_same (ref_cap1 _ _ h0 h1 _)))
              clear s0 s1 s2
              go_wp2_with fail
              have F1 : Hid (m + 1 + capN most ↑x.nm.size + capN most ↑x.ver.size ≤ most → m + 1 + capN most ↑x.nm.size + capN most ↑x.ver.size = ((wTexts p + wStrs p.needs + wStrs p.bars + wAtoms (p.gives.take (k + 1)) : Nat) : Int)) := by
                intro h; rw [HW.out]; have := M2.out hm
                have := HR0.out (by omega)
                have := HR2.out (by omega)
                omega
              go_roundw
              case rel => exact ⟨k + 1, _, by omega, by go_num, rfl, by omega, by omega, F1, BX.out.drewN _⟩
              case measure => simp [intOf]; omega
            · go_wp2_with fail
              go_meet
              exact ⟨m, rfl, m0, m1, (fun h => by omega), BX⟩
          · go_wp2_with fail
            go_meet
            exact ⟨m, rfl, m0, m1, (fun h => by rw [M2.out h, List.take_of_length_le (by omega)]), BX⟩
      case rest =>
        obtain ⟨m, rfl, m0, m1, M2, BX⟩ := hcut
        go_upto_block 6 with (fail)
        go_cut [5] (fun s5 wx => ∃ m : Int, s5 = .int .i64 m ∧ 0 ≤ m ∧ m ≤ 6 * most + 6 ∧ Hid (m ≤ most → m = ((wTexts p + wStrs p.needs + wStrs p.bars + wAtoms p.gives + wFiles p.files : Nat) : Int)) ∧ Hid (Bx w wx p.cells))
        case first =>
          go_wp2_with fail
          go_loopw [5, 9] (fun n i wr => ∃ (k : Nat) (m : Int), k ≤ p.files.length ∧ i = .int .i64 k ∧ n = .int .i64 m ∧ 0 ≤ m ∧ m ≤ 6 * most + 6 ∧ Hid (m ≤ most → m = ((wTexts p + wStrs p.needs + wStrs p.bars + wAtoms p.gives + wFiles (p.files.take k) : Nat) : Int)) ∧ Hid (Bx w wr p.cells)) (fun _ i _ => p.files.length - (intOf i).toNat)
          case atStart => exact ⟨0, _, Nat.zero_le _, rfl, rfl, m0, m1, (fun h => by rw [M2.out h]; simp [wFiles]), BX⟩
          case round =>
            obtain ⟨k, m, hk, rfl, rfl, m0, m1, M2, BX⟩ := hrel
            have hc := BX.out.cell 7 _ rfl
            have hlen := HF.out.files
            by_cases hlt : k < p.files.length
            · by_cases hm : m ≤ most
              · obtain ⟨x, hx⟩ : ∃ x, p.files[k]? = some x := ⟨_, List.getElem?_eq_getElem hlt⟩
                obtain ⟨b, off, hA, he⟩ := (HP.out.files.below BX.out.bel).elem file_len k x hx
                have e0 := he 0 _ rfl
                have e1 := he 1 _ rfl
                have e2 := he 2 _ rfl
                have e3 := he 3 _ rfl
                have e4 := he 4 _ rfl
                have e5 := he 5 _ rfl
                have e6 := he 6 _ rfl
                have e7 := he 7 _ rfl
                simp only [Nat.add_zero] at e0
                clear he
                have hix := fun W => idx_of (T := 40) (E := 67) (sz := 8) (c := p.fc) Tryz.underlying40 rfl Tryz.sizeOf67 hA hlt W
                obtain ⟨q0, r0, R0⟩ := capN_bd most x.path.size h0 (by omega)
                obtain ⟨q3, r3, R3⟩ := capN_bd most x.owner.size h0 (by omega)
                obtain ⟨q4, r4, R4⟩ := capN_bd most x.group.size h0 (by omega)
                obtain ⟨q5, r5, R5⟩ := capN_bd most x.link.size h0 (by omega)
                obtain ⟨q6, r6, R6⟩ := capN_bd most x.sum.size h0 (by omega)
                have HX := Lib.hid hx; clear hx hA
                have HW := Lib.hid (wFiles_snoc p.files k x HX.out)
                have HR0 := Lib.hid R0; clear R0
                have HR3 := Lib.hid R3; clear R3
                have HR4 := Lib.hid R4; clear R4
                have HR5 := Lib.hid R5; clear R5
                have HR6 := Lib.hid R6; clear R6
                have hbs := BX.out.sz
                go_wp2_with fail
                have s0 : IntKind.i64.wrap (m + 1) = m + 1 := IntWalk.i64_in _ (by omega)
                have s1 : IntKind.i64.wrap (m + 1 + capN most ↑x.path.size) = m + 1 + capN most ↑x.path.size := IntWalk.i64_in _ (by omega)
                have s2 : IntKind.i64.wrap (m + 1 + capN most ↑x.path.size + capN most ↑x.owner.size) = m + 1 + capN most ↑x.path.size + capN most ↑x.owner.size := IntWalk.i64_in _ (by omega)
                have s3 : IntKind.i64.wrap (m + 1 + capN most ↑x.path.size + capN most ↑x.owner.size + capN most ↑x.group.size) = m + 1 + capN most ↑x.path.size + capN most ↑x.owner.size + capN most ↑x.group.size := IntWalk.i64_in _ (by omega)
                have s4 : IntKind.i64.wrap (m + 1 + capN most ↑x.path.size + capN most ↑x.owner.size + capN most ↑x.group.size + capN most ↑x.link.size) = m + 1 + capN most ↑x.path.size + capN most ↑x.owner.size + capN most ↑x.group.size + capN most ↑x.link.size := IntWalk.i64_in _ (by omega)
                have s5 : IntKind.i64.wrap (m + 1 + capN most ↑x.path.size + capN most ↑x.owner.size + capN most ↑x.group.size + capN most ↑x.link.size + capN most ↑x.sum.size) = m + 1 + capN most ↑x.path.size + capN most ↑x.owner.size + capN most ↑x.group.size + capN most ↑x.link.size + capN most ↑x.sum.size := IntWalk.i64_in _ (by omega)
                go_quiet ((go_at_call 24; exact Calls.quiet_of_same (ref_cap1 _ _ h0 h1 _)))
                clear s0 s1 s2 s3 s4 s5
                go_wp2_with fail
                have F1 : Hid (m + 1 + capN most ↑x.path.size + capN most ↑x.owner.size + capN most ↑x.group.size + capN most ↑x.link.size + capN most ↑x.sum.size ≤ most → m + 1 + capN most ↑x.path.size + capN most ↑x.owner.size + capN most ↑x.group.size + capN most ↑x.link.size + capN most ↑x.sum.size = ((wTexts p + wStrs p.needs + wStrs p.bars + wAtoms p.gives + wFiles (p.files.take (k + 1)) : Nat) : Int)) := by
                  intro h; rw [HW.out]; have := M2.out hm
                  have := HR0.out (by omega)
                  have := HR3.out (by omega)
                  have := HR4.out (by omega)
                  have := HR5.out (by omega)
                  have := HR6.out (by omega)
                  omega
                go_roundw
                case rel => exact ⟨k + 1, _, by omega, by go_num, rfl, by omega, by omega, F1, (BX.out.step ((Below.refl _ _).alloc (Nat.le_refl _) _)).drewN _⟩
                case measure => simp [intOf]; omega
              · go_wp2_with fail
                go_meet
                exact ⟨m, rfl, m0, m1, (fun h => by omega), BX⟩
            · go_wp2_with fail
              go_meet
              exact ⟨m, rfl, m0, m1, (fun h => by rw [M2.out h, List.take_of_length_le (by omega)]), BX⟩
        case rest =>
          obtain ⟨m, rfl, m0, m1, M2, BX⟩ := hcut
          go_upto_block 8 with (fail)
          go_cut [5] (fun s5 wx => ∃ m : Int, s5 = .int .i64 m ∧ 0 ≤ m ∧ m ≤ 6 * most + 6 ∧ Hid (m ≤ most → m = ((wTexts p + wStrs p.needs + wStrs p.bars + wAtoms p.gives + wFiles p.files + wScripts p.scripts : Nat) : Int)) ∧ Hid (Bx w wx p.cells))
          case first =>
            go_wp2_with fail
            go_loopw [5, 11] (fun n i wr => ∃ (k : Nat) (m : Int), k ≤ p.scripts.length ∧ i = .int .i64 k ∧ n = .int .i64 m ∧ 0 ≤ m ∧ m ≤ 6 * most + 6 ∧ Hid (m ≤ most → m = ((wTexts p + wStrs p.needs + wStrs p.bars + wAtoms p.gives + wFiles p.files + wScripts (p.scripts.take k) : Nat) : Int)) ∧ Hid (Bx w wr p.cells)) (fun _ i _ => p.scripts.length - (intOf i).toNat)
            case atStart => exact ⟨0, _, Nat.zero_le _, rfl, rfl, m0, m1, (fun h => by rw [M2.out h]; simp [wScripts]), BX⟩
            case round =>
              obtain ⟨k, m, hk, rfl, rfl, m0, m1, M2, BX⟩ := hrel
              have hc := BX.out.cell 8 _ rfl
              have hlen := HF.out.scripts
              by_cases hlt : k < p.scripts.length
              · by_cases hm : m ≤ most
                · obtain ⟨x, hx⟩ : ∃ x, p.scripts[k]? = some x := ⟨_, List.getElem?_eq_getElem hlt⟩
                  obtain ⟨b, off, hA, he⟩ := (HP.out.scripts.below BX.out.bel).elem script_len k x hx
                  have e1 := he 1 _ rfl
                  clear he
                  have hix := fun W => idx_of (T := 41) (E := 69) (sz := 2) (c := p.sc) Tryz.underlying41 rfl Tryz.sizeOf69 hA hlt W
                  obtain ⟨q1, r1, R1⟩ := capN_bd most x.body.size h0 (by omega)
                  have HX := Lib.hid hx; clear hx hA
                  have HW := Lib.hid (wScripts_snoc p.scripts k x HX.out)
                  have HR1 := Lib.hid R1; clear R1
                  go_wp2_with fail
                  refine (ref_cap1' _ _ h0 h1 _).mono ?_; rintro e w' ⟨rfl, rfl⟩
                  go_wp2_with fail
                  have F1 : Hid (m + 1 + capN most ↑x.body.size ≤ most → m + 1 + capN most ↑x.body.size = ((wTexts p + wStrs p.needs + wStrs p.bars + wAtoms p.gives + wFiles p.files + wScripts (p.scripts.take (k + 1)) : Nat) : Int)) := by
                    intro h; rw [HW.out]; have := M2.out hm
                    have := HR1.out (by omega)
                    omega
                  go_roundw
                  case rel => exact ⟨k + 1, _, by omega, by go_num, rfl, by omega, by omega, F1, BX⟩
                  case measure => simp [intOf]; omega
                · go_wp2_with fail
                  go_meet
                  exact ⟨m, rfl, m0, m1, (fun h => by omega), BX⟩
              · go_wp2_with fail
                go_meet
                exact ⟨m, rfl, m0, m1, (fun h => by rw [M2.out h, List.take_of_length_le (by omega)]), BX⟩
          case rest =>
            obtain ⟨m, rfl, m0, m1, M2, BX⟩ := hcut
            go_wp2_with fail
            go_ret
            exact ⟨⟨m, rfl, m0, m1, M2.out⟩, BX.out.bel⟩
end
end Go.Proofs.YtlhchpeecfbgnaaGreatDoor
