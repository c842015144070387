/- A part of the proof that the digests of any content are the three of it, and that an installed set is new memory. No condition. -/
import Derived.Test.YtlhchpeecfbgnaaGreatDoorG13
import Derived.Test.YtlhchpeecfbgnaaGreatDoorG32
set_option maxRecDepth 100000
set_option maxHeartbeats 20000000
set_option linter.unusedVariables false
set_option linter.unusedSimpArgs false
namespace Go.Proofs.YtlhchpeecfbgnaaGreatDoor
section
open Go.RowKit
theorem zero_hash : Tryz.zeroCells114 = (hashC 0 (List.replicate 8 0) (List.replicate 64 0) 0).toArray := by kernel_rfl
theorem new_hash (kd n : Nat) : (Tryz.zeroCells114.setIfInBounds 0 (.int .i64 (kd : Int))).setIfInBounds 73 (.int .u64 (n : Int)) = (hashC kd (List.replicate 8 0) (List.replicate 64 0) n).toArray := by
  rw [zero_hash, List.setIfInBounds_toArray, List.setIfInBounds_toArray]
  congr 1
theorem sum_copies {w W1 : World} {hb kd n : Nat} {st : List B32} {tl : List UInt8} (hs : st.length = 8) (ht : tl.length = 64) (hB : Blk w hb (hashC kd st tl n)) (hW : (w.alloc (.cells ((Tryz.zeroCells114.setIfInBounds 0 (.int .i64 (kd : Int))).setIfInBounds 73 (.int .u64 (n : Int))) 114)).drew = W1) :
    ∃ W2 W3, (∀ ty, (Builtin.copy_ #[77, 77] ty #[.slice (some ⟨w.heap.size, 1, none⟩) 8 8, .slice (some ⟨hb, 1, none⟩) 8 8]).run Tryz.prog W1.drew = .ok (.int .i64 (8 : Nat)) W2) ∧
      (∀ ty, (Builtin.copy_ #[22, 22] ty #[.slice (some ⟨w.heap.size, 9, none⟩) 64 64, .slice (some ⟨hb, 9, none⟩) 64 64]).run Tryz.prog W2.drew = .ok (.int .i64 (64 : Nat)) W3) ∧
      Hid (Blk W3 w.heap.size (hashC kd st tl n)) ∧ Hid (Blk W3 hb (hashC kd st tl n)) ∧ Hid (Below w.heap.size w W3) := by
  rw [new_hash] at hW
  have hlt := hB.sz
  have E1 : Blk W1.drew w.heap.size (hashC kd (List.replicate 8 0) (List.replicate 64 0) n) := by rw [← hW]; exact (Blk.new w _ _).drew.drew
  have L1 : Below w.heap.size w W1.drew := by rw [← hW]; exact below_drewN (below_drewN ((Below.refl _ _).alloc (Nat.le_refl _) _) 1) 1
  have H1 := hB.below L1
  have L2 : Below w.heap.size w (W1.drew.setCells w.heap.size 1 (st.map vw)) := below_setCells _ _ L1 (Nat.le_refl _)
  have e1 : hashC kd (List.replicate 8 0) (List.replicate 64 0) n = [.int .i64 (kd : Int)] ++ (List.replicate 8 (vw 0) ++ (List.replicate 64 (vb 0) ++ [.int .u64 n])) := by simp [hashC]
  have E2 : Blk (W1.drew.setCells w.heap.size 1 (st.map vw)) w.heap.size (hashC kd st (List.replicate 64 0) n) := by
    have := Blk.setN (List.replicate 64 (vb 0) ++ [.int .u64 n]) (st.map vw) (List.replicate 8 (vw 0)) [.int .i64 (kd : Int)] W1.drew (by simp [hs]) (by rw [← e1]; exact E1)
    simpa [hashC] using this
  have e2 : hashC kd st (List.replicate 64 0) n = (.int .i64 (kd : Int) :: st.map vw) ++ (List.replicate 64 (vb 0) ++ [.int .u64 n]) := by simp [hashC]
  have hl9 : (.int .i64 (kd : Int) :: st.map vw : List Value).length = 9 := by simp [hs]
  refine ⟨W1.drew.setCells w.heap.size 1 (st.map vw), (W1.drew.setCells w.heap.size 1 (st.map vw)).drew.setCells w.heap.size 9 (tl.map vb), fun ty => ?_, fun ty => ?_, ?_, ?_, ?_⟩
  · refine run_copyB (pre := [.int .i64 (kd : Int)]) (old := List.replicate 8 (vw 0)) (post := List.replicate 64 (vb 0) ++ [.int .u64 n]) (by rw [← e1]; exact E1) ty Tryz.underlying77 (by kernel_rfl) rfl (st.map vw) (by rw [List.length_map, hs]; rfl) (by rw [List.length_map, hs]; rfl) (by rw [List.length_map, hs]) (fun j v hj => ?_) (fun v hv => by obtain ⟨x, _, rfl⟩ := List.mem_map.1 hv; rfl)
    rw [add_off]
    have hj8 : j < st.length := by have := (List.getElem?_eq_some_iff.1 hj).1; simpa using this
    refine H1.cell _ _ ?_
    rw [hashC_st hj8]
    rw [List.getElem?_map, List.getElem?_eq_getElem hj8] at hj
    rw [List.getD_eq_getElem?_getD, List.getElem?_eq_getElem hj8]
    exact hj
  · refine run_copyB (pre := .int .i64 (kd : Int) :: st.map vw) (old := List.replicate 64 (vb 0)) (post := [.int .u64 n]) (by rw [← e2]; exact E2.drew) ty Tryz.underlying22 (by kernel_rfl) hl9.symm (tl.map vb) (by rw [List.length_map, ht]; rfl) (by rw [List.length_map, ht, List.length_replicate]) (by rw [List.length_map, ht]) (fun j v hj => ?_) (fun v hv => by obtain ⟨x, _, rfl⟩ := List.mem_map.1 hv; rfl)
    rw [add_off]
    have hj8 : j < tl.length := by have := (List.getElem?_eq_some_iff.1 hj).1; simpa using this
    refine (hB.below L2).drew.cell _ _ ?_
    rw [hashC_tail hs hj8]
    exact hj
  · have := Blk.setN [.int .u64 n] (tl.map vb) (List.replicate 64 (vb 0)) (.int .i64 (kd : Int) :: st.map vw) (W1.drew.setCells w.heap.size 1 (st.map vw)).drew (by simp [ht]) (by rw [← e2]; exact E2.drew)
    rw [hl9] at this
    simpa [Hid, hashC] using this
  · exact hB.below (below_setCells _ _ (below_drewN L2 1) (Nat.le_refl _))
  · exact below_setCells _ _ (below_drewN L2 1) (Nat.le_refl _)
def NumSpec (kd : Nat) (F : FuncId) : Prop := (∀ (args : Array Value) (w : World), (callFunc F args).run Tryz.prog w = .ok (.enter F args) w) ∧
  ∀ (x k : Nat) (w : World), x < 18446744073709551616 → 1 ≤ k → k ≤ 8 → Calls Tryz.prog F #[.int .u64 x, .int .i64 k] w fun e w' => ∃ g, e = .returned (.slice (some ⟨g, 0, none⟩) k k) ∧ w'.ownsRow w.heap.size 5 1 (.slice (some ⟨g, 0, none⟩) k k) k (Lib.byteCells (numQ kd x k)) ∧ Below w.heap.size w w'
theorem numSpec_be {kd : Nat} (h : (kd == 1) = false) : NumSpec kd 56 := ⟨fun args w => by kernel_rfl, fun x k w hx h1 h8 => by
  have h' : ¬ kd = 1 := by simpa using h
  unfold numQ
  rw [if_neg h']
  exact codec_Be x k w hx h1 h8⟩
theorem numSpec_le {kd : Nat} (h : (kd == 1) = true) : NumSpec kd 57 := ⟨fun args w => by kernel_rfl, fun x k w hx h1 h8 => by
  have h' : kd = 1 := by simpa using h
  unfold numQ
  rw [if_pos h']
  exact codec_Le x k w hx h1 h8⟩
theorem HashAt.below {w w' : World} {hb kd : Nat} {m : List UInt8} (h : HashAt w hb kd m) (hb' : Below w.heap.size w w') : HashAt w' hb kd m := by
  obtain ⟨tl, h1, h2⟩ := h
  exact ⟨tl, h1, h2.below hb'⟩
def szAt (b : Nat) (w : World) : Nat := match w.cell? ⟨b, 73, none⟩ with
  | some (.int _ n) => n.toNat
  | _ => 0
theorem HashAt.size {w : World} {hb kd : Nat} {m : List UInt8} (h : HashAt w hb kd m) : szAt hb w = m.length := by
  obtain ⟨tl, h1, h2⟩ := h
  unfold szAt
  rw [h2.cell 73 _ (hashC_size (stateOf_len kd m) h1.1)]
  simp
theorem HashAt.c73 {w : World} {hb kd : Nat} {m : List UInt8} (h : HashAt w hb kd m) : w.cell? ⟨hb, 73, none⟩ = some (.int .u64 m.length) := by
  obtain ⟨tl, h1, h2⟩ := h
  exact h2.cell 73 _ (hashC_size (stateOf_len kd m) h1.1)
theorem HashAt.lt {w : World} {hb kd : Nat} {m : List UInt8} (h : HashAt w hb kd m) : hb < w.heap.size := by
  obtain ⟨tl, h1, h2⟩ := h
  exact h2.sz
theorem zeros_more {m : List UInt8} {i s : Nat} (hi : i ≤ zerosN m) (hs : m.length + 1 + i = s) : ((s : Int) % 64 != 56) = decide (i < zerosN m) := by
  have e : ((s : Int) % 64 == 56) = (s % 64 == 56) := eq_nat (s % 64) 56
  show (!((s : Int) % 64 == 56)) = _
  rw [e]
  unfold zerosN at *
  by_cases h : i < (119 - m.length % 64) % 64
  · have : ¬ s % 64 = 56 := by omega
    simp [h, this]
  · have : s % 64 = 56 := by omega
    simp [h, this]
theorem below_then {w a b : World} (h : Below w.heap.size w a) (k : Below a.heap.size a b) : Below w.heap.size w b :=
  h.trans ⟨k.os, k.tape, k.output, k.size, fun i hi => k.block i (Nat.lt_of_lt_of_le hi h.size)⟩
theorem wholeM_eq (kd : Nat) (m : List UInt8) {i x : Nat} (hi : i = zerosN m) (hx : 8 * m.length = x) : m ++ [128] ++ List.replicate i 0 ++ numQ kd x 8 = wholeM kd m := by rw [hi, ← hx]; rfl
theorem slice_arr_to {T E : TypeId} {N : Nat} (hA : Tryz.prog.underlying T = some (.array N E)) (hs : ∀ w, (sizeOf E).run Tryz.prog w = .ok 1 w) {b o k : Nat} (hk : k ≤ N) (hN : 0 < N) (w : World) :
    (Instr.sliceAt T (.pointer (some ⟨b, o, none⟩)) none (some (.int .i64 k)) none).run Tryz.prog w = .ok (.slice (some ⟨b, o, none⟩) k N) w := by
  have hb : (Instr.sliceBounds false N N none (some (.int .i64 k)) none).run Tryz.prog w = .ok (0, k, N) w := by
    simp [Instr.sliceBounds, run_sliceBound (k := .i64) (i := (k : Int)) (y := N) (h0 := by omega) (h1 := by omega)]
  have hne : ¬ N = 0 := by omega
  simp [Instr.sliceAt, run_underlying hA, hb, hs, Instr.sureAddr, asAddr, hne, add_off]
theorem numB_len (kd x k : Nat) : (numQ kd x k).length = k := by unfold numQ; split; exact leL_len _ _; exact beL_len _ _
theorem rd_row {w : World} {b g n : Nat} {l : List UInt8} (h : w.ownsRow b 5 1 (.slice (some ⟨g, 0, none⟩) n n) n (Lib.byteCells l)) (hl : l.length = n) : Rd w 1 (some ⟨g, 0, none⟩) n (l.map vb) := by
  refine ⟨by simp [hl], fun _ => ⟨g, 0, rfl, fun j u hu => ?_⟩⟩
  have := h.cells (g := g) rfl j u hu
  rw [add_at] at this
  rw [Nat.zero_add]
  exact this
theorem byte_rd (w : World) (c : UInt8) (t : TypeId) : Rd (w.alloc (.cells #[.int .u8 c.toNat] t)) 1 (some ⟨w.heap.size, 0, none⟩) 1 ([c].map vb) := by
  refine ⟨rfl, fun _ => ⟨_, 0, rfl, fun j u hu => ?_⟩⟩
  have := (Blk.new w [vb c] t).cell j u hu
  rw [Nat.zero_add]
  exact this
theorem zeros_lt (m : List UInt8) : zerosN m < 64 := Nat.mod_lt _ (by decide)
theorem r01_Turned (A : Option Addr) (n c : Nat) (l : List UInt8) (w : World) (hr : Rd w 1 A n (l.map vb)) (hn : n ≤ 1000000) :
    Calls Tryz.prog 34 #[.slice A n c] w fun e w' => ∃ v, e = .returned v ∧ w'.ownsRow w.heap.size 5 1 v n (Lib.byteCells l.reverse) ∧ Below w.heap.size w w' := by
  obtain ⟨i0, hi0, hz0, hz1, hz2⟩ := info_parts info_u8b
  have HL : Hid (l.length = n) := vb_map_len hr
  have HR := Lib.hid hr
  clear hr
  go_enter Tryz.func34, Tryz.ntmps34
  go_wp2_with fail
  go_loopw [4, 3] (fun s4 s3 wr => ∃ (i : Int) (j : Nat) (Ao : Option Addr) (co : Nat), s4 = .int .i64 i ∧ -1 ≤ i ∧ i < n ∧ Hid (i + 1 + j = n) ∧ s3 = .slice Ao j co ∧ j ≤ 1000000 ∧ Hid (wr.ownsRow w.heap.size 5 1 (.slice Ao j co) j (Lib.byteCells (l.reverse.take j))) ∧ Hid (Below w.heap.size w wr)) (fun s4 _ _ => ((intOf s4) + 1).toNat)
  case atStart => exact ⟨(n : Int) - 1, 0, none, 0, by go_num, by omega, by omega, by simp [Hid], rfl, by omega, World.ownsRow_nil _ _ _ _, Below.refl _ _⟩
  case round =>
    obtain ⟨i, j, Ao, co, rfl, hi1, hi2, HJ, rfl, hj, HO, HLr⟩ := hrel
    by_cases hlt : 0 ≤ i
    · obtain ⟨k, rfl⟩ : ∃ k : Nat, i = k := ⟨i.toNat, by omega⟩
      have hkn : k < n := by omega
      obtain ⟨ch, hch⟩ : ∃ ch, l[k]? = some ch := ⟨_, List.getElem?_eq_getElem (by rw [HL.out]; exact hkn)⟩
      obtain ⟨b, off, hA, he⟩ := (HR.out.below HLr.out).2 (by omega)
      have e0 := he k (vb ch) (by rw [List.getElem?_map, hch]; rfl)
      have hix := fun W => idx_of (T := 22) (E := 5) (sz := 1) (c := c) Tryz.underlying22 rfl Tryz.sizeOf5 hA hkn W
      have HN : Hid (Lib.byteCells (l.reverse.take (j + 1)) = Lib.byteCells (l.reverse.take j) ++ [vb ch]) := by
        have hj := HJ.out
        have : l.reverse[j]? = some ch := by
          rw [List.getElem?_reverse (by rw [HL.out]; omega), HL.out, show n - 1 - j = k by omega, hch]
        show _ = _
        rw [List.take_add_one, this]
        simp [Lib.byteCells, vb]
      have RL := Lib.hid ((byte_rd wr ch 5).reads (by decide))
      have OA := Lib.hid (owns_below HO.out ((Below.refl _ _).alloc (Nat.le_refl _) (.cells #[.int .u8 ch.toNat] 5)))
      have hwz := HLr.out.size
      have hj2 : j + 1 ≤ 1000000 := by have := HJ.out; omega
      have HJ2 : Hid ((k : Int) - 1 + 1 + ((j + 1 : Nat) : Int) = n) := by have := HJ.out; show _ = _; omega
      unfold vb at e0
      clear he hA hch
      go_wp2_with (
        at_builtin
        refine wpList_append_any _ rfl _ _ 22 rfl w.heap.size 5 i0 _ 1 1 Tryz.underlying22 hi0 hz0 hz1 hz2 rfl (by omega) (.slice Ao j co) j _ rfl OA.out _ (some ⟨wr.heap.size, 0, none⟩) 1 1 _ rfl RL.out (fun u hu => by obtain ⟨x, _, rfl⟩ := List.mem_map.1 hu; rfl) (by first | (simp only [maxLen]; omega) | omega) (by omega) (by first | omega | (simp; omega)) ?_
        intro v1 w6 hown1 hg1 hat1
        obtain ⟨A1, c1, rfl⟩ := owns_form hown1)
      have O6 : Hid (w6.ownsRow w.heap.size 5 1 (.slice A1 (j + 1) c1) (j + 1) (Lib.byteCells (l.reverse.take (j + 1)))) := by
        show World.ownsRow _ _ _ _ _ _ _
        rw [HN.out]
        exact hown1
      have L6 : Hid (Below w.heap.size w w6) := (HLr.out.alloc hwz _).grown hg1 (Nat.le_trans hwz (by simp)) (fun p hp => (OA.out.lt p hp).1)
      clear hown1 hg1 hat1
      go_wp2_with fail
      go_roundw
      case rel => exact ⟨(k : Int) - 1, j + 1, A1, c1, by go_num, by omega, by omega, HJ2, rfl, hj2, O6, L6⟩
      case measure => first | (simp [intOf]; done) | (simp [intOf]; omega)
    · have HN : Hid (j = n) := by have := HJ.out; show _ = _; omega
      have d0 : decide ((0 : Int) ≤ i) = false := decide_eq_false hlt
      go_wp2_with fail
      go_ret
      have hO := HO.out
      rw [List.take_of_length_le (by rw [List.length_reverse, HL.out, HN.out]; exact Nat.le_refl _)] at hO
      have : j = n := HN.out
      subst this
      exact ⟨_, rfl, hO, HLr.out⟩
theorem r01_GetLe (A : Option Addr) (n c i k : Nat) (l : List UInt8) (w : World) (hr : Rd w 1 A n (l.map vb)) (hk : 1 ≤ k) (hk8 : k ≤ 8) (hi : i + k ≤ n) (hc : n ≤ c) (hc2 : c ≤ 9223372036854775807) :
    Calls Tryz.prog 59 #[.slice A n c, .int .i64 i, .int .i64 k] w fun e w' => e = .returned (.tuple #[.int .u64 (leV ((l.drop i).take k)), .bool true]) ∧ Below w.heap.size w w' := by
  obtain ⟨jk, hjk⟩ : ∃ jk, i + k = jk := ⟨_, rfl⟩
  have hl := vb_map_len hr
  have hsl := fun W => slice_mid (T := 22) (E := 5) (sz := 1) Tryz.underlying22 rfl Tryz.sizeOf5 (A := A) (n := n) (c := c) (i := i) (j := jk) (by omega) (by omega) W
  have R2 := hr.cut (i := i) (j := jk) (c := c) (by omega) (by omega) hc
  obtain ⟨A2, hA2⟩ : ∃ A2, (if c = i then A else A.map (·.add (i * 1))) = A2 := ⟨_, rfl⟩
  rw [hA2, show jk - i = k by omega] at hsl R2
  rw [← List.map_drop, ← List.map_take] at R2
  obtain ⟨l2, hl2⟩ : ∃ l2, (l.drop i).take k = l2 := ⟨_, rfl⟩
  rw [hl2] at R2 ⊢
  have hl2l : l2.length = k := vb_map_len R2
  have hci : ((i : Int) + (k : Int)) = (jk : Int) := by omega
  have d1 : decide ((k : Int) < 1) = false := decide_eq_false (by omega)
  have d2 : decide ((8 : Int) < (k : Int)) = false := decide_eq_false (by omega)
  have d3 : decide ((i : Int) < 0) = false := decide_eq_false (by omega)
  have d4 : decide ((n : Int) < (i : Int)) = false := decide_eq_false (by omega)
  have d5 : decide ((n : Int) - (i : Int) < (k : Int)) = false := decide_eq_false (by omega)
  have HR := Lib.hid R2
  have HL := Lib.hid hl2l
  clear hr hl hA2 R2 hl2 hl2l hjk
  go_enter Tryz.func59, Tryz.ntmps59
  go_wp2_with fail
  refine (r01_Turned A2 k (c - i) l2 w HR.out (by omega)).mono ?_; rintro e w1 ⟨v, rfl, row, hb⟩
  obtain ⟨A3, c3, rfl⟩ := owns_form row
  have RT : Hid (Rd w1 1 A3 k (l2.reverse.map vb)) := owns_rd row
  have HB := Lib.hid hb
  clear row hb
  go_wp2_with fail
  refine (r01_GetBe A3 k c3 0 k l2.reverse w1 RT.out hk hk8 (by omega) (by omega)).mono ?_; rintro e w' ⟨rfl, rfl⟩
  have HV : Hid (beV ((l2.reverse.drop 0).take k) = leV l2) := by
    show _ = _
    rw [List.drop_zero, List.take_of_length_le (by rw [List.length_reverse, HL.out]; exact Nat.le_refl _)]
    rfl
  rw [HV.out]
  go_wp2_with fail
  go_ret2
  exact ⟨rfl, HB.out⟩
theorem info_w32 : (Tryz.prog.info? 76).map (fun i => (i.zero, i.size, i.bytes)) = some (some (.int .u32 0), 1, 4) := by kernel_rfl
theorem cell_rd (w : World) (v : Value) (t : TypeId) : Rd (w.alloc (.cells #[v] t)) 1 (some ⟨w.heap.size, 0, none⟩) 1 [v] := by
  refine ⟨rfl, fun _ => ⟨_, 0, rfl, fun j u hu => ?_⟩⟩
  rw [Nat.zero_add]
  exact (Blk.new w [v] t).cell j u hu
def WordsAt (w0 wr : World) (Ao : Option Addr) (co i : Nat) (l : List B32) : Prop := wr.ownsRow w0.heap.size 76 1 (.slice Ao i co) i (l.map vw) ∧ Below w0.heap.size w0 wr
theorem WordsAt.below {w0 wr w' : World} {Ao : Option Addr} {co i : Nat} {l : List B32} (h : WordsAt w0 wr Ao co i l) (hb : Below wr.heap.size wr w') : WordsAt w0 w' Ao co i l := ⟨owns_below h.1 hb, below_then h.2 hb⟩
theorem r02_wordsOf (A : Option Addr) (c : Nat) (l : List UInt8) (low : Bool) (w : World) (hr : Rd w 1 A 64 (l.map vb)) (hc : 64 ≤ c) (hc2 : c ≤ 9223372036854775807) :
    Calls Tryz.prog 29 #[.slice A 64 c, .bool low] w fun e w' => ∃ v, e = .returned v ∧ w'.ownsRow w.heap.size 76 1 v 16 ((wordsOf low l).map vw) ∧ Below w.heap.size w w' := by
  obtain ⟨i0, hi0, hz0, hz1, hz2⟩ := info_parts info_w32
  have HL : Hid (l.length = 64) := vb_map_len hr
  have HR := Lib.hid hr
  clear hr
  go_enter Tryz.func29, Tryz.ntmps29
  go_wp2_with fail
  go_loopw [6, 5] (fun s6 s5 wr => ∃ (i : Nat) (Ao : Option Addr) (co : Nat), i ≤ 16 ∧ s6 = .int .i64 i ∧ s5 = .slice Ao i co ∧ Hid (WordsAt w wr Ao co i ((List.range i).map (wordAt low l)))) (fun s6 _ _ => 16 - (intOf s6).toNat)
  case atStart => exact ⟨0, none, 0, by omega, rfl, rfl, World.ownsRow_nil _ _ _ _, Below.refl _ _⟩
  case round =>
    obtain ⟨i, Ao, co, hi, rfl, rfl, HW⟩ := hrel
    by_cases hlt : i < 16
    · obtain ⟨m, hm⟩ : ∃ m, 4 * i = m := ⟨_, rfl⟩
      have hmi : (4 : Int) * (i : Int) = (m : Int) := by omega
      have hm4 : m + 4 ≤ 64 := by omega
      have RT := Lib.hid (HR.out.below HW.out.2)
      have h4 : ((l.drop m).take 4).length = 4 := by rw [List.length_take, List.length_drop, HL.out]; omega
      obtain ⟨xb, hxb⟩ : ∃ x : Nat, beV ((l.drop m).take 4) = x := ⟨_, rfl⟩
      obtain ⟨xl, hxl⟩ : ∃ x : Nat, leV ((l.drop m).take 4) = x := ⟨_, rfl⟩
      have hb4 : xb < 4294967296 := by rw [← hxb]; exact four_lt _ h4
      have hl4 : xl < 4294967296 := by rw [← hxl]; exact four_ltl _ h4
      have HN : ∀ b : Bool, Hid ((List.range (i + 1)).map (wordAt b l) = (List.range i).map (wordAt b l) ++ [wordAt b l i]) := fun b => words_take b l hlt
      have HVB : Hid (vw (wordAt false l i) = .int .u32 (xb : Int)) := by
        have : wordAt false l i = BitVec.ofNat 32 xb := by unfold wordAt; rw [hm, ← hxb]; rfl
        show _ = _
        rw [this]; unfold vw; rw [nv_ofNat hb4]
      have HVL : Hid (vw (wordAt true l i) = .int .u32 (xl : Int)) := by
        have : wordAt true l i = BitVec.ofNat 32 xl := by unfold wordAt; rw [hm, ← hxl]; rfl
        show _ = _
        rw [this]; unfold vw; rw [nv_ofNat hl4]
      have HXB := Lib.hid hxb
      have HXL := Lib.hid hxl
      have HH := Lib.hid HN
      clear hm hxb hxl h4 HN
      cases low with
      | false =>
        go_wp2_with fail
        refine (r01_GetBe A 64 c m 4 l wr RT.out (by decide) (by decide) hm4 (by decide)).mono ?_; rintro e w' ⟨rfl, rfl⟩
        rw [HXB.out]
        have RL := Lib.hid ((cell_rd w' (.int .u32 (xb : Int)) 76).reads (by decide))
        have OA := Lib.hid (HW.out.below ((Below.refl _ _).alloc (Nat.le_refl _) (.cells #[.int .u32 (xb : Int)] 76)))
        go_wp2_with (
          at_builtin
          refine wpList_append_any _ rfl _ _ 77 rfl w.heap.size 76 i0 _ 1 4 Tryz.underlying77 hi0 hz0 hz1 hz2 rfl (by omega) (.slice Ao i co) i _ rfl OA.out.1 _ (some ⟨w'.heap.size, 0, none⟩) 1 1 _ rfl RL.out (fun u hu => by rw [List.mem_singleton.1 hu]; rfl) (by first | (simp only [maxLen]; omega) | omega) (by omega) (by first | (have := OA.out.2.size; omega) | (simp; omega)) ?_
          intro v1 w6 hown1 hg1 hat1
          obtain ⟨A1, c1, rfl⟩ := owns_form hown1)
        have O6 : Hid (WordsAt w w6 A1 c1 (i + 1) ((List.range (i + 1)).map (wordAt false l))) := by
          refine ⟨?_, OA.out.2.grown hg1 OA.out.2.size (fun p hp => (OA.out.1.lt p hp).1)⟩
          rw [(HH.out false).out, List.map_append, List.map_singleton, HVB.out]
          exact hown1
        clear hown1 hg1 hat1 RL OA
        go_wp2_with fail
        go_roundw
        case rel => exact ⟨i + 1, A1, c1, by omega, by go_num, rfl, O6⟩
        case measure => simp [intOf]; omega
      | true =>
        go_wp2_with fail
        refine (r01_GetBe A 64 c m 4 l wr RT.out (by decide) (by decide) hm4 (by decide)).mono ?_; rintro e w' ⟨rfl, rfl⟩
        rw [HXB.out]
        go_wp2_with fail
        refine (r01_GetLe A 64 c m 4 l w' RT.out (by decide) (by decide) hm4 hc hc2).mono ?_; rintro e w5 ⟨rfl, hb5⟩
        rw [HXL.out]
        have W5 := Lib.hid (HW.out.below hb5)
        clear hb5
        have RL := Lib.hid ((cell_rd w5 (.int .u32 (xl : Int)) 76).reads (by decide))
        have OA := Lib.hid (W5.out.below ((Below.refl _ _).alloc (Nat.le_refl _) (.cells #[.int .u32 (xl : Int)] 76)))
        go_wp2_with (
          at_builtin
          refine wpList_append_any _ rfl _ _ 77 rfl w.heap.size 76 i0 _ 1 4 Tryz.underlying77 hi0 hz0 hz1 hz2 rfl (by omega) (.slice Ao i co) i _ rfl OA.out.1 _ (some ⟨w5.heap.size, 0, none⟩) 1 1 _ rfl RL.out (fun u hu => by rw [List.mem_singleton.1 hu]; rfl) (by first | (simp only [maxLen]; omega) | omega) (by omega) (by first | (have := OA.out.2.size; omega) | (simp; omega)) ?_
          intro v1 w6 hown1 hg1 hat1
          obtain ⟨A1, c1, rfl⟩ := owns_form hown1)
        have O6 : Hid (WordsAt w w6 A1 c1 (i + 1) ((List.range (i + 1)).map (wordAt true l))) := by
          refine ⟨?_, OA.out.2.grown hg1 OA.out.2.size (fun p hp => (OA.out.1.lt p hp).1)⟩
          rw [(HH.out true).out, List.map_append, List.map_singleton, HVL.out]
          exact hown1
        clear hown1 hg1 hat1 RL OA
        go_wp2_with fail
        go_roundw
        case rel => exact ⟨i + 1, A1, c1, by omega, by go_num, rfl, O6⟩
        case measure => simp [intOf]; omega
    · obtain rfl : i = 16 := by omega
      go_wp2_with fail
      go_ret
      exact ⟨_, rfl, HW.out.1, HW.out.2⟩
end
end Go.Proofs.YtlhchpeecfbgnaaGreatDoor
