/- A part of the proof that the digests of any content are the three of it, and that an installed set is new memory. No condition. -/
import Derived.Test.YtlhchpeecfbgnaaGreatDoorG29
import Derived.Test.YtlhchpeecfbgnaaGreatDoorG30
import Derived.Test.YtlhchpeecfbgnaaGreatDoorG33
set_option maxRecDepth 100000
set_option maxHeartbeats 20000000
set_option linter.unusedVariables false
set_option linter.unusedSimpArgs false
namespace Go.Proofs.YtlhchpeecfbgnaaGreatDoor
section
open Go.RowKit
def PkL.instL (p : PkL) : InstL := ⟨p.nm, p.ver, p.ga, p.gc, p.gives⟩
theorem instL_plain (l : List PkL) : (l.map PkL.instL).map InstL.plain = l.map PkL.inst := by rw [List.map_map]; rfl
theorem below_drewC {n : Nat} {w W : World} (h : Below n w W) : Below n w W.drew := ⟨h.os, h.tape, h.output, h.size, h.block⟩
def SetPostR (l : List PkL) (w : World) (e : Ending) (w' : World) : Prop := ∃ (Ao : Option Addr) (co : Nat), e = .returned (.slice Ao l.length co) ∧ SetOk w' Ao (l.map PkL.instL) ∧ Below w.heap.size w w'
theorem reads_threed (w : World) (t : TypeId) (x y z : Value) : Reads ((w.alloc (.cells #[x, y, z] t)).drew) (w.heap.size + 1) 3 (some ⟨w.heap.size, 0, none⟩) 1 [x, y, z] := reads_three w t x y z
theorem r24_Set (A : Option Addr) (c : Nat) (l : List PkL) (w : World) (hd : DbOk w A l) (hl : l.length ≤ 100000) :
    Calls Tryz.prog 10 #[.slice A l.length c] w (SetPostR l w) := by
  obtain ⟨i0, hi0, hz0, hz1, hz2⟩ := info_parts info_instC
  have HD := Lib.hid hd
  clear hd
  go_enter Tryz.func10, Tryz.ntmps10
  go_wp2_with fail
  go_loopw [4, 3] (fun s4 s3 wr => ∃ (k : Nat) (Ao : Option Addr) (co : Nat), k ≤ l.length ∧ s4 = .int .i64 k ∧ s3 = .slice Ao k co ∧ Hid (wr.ownsRow w.heap.size 30 3 (.slice Ao k co) k (((l.take k).map PkL.instL).flatMap InstL.cells)) ∧ Hid (Below w.heap.size w wr)) (fun s4 _ _ => l.length - (intOf s4).toNat)
  case atStart => exact ⟨0, none, 0, Nat.zero_le _, rfl, rfl, World.ownsRow_nil _ _ _ _, Below.refl _ _⟩
  case round =>
    obtain ⟨k, Ao, co, hk, rfl, rfl, HO, HB⟩ := hrel
    by_cases hlt : k < l.length
    · obtain ⟨p, hp⟩ : ∃ p, l[k]? = some p := ⟨_, List.getElem?_eq_getElem hlt⟩
      obtain ⟨b, off, hA, he⟩ := (HD.out.row.below HB.out).elem pk_len k p hp
      have e0 := he 0 _ rfl
      have e1 := he 1 _ rfl
      have e6 := he 6 _ rfl
      simp only [Nat.add_zero] at e0
      have hix := fun W => idx_of (T := 23) (E := 43) (sz := 9) (c := c) Tryz.underlying23 rfl Tryz.sizeOf43 hA hlt W
      have HPN : Hid (((l.take (k + 1)).map PkL.instL).flatMap InstL.cells = ((l.take k).map PkL.instL).flatMap InstL.cells ++ [.string p.nm, .string p.ver, .slice p.ga p.gives.length p.gc]) := by show _ = _; rw [List.take_add_one, hp, List.map_append, List.flatMap_append]; rfl
      have hwz := HB.out.size
      generalize p.gives.length = gl at *
      clear hp hA he
      go_wp2_with fail
      go_region_law
        (refine step_append_any _ (by rfl) _ _ _ (by rfl) w.heap.size 30 i0 _ 3 56 Tryz.underlying26 hi0 hz0 hz1 hz2 rfl (by omega) (.slice Ao k co) k _ (by rfl) ((HO.out.alloc _).drew) (wr.heap.size + 1) (some ⟨wr.heap.size, 0, none⟩) 1 1 [.string p.nm, .string p.ver, .slice p.ga gl p.gc] (by rfl) (reads_threed wr _ _ _ _) (by simp [Value.oneCell']) (by simp only [maxLen]; omega) (by omega) (by simp; omega) ?_
         intro v6 w6 hown6 hg6 hat6)
      all_goals
        obtain ⟨A6, c6, rfl⟩ := owns_form hown6
        have O6 : Hid (w6.ownsRow w.heap.size 30 3 (.slice A6 (k + 1) c6) (k + 1) (((l.take (k + 1)).map PkL.instL).flatMap InstL.cells)) := by
          show World.ownsRow _ _ _ _ _ _ _
          rw [HPN.out]
          exact hown6
        have L6 : Hid (Below w.heap.size w w6) := (below_drewC (HB.out.alloc hwz _)).grown hg6 (Nat.le_trans hwz (by simp)) (fun p hp => (HO.out.lt p hp).1)
        clear hown6 hg6 hat6
        go_wp2_with fail
        go_roundw
        case rel => exact ⟨k + 1, A6, c6, by omega, by go_num, rfl, O6, L6⟩
        case measure => simp [intOf]; omega
    · have HE : Hid (k = l.length) := by show _ = _; omega
      have HF : Hid (SetOk wr Ao (l.map PkL.instL)) := by
        have ho := HO.out
        rw [HE.out, List.take_of_length_le (Nat.le_refl _)] at ho
        refine ⟨by rw [List.length_map]; exact owns_rd ho, fun x hx => ?_⟩
        obtain ⟨p, hp, rfl⟩ := List.mem_map.1 hx
        exact ((HD.out.all p hp).gives).below HB.out
      go_wp2_with fail
      go_ret
      exact ⟨Ao, co, (by rw [HE.out]; rfl), HF.out, HB.out⟩
end
section
open Go.RowKit Go.Deep
theorem bdrew {B : Nat} {w W : World} (h : Below B w W) : Below B w W.drew := ⟨h.os, h.tape, h.output, h.size, h.block⟩
theorem map_mate {α β : Type} {f : α → β} {l m : List α} (h : l.map f = m.map f) {k : Nat} {x : α} (hx : l[k]? = some x) : ∃ y, m[k]? = some y ∧ f y = f x := by
  have : (m.map f)[k]? = some (f x) := by rw [← h, List.getElem?_map, hx]; rfl
  rw [List.getElem?_map, Option.map_eq_some_iff] at this
  exact this
theorem map_len {α β : Type} {f : α → β} {l m : List α} (h : l.map f = m.map f) : l.length = m.length := by have := congrArg List.length h; simpa using this
theorem r17_SameSet (A B : Option Addr) (c d : Nat) (l m : List InstL) (w : World) (h1 : SetOk w A l) (h2 : SetOk w B m) (he : l.map InstL.plain = m.map InstL.plain) (hl : l.length ≤ 1000000) (hg : ∀ x ∈ l, x.gives.length ≤ 1000000) :
    Calls Tryz.prog 9 #[.slice A l.length c, .slice B m.length d] w fun e w' => e = .returned (.bool true) ∧ Below w.heap.size w w' := by
  have H1 := Lib.hid h1; have H2 := Lib.hid h2; have HE := Lib.hid he; have HG := Lib.hid hg
  have HL := map_len he
  rw [← HL]
  have HLM := Lib.hid HL
  clear h1 h2 he hg HL
  have q : ((l.length : Int) != (l.length : Int)) = false := by simp
  go_enter Tryz.func9, Tryz.ntmps9
  go_wp2_with fail
  go_loopw [5] (fun i wr => ∃ k : Nat, k ≤ l.length ∧ i = .int .i64 k ∧ Hid (Below w.heap.size w wr)) (fun i _ => l.length - (intOf i).toNat)
  case atStart => exact ⟨0, Nat.zero_le _, rfl, Below.refl _ _⟩
  case round =>
    obtain ⟨k, hk, rfl, HB⟩ := hrel
    by_cases hlt : k < l.length
    · obtain ⟨x, hx⟩ : ∃ x, l[k]? = some x := ⟨_, List.getElem?_eq_getElem hlt⟩
      obtain ⟨y, hy, hp⟩ := map_mate HE.out hx
      have hltm : k < m.length := by rw [← HLM.out]; exact hlt
      obtain ⟨b1, o1, hA1, he1⟩ := (H1.out.row.below HB.out).elem inst_len k x hx
      obtain ⟨b2, o2, hA2, he2⟩ := (H2.out.row.below HB.out).elem inst_len k y hy
      have R1 := (H1.out.all x (List.mem_of_getElem? hx)).below HB.out
      have R2 := (H2.out.all y (List.mem_of_getElem? hy)).below HB.out
      have hgl := HG.out x (List.mem_of_getElem? hx)
      obtain ⟨nm, ver, ga, gc, gives⟩ := x
      obtain ⟨nm', ver', ga', gc', gives'⟩ := y
      injection hp with p1 p2 p3
      simp only at R1 R2 hgl p1 p2 p3
      subst p1 p2 p3
      have e0 := he1 0 _ rfl
      have e1 := he1 1 _ rfl
      have e2 := he1 2 _ rfl
      have f0 := he2 0 _ rfl
      have f1 := he2 1 _ rfl
      have f2 := he2 2 _ rfl
      simp only [Nat.add_zero] at e0 f0 e1 e2 f1 f2
      have hix := fun W => idx_of (T := 26) (E := 30) (sz := 3) (c := c) Tryz.underlying26 rfl Tryz.sizeOf30 hA1 hlt W
      have hiy := fun W => idx_of (T := 26) (E := 30) (sz := 3) (c := d) Tryz.underlying26 rfl Tryz.sizeOf30 hA2 hltm W
      rw [← HLM.out] at hiy
      have SA := Lib.hid fun W hb => r17_SameAtoms ga ga' gc gc' gives' W (R1.below (w' := W) hb) (R2.below hb) hgl
      have bl1 : b1 < wr.heap.size := World.block_lt_of_cell? _ _ e0
      have bl2 : b2 < wr.heap.size := World.block_lt_of_cell? _ _ f0
      clear hx hy hA1 hA2 he1 he2 R1 R2 hgl hltm
      generalize gives'.length = gl at *
      go_upto_region 6 with (fail)
      go_cut [54] (fun s wx => s = .bool false ∧ Hid (Below wr.heap.size wr wx))
      case first =>
        go_region_held3 (fun w' => w'.cell? ⟨b1, o1 + k * 3, none⟩ = some (.string nm') ∧ w'.cell? ⟨b1, o1 + k * 3 + 1, none⟩ = some (.string ver') ∧ w'.cell? ⟨b1, o1 + k * 3 + 2, none⟩ = some (.slice ga gl gc) ∧ w'.cell? ⟨b2, o2 + k * 3, none⟩ = some (.string nm') ∧ w'.cell? ⟨b2, o2 + k * 3 + 1, none⟩ = some (.string ver') ∧ w'.cell? ⟨b2, o2 + k * 3 + 2, none⟩ = some (.slice ga' gl gc'))
          (first
            | go_keep
            | exact ⟨(hb4.cell (p := ⟨_, _, none⟩) bl1).trans e0, (hb4.cell (p := ⟨_, _, none⟩) bl1).trans e1, (hb4.cell (p := ⟨_, _, none⟩) bl1).trans e2, (hb4.cell (p := ⟨_, _, none⟩) bl2).trans f0, (hb4.cell (p := ⟨_, _, none⟩) bl2).trans f1, (hb4.cell (p := ⟨_, _, none⟩) bl2).trans f2⟩)
          (first
            | (go_at_call 18; refine (SA.out _ (bdrew (Below.refl _ _))).mono ?_; rintro e w4 ⟨rfl, hb4⟩))
        all_goals
          have HB4 : Hid (Below wr.heap.size wr w4) := bthen (bdrew (Below.refl _ _)) hb4
          go_wp2_with fail
          go_meet
          exact ⟨rfl, HB4⟩
      case rest =>
        obtain ⟨rfl, HB4⟩ := hcut
        go_wp2_with fail
        go_roundw
        case rel => exact ⟨k + 1, by omega, by go_num, bthen HB.out HB4.out⟩
        case measure => simp [intOf]; omega
    · go_wp2_with fail
      go_ret
      exact ⟨rfl, HB.out⟩
end
section
open Go.RowKit
theorem row_none (w : World) (base : Nat) (hb : base ≤ w.heap.size) : (w.alloc (.cells #[] 5)).ownsRow base 5 1 (.slice (some ⟨w.heap.size, 0, none⟩) 0 0) 0 [] :=
  ⟨rfl, .inr ⟨w.heap.size, 0, #[], rfl, hb, heap_alloc_new w _, Nat.le_refl _, by unfold maxLen; omega, rfl, rfl⟩⟩
def BytesAt (w0 wr : World) (Ao : Option Addr) (co q : Nat) (l : List UInt8) : Prop := wr.ownsRow w0.heap.size 5 1 (.slice Ao q co) q (Lib.byteCells l) ∧ Below w0.heap.size w0 wr
theorem BytesAt.below {w0 wr w' : World} {Ao : Option Addr} {co i : Nat} {l : List UInt8} (h : BytesAt w0 wr Ao co i l) (hb : Below wr.heap.size wr w') : BytesAt w0 w' Ao co i l := ⟨owns_below h.1 hb, below_then h.2 hb⟩
theorem BytesAt.more {w0 wr w6 : World} {Ao A1 : Option Addr} {co c1 i n : Nat} {l r : List UInt8} (h : BytesAt w0 wr Ao co i l) (ho : w6.ownsRow w0.heap.size 5 1 (.slice A1 (i + n) c1) (i + n) (Lib.byteCells l ++ Lib.byteCells r)) (hg : wr.grownBy w6 (Value.slice Ao i co).ownBlock) : BytesAt w0 w6 A1 c1 (i + n) (l ++ r) := by
  refine ⟨?_, h.2.grown hg h.2.size (fun p hp => (h.1.lt p hp).1)⟩
  have : Lib.byteCells (l ++ r) = Lib.byteCells l ++ Lib.byteCells r := by simp [Lib.byteCells]
  rw [this]
  exact ho
theorem byte_rd1 (w : World) (c : UInt8) (t : TypeId) : Rd (w.alloc (.cells #[.int .u8 c.toNat] t)) 1 (some ⟨w.heap.size, 0, none⟩) 1 (Lib.byteCells [c]) := by
  refine ⟨rfl, fun _ => ⟨_, 0, rfl, fun j u hu => ?_⟩⟩
  have := (Blk.new w [vb c] t).cell j u hu
  rw [Nat.zero_add]
  exact this
theorem one_bytes (l : List UInt8) : ∀ u ∈ Lib.byteCells l, u.oneCell' = true := by
  intro u hu; obtain ⟨n, _, rfl⟩ := List.mem_map.1 hu; rfl
theorem r02_whole (kd : Nat) (A : Option Addr) (n c : Nat) (l : List UInt8) (low : Bool) (w : World) (hlow : (kd == 1) = low) (hr : Rd w 1 A n (l.map vb)) (hn : n ≤ 1000000) :
    Calls Tryz.prog 28 #[.slice A n c, .bool low] w fun e w' => ∃ v q, e = .returned v ∧ w'.ownsRow w.heap.size 5 1 v q (Lib.byteCells (wholeM kd l)) ∧ Below w.heap.size w w' := by
  obtain ⟨i0, hi0, hz0, hz1, hz2⟩ := info_parts info_u8b
  have HL : Hid (l.length = n) := vb_map_len hr
  have HR := Lib.hid hr
  have HLO := Lib.hid hlow
  clear hr hlow
  have B0 : Hid (BytesAt w (w.alloc (.cells #[] 5)) (some ⟨w.heap.size, 0, none⟩) 0 0 []) := ⟨row_none w _ (Nat.le_refl _), (Below.refl _ _).alloc (Nat.le_refl _) _⟩
  have R0 := Lib.hid ((HR.out.below ((Below.refl _ _).alloc (Nat.le_refl _) (.cells #[] 5))).reads (by decide))
  go_enter Tryz.func28, Tryz.ntmps28
  go_wp2_with (first
    | (at_builtin
       refine wpList_append_any _ rfl _ _ 22 rfl w.heap.size 5 i0 _ 1 1 Tryz.underlying22 hi0 hz0 hz1 hz2 rfl (by omega) (.slice (some ⟨w.heap.size, 0, none⟩) 0 0) 0 _ rfl B0.out.1 _ A n c _ rfl R0.out (one_bytes l) (by first | (simp only [maxLen]; omega) | (unfold maxLen; omega)) (by omega) (by first | omega | (simp; done) | (have := B0.out.2.size; omega) | (simp; omega)) ?_
       intro v1 w6 hown1 hg1 hat1
       obtain ⟨A1, c1, rfl⟩ := owns_form hown1
       have B1 : Hid (BytesAt w w6 A1 c1 n l) := by
         have := B0.out.more (n := n) (r := l) hown1 hg1
         rw [Nat.zero_add, List.nil_append] at this
         exact this
       have R1 : Hid (Reads (w6.alloc (.cells #[.int .u8 (128 : Int)] 5)) (w6.alloc (.cells #[.int .u8 (128 : Int)] 5)).heap.size 1 (some ⟨w6.heap.size, 0, none⟩) 1 (Lib.byteCells [128])) := (byte_rd1 w6 128 5).reads (by decide)
       have B1a := Lib.hid (B1.out.below ((Below.refl _ _).alloc (Nat.le_refl _) (.cells #[.int .u8 (128 : Int)] 5)))
       clear hown1 hg1 hat1 R0 B0
       rw [Nat.zero_add])
    | (at_builtin
       refine wpList_append_any _ rfl _ _ 22 rfl w.heap.size 5 i0 _ 1 1 Tryz.underlying22 hi0 hz0 hz1 hz2 rfl (by omega) (.slice A1 n c1) n _ rfl B1a.out.1 _ (some ⟨w6.heap.size, 0, none⟩) 1 1 _ rfl R1.out (one_bytes [128]) (by first | (simp only [maxLen]; omega) | (unfold maxLen; omega)) (by omega) (by first | omega | (simp; done) | (have := B1a.out.2.size; omega) | (simp; omega)) ?_
       intro v1 w7 hown1 hg1 hat1
       obtain ⟨A2, c2, rfl⟩ := owns_form hown1
       have B2 := Lib.hid (B1a.out.more (n := 1) (r := [128]) hown1 hg1)
       clear hown1 hg1 hat1 R1 B1a B1))
  have B2' : Hid (BytesAt w w7 A2 c2 (n + 1) (l ++ [128] ++ List.replicate 0 0)) := by simpa using B2
  go_loopw [5] (fun s5 wr => ∃ (i q : Nat) (Ao : Option Addr) (co : Nat), i ≤ zerosN l ∧ s5 = .slice Ao q co ∧ q ≤ 1000100 ∧ Hid (q = n + 1 + i) ∧ Hid (BytesAt w wr Ao co q (l ++ [128] ++ List.replicate i 0))) (fun s5 _ => n + 66 - sLen s5)
  case atStart => exact ⟨0, n + 1, A2, c2, Nat.zero_le _, rfl, by omega, rfl, B2'⟩
  case round =>
    obtain ⟨i, q, Ao, co, hi, rfl, hq, HQ, HB⟩ := hrel
    have HZ64 := Lib.hid (zeros_lt l)
    have hs3 : l.length + 1 + i = q := by rw [HL.out]; exact HQ.out.symm
    obtain ⟨bt, hbt⟩ : ∃ bt, ((q : Int) % 64 != 56) = bt := ⟨_, rfl⟩
    have hbt2 : ((q : Int).tmod 64 != 56) = bt := by rw [Int.tmod_eq_emod_of_nonneg (by omega)]; exact hbt
    have HBT : Hid (decide (i < zerosN l) = bt) := by show _ = _; rw [← hbt]; exact (zeros_more hi hs3).symm
    clear hs3
    cases bt with
    | true =>
      have hlt : i < zerosN l := of_decide_eq_true HBT.out
      have hq2 : q + 1 ≤ 1000100 := by have := HQ.out; have := HZ64.out; omega
      have R1 : Hid (Reads (wr.alloc (.cells #[.int .u8 (0 : Int)] 5)) (wr.alloc (.cells #[.int .u8 (0 : Int)] 5)).heap.size 1 (some ⟨wr.heap.size, 0, none⟩) 1 (Lib.byteCells [0])) := (byte_rd1 wr 0 5).reads (by decide)
      have B1a := Lib.hid (HB.out.below ((Below.refl _ _).alloc (Nat.le_refl _) (.cells #[.int .u8 (0 : Int)] 5)))
      go_wp2_with (
        at_builtin
        refine wpList_append_any _ rfl _ _ 22 rfl w.heap.size 5 i0 _ 1 1 Tryz.underlying22 hi0 hz0 hz1 hz2 rfl (by omega) (.slice Ao q co) q _ rfl B1a.out.1 _ (some ⟨wr.heap.size, 0, none⟩) 1 1 _ rfl R1.out (one_bytes [0]) (by first | (simp only [maxLen]; omega) | (unfold maxLen; omega)) (by omega) (by first | omega | (simp; done) | (have := B1a.out.2.size; omega) | (simp; omega)) ?_
        intro v1 w8 hown1 hg1 hat1
        obtain ⟨A3, c3, rfl⟩ := owns_form hown1
        have B3 : Hid (BytesAt w w8 A3 c3 (q + 1) (l ++ [128] ++ List.replicate (i + 1) 0)) := by
          rw [List.replicate_succ', ← List.append_assoc]
          exact B1a.out.more (n := 1) (r := [0]) hown1 hg1
        clear hown1 hg1 hat1 R1 B1a)
      go_roundw
      case rel => exact ⟨i + 1, q + 1, A3, c3, hlt, rfl, hq2, by have := HQ.out; show _ = _; omega, B3⟩
      case measure =>
        have := HQ.out; have := HZ64.out
        simp [sLen]; omega
    | false =>
      have hiz : Hid (i = zerosN l) := by have := of_decide_eq_false HBT.out; show _ = _; omega
      obtain ⟨x8, hx8⟩ : ∃ x8, n * 8 = x8 := ⟨_, rfl⟩
      have e8 : (n : Int) * 8 = (x8 : Int) := by omega
      have e8w : IntKind.u64.wrap (x8 : Int) = (x8 : Int) := IntWalk.u64_in _ (by omega)
      have e8v : IntKind.u64.wrap (n : Int) = (n : Int) := IntWalk.u64_in _ (by omega)
      have HX8 := Lib.hid hx8
      have hx8l : x8 < 18446744073709551616 := by omega
      clear hx8
      go_wp2_with fail
      refine (r01_Be x8 8 wr hx8l (by decide) (by decide)).mono ?_; rintro e w8 ⟨v, rfl, row, hb8⟩
      obtain ⟨A8, c8, rfl⟩ := owns_form row
      have HB8 := Lib.hid (HB.out.below hb8)
      have RD8 : Hid (Rd w8 1 A8 8 ((beL x8 8).map vb)) := owns_rd row
      clear row hb8
      have HWM : Hid (l ++ [128] ++ List.replicate i 0 ++ numQ kd x8 8 = wholeM kd l) := wholeM_eq kd l hiz.out (by rw [HL.out, ← HX8.out, Nat.mul_comm])
      cases low with
      | false =>
        have HNB : Hid (numQ kd x8 8 = beL x8 8) := by
          have : ¬ kd = 1 := by simpa using HLO.out
          show _ = _
          unfold numQ
          rw [if_neg this]
        have R8 : Hid (Reads w8 w8.heap.size 1 A8 8 (Lib.byteCells (beL x8 8))) := RD8.out.reads (by decide)
        go_wp2_with (
          at_builtin
          refine wpList_append_any _ rfl _ _ 22 rfl w.heap.size 5 i0 _ 1 1 Tryz.underlying22 hi0 hz0 hz1 hz2 rfl (by omega) (.slice Ao q co) q _ rfl HB8.out.1 _ A8 8 c8 _ rfl R8.out (one_bytes (beL x8 8)) (by first | (simp only [maxLen]; omega) | (unfold maxLen; omega)) (by omega) (by first | omega | (simp; done) | (have := HB8.out.2.size; omega) | (simp; omega)) ?_
          intro v1 w9 hown1 hg1 hat1
          obtain ⟨A3, c3, rfl⟩ := owns_form hown1
          have B3 : Hid (BytesAt w w9 A3 c3 (q + 8) (wholeM kd l)) := by
            rw [← HWM.out, HNB.out]
            exact HB8.out.more (n := 8) (r := beL x8 8) hown1 hg1
          clear hown1 hg1 hat1)
        go_ret
        exact ⟨_, _, rfl, B3.out.1, B3.out.2⟩
      | true =>
        have HNB : Hid (numQ kd x8 8 = (beL x8 8).reverse) := by
          have : kd = 1 := by simpa using HLO.out
          show _ = _
          unfold numQ beL
          rw [if_pos this, List.reverse_reverse]
        go_wp2_with fail
        refine (r01_Turned A8 8 c8 (beL x8 8) w8 RD8.out (by decide)).mono ?_; rintro e w10 ⟨v, rfl, row, hb10⟩
        obtain ⟨A9, c9, rfl⟩ := owns_form row
        have HB9 := Lib.hid (HB8.out.below hb10)
        have R9 : Hid (Reads w10 w10.heap.size 1 A9 8 (Lib.byteCells (beL x8 8).reverse)) := (owns_rd row).reads (by decide)
        clear row hb10
        go_wp2_with (
          at_builtin
          refine wpList_append_any _ rfl _ _ 22 rfl w.heap.size 5 i0 _ 1 1 Tryz.underlying22 hi0 hz0 hz1 hz2 rfl (by omega) (.slice Ao q co) q _ rfl HB9.out.1 _ A9 8 c9 _ rfl R9.out (one_bytes (beL x8 8).reverse) (by first | (simp only [maxLen]; omega) | (unfold maxLen; omega)) (by omega) (by first | omega | (simp; done) | (have := HB9.out.2.size; omega) | (simp; omega)) ?_
          intro v1 w9 hown1 hg1 hat1
          obtain ⟨A3, c3, rfl⟩ := owns_form hown1
          have B3 : Hid (BytesAt w w9 A3 c3 (q + 8) (wholeM kd l)) := by
            rw [← HWM.out, HNB.out]
            exact HB9.out.more (n := 8) (r := (beL x8 8).reverse) hown1 hg1
          clear hown1 hg1 hat1)
        go_ret
        exact ⟨_, _, rfl, B3.out.1, B3.out.2⟩
theorem hash_Sum (hb kd : Nat) (hk : 1 ≤ kd ∧ kd ≤ 3) (m : List UInt8) (w : World) (hG : GlT w) (hH : HashAt w hb kd m) (hm : m.length ≤ 1125899906842624) :
    Calls Tryz.prog 27 #[.pointer (some ⟨hb, 0, none⟩)] w fun e w' => ∃ v, e = .returned v ∧ w'.ownsRow w.heap.size 5 1 v (digestB kd m).length (Lib.byteCells (digestB kd m)) ∧ Below w.heap.size w w' := by
  obtain ⟨tl, hT, hB⟩ := hH
  have hst := stateOf_len kd m
  have b0 := hB.cell 0 _ rfl
  have b73 := hB.cell 73 _ (hashC_size hst hT.1)
  obtain ⟨low, hlow⟩ : ∃ low, (kd == 1) = low := ⟨_, rfl⟩
  have k1 : ((kd : Int) == 1) = low := (eq_nat kd 1).trans hlow
  have HLOW := Lib.hid hlow
  obtain ⟨sz, hsz⟩ : ∃ sz, m.length = sz := ⟨_, rfl⟩
  rw [hsz] at hB b73 hm
  have HB := Lib.hid hB
  have HSZ := Lib.hid hsz
  have HT := Lib.hid hT
  have HS := Lib.hid hst
  have HG := Lib.hid hG
  clear hlow hsz hT hst hG
  go_enter Tryz.func27, Tryz.ntmps27
  go_wp2_with fail
  go_region
  generalize hW1 : (w.alloc (.cells ((Tryz.zeroCells114.setIfInBounds 0 (.int .i64 (kd : Int))).setIfInBounds 73 (.int .u64 (sz : Int))) 114)).drew = W1
  obtain ⟨W2, W3, hcp2, hcp3, E3, H3, L3⟩ := sum_copies HS.out HT.out.1 HB.out hW1
  clear hW1 b0 b73 hB
  go_wp2_with fail
  go_region_law (fail)
  clear hcp2
  go_wp2_with fail
  go_region_law (fail)
  clear hcp3
  have b0 := H3.out.cell 0 _ rfl
  have b73 := H3.out.cell 73 _ (hashC_size HS.out HT.out.1)
  go_upto_if 41 with (fail)
  go_cut [4] (fun s wx => wx = W3 ∧ ∃ F : FuncId, s = .func (Fn.func F) #[] #[] ∧ Hid (NumSpec kd F))
  case first =>
    cases low
    · go_wp2_with fail
      go_meet
      exact ⟨rfl, _, rfl, numSpec_be HLOW.out⟩
    · go_wp2_with fail
      go_meet
      exact ⟨rfl, _, rfl, numSpec_le HLOW.out⟩
  case rest =>
    obtain ⟨rfl, F, rfl, HF⟩ := hcut
    have hcall := HF.out.1
    obtain ⟨W4, hW4⟩ : ∃ W4, wc.alloc (.cells #[.int .u8 (128 : Int)] 5) = W4 := ⟨_, rfl⟩
    have L4 : Hid (Below w.heap.size w W4) := by show Below _ _ _; rw [← hW4]; exact L3.out.alloc L3.out.size _
    have hez : w.heap.size < wc.heap.size := E3.out.sz
    have HA4 : Hid (HashAt W4 w.heap.size kd m) := by
      show HashAt _ _ _ _
      refine ⟨tl, HT.out, ?_⟩
      rw [← hW4, HSZ.out]
      exact E3.out.alloc _
    have RD4 : Hid (Rd W4 1 (some ⟨wc.heap.size, 0, none⟩) 1 ([128].map vb)) := by rw [← hW4]; exact byte_rd wc 128 _
    have NTe : Hid (NT w.heap.size) := HG.out.new (Nat.le_refl _)
    go_wp2_with fail
    refine (hash_Write w.heap.size kd 1 1 hk m [128] (some ⟨wc.heap.size, 0, none⟩) W4 (HG.out.below L4.out) NTe.out HA4.out RD4.out (by intro _ b o e; injection e with e; injection e with e _; omega) (Nat.le_refl _) (by decide) (by rw [HSZ.out]; omega)).mono ?_; rintro e w5 ⟨rfl, h5, g5⟩
    have H5 := Lib.hid h5
    have L5 : Hid (Below w.heap.size w w5) := L4.out.grown g5 L4.out.size (fun q hq => by have := Option.some.inj hq; omega)
    clear h5 g5 hW4 RD4 HA4 L4 k1 b0 b73 hez
    go_wp2_with fail
    go_loopw [] (fun wr => ∃ i : Nat, i ≤ zerosN m ∧ Hid (HashAt wr w.heap.size kd (m ++ [128] ++ List.replicate i 0)) ∧ Hid (Below w.heap.size w wr)) (fun wr => sz + 66 - szAt w.heap.size wr)
    case atStart => exact ⟨0, Nat.zero_le _, by simpa using H5, L5⟩
    case round =>
      obtain ⟨i, hi, HH, HL⟩ := hrel
      obtain ⟨s2, hs2⟩ : ∃ s2, (m ++ [128] ++ List.replicate i (0 : UInt8)).length = s2 := ⟨_, rfl⟩
      have c73 := HH.out.c73
      rw [hs2] at c73
      have hs3 : m.length + 1 + i = s2 := by rw [← hs2]; simp; omega
      obtain ⟨bt, hbt⟩ : ∃ bt, ((s2 : Int) % 64 != 56) = bt := ⟨_, rfl⟩
      have HBT : Hid (decide (i < zerosN m) = bt) := by show _ = _; rw [← hbt]; exact (zeros_more hi hs3).symm
      have HS2 := Lib.hid hs2
      have HS3 := Lib.hid hs3
      have hez : w.heap.size < wr.heap.size := HH.out.lt
      have HZ64 := Lib.hid (zeros_lt m)
      clear hs2 hs3
      cases bt with
      | true =>
        have hlt : i < zerosN m := of_decide_eq_true HBT.out
        obtain ⟨W4, hW4⟩ : ∃ W4, wr.alloc (.cells #[.int .u8 (0 : Int)] 5) = W4 := ⟨_, rfl⟩
        have L4 : Hid (Below w.heap.size w W4) := by show Below _ _ _; rw [← hW4]; exact HL.out.alloc HL.out.size _
        have HA4 : Hid (HashAt W4 w.heap.size kd (m ++ [128] ++ List.replicate i 0)) := by show HashAt _ _ _ _; rw [← hW4]; exact HH.out.below ((Below.refl _ _).alloc (Nat.le_refl _) _)
        have RD4 : Hid (Rd W4 1 (some ⟨wr.heap.size, 0, none⟩) 1 ([0].map vb)) := by rw [← hW4]; exact byte_rd wr 0 _
        go_wp2_with fail
        refine (hash_Write w.heap.size kd 1 1 hk (m ++ [128] ++ List.replicate i 0) [0] (some ⟨wr.heap.size, 0, none⟩) W4 (HG.out.below L4.out) NTe.out HA4.out RD4.out (by intro _ b o e; injection e with e; injection e with e _; omega) (Nat.le_refl _) (by decide) (by rw [HS2.out]; have := HS3.out; have := HSZ.out; have := HZ64.out; omega)).mono ?_; rintro e w5 ⟨rfl, h5, g5⟩
        have H5 : Hid (HashAt w5 w.heap.size kd (m ++ [128] ++ List.replicate (i + 1) 0)) := by
          show HashAt _ _ _ _
          rw [List.replicate_succ', ← List.append_assoc]
          exact h5
        have L5 : Hid (Below w.heap.size w w5) := L4.out.grown g5 L4.out.size (fun q hq => by have := Option.some.inj hq; omega)
        have M1 : Hid (szAt w.heap.size w5 = s2 + 1) := by show _ = _; rw [H5.out.size, ← HS3.out]; simp; omega
        have M2 : Hid (szAt w.heap.size wr = s2) := by show _ = _; rw [HH.out.size, HS2.out]
        clear h5 g5 hW4
        go_wp2_with fail
        go_roundw
        case rel => exact ⟨i + 1, hlt, H5, L5⟩
        case measure =>
          rw [M1.out, M2.out]
          have := HS3.out; have := HSZ.out; have := HZ64.out
          omega
      | false =>
        have hiz : Hid (i = zerosN m) := by have := of_decide_eq_false HBT.out; show _ = _; omega
        have HBr : Hid (Blk wr hb (hashC kd (stateOf kd m) tl sz)) := HB.out.below HL.out
        have q73 := HBr.out.cell 73 _ (hashC_size HS.out HT.out.1)
        obtain ⟨x8, hx8⟩ : ∃ x8, sz * 8 = x8 := ⟨_, rfl⟩
        have e8 : (sz : Int) * 8 = (x8 : Int) := by omega
        have e8w : IntKind.u64.wrap (x8 : Int) = (x8 : Int) := IntWalk.u64_in _ (by omega)
        have HX8 := Lib.hid hx8
        have hx8l : x8 < 18446744073709551616 := by omega
        clear hx8
        go_wp2_with fail
        refine (HF.out.2 x8 8 wr hx8l (by decide) (by decide)).mono ?_; rintro e w7 ⟨g, rfl, row, hb7⟩
        have hg := row.lt g rfl
        have H7 : Hid (HashAt w7 w.heap.size kd (m ++ [128] ++ List.replicate i 0)) := HH.out.below hb7
        have L7 : Hid (Below w.heap.size w w7) := below_then HL.out hb7
        have RD7 := Lib.hid (rd_row row (numB_len kd x8 8))
        clear row hb7
        go_wp2_with fail
        refine (hash_Write w.heap.size kd 8 8 hk (m ++ [128] ++ List.replicate i 0) (numQ kd x8 8) (some ⟨g, 0, none⟩) w7 (HG.out.below L7.out) NTe.out H7.out RD7.out (by intro _ b o e; injection e with e; injection e with e _; omega) (Nat.le_refl _) (by decide) (by rw [HS2.out]; have := HS3.out; have := HSZ.out; have := HZ64.out; omega)).mono ?_; rintro e w8 ⟨rfl, h8, g8⟩
        have H8 : Hid (HashAt w8 w.heap.size kd (wholeM kd m)) := by
          rw [wholeM_eq kd m hiz.out (by rw [HSZ.out, ← HX8.out, Nat.mul_comm])] at h8
          exact h8
        have L8 : Hid (Below w.heap.size w w8) := L7.out.grown g8 L7.out.size (fun q hq => by have := Option.some.inj hq; omega)
        clear h8 g8 H7 L7 RD7 H5 L5
        have HB8 : Hid (Blk w8 hb (hashC kd (stateOf kd m) tl sz)) := HB.out.below L8.out
        have q0 := HB8.out.cell 0 _ rfl
        obtain ⟨lo1, hlo1⟩ : ∃ lo1, (kd == 1) = lo1 := ⟨_, rfl⟩
        have k1 : ((kd : Int) == 1) = lo1 := (eq_nat kd 1).trans hlo1
        have HLO1 := Lib.hid hlo1
        obtain ⟨lo2, hlo2⟩ : ∃ lo2, (kd == 2) = lo2 := ⟨_, rfl⟩
        have k2 : ((kd : Int) == 2) = lo2 := (eq_nat kd 2).trans hlo2
        have HLO2 := Lib.hid hlo2
        clear hlo1 hlo2
        go_upto_block 2 with (fail)
        go_cut [5] (fun s wx => wx = w8 ∧ s = .int .i64 (wordsN kd))
        case first =>
          have HW : Hid ((if lo1 then 4 else if lo2 then 5 else 8 : Nat) = wordsN kd) := by
            show _ = _
            rw [← HLO1.out, ← HLO2.out]
            unfold wordsN
            by_cases h1 : kd = 1
            · simp [h1]
            · by_cases h2 : kd = 2 <;> simp [h1, h2]
          cases lo1 with
          | true =>
            have HW4 : Hid ((4 : Nat) = wordsN kd) := HW.out
            go_wp2_with fail
            go_meet
            exact ⟨rfl, by rw [← HW4.out]; rfl⟩
          | false =>
            cases lo2 with
            | true =>
              have HW4 : Hid ((5 : Nat) = wordsN kd) := HW.out
              go_wp2_with fail
              go_meet
              exact ⟨rfl, by rw [← HW4.out]; rfl⟩
            | false =>
              have HW4 : Hid ((8 : Nat) = wordsN kd) := HW.out
              go_wp2_with fail
              go_meet
              exact ⟨rfl, by rw [← HW4.out]; rfl⟩
        case rest =>
          obtain ⟨rfl, rfl⟩ := hcut
          obtain ⟨i0, hi0, hz0, hz1, hz2⟩ := info_parts info_u8b
          obtain ⟨nw, hnw⟩ : ∃ nw, wordsN kd = nw := ⟨_, rfl⟩
          have hnw8 : nw ≤ 8 := by rw [← hnw]; unfold wordsN; split; decide; split <;> decide
          obtain ⟨sl, hsl⟩ : ∃ sl, stateOf kd (wholeM kd m) = sl := ⟨_, rfl⟩
          have HSL : Hid (sl.length = 8) := by rw [← hsl]; exact stateOf_len _ _
          have HD : Hid (digestB kd m = (sl.take nw).flatMap fun x => numQ kd x.toNat 4) := by show _ = _; rw [← hsl, ← hnw]; rfl
          have HE := Lib.hid hsl
          have hto := fun W => slice_arr_to (T := 111) (E := 76) (N := 8) Tryz.underlying111 Tryz.sizeOf76 (b := w.heap.size) (o := 1) (k := nw) hnw8 (by decide) W
          rw [hnw]
          clear hsl hnw q0 q73 c73 k1 k2
          go_wp2_with fail
          go_loopw [77, 6] (fun s77 s6 wr => ∃ (i q : Nat) (Ao : Option Addr) (co : Nat), i ≤ nw ∧ s77 = .int .i64 i ∧ s6 = .slice Ao q co ∧ q ≤ 32 ∧ Hid (q = 4 * i) ∧ Hid (wr.ownsRow (w.heap.size + 1) 5 1 (.slice Ao q co) q (Lib.byteCells ((sl.take i).flatMap fun x => numQ kd x.toNat 4))) ∧ Hid (HashAt wr w.heap.size kd (wholeM kd m)) ∧ Hid (Below w.heap.size w wr)) (fun s77 _ _ => nw - (intOf s77).toNat)
          case atStart => exact ⟨0, 0, none, 0, by omega, rfl, rfl, by omega, rfl, World.ownsRow_nil _ _ _ _, H8, L8⟩
          case round =>
            obtain ⟨i, q, Ao, co, hi, rfl, rfl, hq, HQ, HO, HHr, HLr⟩ := hrel
            by_cases hlt : i < nw
            · obtain ⟨x, hx⟩ : ∃ x, sl[i]? = some x := ⟨_, List.getElem?_eq_getElem (by rw [HSL.out]; omega)⟩
              obtain ⟨xn, hxn⟩ : ∃ xn, x.toNat = xn := ⟨_, rfl⟩
              have hxl : xn < 4294967296 := by rw [← hxn]; exact x.isLt
              have cx : wr.cell? ⟨w.heap.size, 1 + i, none⟩ = some (.int .u32 xn) := by
                obtain ⟨tl9, _, hb9⟩ := HHr.out
                rw [HE.out] at hb9
                have := hb9.cell (1 + i) _ (hashC_st (by rw [HSL.out]; omega))
                rw [this, List.getD_eq_getElem?_getD, hx, ← hxn]
                rfl
              have ew : IntKind.u64.wrap (xn : Int) = (xn : Int) := IntWalk.u64_in _ (by omega)
              have hii : (i : Int) < (nw : Int) := by omega
              have HN : Hid ((sl.take (i + 1)).flatMap (fun x => numQ kd x.toNat 4) = (sl.take i).flatMap (fun x => numQ kd x.toNat 4) ++ numQ kd xn 4) := by
                show _ = _
                rw [List.take_add_one, hx, List.flatMap_append, ← hxn]
                simp
              have hez : w.heap.size + 1 ≤ wr.heap.size := HHr.out.lt
              have hq28 : q ≤ 28 := by have := HQ.out; omega
              clear hx hxn
              go_wp2_with fail
              refine (HF.out.2 xn 4 wr (by omega) (by decide) (by decide)).mono ?_; rintro e w5 ⟨g, rfl, row, hb5⟩
              have O5 := Lib.hid (owns_below HO.out hb5)
              have HH5 : Hid (HashAt w5 w.heap.size kd (wholeM kd m)) := HHr.out.below hb5
              have L5 : Hid (Below w.heap.size w w5) := below_then HLr.out hb5
              have RL := Lib.hid ((rd_row row (numB_len kd xn 4)).reads (by decide))
              have h5z : w.heap.size + 1 ≤ w5.heap.size := Nat.le_trans hez hb5.size
              clear row hb5
              go_wp2_with (
                at_builtin
                refine wpList_append_any _ rfl _ _ 22 rfl (w.heap.size + 1) 5 i0 _ 1 1 Tryz.underlying22 hi0 hz0 hz1 hz2 rfl (by omega) (.slice Ao q co) q _ rfl O5.out _ (some ⟨g, 0, none⟩) 4 4 _ rfl RL.out (fun u hu => by obtain ⟨x, _, rfl⟩ := List.mem_map.1 hu; rfl) (by first | (simp only [maxLen]; omega) | omega) (by omega) (by first | omega | (simp; omega)) ?_
                intro v1 w6 hown1 hg1 hat1
                obtain ⟨A1, c1, rfl⟩ := owns_form hown1)
              have O6 : Hid (w6.ownsRow (w.heap.size + 1) 5 1 (.slice A1 (q + 4) c1) (q + 4) (Lib.byteCells ((sl.take (i + 1)).flatMap fun x => numQ kd x.toNat 4))) := by
                have h2 := hown1
                show World.ownsRow _ _ _ _ _ _ _
                rw [HN.out]
                unfold Lib.byteCells
                rw [List.map_append]
                exact h2
              have hgo : ∀ p, (Value.slice Ao q co).ownBlock = some p → w.heap.size + 1 ≤ p := fun p hp => (O5.out.lt p hp).1
              have HH6 : Hid (HashAt w6 w.heap.size kd (wholeM kd m)) := by
                obtain ⟨tl9, h91, h92⟩ := HH5.out
                refine ⟨tl9, h91, ?_⟩
                have hb := hg1.block w.heap.size h92.sz (fun e => by have := hgo _ e.symm; omega)
                exact ⟨Nat.lt_of_lt_of_le h92.sz hg1.size, fun j u hu => (World.cell?_of_block (a := ⟨_, j, none⟩) hb).trans (h92.cell j u hu), fun j hj => (World.frozen?_of_block (a := ⟨_, j, none⟩) hb).trans (h92.free j hj)⟩
              have L6 : Hid (Below w.heap.size w w6) := L5.out.grown hg1 L5.out.size (fun p hp => by have := hgo _ hp; omega)
              have HQ6 : Hid (q + 4 = 4 * (i + 1)) := by have := HQ.out; show _ = _; omega
              have hq32 : q + 4 ≤ 32 := by omega
              clear hown1 hg1 hat1 hgo
              go_wp2_with fail
              go_roundw
              case rel => exact ⟨i + 1, q + 4, A1, c1, by omega, by go_num, rfl, hq32, HQ6, O6, HH6, L6⟩
              case measure => simp [intOf]; omega
            · have HI : Hid (i = nw) := by show _ = _; omega
              go_wp2_with fail
              go_ret
              have hO := HO.out
              rw [HI.out, ← HD.out] at hO
              have hlen : (digestB kd m).length = q := by have := hO.1; simpa [Lib.byteCells] using this
              rw [hlen]
              exact ⟨_, rfl, owns_base hO (by omega), HLr.out⟩
theorem hash_new {kd : Nat} {w : World} {Z : Array Value} (h : Z = (hashC kd (initB kd) (List.replicate 64 0) 0).toArray) : HashAt (w.alloc (.cells Z 114)) w.heap.size kd [] :=
  ⟨List.replicate 64 0, TailOk.zero (by simp) (by simp), by rw [h]; exact Blk.new w _ _⟩
theorem hash_New (kd : Nat) (hk : 1 ≤ kd ∧ kd ≤ 3) (w : World) :
    Calls Tryz.prog 25 #[.int .i64 kd] w fun e w' => ∃ g, e = .returned (.tuple #[.pointer (some ⟨g, 0, none⟩), .int .i64 0]) ∧ w.heap.size ≤ g ∧ HashAt w' g kd [] ∧ Below w.heap.size w w' := by
  rcases (show kd = 1 ∨ kd = 2 ∨ kd = 3 by omega) with rfl | rfl | rfl
  all_goals
    go_enter Tryz.func25, Tryz.ntmps25
    go_wp2_with fail
    go_ret2
    exact ⟨_, rfl, Nat.le_refl _, hash_new (by kernel_rfl), (Below.refl _ _).alloc (Nat.le_refl _) _⟩
def OfPost (kd : Nat) (m : List UInt8) (w : World) (e : Ending) (w' : World) : Prop := ∃ v, e = .returned v ∧ w'.ownsRow w.heap.size 5 1 v (digestB kd m).length (Lib.byteCells (digestB kd m)) ∧ Below w.heap.size w w'
theorem digest_Of (kd n c : Nat) (hk : 1 ≤ kd ∧ kd ≤ 3) (A : Option Addr) (bs : List UInt8) (w : World) (hG : GlT w) (hr : Rd w 1 A n (bs.map vb)) (hc : n ≤ c) (hc2 : c ≤ 9223372036854775807) (hn : n ≤ 1125899906842624) :
    Calls Tryz.prog 15 #[.int .i64 kd, .slice A n c] w (OfPost kd bs w) := by
  have HG := Lib.hid hG
  have HR := Lib.hid hr
  have HBL : Hid (bs.length = n) := vb_map_len hr
  clear hG hr
  go_enter Tryz.func15, Tryz.ntmps15
  go_wp2_with fail
  refine (hash_New kd hk w).mono ?_; rintro e w1 ⟨g, rfl, hg, h1, hb1⟩
  have H1 := Lib.hid h1
  have L1 := Lib.hid hb1
  have R1 := Lib.hid (HR.out.below hb1)
  have G1 := Lib.hid (HG.out.below hb1)
  have N1 : Hid (NT g) := HG.out.new hg
  have HA1 : Hid (0 < n → ∀ b o, A = some ⟨b, o, none⟩ → ¬ b = g) := fun hn b o e => by
    obtain ⟨b', o', e', hc'⟩ := HR.out.2 hn
    rw [e'] at e
    injection e with e
    injection e with e _
    have h0 : 0 < (bs.map vb).length := by rw [List.length_map, HBL.out]; exact hn
    have := World.block_lt_of_cell? _ _ (hc' 0 _ (List.getElem?_eq_getElem h0))
    simp only at this
    omega
  clear h1 hb1
  go_wp2_with fail
  refine (hash_Write g kd n c hk [] bs A w1 G1.out N1.out H1.out R1.out HA1.out hc hc2 (by simp; omega)).mono ?_; rintro e w2 ⟨rfl, h2, g2⟩
  have H2 : Hid (HashAt w2 g kd bs) := by rw [List.nil_append] at h2; exact h2
  have L2 : Hid (Below w.heap.size w w2) := L1.out.grown g2 L1.out.size (fun q hq => by have := Option.some.inj hq; omega)
  clear h2 g2
  go_wp2_with fail
  refine (hash_Sum g kd hk bs w2 (HG.out.below L2.out) H2.out (by rw [HBL.out]; exact hn)).mono ?_; rintro e w3 ⟨v, rfl, hrow, hb3⟩
  have HP : Hid (OfPost kd bs w (.returned v) w3) := ⟨v, rfl, owns_base hrow L2.out.size, below_then L2.out hb3⟩
  clear hrow hb3
  go_wp2_with fail
  go_ret
  exact HP.out
theorem wordsN_le2 (kd : Nat) : wordsN kd ≤ 8 := by unfold wordsN; split; decide; split <;> decide
def hexK (kd : Nat) (bs : List UInt8) : ByteArray := ⟨(hexT (digestB kd bs)).toArray⟩
def knS (bs : List UInt8) (i j : Nat) : ByteArray := if j ≤ i then hexK j bs else ⟨#[]⟩
def knC (path : ByteArray) (bs : List UInt8) (i : Nat) : List Value := [.string path, .string ⟨#[]⟩, .string (knS bs i 1), .string (knS bs i 2), .string (knS bs i 3)]
theorem knC_next (path : ByteArray) (bs : List UInt8) {i : Nat} (hi : i < 3) : (knC path bs i).set (i + 2) (.string (hexK (i + 1) bs)) = knC path bs (i + 1) := by
  rcases (show i = 0 ∨ i = 1 ∨ i = 2 by omega) with rfl | rfl | rfl <;> simp [knC, knS]
def knV (path : ByteArray) (bs : List UInt8) : Value := .agg #[.string path, .string ⟨#[]⟩, .string (hexK 1 bs), .string (hexK 2 bs), .string (hexK 3 bs)]
theorem digestB_len (kd : Nat) (m : List UInt8) : (digestB kd m).length ≤ 1000000 := by
  have h : ∀ x : B32, (numQ kd x.toNat 4).length = 4 := fun x => by unfold numQ; split; exact leL_len _ _; exact beL_len _ _
  have h2 : ∀ l : List B32, (l.flatMap fun x => numQ kd x.toNat 4).length = 4 * l.length := by
    intro l
    induction l with
    | nil => rfl
    | cons a r ih => rw [List.flatMap_cons, List.length_append, h, ih, List.length_cons]; omega
  unfold digestB
  rw [h2, List.length_take]
  have := wordsN_le2 kd
  omega
theorem convert_Sums (path : ByteArray) (n c : Nat) (A : Option Addr) (bs : List UInt8) (w : World) (hG : GlT w) (hr : Rd w 1 A n (bs.map vb)) (hc : n ≤ c) (hc2 : c ≤ 9223372036854775807) (hn : n ≤ 900000) :
    Calls Tryz.prog 7 #[.string path, .slice A n c] w fun e w' => e = .returned (knV path bs) ∧ Below w.heap.size w w' := by
  have HG := Lib.hid hG
  have HR := Lib.hid hr
  clear hG hr
  obtain ⟨W3, hW3⟩ : ∃ W3, ((w.alloc (.cells #[.string ⟨#[]⟩, .string ⟨#[]⟩, .string ⟨#[]⟩, .string ⟨#[]⟩, .string ⟨#[]⟩] 35)).alloc (.cells #[.string path, .string ⟨#[]⟩, .string ⟨#[]⟩, .string ⟨#[]⟩, .string ⟨#[]⟩] 35)).alloc (.cells #[.int .i64 1, .int .i64 2, .int .i64 3] 3) = W3 := ⟨_, rfl⟩
  go_enter Tryz.func7, Tryz.ntmps7
  go_wp2_with fail
  have L3 : Hid (Below w.heap.size w W3) := by
    show Below _ _ _
    rw [← hW3]
    exact ((((Below.refl _ _).alloc (Nat.le_refl _) _).alloc (by simp) _).alloc (by simp; omega) _)
  have K3 : Hid (Blk W3 (w.heap.size + 1) (knC path bs 0)) := by
    have h := (Blk.new (w.alloc (.cells #[.string ⟨#[]⟩, .string ⟨#[]⟩, .string ⟨#[]⟩, .string ⟨#[]⟩, .string ⟨#[]⟩] 35)) [.string path, .string ⟨#[]⟩, .string ⟨#[]⟩, .string ⟨#[]⟩, .string ⟨#[]⟩] 35).alloc (.cells #[.int .i64 1, .int .i64 2, .int .i64 3] 3)
    show Blk _ _ _
    rw [← hW3]
    simpa [knC, knS] using h
  have N3 : Hid (Blk W3 (w.heap.size + 1 + 1) [.int .i64 1, .int .i64 2, .int .i64 3]) := by
    have h := Blk.new ((w.alloc (.cells #[.string ⟨#[]⟩, .string ⟨#[]⟩, .string ⟨#[]⟩, .string ⟨#[]⟩, .string ⟨#[]⟩] 35)).alloc (.cells #[.string path, .string ⟨#[]⟩, .string ⟨#[]⟩, .string ⟨#[]⟩, .string ⟨#[]⟩] 35)) [.int .i64 1, .int .i64 2, .int .i64 3] 3
    show Blk _ _ _
    rw [← hW3]
    simpa using h
  have Z3 : Hid (Blk W3 w.heap.size [.string ⟨#[]⟩, .string ⟨#[]⟩, .string ⟨#[]⟩, .string ⟨#[]⟩, .string ⟨#[]⟩]) := by
    have h := ((Blk.new w [.string ⟨#[]⟩, .string ⟨#[]⟩, .string ⟨#[]⟩, .string ⟨#[]⟩, .string ⟨#[]⟩] 35).alloc (.cells #[.string path, .string ⟨#[]⟩, .string ⟨#[]⟩, .string ⟨#[]⟩, .string ⟨#[]⟩] 35)).alloc (.cells #[.int .i64 1, .int .i64 2, .int .i64 3] 3)
    show Blk _ _ _
    rw [← hW3]
    exact h
  clear hW3
  go_loopw [12] (fun s12 wr => ∃ i : Nat, i ≤ 3 ∧ s12 = .int .i64 i ∧ Hid (Blk wr (w.heap.size + 1) (knC path bs i)) ∧ Hid (Blk wr (w.heap.size + 1 + 1) [.int .i64 1, .int .i64 2, .int .i64 3]) ∧ Hid (Blk wr w.heap.size [.string ⟨#[]⟩, .string ⟨#[]⟩, .string ⟨#[]⟩, .string ⟨#[]⟩, .string ⟨#[]⟩]) ∧ Hid (Below w.heap.size w wr)) (fun s12 _ => 3 - (intOf s12).toNat)
  case atStart => exact ⟨0, by omega, rfl, K3, N3, Z3, L3⟩
  case round =>
    obtain ⟨i, hi, rfl, HK, HN, HZ, HL⟩ := hrel
    by_cases hlt : i < 3
    · have c7 : wr.cell? ⟨w.heap.size + 1 + 1, i, none⟩ = some (.int .i64 ((i + 1 : Nat) : Int)) := by
        refine HN.out.cell i _ ?_
        rcases (show i = 0 ∨ i = 1 ∨ i = 2 by omega) with rfl | rfl | rfl <;> rfl
      obtain ⟨j, hj⟩ : ∃ j, i + 1 = j := ⟨_, rfl⟩
      rw [hj] at c7
      have hj1 : 1 ≤ j ∧ j ≤ 3 := by omega
      have hj4 : (j : Int) < 4 := by omega
      have hi3 : (i : Int) < 3 := by omega
      have HJ := Lib.hid hj
      have eij : (i : Int) + 1 = (j : Int) := by omega
      clear hj
      go_wp2_with fail
      refine (digest_Of j n c hj1 A bs wr (HG.out.below HL.out) (HR.out.below HL.out) hc hc2 (by omega)).mono ?_; rintro e w4 ⟨v, rfl, row, hb4⟩
      obtain ⟨A4, c4, rfl⟩ := owns_form row
      have RD4 : Hid (Rd w4 1 A4 (digestB j bs).length ((digestB j bs).map vb)) := owns_rd row
      have B4 := Lib.hid hb4
      clear row hb4
      generalize hdl : (digestB j bs).length = dl at *
      have hdl2 : dl ≤ 1000000 := by rw [← hdl]; exact digestB_len j bs
      go_wp2_with fail
      refine (codec_Hex dl c4 A4 (digestB j bs) w4 RD4.out hdl2).mono ?_; rintro e w5 ⟨rfl, hb5⟩
      have B5 := Lib.hid (below_then B4.out hb5)
      clear hb5
      have K5 := Lib.hid (HK.out.below B5.out)
      have x5 := K5.out.cell (j + 1) (.string ⟨#[]⟩) (by
        rw [← HJ.out]
        rcases (show i = 0 ∨ i = 1 ∨ i = 2 by omega) with rfl | rfl | rfl <;> simp [knC, knS])
      have f5 := K5.out.free (j + 1) (by show _ < 5; omega)
      have K6 : Hid (Blk (w5.setCell ⟨w.heap.size + 1, j + 1, none⟩ (.string ⟨(hexT (digestB j bs)).toArray⟩)) (w.heap.size + 1) (knC path bs j)) := by
        have h := K5.out.set (j + 1) (by show _ < 5; omega) (.string (hexK j bs))
        rw [← HJ.out] at h ⊢
        rw [knC_next path bs hlt] at h
        exact h
      have N6 : Hid (Blk (w5.setCell ⟨w.heap.size + 1, j + 1, none⟩ (.string ⟨(hexT (digestB j bs)).toArray⟩)) (w.heap.size + 1 + 1) [.int .i64 1, .int .i64 2, .int .i64 3]) := (HN.out.below B5.out).far (by omega) _
      have Z6 : Hid (Blk (w5.setCell ⟨w.heap.size + 1, j + 1, none⟩ (.string ⟨(hexT (digestB j bs)).toArray⟩)) w.heap.size [.string ⟨#[]⟩, .string ⟨#[]⟩, .string ⟨#[]⟩, .string ⟨#[]⟩, .string ⟨#[]⟩]) := (HZ.out.below B5.out).far (by omega) _
      have L6 : Hid (Below w.heap.size w (w5.setCell ⟨w.heap.size + 1, j + 1, none⟩ (.string ⟨(hexT (digestB j bs)).toArray⟩))) := below_set (below_then HL.out B5.out) (by omega) _
      have ej1 : (1 : Nat) + j = j + 1 := by omega
      go_wp2_with fail
      go_roundw
      case rel => exact ⟨j, by omega, by go_num, K6, N6, Z6, L6⟩
      case measure => simp [intOf]; omega
    · obtain rfl : i = 3 := by omega
      have c0 := HK.out.cell 0 _ rfl
      have c1 := HK.out.cell 1 _ rfl
      have c2 := HK.out.cell 2 _ rfl
      have c3 := HK.out.cell 3 _ rfl
      have c4 := HK.out.cell 4 _ rfl
      have z0 := HZ.out.cell 0 _ rfl
      have z1 := HZ.out.cell 1 _ rfl
      have z2 := HZ.out.cell 2 _ rfl
      have z3 := HZ.out.cell 3 _ rfl
      have z4 := HZ.out.cell 4 _ rfl
      have f0 := HZ.out.free 0 (by simp)
      have f1 := HZ.out.free 1 (by simp)
      have f2 := HZ.out.free 2 (by simp)
      have f3 := HZ.out.free 3 (by simp)
      have f4 := HZ.out.free 4 (by simp)
      go_wp2_with fail
      obtain ⟨W9, hW9⟩ : ∃ W9, wr.setCells w.heap.size 0 [.string path, .string ⟨#[]⟩, .string (knS bs 3 1), .string (knS bs 3 2), .string (knS bs 3 3)] = W9 := ⟨_, rfl⟩
      have KF : Blk W9 w.heap.size [.string path, .string ⟨#[]⟩, .string (knS bs 3 1), .string (knS bs 3 2), .string (knS bs 3 3)] := by
        have h := Blk.setN [] [.string path, .string ⟨#[]⟩, .string (knS bs 3 1), .string (knS bs 3 2), .string (knS bs 3 3)] [.string ⟨#[]⟩, .string ⟨#[]⟩, .string ⟨#[]⟩, .string ⟨#[]⟩, .string ⟨#[]⟩] [] wr rfl HZ.out
        rw [← hW9]
        exact h
      have LF : Below w.heap.size w W9 := by rw [← hW9]; exact below_setCells _ 0 HL.out (Nat.le_refl _)
      show bodyPost _ _ _ _ _ (wr.setCells w.heap.size 0 [.string path, .string ⟨#[]⟩, .string (knS bs 3 1), .string (knS bs 3 2), .string (knS bs 3 3)])
      rw [hW9]
      have y0 := KF.cell 0 _ rfl
      have y1 := KF.cell 1 _ rfl
      have y2 := KF.cell 2 _ rfl
      have y3 := KF.cell 3 _ rfl
      have y4 := KF.cell 4 _ rfl
      refine bodyPost_ret (v := knV path bs) (by simp [results, Tryz.results7, go_sem, y0, y1, y2, y3, y4, knV, knS]) rfl ⟨rfl, LF⟩
end
section
open Go.RowKit Go.Maps
def pkV (ver : ByteArray) : PkL := { nm := ⟨#[97, 97]⟩, ver := ver, ar := ⟨#[97, 108, 108]⟩, sm := ⟨#[115]⟩, na := none, nc := 0, needs := [], ba := none, bc := 0, bars := [], ga := none, gc := 0, gives := [], fa := none, fc := 0, files := [], sa := none, sc := 0, scripts := [] }
def v12 : ByteArray := ⟨#[49, 46, 50]⟩
def v123 : ByteArray := ⟨#[49, 46, 50, 45, 51]⟩
def isV (ver : ByteArray) : Prop := ver = v12 ∨ ver = v123
theorem pkV_ok (ver : ByteArray) (w : World) : (pkV ver).ok w := ⟨Rd.nil _ _ _, Rd.nil _ _ _, Rd.nil _ _ _, Rd.nil _ _ _, Rd.nil _ _ _⟩
theorem rd_oneC {w : World} {b sz : Nat} {vs : List Value} (h : Blk w b vs) (hl : vs.length = sz) : Rd w sz (some ⟨b, 0, none⟩) 1 vs :=
  ⟨by rw [hl]; simp, fun _ => ⟨b, 0, rfl, fun j u hu => by simpa using h.cell j u hu⟩⟩
theorem dbV_ok {w : World} {pb : Nat} {ver : ByteArray} (hp : Blk w pb (pkV ver).cells) : DbOk w (some ⟨pb, 0, none⟩) [pkV ver] :=
  ⟨rd_oneC (vs := (pkV ver).cells) hp rfl, fun p hp => by rw [List.mem_singleton.1 hp]; exact pkV_ok ver w⟩
theorem ansV {ver : ByteArray} (h : isV ver) : cpAns ⟨#[97, 97]⟩ (fmtB 1) (dnameB (bl ⟨#[97, 97]⟩)) (verCode (splitD (bl ver))) (archIn 1 ⟨#[97, 108, 108]⟩) (sumB (bl ⟨#[115]⟩)) true true true ⟨#[]⟩ 0 0 = refV ⟨#[]⟩ ⟨#[]⟩ 0 := by
  have h1 : fmtB 1 = true := by decide
  have h2 : dnameB (bl ⟨#[97, 97]⟩) = true := by decide
  have h3 : verCode (splitD (bl ver)) = 0 := by rcases h with rfl | rfl <;> decide
  have h4 : archIn 1 ⟨#[97, 108, 108]⟩ = true := by simp [archIn, aw]
  have h5 : sumB (bl ⟨#[115]⟩) = true := by decide
  simp [cpAns, h1, h2, h3, h4, h5]
theorem v_short {ver : ByteArray} (h : isV ver) : ver.size ≤ 64 := by rcases h with rfl | rfl <;> decide
theorem CheckPackage_V {ver : ByteArray} (h : isV ver) (w : World) (hG : Gl w) :
    Calls Tryz.prog 36 #[.int .i64 1, (pkV ver).val] w fun e w' => e = .returned (ckV (pkV ver).nm (⟨#[]⟩, 0)) ∧ Below w.heap.size w w' :=
  (CheckPackage_bare ⟨#[97, 97]⟩ ver ⟨#[97, 108, 108]⟩ ⟨#[115]⟩ w hG (v_short h) (by decide) (by decide)).mono fun _ _ ⟨he, hb⟩ => ⟨by rw [he, ansV h]; rfl, hb⟩
theorem dbW_V (ver : ByteArray) : dbV (dbW (fun _ => (⟨#[]⟩, 0)) (fmtB 1) [pkV ver]) = .agg #[.string ⟨#[]⟩, .string ⟨#[]⟩, .int .i64 0] := by
  have h1 : fmtB 1 = true := by decide
  rw [h1, dbW_else rfl (by simp)]
  rfl
theorem Check_V {ver : ByteArray} (h : isV ver) (pb c : Nat) (w : World) (hG : Gl w) (hd : DbOk w (some ⟨pb, 0, none⟩) [pkV ver]) :
    Calls Tryz.prog 20 #[.int .i64 1, .slice (some ⟨pb, 0, none⟩) 1 c] w fun e w' => e = .returned (.agg #[.string ⟨#[]⟩, .string ⟨#[]⟩, .int .i64 0]) ∧ Below w.heap.size w w' :=
  (model_Check_of 1 (fun _ => (⟨#[]⟩, 0)) (some ⟨pb, 0, none⟩) c [pkV ver] w hG hd (by show (1 : Nat) ≤ 100000; decide) (by rcases h with rfl | rfl <;> decide)
    (by intro p hp; rw [List.mem_singleton.1 hp]; exact ⟨by show (0 : Nat) ≤ 1000000; decide, by intro x hx; cases hx⟩)
    (by intro p hp W hg hok; rw [List.mem_singleton.1 hp]; exact CheckPackage_V h W hg)
    (by intro p hp _; rw [List.mem_singleton.1 hp]; rfl)).mono fun _ _ ⟨he, hb⟩ => ⟨by rw [he, dbW_V], hb⟩
theorem trans_12 : trans 1 2 v12 = ([], 11) := by kernel_rfl
theorem trans_123 : trans 1 3 v123 = ([49, 46, 50, 45, 114, 51], 0) := by kernel_rfl
theorem archN {b : Int} (hb : b = 2 ∨ b = 3) : archOf 1 b ⟨#[97, 108, 108]⟩ = (⟨#[110, 111, 97, 114, 99, 104]⟩, 0) := by
  have h1 : fmtB 1 = true := by decide
  have h2 : fmtB 2 = true := by decide
  have h3 : fmtB 3 = true := by decide
  rcases hb with rfl | rfl <;> simp [archOf, h1, h2, h3, aw]
end
section
open Go.ChangeShapes Go.WideShapes Go.ChangeAt Go.RowKit
theorem cells_of_strs {H : Type} {enc : TypeId × Value → H} {P : Program} {w : World} {base : Nat} {sp : Nat → Bool} {held : Bool} {fuel : Nat} {t e : TypeId} {n : Nat} {cs : List Value} {zs : List (List UInt8)} {p : List MemPlace}
    (ht : P.underlying t = some (.array n e)) (he : P.underlying e = some .string) (hce : P.cellsOf e = 1) (hct : P.cellsOf t = n)
    (h : DataW.trod enc P w base sp held fuel t cs = some (.agg (zs.map fun z => .lit (.string z)), p)) : cs = zs.map fun z => Value.string ⟨z.toArray⟩ := by
  cases fuel with
  | zero => simp [DataW.trod] at h
  | succ fuel =>
    simp only [DataW.trod, ht, hce, hct, Nat.mul_one] at h
    split at h
    · rename_i hl
      obtain ⟨xs, hm, hx⟩ := Option.map_eq_some_iff.1 h
      have hxs : xs.map (·.1) = zs.map fun z => (DataW.lit (.string z) : DataW H) := by
        have := congrArg Prod.fst hx
        simpa using this
      have hxl : xs.length = n := by simpa using Lib.mapM_length hm
      have hzl : zs.length = n := by
        have := congrArg List.length hxs
        simp at this
        omega
      apply List.ext_getElem?
      intro i
      by_cases hi : i < n
      · obtain ⟨b, hb, hf⟩ := Lib.mapM_at hm i i (by simp [hi])
        obtain ⟨z, hc, rfl, _⟩ := DataW.trod_string he hf
        have h1 : cs[i]? = some (.string z) := by
          have := congrArg (·[0]?) hc
          simpa [List.getElem?_take, List.getElem?_drop] using this
        have h2 : (xs.map (·.1))[i]? = some (DataW.lit (.string z.data.toList) : DataW H) := by simp [hb]
        rw [hxs] at h2
        simp only [List.getElem?_map, Option.map_eq_some_iff, DataW.lit.injEq, Lit.string.injEq] at h2
        obtain ⟨z', hz', rfl⟩ := h2
        simp [h1, hz']
      · rw [List.getElem?_eq_none (by omega), List.getElem?_eq_none (by simp; omega)]
    · cases h
theorem laid_cut {P : Program} {w : World} {n : String} {d : DataW Unit} {r : List (String × DataW Unit)} {ps : List MemPlace} (h : DataW.LaidVars P w ((n, d) :: r) ps) :
    (∃ g t cs fuel p, P.globalNamed n = some g ∧ (P.globals[g]?).map (·.type) = some t ∧ w.var? P n = some cs ∧ DataW.trod (fun _ => ()) P w 0 (fun _ => true) false fuel t cs.toList = some (d, p)) ∧ ∃ q, DataW.LaidVars P w r q := by
  obtain ⟨g, t, cs, fuel, p, q, h1, h2, h3, h4, h5, _⟩ := h
  exact ⟨⟨g, t, cs, fuel, p, h1, h2, h3, h4⟩, q, h5⟩
theorem strs_cell {P : Program} {w : World} {name : String} {zs : List (List UInt8)} {g0 : Nat} {t0 e : TypeId} {n : Nat}
    (hg : P.globalNamed name = some g0) (hty : (P.globals[g0]?).map (·.type) = some t0) (ht : P.underlying t0 = some (.array n e)) (he : P.underlying e = some .string) (hce : P.cellsOf e = 1) (hct : P.cellsOf t0 = n)
    (h : ∃ g t cs fuel p, P.globalNamed name = some g ∧ (P.globals[g]?).map (·.type) = some t ∧ w.var? P name = some cs ∧ DataW.trod (fun _ => ()) P w 0 (fun _ => true) false fuel t cs.toList = some (.agg (zs.map fun z => .lit (.string z)), p))
    (i : Nat) (z : List UInt8) (hi : zs[i]? = some z) : w.cell? ⟨g0, i, none⟩ = some (.string ⟨z.toArray⟩) := by
  obtain ⟨g', t', cs, fuel, p, hg', ht', hvar, hd⟩ := h
  obtain rfl := Option.some.inj (hg.symm.trans hg')
  obtain rfl := Option.some.inj (hty.symm.trans ht')
  have hc := cells_of_strs ht he hce hct hd
  rw [World.var?_cell hg hvar i, ← Array.getElem?_toList, hc]
  simp [hi]
theorem tab_of {P : Program} {w : World} {name : String} {k : IntKind} {zs : List Int} {g0 : Nat} {t0 e : TypeId} {n : Nat} {D : DataW Unit} (hD : D = Lib.tabData k zs)
    (hg : P.globalNamed name = some g0) (hty : (P.globals[g0]?).map (·.type) = some t0) (ht : P.underlying t0 = some (.array n e)) (he : P.underlying e = some (.int k)) (hce : P.cellsOf e = 1) (hct : P.cellsOf t0 = n)
    (h : ∃ g t cs fuel p, P.globalNamed name = some g ∧ (P.globals[g]?).map (·.type) = some t ∧ w.var? P name = some cs ∧ DataW.trod (fun _ => ()) P w 0 (fun _ => true) false fuel t cs.toList = some (D, p)) : Lib.TabIs P w name k zs := by
  obtain ⟨g', t', cs, fuel, p, hg', ht', hvar, hd⟩ := h
  subst hD
  obtain rfl := Option.some.inj (hg.symm.trans hg')
  obtain rfl := Option.some.inj (hty.symm.trans ht')
  unfold Lib.TabIs
  rw [hvar, ← Lib.cells_of_tab ht he hce hct hd]
theorem glp_of_laid {W : World} (h : laidMetH Tryz.prog laidAllL W) (hsh : W.ShapedOpen Tryz.prog) : GlP W := by
  obtain ⟨ps, h0, _⟩ := data_of_laid h
  obtain ⟨_, q1, h1⟩ := laid_cut h0
  obtain ⟨_, q2, h2⟩ := laid_cut h1
  obtain ⟨_, q3, h3⟩ := laid_cut h2
  obtain ⟨_, q4, h4⟩ := laid_cut h3
  obtain ⟨cp, q5, h5⟩ := laid_cut h4
  obtain ⟨_, q6, h6⟩ := laid_cut h5
  obtain ⟨_, q7, h7⟩ := laid_cut h6
  obtain ⟨c1, q8, h8⟩ := laid_cut h7
  obtain ⟨c2, q9, h9⟩ := laid_cut h8
  obtain ⟨c3, q10, h10⟩ := laid_cut h9
  obtain ⟨c4, q11, h11⟩ := laid_cut h10
  obtain ⟨c5, q12, h12⟩ := laid_cut h11
  obtain ⟨cv, q13, h13⟩ := laid_cut h12
  refine ⟨⟨Go.Proofs.cell_of_shapedOpen_int (zero := #[.int .i64 0]) (t := 3) hsh (of_decide_eq_true (by kernel_rfl)) (by kernel_rfl) rfl (by kernel_rfl) (by kernel_rfl) Tryz.underlying3, ?_, ?_, ?_, ?_, ?_⟩, ?_, ?_⟩
  · intro i hi
    have e := strs_cell (zs := [[97, 108, 112, 104, 97], [98, 101, 116, 97], [112, 114, 101], [114, 99], [99, 118, 115], [115, 118, 110], [103, 105, 116], [104, 103], [112]]) (g0 := 7) (t0 := 269) (e := 9) (n := 9) (by kernel_rfl) (by kernel_rfl) Tryz.underlying269 Tryz.underlying9 (by kernel_rfl) (by kernel_rfl) c1
    rcases (by omega : i = 0 ∨ i = 1 ∨ i = 2 ∨ i = 3 ∨ i = 4 ∨ i = 5 ∨ i = 6 ∨ i = 7 ∨ i = 8) with rfl | rfl | rfl | rfl | rfl | rfl | rfl | rfl | rfl
    all_goals exact e _ _ rfl
  · intro i hi
    have e := strs_cell (zs := [[], [60, 60], [60, 61], [61], [62, 61], [62, 62]]) (g0 := 5) (t0 := 264) (e := 9) (n := 6) (by kernel_rfl) (by kernel_rfl) Tryz.underlying264 Tryz.underlying9 (by kernel_rfl) (by kernel_rfl) c3
    rcases (by omega : i = 0 ∨ i = 1 ∨ i = 2 ∨ i = 3 ∨ i = 4 ∨ i = 5) with rfl | rfl | rfl | rfl | rfl | rfl
    all_goals exact e _ _ rfl
  · intro i hi
    have e := strs_cell (zs := [[], [60], [60, 61], [61], [62, 61], [62]]) (g0 := 6) (t0 := 264) (e := 9) (n := 6) (by kernel_rfl) (by kernel_rfl) Tryz.underlying264 Tryz.underlying9 (by kernel_rfl) (by kernel_rfl) c4
    rcases (by omega : i = 0 ∨ i = 1 ∨ i = 2 ∨ i = 3 ∨ i = 4 ∨ i = 5) with rfl | rfl | rfl | rfl | rfl | rfl
    all_goals exact e _ _ rfl
  · intro i hi
    have e := strs_cell (zs := [[97, 110, 100], [111, 114], [105, 102], [117, 110, 108, 101, 115, 115], [119, 105, 116, 104], [119, 105, 116, 104, 111, 117, 116]]) (g0 := 12) (t0 := 264) (e := 9) (n := 6) (by kernel_rfl) (by kernel_rfl) Tryz.underlying264 Tryz.underlying9 (by kernel_rfl) (by kernel_rfl) c5
    rcases (by omega : i = 0 ∨ i = 1 ∨ i = 2 ∨ i = 3 ∨ i = 4 ∨ i = 5) with rfl | rfl | rfl | rfl | rfl | rfl
    all_goals exact e _ _ rfl
  · intro i hi
    have e := strs_cell (zs := [[], [60], [60, 61], [61], [62, 61], [62], [126]]) (g0 := 4) (t0 := 236) (e := 9) (n := 7) (by kernel_rfl) (by kernel_rfl) Tryz.underlying236 Tryz.underlying9 (by kernel_rfl) (by kernel_rfl) c2
    rcases (by omega : i = 0 ∨ i = 1 ∨ i = 2 ∨ i = 3 ∨ i = 4 ∨ i = 5 ∨ i = 6) with rfl | rfl | rfl | rfl | rfl | rfl | rfl
    all_goals exact e _ _ rfl
  · intro i hi
    have e := strs_cell (zs := [[97, 108, 112, 104, 97], [98, 101, 116, 97], [112, 114, 101], [114, 99]]) (g0 := 2) (t0 := 33) (e := 9) (n := 4) (by kernel_rfl) (by kernel_rfl) Tryz.underlying33 Tryz.underlying9 (by kernel_rfl) (by kernel_rfl) cv
    rcases (by omega : i = 0 ∨ i = 1 ∨ i = 2 ∨ i = 3) with rfl | rfl | rfl | rfl
    all_goals exact e _ _ rfl
  · exact tab_of (by kernel_rfl) (g0 := 13) (t0 := 337) (e := 82) (n := 20) (by kernel_rfl) (by kernel_rfl) Tryz.underlying337 Tryz.underlying82 (by kernel_rfl) (by kernel_rfl) cp
theorem getD_nv (l : List B32) (i : Nat) : (l.map nv).getD i 0 = nv (l.getD i 0) := by
  rw [List.getD_eq_getElem?_getD, List.getD_eq_getElem?_getD, List.getElem?_map]
  cases l[i]? <;> rfl
theorem cells_of_rows {H : Type} {enc : TypeId × Value → H} {P : Program} {w : World} {base : Nat} {sp : Nat → Bool} {held : Bool} {fuel : Nat} {t e : TypeId} {n m : Nat} {cs : List Value} {ds : List (DataW H)} {p : List MemPlace}
    (ht : P.underlying t = some (.array n e)) (hce : P.cellsOf e = m) (h : DataW.trod enc P w base sp held fuel t cs = some (.agg ds, p)) :
    ∀ (i : Nat) (d : DataW H), i < n → ds[i]? = some d → ∃ fuel' p', DataW.trod enc P w base sp held fuel' e ((cs.drop (i * m)).take m) = some (d, p') := by
  intro i d hi hd
  cases fuel with
  | zero => simp [DataW.trod] at h
  | succ fuel =>
    simp only [DataW.trod, ht, hce] at h
    split at h
    · obtain ⟨xs, hm, hx⟩ := Option.map_eq_some_iff.1 h
      have hxs : xs.map (·.1) = ds := by
        have := congrArg Prod.fst hx
        simpa using this
      obtain ⟨b, hb, hf⟩ := Lib.mapM_at hm i i (by simp [hi])
      have h2 : (xs.map (·.1))[i]? = some b.1 := by simp [hb]
      rw [hxs, hd] at h2
      injection h2 with h2
      subst h2
      exact ⟨fuel, b.2, hf⟩
    · cases h
theorem turns_cell {w : World} (h : ∃ g t cs fuel p, Tryz.prog.globalNamed "drayage/digest.turns" = some g ∧ (Tryz.prog.globals[g]?).map (·.type) = some t ∧ w.var? Tryz.prog "drayage/digest.turns" = some cs ∧ DataW.trod (fun _ => ()) Tryz.prog w 0 (fun _ => true) false fuel t cs.toList = some (Rows.laid_drayage_digest_turns, p)) (r j : Nat) (z : List Int) (x : Int) (hr : r < 4) (hj : j < 4) (hz : [[7, 12, 17, 22], [5, 9, 14, 20], [4, 11, 16, 23], [6, 10, 15, 21]][r]? = some z) (hx : z[j]? = some x) :
    w.cell? ⟨3, r * 4 + j, none⟩ = some (.int .i64 x) := by
  obtain ⟨g', t', cs, fuel, p, hg', ht', hvar, hd⟩ := h
  obtain rfl := Option.some.inj ((show Tryz.prog.globalNamed "drayage/digest.turns" = some 3 by kernel_rfl).symm.trans hg')
  obtain rfl := Option.some.inj ((show (Tryz.prog.globals[3]?).map (·.type) = some 199 by kernel_rfl).symm.trans ht')
  obtain ⟨f', p', hrow⟩ := cells_of_rows (e := 198) (n := 4) (m := 4) Tryz.underlying199 (by kernel_rfl) (ds := [[7, 12, 17, 22], [5, 9, 14, 20], [4, 11, 16, 23], [6, 10, 15, 21]].map (Lib.tabData .i64)) hd r (Lib.tabData .i64 z) hr (by rw [List.getElem?_map, hz]; rfl)
  have hc := Lib.cells_of_tab (e := 3) (n := 4) Tryz.underlying198 Tryz.underlying3 (by kernel_rfl) (by kernel_rfl) hrow
  rw [World.var?_cell (show Tryz.prog.globalNamed "drayage/digest.turns" = some 3 by kernel_rfl) hvar, ← Array.getElem?_toList]
  have h2 : ((cs.toList.drop (r * 4)).take 4)[j]? = some (.int .i64 x) := by rw [hc, List.getElem?_map, hx]; rfl
  rw [List.getElem?_take_of_lt hj, List.getElem?_drop] at h2
  exact h2
theorem turns_at : ∀ i : Nat, i < 64 → ∃ z, [[7, 12, 17, 22], [5, 9, 14, 20], [4, 11, 16, 23], [6, 10, 15, 21]][i / 16]? = some z ∧ z[i % 4]? = some ((md5Tu i : Nat) : Int) := by
  intro i hi
  have h1 : i / 16 = 0 ∨ i / 16 = 1 ∨ i / 16 = 2 ∨ i / 16 = 3 := by omega
  have h2 : i % 4 = 0 ∨ i % 4 = 1 ∨ i % 4 = 2 ∨ i % 4 = 3 := by omega
  unfold md5Tu
  rcases h1 with h1 | h1 | h1 | h1 <;> rcases h2 with h2 | h2 | h2 | h2 <;> rw [h1, h2] <;> exact ⟨_, rfl, rfl⟩
theorem glt_of_laid {W : World} (h : laidMetH Tryz.prog laidAllL W) : GlT W := by
  obtain ⟨ps, h0, _⟩ := data_of_laid h
  obtain ⟨m5, q1, h1⟩ := laid_cut h0
  obtain ⟨ms, q2, h2⟩ := laid_cut h1
  obtain ⟨_, q3, h3⟩ := laid_cut h2
  obtain ⟨_, q4, h4⟩ := laid_cut h3
  obtain ⟨_, q5, h5⟩ := laid_cut h4
  obtain ⟨_, q6, h6⟩ := laid_cut h5
  obtain ⟨mt, q7, h7⟩ := laid_cut h6
  refine ⟨fun i hi => ?_, fun i hi => ?_, fun i hi => ?_⟩
  · have ht := tab_of (zs := md5L.map nv) (k := .u32) (by kernel_rfl) (g0 := 0) (t0 := 118) (e := 76) (n := 64) (by kernel_rfl) (by kernel_rfl) Tryz.underlying118 Tryz.underlying76 (by kernel_rfl) (by kernel_rfl) m5
    have := ht.cell (g := 0) (by kernel_rfl) i (by rw [List.length_map]; exact hi)
    rw [getD_nv] at this
    exact this
  · obtain ⟨z, h1, h2⟩ := turns_at i hi
    exact turns_cell mt (i / 16) (i % 4) z _ (by omega) (by omega) h1 h2
  · have ht := tab_of (zs := shaL.map nv) (k := .u32) (by kernel_rfl) (g0 := 1) (t0 := 118) (e := 76) (n := 64) (by kernel_rfl) (by kernel_rfl) Tryz.underlying118 Tryz.underlying76 (by kernel_rfl) (by kernel_rfl) ms
    have := ht.cell (g := 1) (by kernel_rfl) i (by rw [List.length_map]; exact hi)
    rw [getD_nv] at this
    exact this
end
end Go.Proofs.YtlhchpeecfbgnaaGreatDoor
