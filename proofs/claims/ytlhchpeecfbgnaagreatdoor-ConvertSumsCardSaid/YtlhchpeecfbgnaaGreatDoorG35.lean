/- A part of the proof that the digests of any content are the three of it, and that an installed set is new memory. No condition. -/
import Derived.Test.YtlhchpeecfbgnaaGreatDoorG30
set_option maxRecDepth 100000
set_option maxHeartbeats 20000000
set_option linter.unusedVariables false
set_option linter.unusedSimpArgs false
namespace Go.Proofs.YtlhchpeecfbgnaaGreatDoor
section
open Go.RowKit
structure CoreL where
  ep : Nat
  na : Option Addr
  nc : Nat
  nums : List Nat
  lt : ByteArray
  pre : ByteArray
  pnum : Nat
  rev : Nat
def CoreL.plain (c : CoreL) : CoreM := ⟨c.ep, c.nums, bl c.lt, bl c.pre, c.pnum, c.rev⟩
def numCells (l : List Nat) : List Value := l.map fun (n : Nat) => Value.int .i64 (n : Int)
def CoreL.cells (c : CoreL) : List Value := [.int .i64 c.ep, .slice c.na c.nums.length c.nc, .string c.lt, .string c.pre, .int .i64 c.pnum, .int .i64 c.rev]
def CoreL.val (c : CoreL) : Value := .agg #[.int .i64 c.ep, .slice c.na c.nums.length c.nc, .string c.lt, .string c.pre, .int .i64 c.pnum, .int .i64 c.rev]
def CoreL.ok (c : CoreL) (w : World) : Prop := Rd w 1 c.na c.nums.length (numCells c.nums)
structure CoreL.few (c : CoreL) : Prop where
  ep : c.ep ≤ 4611686018427387903
  each : ∀ n ∈ c.nums, n ≤ 4611686018427387903
  len : c.nums.length ≤ 1000
  lt : c.lt.size ≤ 1000
  pre : c.pre.size ≤ 1000
  pnum : c.pnum ≤ 4611686018427387903
  rev : c.rev ≤ 4611686018427387903
theorem Rd.num {w : World} {A : Option Addr} {l : List Nat} (h : Rd w 1 A l.length (numCells l)) (i : Nat) (x : Nat) (hi : l[i]? = some x) :
    ∃ b off, A = some ⟨b, off, none⟩ ∧ w.cell? ⟨b, off + i, none⟩ = some (.int .i64 x) := by
  have hlt : i < l.length := (List.getElem?_eq_some_iff.1 hi).1
  obtain ⟨b, off, e, hc⟩ := h.2 (by omega)
  exact ⟨b, off, e, hc i _ (by simp [numCells, hi])⟩
theorem joinD_le : ∀ (L : List Nat), (∀ n ∈ L, n ≤ 4611686018427387903) → (joinD 46 (L.map decL)).length ≤ 20 * L.length
  | [], _ => by simp [joinD]
  | [n], h => by
    have := decL_len 18 n (by have := h n (by simp); omega)
    simp [joinD]; omega
  | n :: m :: L, h => by
    have h1 := decL_len 18 n (by have := h n (by simp); omega)
    have h2 := joinD_le (m :: L) (fun x hx => h x (List.mem_cons_of_mem _ hx))
    simp only [List.map_cons, joinD, List.length_append, List.length_cons] at h2 ⊢
    omega
theorem nd_true {p : Prop} [Decidable p] (h : false = !decide p) : p := by
  cases hd : decide p with
  | true => exact of_decide_eq_true hd
  | false => rw [hd] at h; cases h
theorem nd_false {p : Prop} [Decidable p] (h : true = !decide p) : ¬ p := by
  cases hd : decide p with
  | false => exact of_decide_eq_false hd
  | true => rw [hd] at h; cases h
theorem szA (a b : ByteArray) : (a ++ b).size = a.size + b.size := ByteArray.size_append
structure TxS (w wr : World) (c : CoreL) (l : List UInt8) : Prop where
  bel : Below w.heap.size w wr
  box : Blk wr w.heap.size c.cells
  bld : Bld wr (w.heap.size + 1) (w.heap.size + 1) l
  sz : w.heap.size + 1 < wr.heap.size
theorem Bld.below {w w' : World} {B b : Nat} {l : List UInt8} (h : Bld w B b l) (hb : Below w.heap.size w w') : Bld w' B b l := by
  have key : ∀ p, Lib.BuilderAt 223 5 B b p (Lib.byteCells l) w → Lib.BuilderAt 223 5 B b p (Lib.byteCells l) w' := by
    rintro p ⟨h1, v, h2, h3, h4⟩
    have hlt : b < w.heap.size := (Array.getElem?_eq_some_iff.1 h2).1
    exact ⟨h1, v, (hb.block b hlt).trans h2, owns_below h3 hb, h4⟩
  rcases h with h | h
  · exact .inl (key _ h)
  · exact .inr (key _ h)
theorem TxS.step {w wr w' : World} {c : CoreL} {l : List UInt8} (h : TxS w wr c l) (hb : Below wr.heap.size wr w') : TxS w w' c l :=
  ⟨bthen h.bel hb, h.box.below hb, h.bld.below hb, Nat.lt_of_lt_of_le h.sz hb.size⟩
theorem TxS.write {w wr w' : World} {c : CoreL} {l l' : List UInt8} (h : TxS w wr c l) (hb : Below (w.heap.size + 1) wr w') (hl : Bld w' (w.heap.size + 1) (w.heap.size + 1) l') : TxS w w' c l' :=
  ⟨h.bel.trans (hb.mono (Nat.le_succ _)), h.box.belowN hb (Nat.lt_succ_self _), hl, Nat.lt_of_lt_of_le h.sz hb.size⟩
theorem TxS.start (w : World) (c : CoreL) : TxS w ((w.alloc (.cells #[.int .i64 c.ep, .slice c.na c.nums.length c.nc, .string c.lt, .string c.pre, .int .i64 c.pnum, .int .i64 c.rev] 130)).alloc (.cells #[.pointer none, .slice none 0 0] 223)) c [] := by
  refine ⟨((Below.refl _ _).alloc (Nat.le_refl _) _).alloc (by simp) _, (Blk.new w c.cells _).alloc _, .inl ⟨Nat.le_refl _, .slice none 0 0, ?_, World.ownsRow_nil _ _ _ _, by simp [Value.ownBlock]⟩, by simp⟩
  have := heap_alloc_new (w.alloc (.cells #[.int .i64 c.ep, .slice c.na c.nums.length c.nc, .string c.lt, .string c.pre, .int .i64 c.pnum, .int .i64 c.rev] 130)) (.cells #[.pointer none, .slice none 0 0] 223)
  simpa using this
theorem TxS.put {w wr : World} {c : CoreL} {l : List UInt8} (h : TxS w wr c l) (s : ByteArray) (hs : l.length + s.size ≤ 1000000) :
    Calls Tryz.prog 151 #[.pointer (some ⟨w.heap.size + 1, 0, none⟩), .string s] wr fun e w' => e = .returned (.tuple #[.int .i64 s.size, .nilIface]) ∧ TxS w w' c (l ++ bl s) ∧ Below (w.heap.size + 1) wr w' :=
  (WriteString_at (w.heap.size + 1) (w.heap.size + 1) l s wr h.bld hs (Nat.le_of_lt h.sz)).mono fun _ _ ⟨he, hl, hb⟩ => ⟨he, h.write hb hl, hb⟩
theorem vmap_text (fmt : Int) (c : CoreL) (w : World) (hG : GlP w) (hc : c.ok w) (hf : c.few) :
    Calls Tryz.prog 116 #[.int .i64 fmt, c.val] w fun e w' => e = .returned (.string ⟨(coreT fmt c.plain).toArray⟩) ∧ Below w.heap.size w w' := by
  have HG := Lib.hid hG; have HC := Lib.hid hc; have HF := Lib.hid hf
  clear hG hc hf
  have T0 := Lib.hid (TxS.start w c)
  obtain ⟨W0, hW0⟩ : ∃ W0, (w.alloc (.cells #[.int .i64 c.ep, .slice c.na c.nums.length c.nc, .string c.lt, .string c.pre, .int .i64 c.pnum, .int .i64 c.rev] 130)).alloc (.cells #[.pointer none, .slice none 0 0] 223) = W0 := ⟨_, rfl⟩
  have HW0 := Lib.hid hW0; clear hW0
  have lp := (decS_len HF.out.ep); have lq := (decS_len HF.out.pnum); have lr' := (decS_len HF.out.rev)
  unfold CoreL.val
  go_enter Tryz.func116, Tryz.ntmps116
  go_wp2_with fail
  refine (vmap_signs fmt _).mono ?_; rintro e w' ⟨rfl, rfl⟩
  go_upto_region 3 with (fail)
  rw [HW0.out]
  have T1 : Hid (TxS w W0 c []) := by show TxS _ _ _ _; rw [← HW0.out]; exact T0.out
  clear T0 HW0
  go_cut [20] (fun s wx => ∃ bb : Bool, s = .bool bb ∧ Hid (bb = !decide (fmt = 3 ∨ c.ep = 0)) ∧ wx = W0)
  case first =>
    have k0 := T1.out.box.cell 0 _ rfl
    by_cases h3 : fmt = 3
    · have q : (fmt != 3) = false := by simp [h3]
      have E : Hid (false = !decide (fmt = 3 ∨ c.ep = 0)) := by show _ = _; simp [h3]
      clear h3
      go_wp2_with fail
      go_meet
      exact ⟨false, rfl, E, rfl⟩
    · have q : (fmt != 3) = true := by simp [h3]
      by_cases h0 : c.ep = 0
      · have q0 : ((c.ep : Int) != 0) = false := by simp [h0]
        have E : Hid (false = !decide (fmt = 3 ∨ c.ep = 0)) := by show _ = _; simp [h0]
        clear h3 h0
        go_wp2_with fail
        go_meet
        exact ⟨false, rfl, E, rfl⟩
      · have q0 : ((c.ep : Int) != 0) = true := by simp [h0]
        have E : Hid (true = !decide (fmt = 3 ∨ c.ep = 0)) := by show _ = _; simp [h0, h3]
        clear h3 h0
        go_wp2_with fail
        go_meet
        exact ⟨true, rfl, E, rfl⟩
  case rest =>
  obtain ⟨bb, rfl, HBB, rfl⟩ := hcut
  go_upto_if 20 with (fail)
  go_cut [20] (fun s wx => s = .bool bb ∧ Hid (TxS w wx c (epT fmt c.plain)))
  case first =>
    cases bb
    · have E : Hid (epT fmt c.plain = []) := by
        show _ = _; unfold epT; rw [if_pos (show fmt = 3 ∨ c.plain.ep = 0 from nd_true HBB.out)]
      go_wp2_with fail
      go_meet
      exact ⟨rfl, by rw [E.out]; exact T1⟩
    · have E : Hid (epT fmt c.plain = bl (decS c.ep ++ ⟨#[58]⟩)) := by
        show _ = _; unfold epT; rw [if_neg (show ¬ (fmt = 3 ∨ c.plain.ep = 0) from nd_false HBB.out), bl_append, bl_decS]; rfl
      have k0 := T1.out.box.cell 0 _ rfl
      go_wp2_with fail
      refine (codec_Dec c.ep _ (HG.out.below T1.out.bel) HF.out.ep).mono ?_; rintro e w1 ⟨rfl, hb1⟩
      have T2 := Lib.hid (T1.out.step hb1)
      clear hb1 k0
      have hsz : (decS c.ep ++ ⟨#[58]⟩ : ByteArray).size ≤ 20 := by rw [szA]; have : (⟨#[58]⟩ : ByteArray).size = 1 := rfl; omega
      go_wp2_with fail
      refine (T2.out.put _ (by rw [List.length_nil]; omega)).mono ?_; rintro e w2 ⟨rfl, hT3, hb3⟩
      have T3 := Lib.hid hT3
      clear hT3 hb3
      go_wp2_with fail
      go_meet
      exact ⟨rfl, by rw [E.out]; simpa using T3⟩
  case rest =>
  obtain ⟨rfl, T2⟩ := hcut
  clear T1 HBB
  have k1 := T2.out.box.cell 1 _ rfl
  have hlen := HF.out.len
  have epl : (epT fmt c.plain).length ≤ 20 := by
    unfold epT; split
    · simp
    · rw [List.length_append]; have := bl_length (decS c.plain.ep); rw [bl_decS] at this; have h2 : (decS c.plain.ep).size ≤ 19 := lp; simp; omega
  go_wp2_with fail
  go_loopw [29] (fun i wr => ∃ k : Nat, k ≤ c.nums.length ∧ i = .int .i64 k ∧ Hid (TxS w wr c (epT fmt c.plain ++ joinD 46 ((c.nums.take k).map decL)))) (fun i _ => c.nums.length - (intOf i).toNat)
  case atStart => exact ⟨0, Nat.zero_le _, rfl, Lib.hid (by simpa [joinD] using T2.out)⟩
  case round =>
    clear T2 k1
    obtain ⟨k, hk, rfl, T3⟩ := hrel
    have hjl := joinD_le (c.nums.take k) (fun n hn => HF.out.each n (List.mem_of_mem_take hn))
    rw [List.length_take] at hjl
    by_cases hlt : k < c.nums.length
    · obtain ⟨x, hx⟩ : ∃ x, c.nums[k]? = some x := ⟨_, List.getElem?_eq_getElem hlt⟩
      have hxs := HF.out.each x (List.mem_of_getElem? hx)
      have lx := decS_len hxs
      have HX := Lib.hid hx
      have TK : Hid ((c.nums.take (k + 1)).map decL = (c.nums.take k).map decL ++ [decL x]) := by
        show _ = _; obtain ⟨hk', hx'⟩ := List.getElem?_eq_some_iff.1 hx; rw [List.take_succ_eq_append_getElem hk', hx']; simp
      go_upto_if 33 with (fail)
      go_cut [29] (fun s wx => s = .int .i64 k ∧ Hid (TxS w wx c (epT fmt c.plain ++ (if (c.nums.take k).map decL = [] then [] else joinD 46 ((c.nums.take k).map decL) ++ [46]))))
      case first =>
        by_cases k0 : 0 < k
        rotate_left
        · have d1 : decide ((0 : Int) < (k : Int)) = false := decide_eq_false (by omega)
          have d2 : decide (0 < k) = false := decide_eq_false k0
          have E : Hid (epT fmt c.plain ++ (if (c.nums.take k).map decL = [] then [] else joinD 46 ((c.nums.take k).map decL) ++ [46]) = epT fmt c.plain ++ joinD 46 ((c.nums.take k).map decL)) := by show _ = _; (obtain rfl : k = 0 := by omega); rfl
          go_wp2_with fail
          go_meet
          exact ⟨rfl, by rw [E.out]; exact T3⟩
        · have d1 : decide ((0 : Int) < (k : Int)) = true := decide_eq_true (by omega)
          have d2 : decide (0 < k) = true := decide_eq_true (by omega)
          have E : Hid (epT fmt c.plain ++ (if (c.nums.take k).map decL = [] then [] else joinD 46 ((c.nums.take k).map decL) ++ [46]) = epT fmt c.plain ++ joinD 46 ((c.nums.take k).map decL) ++ bl ⟨#[46]⟩) := by
            show _ = _
            rw [if_neg (by intro e; have := congrArg List.length e; rw [List.length_map, List.length_take, List.length_nil] at this; omega), List.append_assoc]; rfl
          go_wp2_with fail
          refine (T3.out.put ⟨#[46]⟩ (by rw [List.length_append]; have h46 : (⟨#[46]⟩ : ByteArray).size = 1 := rfl; have := Nat.min_le_right k c.nums.length; omega)).mono ?_; rintro e w2 ⟨rfl, hT4, hb4⟩
          have T4 := Lib.hid hT4
          clear hT4 hb4
          go_wp2_with fail
          go_meet
          exact ⟨rfl, by rw [E.out]; exact T4⟩
      case rest =>
      obtain ⟨rfl, T4⟩ := hcut
      clear T3
      have k1 := T4.out.box.cell 1 _ rfl
      obtain ⟨b, off, hA, he⟩ := (Rd.below HC.out T4.out.bel).num k x hx
      have hix := fun W => idx_of (T := 52) (E := 3) (sz := 1) (c := c.nc) Tryz.underlying52 rfl Tryz.sizeOf3 hA hlt W
      simp only [Nat.mul_one] at hix
      clear hx hA
      go_wp2_with fail
      refine (codec_Dec x _ (HG.out.below T4.out.bel) hxs).mono ?_; rintro e w1 ⟨rfl, hb1⟩
      have T5 := Lib.hid (T4.out.step hb1)
      clear hb1 k1 he hix
      go_wp2_with fail
      refine (T5.out.put (decS x) (by
        rw [List.length_append]
        have : (if (c.nums.take k).map decL = [] then [] else joinD 46 ((c.nums.take k).map decL) ++ [46]).length ≤ 20 * min k c.nums.length + 1 := by
          split
          · simp
          · rw [List.length_append, List.length_singleton]; omega
        have := Nat.min_le_right k c.nums.length
        omega)).mono ?_; rintro e w2 ⟨rfl, hT6, hb6⟩
      have T6 := Lib.hid hT6
      clear hT6 hb6
      go_wp2_with fail
      go_roundw
      case rel => exact ⟨k + 1, by omega, by go_num, Lib.hid (by rw [TK.out, joinD_snoc, ← List.append_assoc, ← bl_decS x]; exact T6.out)⟩
      case measure => simp [intOf]; omega
    · have E : Hid (epT fmt c.plain ++ joinD 46 ((c.nums.take k).map decL) = epT fmt c.plain ++ numT c.plain) := by
        show _ = _; unfold numT; rw [List.take_of_length_le (by omega)]; rfl
      rw [E.out] at T3
      have nl : (numT c.plain).length ≤ 20 * c.nums.length := joinD_le c.nums HF.out.each
      have ltz := HF.out.lt; have prz := HF.out.pre
      have k2 := T3.out.box.cell 2 _ rfl
      go_wp2_with fail
      refine (T3.out.put c.lt (by rw [List.length_append]; omega)).mono ?_; rintro e w2 ⟨rfl, hT4, hb4⟩
      have T4 := Lib.hid hT4
      clear hT4 hb4 k2
      have sg1 : (sgnS fmt).size = 1 := rfl
      have ds2 : (dashS fmt).size ≤ 2 := by unfold dashS dashL; split <;> decide
      have k3 := T4.out.box.cell 3 _ rfl
      obtain ⟨pb, hpb⟩ : ∃ pb, c.pre.toList.isEmpty = pb := ⟨_, rfl⟩
      go_upto_if 48 with (fail)
      have HPB := Lib.hid hpb; clear hpb
      go_cut [20] (fun s wx => s = .bool bb ∧ Hid (TxS w wx c (epT fmt c.plain ++ numT c.plain ++ bl c.lt ++ preT fmt c.plain)))
      case first =>
        cases pb
        rotate_left
        · have p0 : c.pre.size = 0 := by have := HPB.out; rw [bl_toList, bl_isEmpty] at this; exact of_decide_eq_true this
          have E : Hid (preT fmt c.plain = []) := by show _ = _; unfold preT; rw [if_pos (show c.plain.pre = [] from bl_nil c.pre p0)]
          clear p0
          go_wp2_with fail
          go_meet
          exact ⟨rfl, by rw [E.out, List.append_nil]; exact T4⟩
        · have he1 : ¬ c.pre.toList = [] := by intro h; have := HPB.out; rw [h] at this; simp at this
          have E : Hid (preT fmt c.plain = bl (sgnS fmt ++ c.pre ++ decS c.pnum)) := by
            show _ = _; unfold preT; rw [if_neg (show ¬ c.plain.pre = [] by show ¬ bl c.pre = []; rw [← bl_toList]; exact he1), bl_append, bl_append, bl_decS]; rfl
          clear he1
          have k4 := T4.out.box.cell 4 _ rfl
          have sz1 : (sgnS fmt ++ c.pre).size ≤ 1001 := by rw [szA]; omega
          have sz2 : (sgnS fmt ++ c.pre ++ decS c.pnum).size ≤ 1020 := by rw [szA]; omega
          have q1 := fun W => run_string_add_sum (P := Tryz.prog) (w := W) (sgnS fmt) c.pre (by omega)
          have q2 := fun W => run_string_add_sum (P := Tryz.prog) (w := W) (sgnS fmt ++ c.pre) (decS c.pnum) (by omega)
          have T4d : Hid (TxS w w2.drew c (epT fmt c.plain ++ numT c.plain ++ bl c.lt)) := T4.out.step ((Below.refl _ _).drew)
          have HSZ : Hid ((epT fmt c.plain ++ numT c.plain ++ bl c.lt).length + (sgnS fmt ++ c.pre ++ decS c.pnum).size ≤ 1000000) := by
            show _ ≤ _; rw [List.length_append, List.length_append, bl_length]; omega
          go_wp2_with fail
          go_region_held3 (fun w' => w'.cell? ⟨w.heap.size, 3, none⟩ = some (.string c.pre) ∧ w'.cell? ⟨w.heap.size, 4, none⟩ = some (.int .i64 c.pnum))
            (first
              | go_keep
              | exact ⟨hT6.box.cell 3 _ rfl, hT6.box.cell 4 _ rfl⟩
              | exact ⟨(T4d.out.step hb5).box.cell 3 _ rfl, (T4d.out.step hb5).box.cell 4 _ rfl⟩)
            (first
              | (go_at_call 152; refine (codec_Dec c.pnum w2.drew (HG.out.below T4d.out.bel) HF.out.pnum).mono ?_; rintro e w5 ⟨rfl, hb5⟩)
              | (go_at_call 151; refine ((T4d.out.step hb5).put (sgnS fmt ++ c.pre ++ decS c.pnum) HSZ.out).mono ?_; rintro e w6 ⟨rfl, hT6, hb6⟩))
          all_goals
            have T6 := Lib.hid hT6
            go_wp2_with fail
            go_meet
            exact ⟨rfl, by rw [E.out]; exact T6⟩
      case rest =>
      obtain ⟨rfl, T5⟩ := hcut
      clear T4 k3
      have k5 := T5.out.box.cell 5 _ rfl
      have ptl : (preT fmt c.plain).length ≤ 1020 := by
        unfold preT; split
        · simp
        · have h1 : (bl c.pre).length ≤ 1000 := by rw [bl_length]; exact prz
          have h2 : (decL c.pnum).length ≤ 19 := by have := bl_length (decS c.pnum); rw [bl_decS] at this; omega
          show (sgn fmt :: (bl c.pre ++ decL c.pnum)).length ≤ 1020
          rw [List.length_cons, List.length_append]; omega
      have ltl : (bl c.lt).length ≤ 1000 := by rw [bl_length]; exact ltz
      go_wp2_with fail
      refine (codec_Dec c.rev _ (HG.out.below T5.out.bel) HF.out.rev).mono ?_; rintro e w5 ⟨rfl, hb5⟩
      have T6 := Lib.hid (T5.out.step hb5)
      clear hb5 k5
      have sz3 : (dashS fmt ++ decS c.rev).size ≤ 21 := by rw [szA]; omega
      go_wp2_with fail
      refine (T6.out.put (dashS fmt ++ decS c.rev) (by rw [List.length_append, List.length_append, List.length_append]; omega)).mono ?_; rintro e w6 ⟨rfl, hT7, hb7⟩
      have T7 := Lib.hid hT7
      clear hT7 hb7
      go_wp2_with fail
      refine (Tryz.Builder_String_any (w.heap.size + 1) (w.heap.size + 1) _ w6 T7.out.bld (Nat.le_of_lt T7.out.sz)).mono ?_; rintro e w7 ⟨rfl, hb8⟩
      have HE : Hid (epT fmt c.plain ++ numT c.plain ++ bl c.lt ++ preT fmt c.plain ++ bl (dashS fmt ++ decS c.rev) = coreT fmt c.plain) := by
        show _ = _
        unfold coreT bodyT
        rw [bl_append, bl_decS, show bl (dashS fmt) = dashL fmt from bl_mk _]
        simp [CoreL.plain]
      have HB8 : Hid (Below w.heap.size w w7) := T7.out.bel.trans (hb8.mono (Nat.le_succ _))
      rw [HE.out]
      go_wp2_with fail
      go_ret
      exact ⟨rfl, HB8.out⟩
end
end Go.Proofs.YtlhchpeecfbgnaaGreatDoor
