/- A part of the proof that the digests of any content are the three of it, and that an installed set is new memory. No condition. -/
import Derived.Test.YtlhchpeecfbgnaaGreatDoorG36
set_option maxRecDepth 100000
set_option maxHeartbeats 20000000
set_option linter.unusedVariables false
set_option linter.unusedSimpArgs false
namespace Go.Proofs.YtlhchpeecfbgnaaGreatDoor
section
open Go.RowKit
def chkE (c : CoreM) : Int := if coreB c = true then 0 else 11
theorem chkE_bad {c : CoreM} (h : coreB c = false) : chkE c = 11 := by unfold chkE; rw [if_neg (by rw [h]; simp)]
def preOk (c : CoreM) : Bool := (c.pre.isEmpty && decide (c.pnum = 0)) || presL.contains c.pre
theorem coreB_nil {c : CoreM} (h : c.nums = []) : coreB c = false := by unfold coreB; rw [h]; rfl
theorem coreB_num {c : CoreM} {x : Nat} (hx : x ∈ [c.ep, c.pnum, c.rev] ++ c.nums) (h : ¬ x ≤ 999999999) : coreB c = false := by
  cases hb : coreB c with
  | false => rfl
  | true =>
    have ok := (coreB_iff c).1 hb
    rw [List.mem_append] at hx
    rcases hx with hx | hx
    · simp only [List.mem_cons, List.not_mem_nil, or_false] at hx
      rcases hx with rfl | rfl | rfl
      · exact absurd ok.ep h
      · exact absurd ok.pnum h
      · exact absurd ok.rev h
    · exact absurd (ok.each x hx) h
theorem coreB_rest {c : CoreM} (h0 : c.nums ≠ []) (hn : ∀ x ∈ [c.ep, c.pnum, c.rev] ++ c.nums, x ≤ 999999999) : coreB c = (ltB c.lt && (preOk c && decide ((coreT 1 c).length ≤ 64))) := by
  unfold coreB preOk
  have e1 : c.nums.isEmpty = false := by cases h : c.nums with | nil => exact absurd h h0 | cons a r => rfl
  have e2 : (c.nums.all fun n => decide (n ≤ 999999999)) = true := by rw [List.all_eq_true]; intro x hx; exact decide_eq_true (hn x (List.mem_append_right _ hx))
  have e3 := hn c.ep (by simp)
  have e4 := hn c.pnum (by simp)
  have e5 := hn c.rev (by simp)
  rw [e1, e2, decide_eq_true e3, decide_eq_true e4, decide_eq_true e5]; simp
structure CoS (w wr : World) (c : CoreL) : Prop where
  bel : Below w.heap.size w wr
  box : Blk wr w.heap.size c.cells
theorem CoS.step {w wr w' : World} {c : CoreL} (h : CoS w wr c) (hb : Below wr.heap.size wr w') : CoS w w' c := ⟨bthen h.bel hb, h.box.below hb⟩
theorem Rd.three (w : World) (a b d : Nat) : Rd (w.alloc (.cells #[.int .i64 a, .int .i64 b, .int .i64 d] 3)) 1 (some ⟨w.heap.size, 0, none⟩) [a, b, d].length (numCells [a, b, d]) := by
  refine ⟨rfl, fun _ => ⟨_, _, rfl, fun j u hu => ?_⟩⟩
  have := (Blk.new w (numCells [a, b, d]) 3).cell j u hu
  simpa [numCells] using this
theorem vmap_Check (c : CoreL) (w : World) (hG : GlP w) (hc : c.ok w) (hf : c.few) :
    Calls Tryz.prog 115 #[c.val] w fun e w' => e = .returned (.int .i64 (chkE c.plain)) ∧ Below w.heap.size w w' := by
  have HG := Lib.hid hG; have HC := Lib.hid hc; have HF := Lib.hid hf
  clear hG hc hf
  have hlen := HF.out.len
  obtain ⟨W0, hW0⟩ : ∃ W0, w.alloc (.cells #[.int .i64 c.ep, .slice c.na c.nums.length c.nc, .string c.lt, .string c.pre, .int .i64 c.pnum, .int .i64 c.rev] 130) = W0 := ⟨_, rfl⟩
  have R0 : Hid (CoS w W0 c) := by show CoS _ _ _; rw [← hW0]; exact ⟨(Below.refl _ _).alloc (Nat.le_refl _) _, Blk.new w c.cells _⟩
  have k0 := R0.out.box.cell 0 _ rfl
  have k1 := R0.out.box.cell 1 _ rfl
  have k4 := R0.out.box.cell 4 _ rfl
  have k5 := R0.out.box.cell 5 _ rfl
  unfold CoreL.val
  by_cases hn0 : c.nums.length = 0
  · have q : ((c.nums.length : Int) == 0) = true := by rw [hn0]; rfl
    have E := Lib.hid (chkE_bad (coreB_nil (c := c.plain) (List.length_eq_zero_iff.1 hn0)))
    clear hn0
    go_enter Tryz.func115, Tryz.ntmps115
    go_wp2_with fail
    go_ret
    exact ⟨ret_int E.out.symm, R0.out.bel⟩
  have q : ((c.nums.length : Int) == 0) = false := beq_eq_false_iff_ne.2 (by omega)
  have HN0 : Hid (c.plain.nums ≠ []) := by intro e; apply hn0; rw [show c.nums = [] from e]; rfl
  clear hn0
  obtain ⟨W1, hW1⟩ : ∃ W1, W0.alloc (.cells #[.int .i64 c.ep, .int .i64 c.pnum, .int .i64 c.rev] 3) = W1 := ⟨_, rfl⟩
  obtain ⟨W2, hW2⟩ : ∃ W2, W1.alloc (.cells #[.slice (some ⟨W0.heap.size, 0, none⟩) 3 3, .slice c.na c.nums.length c.nc] 52) = W2 := ⟨_, rfl⟩
  have B1 : Hid (Below W0.heap.size W0 W1) := by rw [← hW1]; exact (Below.refl _ _).alloc (Nat.le_refl _) _
  have B2 : Hid (Below W1.heap.size W1 W2) := by rw [← hW2]; exact (Below.refl _ _).alloc (Nat.le_refl _) _
  have D3 : Hid (Rd W1 1 (some ⟨W0.heap.size, 0, none⟩) [c.ep, c.pnum, c.rev].length (numCells [c.ep, c.pnum, c.rev])) := by show Rd _ _ _ _ _; rw [← hW1]; exact Rd.three W0 c.ep c.pnum c.rev
  have K2 : Hid (Blk W2 W1.heap.size [.slice (some ⟨W0.heap.size, 0, none⟩) 3 3, .slice c.na c.nums.length c.nc]) := by show Blk _ _ _; rw [← hW2]; exact Blk.new W1 [.slice (some ⟨W0.heap.size, 0, none⟩) 3 3, .slice c.na c.nums.length c.nc] _
  have R2 := Lib.hid ((R0.out.step B1.out).step B2.out)
  have k1' : W1.cell? ⟨w.heap.size, 1, none⟩ = some (.slice c.na c.nums.length c.nc) := (R0.out.step B1.out).box.cell 1 _ rfl
  go_enter Tryz.func115, Tryz.ntmps115
  go_wp2_with fail
  refine (Concat_two W1.heap.size (some ⟨W0.heap.size, 0, none⟩) c.na 3 c.nc [c.ep, c.pnum, c.rev] c.nums W2 (K2.out.cell 0 _ rfl) (K2.out.cell 1 _ rfl) (D3.out.below B2.out) (Rd.below HC.out R2.out.bel) (by simp) (by simp) (by omega)).mono ?_
  rintro e w3 ⟨R, cap, rfl, hR, hb3⟩
  have RL := Lib.hid hR
  have R3 := Lib.hid (R2.out.step hb3)
  clear hR hb3 k0 k1 k4 k5 k1' hW0 hW1 hW2 R0 R2 B1 B2 D3 K2 q
  obtain ⟨L, hL⟩ : ∃ L, [c.ep, c.pnum, c.rev] ++ c.nums = L := ⟨_, rfl⟩
  have HL := Lib.hid hL
  have hLl : L.length ≤ 1003 := by rw [← hL]; simp; omega
  rw [hL] at RL
  rw [hL]
  clear hL
  have HLB : Hid (∀ x ∈ L, x ≤ 4611686018427387903) := by
    intro x hx; rw [← HL.out, List.mem_append] at hx
    rcases hx with hx | hx
    · simp only [List.mem_cons, List.not_mem_nil, or_false] at hx
      rcases hx with rfl | rfl | rfl
      · exact HF.out.ep
      · exact HF.out.pnum
      · exact HF.out.rev
    · exact HF.out.each x hx
  go_wp2_with fail
  go_loopw [21] (fun i wr => ∃ k : Nat, k ≤ L.length ∧ i = .int .i64 k ∧ Hid (∀ x ∈ L.take k, x ≤ 999999999) ∧ wr = w3) (fun i _ => L.length - (intOf i).toNat)
  case atStart => exact ⟨0, Nat.zero_le _, rfl, by simp [Hid], rfl⟩
  case round =>
    obtain ⟨k, hk, rfl, HT, rfl⟩ := hrel
    by_cases hlt : k < L.length
    · obtain ⟨x, hx⟩ : ∃ x, L[k]? = some x := ⟨_, List.getElem?_eq_getElem hlt⟩
      obtain ⟨b, off, hA, he⟩ := RL.out.num k x hx
      have hix := fun W => idx_of (T := 52) (E := 3) (sz := 1) (c := cap) Tryz.underlying52 rfl Tryz.sizeOf3 hA hlt W
      simp only [Nat.mul_one] at hix
      have HX := Lib.hid hx
      have hxs := HLB.out x (List.mem_of_getElem? hx)
      clear hx hA
      have d1 : decide ((x : Int) < 0) = false := decide_eq_false (by omega)
      by_cases hbig : x ≤ 999999999
      · have d2 : decide ((999999999 : Int) < (x : Int)) = false := decide_eq_false (by omega)
        have d3 : decide (999999999 < x) = false := decide_eq_false (by omega)
        have HB := Lib.hid hbig
        clear hbig
        go_wp2_with fail
        go_roundw
        case rel => exact ⟨k + 1, by omega, by go_num, Lib.hid (fun y hy => by
          obtain ⟨hk', hf'⟩ := List.getElem?_eq_some_iff.1 HX.out
          rw [List.take_succ_eq_append_getElem hk', hf'] at hy
          rcases List.mem_append.1 hy with hy | hy
          · exact HT.out y hy
          · rw [List.mem_singleton.1 hy]; exact HB.out), by trivial⟩
        case measure => simp [intOf]; omega
      · have d2 : decide ((999999999 : Int) < (x : Int)) = true := decide_eq_true (by omega)
        have d3 : decide (999999999 < x) = true := decide_eq_true (by omega)
        have E := Lib.hid (chkE_bad (coreB_num (c := c.plain) (x := x) (by rw [show [c.plain.ep, c.plain.pnum, c.plain.rev] ++ c.plain.nums = L from HL.out]; exact List.mem_of_getElem? HX.out) hbig))
        clear hbig
        go_wp2_with fail
        go_ret
        exact ⟨ret_int E.out.symm, R3.out.bel⟩
    · have HALL : Hid (coreB c.plain = (ltB (bl c.lt) && (preOk c.plain && decide ((coreT 1 c.plain).length ≤ 64)))) :=
        coreB_rest HN0.out (fun x hx => HT.out x (by rw [List.take_of_length_le (by omega)]; rw [← HL.out]; exact hx))
      have k2 := R3.out.box.cell 2 _ rfl
      have k3 := R3.out.box.cell 3 _ rfl
      have k4 := R3.out.box.cell 4 _ rfl
      have ltz := HF.out.lt; have prz := HF.out.pre
      go_upto_region 9 with (fail)
      go_cut [47] (fun s wx => ∃ bb : Bool, s = .bool bb ∧ Hid (bb = !ltB (bl c.lt)) ∧ wr = wx)
      case first =>
        obtain ⟨pb, hpb⟩ : ∃ pb, c.lt.toList.isEmpty = pb := ⟨_, rfl⟩
        cases pb
        rotate_left
        · have p0 : c.lt.size = 0 := by rw [bl_toList, bl_isEmpty] at hpb; exact of_decide_eq_true hpb
          have E : Hid (false = !ltB (bl c.lt)) := by show _ = _; rw [bl_nil c.lt p0]; rfl
          clear p0
          go_wp2_with fail
          go_meet
          exact ⟨false, rfl, E, rfl⟩
        · have p0 : ¬ c.lt.size = 0 := by intro h; rw [bl_toList, bl_isEmpty, decide_eq_true h] at hpb; cases hpb
          by_cases p1 : c.lt.size = 1
          · have d1 : ((c.lt.size : Int) != 1) = false := by rw [p1]; rfl
            have hpos : 0 < c.lt.size := by omega
            have E : Hid ((!smlB c.lt[0]) = !ltB (bl c.lt)) := by
              show _ = _
              have ht : (bl c.lt).tail = [] := by rw [← List.drop_one]; exact List.drop_of_length_le (by rw [bl_length]; omega)
              rw [bl_cons c.lt hpos, ht]; rfl
            clear p0 p1
            go_wp2_with fail
            refine (vmap_small c.lt[0] _).mono ?_; rintro e w' ⟨rfl, rfl⟩
            go_wp2_with fail
            go_meet
            exact ⟨_, rfl, E, rfl⟩
          · have d1 : ((c.lt.size : Int) != 1) = true := by simp [bne]; omega
            have E : Hid (true = !ltB (bl c.lt)) := by
              show _ = _
              have hl := bl_length c.lt
              match h : bl c.lt with
              | [] => rw [h] at hl; simp at hl; omega
              | [b] => rw [h] at hl; simp at hl; omega
              | a :: b :: r => rfl
            clear p0 p1
            go_wp2_with fail
            go_meet
            exact ⟨true, rfl, E, rfl⟩
      case rest =>
      obtain ⟨bb, rfl, HB1, rfl⟩ := hcut
      clear k2
      cases bb
      case true =>
        have E := Lib.hid (chkE_bad (c := c.plain) (by rw [HALL.out]; have := HB1.out; revert this; cases ltB (bl c.lt) <;> simp))
        go_wp2_with fail
        go_ret
        exact ⟨ret_int E.out.symm, R3.out.bel⟩
      have HB : Hid (ltB (bl c.lt) = true) := by have := HB1.out; show _ = _; revert this; cases ltB (bl c.lt) <;> simp
      clear HB1
      go_upto_region 11 with (fail)
      go_cut [66] (fun s wx => ∃ bb : Bool, s = .bool bb ∧ Hid (bb = !preOk c.plain) ∧ wr = wx)
      case first =>
        have HG3 := Lib.hid (HG.out.below R3.out.bel)
        obtain ⟨pb, hpb⟩ : ∃ pb, c.pre.toList.isEmpty = pb := ⟨_, rfl⟩
        have HPB := Lib.hid hpb
        cases pb
        rotate_left
        · have p0 : bl c.pre = [] := by have := HPB.out; rw [bl_toList, bl_isEmpty] at this; exact bl_nil c.pre (of_decide_eq_true this)
          have E0 : Hid (preOk c.plain = decide (c.pnum = 0)) := by
            show _ = _; unfold preOk
            rw [show c.plain.pre = [] from p0]
            show (true && decide (c.pnum = 0) || presL.contains []) = _
            rw [show presL.contains [] = false from by decide]; simp
          clear p0
          by_cases z0 : c.pnum = 0
          · have d0 : ((c.pnum : Int) != 0) = false := by rw [z0]; rfl
            have E : Hid (false = !preOk c.plain) := by show _ = _; rw [E0.out, decide_eq_true z0]; rfl
            clear z0
            go_wp2_with fail
            go_meet
            exact ⟨false, rfl, E, rfl⟩
          · have d0 : ((c.pnum : Int) != 0) = true := by simp [bne]; omega
            have E : Hid (true = !preOk c.plain) := by show _ = _; rw [E0.out, decide_eq_false z0]; rfl
            clear z0
            go_wp2_with fail
            go_meet
            exact ⟨true, rfl, E, rfl⟩
        · have p0 : bl c.pre ≠ [] := by intro h; have := HPB.out; rw [bl_toList, h] at this; cases this
          have E0 : Hid (preOk c.plain = decide (rank c.pre < 4)) := by
            show _ = _; rw [rank_pres]; unfold preOk
            have : c.plain.pre.isEmpty = false := by cases h : bl c.pre with | nil => exact absurd h p0 | cons a r => show (bl c.pre).isEmpty = false; rw [h]; rfl
            rw [this]; rfl
          clear p0
          have hr4 : rank c.pre ≤ 4 := by unfold rank; repeat' split
                                          all_goals omega
          by_cases z0 : rank c.pre = 4
          · have d0 : ((rank c.pre : Int) == 4) = true := by rw [z0]; rfl
            have E : Hid (true = !preOk c.plain) := by show _ = _; rw [E0.out, decide_eq_false (by omega)]; rfl
            clear z0 hr4
            go_wp2_with fail
            refine (vmap_preRank c.pre _ HG3.out).mono ?_; rintro e w' ⟨rfl, rfl⟩
            go_wp2_with fail
            go_meet
            exact ⟨true, rfl, E, rfl⟩
          · have d0 : ((rank c.pre : Int) == 4) = false := beq_eq_false_iff_ne.2 (by omega)
            have E : Hid (false = !preOk c.plain) := by show _ = _; rw [E0.out, decide_eq_true (by omega)]; rfl
            clear z0 hr4
            go_wp2_with fail
            refine (vmap_preRank c.pre _ HG3.out).mono ?_; rintro e w' ⟨rfl, rfl⟩
            go_wp2_with fail
            go_meet
            exact ⟨false, rfl, E, rfl⟩
      case rest =>
      obtain ⟨bb, rfl, HB1, rfl⟩ := hcut
      clear k3 k4
      cases bb
      case true =>
        have E := Lib.hid (chkE_bad (c := c.plain) (by rw [HALL.out, HB.out]; have := HB1.out; revert this; cases preOk c.plain <;> simp))
        go_wp2_with fail
        go_ret
        exact ⟨ret_int E.out.symm, R3.out.bel⟩
      have HP : Hid (preOk c.plain = true) := by have := HB1.out; show _ = _; revert this; cases preOk c.plain <;> simp
      clear HB1
      have k0 := R3.out.box.cell 0 _ rfl
      have k1 := R3.out.box.cell 1 _ rfl
      have k2 := R3.out.box.cell 2 _ rfl
      have k3 := R3.out.box.cell 3 _ rfl
      have k4 := R3.out.box.cell 4 _ rfl
      have k5 := R3.out.box.cell 5 _ rfl
      go_wp2_with fail
      refine (vmap_text 1 c _ (HG.out.below R3.out.bel) (Rd.below HC.out R3.out.bel) HF.out).mono ?_; rintro e w4 ⟨rfl, hb4⟩
      have B4 := Lib.hid (bthen R3.out.bel hb4)
      clear hb4 k0 k1 k2 k3 k4 k5
      obtain ⟨T, hT⟩ : ∃ T : ByteArray, (⟨(coreT 1 c.plain).toArray⟩ : ByteArray) = T := ⟨_, rfl⟩
      have hTs : Hid ((coreT 1 c.plain).length = T.size) := by show _ = _; rw [← hT]; simp [ByteArray.size]
      rw [hT]
      clear hT
      by_cases h64 : 64 < T.size
      · have d1 : decide ((64 : Int) < (T.size : Int)) = true := decide_eq_true (by omega)
        have d2 : decide (64 < T.size) = true := decide_eq_true h64
        have E := Lib.hid (chkE_bad (c := c.plain) (by rw [HALL.out, HB.out, HP.out, decide_eq_false (by rw [hTs.out]; omega)]; rfl))
        go_wp2_with fail
        go_ret
        exact ⟨ret_int E.out.symm, B4.out⟩
      · have d1 : decide ((64 : Int) < (T.size : Int)) = false := decide_eq_false (by omega)
        have d2 : decide (64 < T.size) = false := decide_eq_false h64
        have E : Hid (chkE c.plain = 0) := by show _ = _; unfold chkE; rw [if_pos (by rw [HALL.out, HB.out, HP.out, decide_eq_true (by rw [hTs.out]; omega)]; rfl)]
        go_wp2_with fail
        go_ret
        exact ⟨ret_int E.out.symm, B4.out⟩
end
end Go.Proofs.YtlhchpeecfbgnaaGreatDoor
