/- A part of the proof of a law on which findings a policy admits. No condition. -/
import Derived.Test.YtfgidaaipmbibaaGreatDoorF27
import Derived.Test.YtfgidaaipmbibaaGreatDoorF28
set_option maxRecDepth 100000
set_option maxHeartbeats 20000000
set_option linter.unusedVariables false
set_option linter.unusedSimpArgs false
namespace Go.Proofs.YtfgidaaipmbibaaGreatDoor
section
open Go.RowKit Go.Maps
theorem filesV_bad {fmt : Int} {fs : List FileM} {p : ByteArray} {e : Int} (hl : ¬ 512 < fs.length) (h : filesE fmt [] fs = some (p, e)) : filesV fmt fs = .tuple #[.string p, .int .i64 e] := by
  unfold filesV filesAns; rw [if_neg hl, h]; rfl
theorem filesV_ok {fmt : Int} {fs : List FileM} (hl : ¬ 512 < fs.length) (h : filesE fmt [] fs = none) : filesV fmt fs = .tuple #[.string ⟨#[]⟩, .int .i64 0] := by
  unfold filesV filesAns; rw [if_neg hl, h]; rfl
theorem take_last {fs : List FileM} {k : Nat} {f : FileM} (h : fs[k]? = some f) : (fs.take (k + 1)).getLast? = some f := by
  obtain ⟨hk, hf⟩ := List.getElem?_eq_some_iff.1 h
  rw [List.take_succ_eq_append_getElem hk, hf]; simp
theorem leq_bl (s t : ByteArray) : (Op.bytesLess s.toList t.toList || s.toList == t.toList) = !decide (bl t < bl s) := by
  rw [bytesLess_dec, beq_bl, bl_toList, bl_toList]
  by_cases h : bl t < bl s
  · rw [decide_eq_true h]
    have h1 : ¬ bl s < bl t := fun h' => lt_irr _ (lt_tr h h')
    have h2 : s ≠ t := fun e => by rw [e] at h; exact lt_irr _ h
    simp [h1, h2]
  · rw [decide_eq_false h]
    by_cases e : s = t
    · simp [e]
    · have : bl s < bl t := lt_of_not h (fun h' => e (bl_inj h').symm)
      simp [this]
structure KSt (w wr : World) (k : Nat) (pre : List FileM) (g : ByteArray → Option Value) : Prop where
  map : MapIs wr w.heap.size k g
  inv : KInv pre g
  cell : wr.cell? ⟨w.heap.size + 1, 0, none⟩ = some (.map (some w.heap.size))
  bel : Below w.heap.size w wr
  sz : w.heap.size + 2 ≤ wr.heap.size
theorem KSt.below {w wr w' : World} {k : Nat} {pre : List FileM} {g : ByteArray → Option Value} (h : KSt w wr k pre g) (hb : Below wr.heap.size wr w') : KSt w w' k pre g :=
  ⟨h.map.below hb, h.inv, (hb.cell (p := ⟨w.heap.size + 1, 0, none⟩) (by have := h.sz; show w.heap.size + 1 < _; omega)).trans h.cell, bthen h.bel hb, Nat.le_trans h.sz hb.size⟩
theorem KSt.start (w : World) : KSt w ((w.alloc (.map #[] 0)).alloc (.cells #[.map (some w.heap.size)] 81)) 0 [] (fun _ => none) :=
  ⟨(MapIs.made w).alloc _, KInv.nil, by simp, ((Below.refl _ _).alloc (Nat.le_refl _) _).alloc (by simp) _, by simp⟩
theorem KSt.put {w wr w' : World} {k : Nat} {pre : List FileM} {g : ByteArray → Option Value} {f : FileM} (h : KSt w wr k pre g) (ho : orderB pre.getLast? f = true) (hm : MapIs w' w.heap.size (k + 1) (fun x => if x = f.path then some (.int .i64 f.kind) else g x)) (hg : wr.grownBy w' (some w.heap.size)) : KSt w w' (k + 1) (pre ++ [f]) (fun x => if x = f.path then some (.int .i64 f.kind) else g x) :=
  ⟨hm, h.inv.put ho, hg.cell h.cell (by simp), h.bel.grown hg h.bel.size (fun j hj => by injection hj with hj; omega), Nat.le_trans h.sz hg.size⟩
theorem model_checkFiles (fmt : Int) (hfmt : fmt = 1 ∨ fmt = 2 ∨ fmt = 3) (A : Option Addr) (c : Nat) (fs : List FileM) (w : World) (hG : Gl w) (hr : Rd w 8 A fs.length (fs.flatMap FileM.cells)) (hn : fs.length ≤ 9223372036854775807) (hf : ∀ x ∈ fs, x.path.size ≤ 4294967280 ∧ x.owner.size ≤ 4294967280 ∧ x.group.size ≤ 4294967280 ∧ x.link.size ≤ 4294967280 ∧ x.sum.size ≤ 4294967280) :
    Calls Tryz.prog 48 #[.int .i64 fmt, .slice A fs.length c] w fun e w' => e = .returned (filesV fmt fs) ∧ Below w.heap.size w w' := by
  have HG := Lib.hid hG; have HR := Lib.hid hr; have HF := Lib.hid hf
  clear hG hr hf
  by_cases h512 : 512 < fs.length
  · have E : Hid (filesV fmt fs = .tuple #[.string ⟨#[102, 105, 108, 101, 115]⟩, .int .i64 4]) := by show _ = _; unfold filesV filesAns; rw [if_pos h512]
    go_enter Tryz.func48, Tryz.ntmps48
    go_wp2_with fail
    go_ret2
    exact ⟨by rw [E.out]; rfl, Below.refl _ _⟩
  have hmm := @run_makeMap Tryz.prog
  go_enter Tryz.func48, Tryz.ntmps48
  go_wp2_with fail
  clear hmm
  go_loopw [17] (fun i wr => ∃ (k : Nat) (g : ByteArray → Option Value), k ≤ fs.length ∧ i = .int .i64 k ∧ Hid (filesE fmt [] fs = filesE fmt (fs.take k) (fs.drop k)) ∧ Hid (KSt w wr k (fs.take k) g)) (fun i _ => fs.length - (intOf i).toNat)
  case atStart => exact ⟨0, _, Nat.zero_le _, rfl, rfl, KSt.start w⟩
  case round =>
    obtain ⟨k, g, hk, rfl, HE, HS⟩ := hrel
    by_cases hlt : k < fs.length
    · obtain ⟨f, hf⟩ : ∃ f, fs[k]? = some f := ⟨_, List.getElem?_eq_getElem hlt⟩
      obtain ⟨fz1, fz2, fz3, fz4, fz5⟩ := HF.out f (List.mem_of_getElem? hf)
      obtain ⟨b, off, hA, he⟩ := (HR.out.below HS.out.bel).elem file_len k f hf
      have e0 := he 0 _ rfl
      have e1 := he 1 _ rfl
      have e2 := he 2 _ rfl
      have e3 := he 3 _ rfl
      have e4 := he 4 _ rfl
      have e5 := he 5 _ rfl
      have e6 := he 6 _ rfl
      have e7 := he 7 _ rfl
      simp only [Nat.add_zero] at e0
      have hix := fun W => idx_of (T := 28) (E := 27) (sz := 8) (c := c) Tryz.underlying28 rfl Tryz.sizeOf27 hA hlt W
      have HX := Lib.hid hf
      clear hf he hA
      have X0 : Hid (Bx wr (wr.alloc (.cells #[.string f.path, .int .i64 f.kind, .int .i64 f.mode, .string f.owner, .string f.group, .string f.link, .string f.sum, .bool f.conf] 27)) f.cells) := Bx.start wr f.cells _
      go_wp2_with fail
      clear e0 e1 e2 e3 e4 e5 e6 e7 hix
      refine (entry_Path f.path _ (HG.out.below (bthen HS.out.bel X0.out.bel)) (by omega)).mono ?_; rintro e w1 ⟨rfl, hb1⟩
      have X1 : Hid (Bx wr w1 f.cells) := X0.out.step hb1
      clear hb1
      cases g1 : pathB (bl f.path)
      · skip
        have c0 := X1.out.cell 0 _ rfl
        have FE : fErr fmt (fs.take k) f = 10 := by unfold fErr; rw [g1]; rfl
        have E := Lib.hid (filesV_bad (fmt := fmt) h512 (filesE_bad HX.out HE.out (by rw [FE]; decide)))
        rw [FE] at E
        clear FE g1
        go_wp2_with fail
        go_ret2
        exact ⟨by rw [E.out]; rfl, bthen HS.out.bel X1.out.bel⟩
      have G1 := Lib.hid g1; clear g1
      have c0 := X1.out.cell 0 _ rfl
      go_wp2_with fail
      refine (model_Plain f.path _ (by omega)).mono ?_; rintro e w' ⟨rfl, rfl⟩
      cases g2 : plainB (bl f.path)
      · skip
        have FE : fErr fmt (fs.take k) f = 10 := by unfold fErr; rw [G1.out, g2]; rfl
        have E := Lib.hid (filesV_bad (fmt := fmt) h512 (filesE_bad HX.out HE.out (by rw [FE]; decide)))
        rw [FE] at E
        clear FE g2
        go_wp2_with fail
        go_ret2
        exact ⟨by rw [E.out]; rfl, bthen HS.out.bel X1.out.bel⟩
      have G2 : Hid ((pathB (bl f.path) && plainB (bl f.path)) = true) := by show _ = _; rw [G1.out, g2]; rfl
      clear g2
      go_upto_region 10 with (fail)
      go_cut [35] (fun s35 wx => ∃ bb : Bool, s35 = .bool bb ∧ Hid (bb = !orderB (fs.take k).getLast? f) ∧ Hid (Bx wr wx f.cells))
      case first =>
        by_cases k0 : k = 0
        · have k0' : decide (0 < (k : Int)) = false := decide_eq_false (by omega)
          have k0n : decide (0 < k) = false := decide_eq_false (by omega)
          have OB : Hid (false = !orderB (fs.take k).getLast? f) := by show _ = _; rw [k0]; rfl
          clear k0
          go_quiet (fail)
          go_wp2_with fail
          go_meet
          exact ⟨false, rfl, OB, X1.out.drewN _⟩
        · have k0' : decide (0 < (k : Int)) = true := decide_eq_true (by omega)
          have k0n : decide (0 < k) = true := decide_eq_true (by omega)
          have kpos : 0 < k := by omega
          obtain ⟨y, hy⟩ : ∃ y, fs[k - 1]? = some y := ⟨_, List.getElem?_eq_getElem (by omega)⟩
          have hly : (fs.take k).getLast? = some y := by have := take_last hy; rw [show k - 1 + 1 = k by omega] at this; exact this
          obtain ⟨b2, off2, hA2, he2⟩ := (HR.out.below (bthen HS.out.bel X1.out.bel)).elem file_len (k - 1) y hy
          have p0 := he2 0 _ rfl
          simp only [Nat.add_zero] at p0
          have hixp := fun W => idx_int (T := 28) (E := 27) (sz := 8) (c := c) (i := (k : Int) - 1) Tryz.underlying28 rfl Tryz.sizeOf27 (by omega) hA2 (show k - 1 < fs.length by omega) W
          have OB : Hid ((Op.bytesLess f.path.toList y.path.toList || f.path.toList == y.path.toList) = !orderB (fs.take k).getLast? f) := by
            show _ = _; rw [hly]; exact leq_bl f.path y.path
          have iw : IntKind.i64.wrap ((k : Int) - 1) = (k : Int) - 1 := IntWalk.i64_in _ (by omega)
          clear hy hly he2 hA2 k0
          go_quiet (fail)
          go_wp2_with fail
          go_meet
          exact ⟨_, rfl, OB, X1.out.drewN _⟩
      case rest =>
      obtain ⟨bb, rfl, HOB, X2⟩ := hcut
      clear c0
      have c0 := X2.out.cell 0 _ rfl
      have c1 := X2.out.cell 1 _ rfl
      cases bb
      case true =>
        have HO : Hid (orderB (fs.take k).getLast? f = false) := by have := HOB.out; show _ = _; revert this; cases orderB (fs.take k).getLast? f <;> simp
        have FE : fErr fmt (fs.take k) f = 15 := by unfold fErr; rw [G2.out, HO.out]; rfl
        have E := Lib.hid (filesV_bad (fmt := fmt) h512 (filesE_bad HX.out HE.out (by rw [FE]; decide)))
        rw [FE] at E
        clear FE
        go_wp2_with fail
        go_ret2
        exact ⟨by rw [E.out]; rfl, bthen HS.out.bel X2.out.bel⟩
      have HO : Hid (orderB (fs.take k).getLast? f = true) := by have := HOB.out; show _ = _; revert this; cases orderB (fs.take k).getLast? f <;> simp
      by_cases hkd : f.kind = 1 ∨ f.kind = 2 ∨ f.kind = 3
      case neg =>
        have q1 : (f.kind != 1) = true := by simp [bne]; omega
        have q2 : (f.kind != 2) = true := by simp [bne]; omega
        have q3 : (f.kind != 3) = true := by simp [bne]; omega
        have FE : fErr fmt (fs.take k) f = 9 := by unfold fErr; rw [G2.out, HO.out, if_neg (by simp), if_neg (by simp), if_pos hkd]
        have E := Lib.hid (filesV_bad (fmt := fmt) h512 (filesE_bad HX.out HE.out (by rw [FE]; decide)))
        rw [FE] at E
        clear FE hkd
        go_wp2_with fail
        go_ret2
        exact ⟨by rw [E.out]; rfl, bthen HS.out.bel X2.out.bel⟩
      have QQ : Hid (¬ ¬ (f.kind = 1 ∨ f.kind = 2 ∨ f.kind = 3)) := fun h => h hkd
      have Q : decide (f.kind = 1) = true ∨ (decide (f.kind = 1) = false ∧ decide (f.kind = 2) = true) ∨ (decide (f.kind = 1) = false ∧ decide (f.kind = 2) = false ∧ decide (f.kind = 3) = true) := by
        by_cases h1 : f.kind = 1
        · exact .inl (decide_eq_true h1)
        by_cases h2 : f.kind = 2
        · exact .inr (.inl ⟨decide_eq_false h1, decide_eq_true h2⟩)
        · exact .inr (.inr ⟨decide_eq_false h1, decide_eq_false h2, decide_eq_true (by omega)⟩)
      clear hkd
      go_upto_region 12 with (fail)
      go_cut [51] (fun s51 wx => s51 = .bool false ∧ wc = wx)
      case first =>
        rcases Q with h | ⟨h, h'⟩ | ⟨h, h', h''⟩
        · have q1 : (f.kind != 1) = false := by have := of_decide_eq_true h; simp [bne, this]
          clear h
          go_wp2_with fail
          go_meet
          exact ⟨rfl, rfl⟩
        · have q1 : (f.kind != 1) = true := by have := of_decide_eq_false h; simp [bne, this]
          have q2 : (f.kind != 2) = false := by have := of_decide_eq_true h'; simp [bne, this]
          clear h h'
          go_wp2_with fail
          go_meet
          exact ⟨rfl, rfl⟩
        · have q1 : (f.kind != 1) = true := by have := of_decide_eq_false h; simp [bne, this]
          have q2 : (f.kind != 2) = true := by have := of_decide_eq_false h'; simp [bne, this]
          have q3 : (f.kind != 3) = false := by have := of_decide_eq_true h''; simp [bne, this]
          clear h h' h''
          go_wp2_with fail
          go_meet
          exact ⟨rfl, rfl⟩
      case rest =>
      obtain ⟨rfl, rfl⟩ := hcut
      have c2 := X2.out.cell 2 _ rfl
      have c3 := X2.out.cell 3 _ rfl
      have c4 := X2.out.cell 4 _ rfl
      have c5 := X2.out.cell 5 _ rfl
      have c6 := X2.out.cell 6 _ rfl
      have c7 := X2.out.cell 7 _ rfl
      go_wp2_with fail
      refine (model_restRight fmt hfmt f _ (by omega) (by omega) (by omega) (by omega)).mono ?_; rintro e w3 ⟨rfl, hb3⟩
      have X3 : Hid (Bx wr w3 f.cells) := X2.out.step hb3
      clear hb3 c0 c1 c2 c3 c4 c5 c6 c7
      have c0 := X3.out.cell 0 _ rfl
      cases g3 : restB fmt f
      case false =>
        have FE : fErr fmt (fs.take k) f = 1 := by unfold fErr; rw [G2.out, HO.out, if_neg (by simp), if_neg (by simp), if_neg QQ.out, g3]; rfl
        have E := Lib.hid (filesV_bad (fmt := fmt) h512 (filesE_bad HX.out HE.out (by rw [FE]; decide)))
        rw [FE] at E
        clear FE g3
        go_wp2_with fail
        go_ret2
        exact ⟨by rw [E.out]; rfl, bthen HS.out.bel X3.out.bel⟩
      have G3 := Lib.hid g3; clear g3
      go_wp2_with fail
      have S3 := Lib.hid (HS.out.below X3.out.bel)
      refine (model_parentRight f (fs.take k) g (w.heap.size + 1) w.heap.size k _ (HG.out.below S3.out.bel) S3.out.cell (by have := S3.out.sz; omega) S3.out.map S3.out.inv fz1).mono ?_; rintro e w4 ⟨rfl, hb4⟩
      have X4 : Hid (Bx wr w4 f.cells) := X3.out.step hb4
      have S4 := Lib.hid (S3.out.below hb4)
      clear hb4 c0
      have c0 := X4.out.cell 0 _ rfl
      have c1 := X4.out.cell 1 _ rfl
      cases g4 : parBad (fs.take k) f
      case true =>
        have FE : fErr fmt (fs.take k) f = 9 := by unfold fErr; rw [G2.out, HO.out, if_neg (by simp), if_neg (by simp), if_neg QQ.out, G3.out, if_neg (by simp), g4]; rfl
        have E := Lib.hid (filesV_bad (fmt := fmt) h512 (filesE_bad HX.out HE.out (by rw [FE]; decide)))
        rw [FE] at E
        clear FE g4
        go_wp2_with fail
        go_ret2
        exact ⟨by rw [E.out]; rfl, bthen HS.out.bel X4.out.bel⟩
      have FE : Hid (fErr fmt (fs.take k) f = 0) := by show _ = _; unfold fErr; rw [G2.out, HO.out, if_neg (by simp), if_neg (by simp), if_neg QQ.out, G3.out, if_neg (by simp), g4]; rfl
      clear g4
      have hmc := S4.out.cell
      obtain ⟨w5, hrun5, hm5, hg5⟩ := S4.out.map.put Tryz.underlying81 (by unfold maxLen; omega) f.path (by unfold maxLen; omega) (.int .i64 f.kind)
      have S5 := Lib.hid (S4.out.put HO.out hm5 hg5)
      clear hm5 hg5
      go_wp2_with fail
      clear hrun5 hmc c0 c1
      have TK : Hid (fs.take (k + 1) = fs.take k ++ [f]) := by show _ = _; obtain ⟨hk', hf'⟩ := List.getElem?_eq_some_iff.1 HX.out; rw [List.take_succ_eq_append_getElem hk', hf']
      go_roundw
      case rel => exact ⟨k + 1, _, by omega, by go_num, Lib.hid (filesE_next HX.out HE.out FE.out), Lib.hid (by rw [TK.out]; exact S5.out)⟩
      case measure => simp [intOf]; omega
    · have E := Lib.hid (filesV_ok (fmt := fmt) h512 (filesE_end (by omega) HE.out))
      go_wp2_with fail
      go_ret2
      exact ⟨by rw [E.out]; rfl, HS.out.bel⟩
end
end Go.Proofs.YtfgidaaipmbibaaGreatDoor
