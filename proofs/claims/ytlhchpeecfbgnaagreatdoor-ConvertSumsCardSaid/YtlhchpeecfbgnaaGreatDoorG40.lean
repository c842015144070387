/- A part of the proof that the digests of any content are the three of it, and that an installed set is new memory. No condition. -/
import Derived.Test.YtlhchpeecfbgnaaGreatDoorG38
import Derived.Test.YtlhchpeecfbgnaaGreatDoorG39
set_option maxRecDepth 100000
set_option maxHeartbeats 20000000
set_option linter.unusedVariables false
set_option linter.unusedSimpArgs false
namespace Go.Proofs.YtlhchpeecfbgnaaGreatDoor
section
open Go.RowKit
def zeroC : List Value := [.int .i64 0, .slice none 0 0, .string ⟨#[]⟩, .string ⟨#[]⟩, .int .i64 0, .int .i64 0]
structure PcS (w wr : World) (cb : Nat) (vs : List Value) : Prop where
  bel : Below w.heap.size w wr
  res : Blk wr w.heap.size zeroC
  box : Blk wr cb vs
  lo : w.heap.size < cb
theorem PcS.step {w wr w' : World} {cb : Nat} {vs : List Value} (h : PcS w wr cb vs) (hb : Below wr.heap.size wr w') : PcS w w' cb vs := ⟨bthen h.bel hb, h.res.below hb, h.box.below hb, h.lo⟩
theorem PcS.set {w wr : World} {cb : Nat} {vs : List Value} (h : PcS w wr cb vs) (j : Nat) (hj : j < vs.length) (v : Value) : PcS w (wr.setCell ⟨cb, j, none⟩ v) cb (vs.set j v) :=
  ⟨below_set h.bel (Nat.le_of_lt h.lo) _, h.res.far (by have := h.lo; omega) _, h.box.set j hj v, h.lo⟩
theorem pc_six {wr : World} {b : Nat} (h : Blk wr b zeroC) : wr.cell? ⟨b, 0, none⟩ = some (.int .i64 0) ∧ wr.cell? ⟨b, 1, none⟩ = some (.slice none 0 0) ∧ wr.cell? ⟨b, 2, none⟩ = some (.string ⟨#[]⟩) ∧ wr.cell? ⟨b, 3, none⟩ = some (.string ⟨#[]⟩) ∧ wr.cell? ⟨b, 4, none⟩ = some (.int .i64 0) ∧ wr.cell? ⟨b, 5, none⟩ = some (.int .i64 0) ∧
    wr.frozen? ⟨b, 0, none⟩ = false ∧ wr.frozen? ⟨b, 1, none⟩ = false ∧ wr.frozen? ⟨b, 2, none⟩ = false ∧ wr.frozen? ⟨b, 3, none⟩ = false ∧ wr.frozen? ⟨b, 4, none⟩ = false ∧ wr.frozen? ⟨b, 5, none⟩ = false :=
  ⟨h.cell 0 _ rfl, h.cell 1 _ rfl, h.cell 2 _ rfl, h.cell 3 _ rfl, h.cell 4 _ rfl, h.cell 5 _ rfl, h.free 0 (by decide), h.free 1 (by decide), h.free 2 (by decide), h.free 3 (by decide), h.free 4 (by decide), h.free 5 (by decide)⟩
abbrev put6 (wr : World) (b : Nat) (v0 v1 v2 v3 v4 v5 : Value) : World := (((((wr.setCell ⟨b, 0, none⟩ v0).setCell ⟨b, 1, none⟩ v1).setCell ⟨b, 2, none⟩ v2).setCell ⟨b, 3, none⟩ v3).setCell ⟨b, 4, none⟩ v4).setCell ⟨b, 5, none⟩ v5
theorem put6_below {w wr : World} (h : Below w.heap.size w wr) (v0 v1 v2 v3 v4 v5 : Value) : Below w.heap.size w (put6 wr w.heap.size v0 v1 v2 v3 v4 v5) :=
  below_set (below_set (below_set (below_set (below_set (below_set h (Nat.le_refl _) _) (Nat.le_refl _) _) (Nat.le_refl _) _) (Nat.le_refl _) _) (Nat.le_refl _) _) (Nat.le_refl _) _
theorem pc_res {tmps : Array Value} {w wr : World} (h : Blk wr w.heap.size zeroC) (ht : tmps[4]? = some (.pointer (some ⟨w.heap.size, 0, none⟩))) {k : Int} (ht5 : tmps[5]? = some (.int .i64 k)) (a : Int) (A : Option Addr) (n c : Nat) (l p : ByteArray) (x y : Int) :
    (results Tryz.f74 tmps).run Tryz.prog (put6 wr w.heap.size (.int .i64 a) (.slice A n c) (.string l) (.string p) (.int .i64 x) (.int .i64 y)) =
      .ok (.tuple #[.agg #[.int .i64 a, .slice A n c, .string l, .string p, .int .i64 x, .int .i64 y], .int .i64 k]) (put6 wr w.heap.size (.int .i64 a) (.slice A n c) (.string l) (.string p) (.int .i64 x) (.int .i64 y)) := by
  obtain ⟨r0, r1, r2, r3, r4, r5, f0, f1, f2, f3, f4, f5⟩ := pc_six h
  simp (maxDischargeDepth := 9) [results, Tryz.results74, ht, ht5, go_sem, r0, r1, r2, r3, r4, r5]
theorem begB_has : ∀ (l w : List UInt8), begB l w = Lib.hasPrefix l w
  | [], [] => rfl
  | _ :: _, [] => rfl
  | [], _ :: _ => rfl
  | a :: l, b :: w => by
    have := begB_has l w
    unfold Lib.hasPrefix at this ⊢
    simp only [begB, List.isPrefixOf, this]
    rw [show (a == b) = (b == a) from Bool.eq_iff_iff.2 (by simp only [beq_iff_eq]; exact eq_comm)]
theorem presL_take (k : Nat) (h : k < 4) : presL.take (k + 1) = presL.take k ++ [bl (vWord k)] := by
  rcases (by omega : k = 0 ∨ k = 1 ∨ k = 2 ∨ k = 3) with rfl | rfl | rfl | rfl <;> rfl
def foldP (tail : List UInt8) (k : Nat) : List UInt8 × Nat := (presL.take k).foldl (pick tail) ([], 0)
theorem foldP_succ (tail : List UInt8) (k : Nat) (h : k < 4) : foldP tail (k + 1) = pick tail (foldP tail k) (bl (vWord k)) := by
  unfold foldP; rw [presL_take k h, List.foldl_append]; rfl
theorem foldP_all (tail : List UInt8) : foldP tail 4 = presL.foldl (pick tail) ([], 0) := rfl
theorem Blk.grownR {wr w' : World} {c : Nat} {row : Option Nat} {vs : List Value} (h : Blk wr c vs) (hg : wr.grownBy w' row) (hne : some c ≠ row) : Blk w' c vs := by
  have hk : w'.heap[c]? = wr.heap[c]? := hg.block c h.sz hne
  refine ⟨Nat.lt_of_lt_of_le h.sz hg.size, fun j u hu => ?_, fun j hj => ?_⟩
  · exact (World.cell?_of_block (a := ⟨c, j, none⟩) hk).trans (h.cell j u hu)
  · exact (World.frozen?_of_block (a := ⟨c, j, none⟩) hk).trans (h.free j hj)
theorem PcS.grown {w wr w' : World} {cb base : Nat} {row : Option Nat} {vs : List Value} (h : PcS w wr cb vs) (hg : wr.grownBy w' row) (hr : ∀ g, row = some g → base ≤ g) (hb : cb < base) : PcS w w' cb vs := by
  have lo := h.lo
  have h1 : some cb ≠ row := fun e => by have := hr cb e.symm; omega
  have h2 : some w.heap.size ≠ row := fun e => by have := hr _ e.symm; omega
  exact ⟨h.bel.grown hg h.bel.size (fun j hj => by have := hr j hj; omega), h.res.grownR hg h2, h.box.grownR hg h1, lo⟩
theorem reads_int1 (w : World) (x : Value) : Reads (w.alloc (.cells #[x] 3)) (w.heap.size + 1) 1 (some ⟨w.heap.size, 0, none⟩) 1 [x] := by
  refine ⟨rfl, fun _ => ⟨_, rfl, by simp, fun j u hu => ?_⟩⟩
  cases j with
  | zero => simp at hu; subst hu; simp [Addr.add]
  | succ j => simp at hu
structure NuS (w w5 wr : World) (cb gb base : Nat) (nv : Value) (L : List Nat) (vs : Value → List Value) : Prop where
  pc : PcS w wr cb (vs nv)
  own : wr.ownsRow base 3 1 nv L.length (numCells L)
  txt : wr.heap[gb]? = w5.heap[gb]?
  sz : base ≤ wr.heap.size
theorem NuS.app {w w5 wr w6 : World} {cb gb base : Nat} {nv v1 : Value} {L : List Nat} {x : Nat} {a b c d e : Value} (h : NuS w w5 wr cb gb base nv L (fun v => [a, v, b, c, d, e])) (o : Obj)
    (hown : w6.ownsRow base 3 1 v1 (L.length + 1) (numCells L ++ [.int .i64 x])) (hg : (wr.alloc o).grownBy w6 nv.ownBlock) (hcb : cb < base) (hgb : gb < base) (hne : gb ≠ cb) :
    NuS w w5 (w6.setCell ⟨cb, 1, none⟩ v1) cb gb base v1 (L ++ [x]) (fun v => [a, v, b, c, d, e]) := by
  have hr : ∀ g, nv.ownBlock = some g → base ≤ g := fun g hg' => (h.own.lt g hg').1
  have P1 := (h.pc.step ((Below.refl _ _).alloc (Nat.le_refl _) o)).grown hg hr hcb
  have hset : w6.grownBy (w6.setCell ⟨cb, 1, none⟩ v1) (some cb) := only_setCell (World.grownBy.refl w6 (some cb)) (.inl rfl) _
  refine ⟨P1.set 1 (by simp) v1, ?_, ?_, ?_⟩
  · have e2 : numCells (L ++ [x]) = numCells L ++ [.int .i64 x] := by simp [numCells]
    rw [e2, List.length_append, List.length_singleton]
    refine hown.kept hset ?_
    cases hq : v1.ownBlock with
    | none => exact .inl rfl
    | some q => right; intro he; injection he with he; have := (hown.lt q hq).1; omega
  · rw [Below.heap_setCell w6 ⟨cb, 1, none⟩ v1 gb (by exact hne)]
    have hs := h.sz
    rw [hg.block gb (by simp; omega) (fun e => by have := hr gb e.symm; omega), Below.heap_alloc wr o gb (by omega)]
    exact h.txt
  · have := hg.size; have h2 := hset.size; have h3 := h.sz; simp at this; omega
theorem last_at (hd : ByteArray) (m : Nat) (hm : m < hd.size) (hz : hd.size = m + 1) : lastS (bl hd) = if smlB hd[m] = true then [hd[m]] else [] := by
  have : (bl hd).getLast? = some hd[m] := by
    rw [List.getLast?_eq_getElem?, bl_length, hz, Nat.add_sub_cancel, List.getElem?_eq_getElem (by rw [bl_length]; exact hm), bl_get hd m hm]
  unfold lastS; rw [this]
theorem put6_grown (wr : World) (b : Nat) (v0 v1 v2 v3 v4 v5 : Value) : wr.grownBy (put6 wr b v0 v1 v2 v3 v4 v5) (some b) :=
  only_setCell (only_setCell (only_setCell (only_setCell (only_setCell (only_setCell (World.grownBy.refl wr (some b)) (.inl rfl) _) (.inl rfl) _) (.inl rfl) _) (.inl rfl) _) (.inl rfl) _) (.inl rfl) _
theorem cand_is {fmt : Int} {ep pr rv hd tl h' lt pw : ByteArray} {SP : List ByteArray} {epn pn rvn : Nat} (h1 : (if bl ep = [] then 0 else undecK (bl ep)) = epn) (h2 : undecK (bl rv) = rvn)
    (h3 : bl hd = (Lib.cut (bl pr) [sgn fmt]).1) (h4 : bl tl = (Lib.cut (bl pr) [sgn fmt]).2.1) (h5 : foldP (bl tl) 4 = (bl pw, pn)) (h6 : bl h' = headL (bl hd)) (h7 : bl lt = lastS (bl hd)) (h8 : SP.map bl = gsplit 46 (bl h')) (Ao : Option Addr) (co : Nat) :
    candP fmt (bl ep, bl pr, bl rv) = (⟨epn, Ao, co, SP.map fun d => undecK (bl d), lt, pw, pn, rvn⟩ : CoreL).plain := by
  rw [foldP_all] at h5
  unfold candP CoreL.plain
  simp only
  rw [← h3, ← h4, h5, ← h6, ← h7, ← h8, List.map_map, ← h1, ← h2]
  rfl
theorem prs_none {fmt : Int} {s : ByteArray} {x : List UInt8 × List UInt8 × List UInt8} (hv : verE fmt s = 0) (hs : splitF fmt (bl s) = some x) (h : fits fmt (bl s) (candP fmt x) = false) : prsE fmt s = 11 := by
  have : prsC fmt (bl s) = none := by unfold prsC; rw [hs]; simp only; rw [if_neg (by rw [h]; simp)]
  unfold prsE; rw [if_neg (by simpa using hv), if_pos this]
theorem prs_some {fmt : Int} {s : ByteArray} {x : List UInt8 × List UInt8 × List UInt8} (hv : verE fmt s = 0) (hs : splitF fmt (bl s) = some x) (h : fits fmt (bl s) (candP fmt x) = true) : prsE fmt s = 0 ∧ prsC fmt (bl s) = some (candP fmt x) := by
  have : prsC fmt (bl s) = some (candP fmt x) := by unfold prsC; rw [hs]; simp only; rw [if_pos h]
  exact ⟨by unfold prsE; rw [if_neg (by simpa using hv), this, if_neg (by simp)], this⟩
def ParsePost (fmt : Int) (s : ByteArray) (w : World) (e : Ending) (w' : World) : Prop :=
  ∃ cl : CoreL, e = .returned (.tuple #[cl.val, .int .i64 (prsE fmt s)]) ∧ cl.ok w' ∧ cl.few ∧ (prsE fmt s = 0 → prsC fmt (bl s) = some cl.plain) ∧ Below w.heap.size w w'
def CoreL.zero : CoreL := ⟨0, none, 0, [], ⟨#[]⟩, ⟨#[]⟩, 0, 0⟩
theorem CoreL.zero_few : CoreL.zero.few := ⟨by decide, by simp [CoreL.zero], by decide, by decide, by decide, by decide, by decide⟩
theorem vmap_Parse (fmt : Int) (hfm : isF fmt) (s : ByteArray) (w : World) (hG : GlP w) (hs : s.size ≤ 9223372036854775807) :
    Calls Tryz.prog 74 #[.int .i64 fmt, .string s] w (ParsePost fmt s w) := by
  have HG := Lib.hid hG; have HFM := Lib.hid hfm
  clear hG hfm
  obtain ⟨W0, hW0⟩ : ∃ W0, w.alloc (.cells #[.int .i64 0, .slice none 0 0, .string ⟨#[]⟩, .string ⟨#[]⟩, .int .i64 0, .int .i64 0] 130) = W0 := ⟨_, rfl⟩
  have B0 : Hid (Below w.heap.size w W0) := by rw [← hW0]; exact (Below.refl _ _).alloc (Nat.le_refl _) _
  have K0 : Hid (Blk W0 w.heap.size zeroC) := by show Blk _ _ _; rw [← hW0]; exact Blk.new w zeroC _
  go_enter Tryz.func74, Tryz.ntmps74
  go_wp2_with fail
  clear hW0
  refine (Split_e fmt HFM.out s _ (HG.out.below B0.out).gl hs).mono ?_; rintro e w1 ⟨ep, pr, rv, rfl, hS, hb1⟩
  have HS := Lib.hid hS
  have B1 := Lib.hid (bthen B0.out hb1)
  have K1 := Lib.hid (K0.out.below hb1)
  clear hS hb1 B0 K0
  by_cases hv : ¬ verE fmt s = 0
  · have E : Hid (prsE fmt s = verE fmt s) := by show _ = _; unfold prsE; rw [if_pos hv]
    have E0 : Hid (¬ prsE fmt s = 0) := by show ¬ _; rw [E.out]; exact hv
    have q : (verE fmt s != 0) = true := by simpa [bne] using hv
    obtain ⟨r0, r1, r2, r3, r4, r5, f0, f1, f2, f3, f4, f5⟩ := pc_six K1.out
    generalize verE fmt s = ve at *
    clear hv
    go_wp2_with fail
    refine bodyPost_ret (pc_res K1.out rfl rfl 0 none 0 0 _ _ 0 0) rfl ?_
    exact ⟨CoreL.zero, by rw [E.out]; rfl, Rd.nil _ _ _, CoreL.zero_few, fun h => absurd h E0.out, put6_below B1.out _ _ _ _ _ _⟩
  have hv0 : verE fmt s = 0 := Decidable.not_not.1 hv
  obtain ⟨hsp, s64, ep64, pr64, rv64⟩ := HS.out hv0
  have HNO := Lib.hid (prs_none hv0 hsp)
  have HYES := Lib.hid (prs_some hv0 hsp)
  have q : (verE fmt s != 0) = false := by rw [hv0]; rfl
  generalize verE fmt s = ve at *
  clear hv hv0 hsp HS
  obtain ⟨W2, hW2⟩ : ∃ W2, w1.alloc (.cells #[.int .i64 0, .slice none 0 0, .string ⟨#[]⟩, .string ⟨#[]⟩, .int .i64 0, .int .i64 0] 130) = W2 := ⟨_, rfl⟩
  have P0 : Hid (PcS w W2 w1.heap.size zeroC) := by
    show PcS _ _ _ _; rw [← hW2]
    exact ⟨bthen B1.out ((Below.refl _ _).alloc (Nat.le_refl _) _), K1.out.alloc _, Blk.new w1 zeroC _, K1.out.sz⟩
  have HCB := Lib.hid P0.out.lo
  clear B1 K1
  obtain ⟨pb, hpb⟩ : ∃ pb, ep.toList.isEmpty = pb := ⟨_, rfl⟩
  go_upto_if 40 with (fail)
  have HPB := Lib.hid hpb
  clear hpb hW2
  generalize w1.heap.size = cb at *
  have hcb1 : w.heap.size < cb := HCB.out
  have hcb2 : ¬ w.heap.size = cb := by omega
  have hcb3 : ¬ cb = w.heap.size := by omega
  go_cut [40] (fun sl wx => (∃ b : Bool, sl = .bool b) ∧ Hid (PcS w wx cb [.int .i64 (if bl ep = [] then (0 : Nat) else undecK (bl ep) : Nat), .slice none 0 0, .string ⟨#[]⟩, .string ⟨#[]⟩, .int .i64 0, .int .i64 0]))
  case first =>
    cases pb
    · have e0 : ¬ bl ep = [] := by intro h; have := HPB.out; rw [bl_toList, h] at this; cases this
      have E : Hid ((if bl ep = [] then (0 : Nat) else undecK (bl ep)) = undecK (bl ep)) := by show _ = _; rw [if_neg e0]
      clear e0
      have k0 := P0.out.box.cell 0 _ rfl
      have f0 := P0.out.box.free 0 (by decide)
      go_wp2_with fail
      refine (Undec_nat ep _ (by omega)).mono ?_; rintro e w' ⟨rfl, rfl⟩
      have P1 := Lib.hid (P0.out.set 0 (by decide) (.int .i64 (undecK (bl ep))))
      go_wp2_with fail
      go_meet
      exact ⟨⟨_, rfl⟩, by rw [E.out]; exact P1⟩
    · have e0 : bl ep = [] := by have := HPB.out; rw [bl_toList, bl_isEmpty] at this; exact bl_nil ep (of_decide_eq_true this)
      have E : Hid ((if bl ep = [] then (0 : Nat) else undecK (bl ep)) = 0) := by show _ = _; rw [if_pos e0]
      clear e0
      go_wp2_with fail
      go_meet
      exact ⟨⟨_, rfl⟩, by rw [E.out]; exact P0⟩
  case rest =>
  obtain ⟨⟨b40, rfl⟩, P1⟩ := hcut
  clear P0
  obtain ⟨epn, hepn⟩ : ∃ n : Nat, (if bl ep = [] then 0 else undecK (bl ep)) = n := ⟨_, rfl⟩
  have HEP := Lib.hid hepn
  rw [hepn] at P1
  have hep2 : Hid (epn ≤ 4611686018427387903) := by show _ ≤ _; rw [← hepn]; split; omega; exact undecK_le _
  clear hepn
  have k5 := P1.out.box.cell 5 _ rfl
  have f5 := P1.out.box.free 5 (by simp)
  go_wp2_with fail
  refine (Undec_nat rv _ (by omega)).mono ?_; rintro e w' ⟨rfl, rfl⟩
  obtain ⟨rvn, hrvn⟩ : ∃ n : Nat, undecK (bl rv) = n := ⟨_, rfl⟩
  have HRV := Lib.hid hrvn
  have hrv2 : Hid (rvn ≤ 4611686018427387903) := by show _ ≤ _; rw [← hrvn]; exact undecK_le _
  rw [hrvn]
  clear hrvn
  have P2 : Hid (PcS w (wc.setCell ⟨cb, 5, none⟩ (.int .i64 rvn)) cb [.int .i64 epn, .slice none 0 0, .string ⟨#[]⟩, .string ⟨#[]⟩, .int .i64 0, .int .i64 rvn]) := P1.out.set 5 (by simp) (.int .i64 rvn)
  clear P1
  go_upto_region 8 with (fail)
  clear k5 f5
  generalize wc.setCell ⟨cb, 5, none⟩ (.int .i64 rvn) = W3 at *
  go_wp2_with fail
  refine (vmap_signs fmt _).mono ?_; rintro e w' ⟨rfl, rfl⟩
  go_wp2_with fail
  refine (Cut_any pr (sgnS fmt) _ (HG.out.below P2.out.bel).gl (by omega)).mono ?_; rintro e w4 ⟨rfl, hb4⟩
  have P3 := Lib.hid (P2.out.step hb4)
  clear hb4 P2
  have hd64 : (cutA pr (sgnS fmt)).size ≤ 64 := by have := cutA_le pr (sgnS fmt); omega
  have tl64 : (cutB pr (sgnS fmt)).size ≤ 64 := by
    have h1 := (cut_le (bl pr) (bl (sgnS fmt))).2
    have h2 := bl_length (cutB pr (sgnS fmt)); rw [bl_cutB] at h2; have h3 := bl_length pr; omega
  have HCA : Hid (bl (cutA pr (sgnS fmt)) = (Lib.cut (bl pr) [sgn fmt]).1) := bl_cutA _ _
  have HCT : Hid (bl (cutB pr (sgnS fmt)) = (Lib.cut (bl pr) [sgn fmt]).2.1) := bl_cutB _ _
  generalize cutA pr (sgnS fmt) = hd at *
  generalize cutB pr (sgnS fmt) = tl at *
  generalize cutK pr (sgnS fmt) = kk at *
  have g0 := (HG.out.below P3.out.bel).prs 0 (by omega)
  have g1 := (HG.out.below P3.out.bel).prs 1 (by omega)
  have g2 := (HG.out.below P3.out.bel).prs 2 (by omega)
  have g3 := (HG.out.below P3.out.bel).prs 3 (by omega)
  go_wp2_with fail
  clear g0 g1 g2 g3
  go_loopw [66] (fun i wr => ∃ (k pn : Nat) (pw : ByteArray), k ≤ 4 ∧ i = .int .i64 k ∧ Hid (foldP (bl tl) k = (bl pw, pn)) ∧ Hid (pn ≤ 4611686018427387903) ∧ pw.size ≤ 1000 ∧ Hid (PcS w wr cb [.int .i64 epn, .slice none 0 0, .string ⟨#[]⟩, .string pw, .int .i64 pn, .int .i64 rvn])) (fun i _ => 4 - (intOf i).toNat)
  case atStart => exact ⟨0, 0, ⟨#[]⟩, by omega, rfl, rfl, by show _ ≤ _; omega, by decide, P3⟩
  case round =>
    clear P3
    obtain ⟨k, pn, pw, hk, rfl, HF, HPN, hpw, P4⟩ := hrel
    by_cases hlt : k < 4
    · have hix := fun W => idx4 k hlt vWord W
      have vs : (vWord k).size ≤ 5 := by rcases (by omega : k = 0 ∨ k = 1 ∨ k = 2 ∨ k = 3) with rfl | rfl | rfl | rfl <;> decide
      have HN := Lib.hid (foldP_succ (bl tl) k hlt)
      have k3 := P4.out.box.cell 3 _ rfl
      have k4 := P4.out.box.cell 4 _ rfl
      have f3 := P4.out.box.free 3 (by simp)
      have f4 := P4.out.box.free 4 (by simp)
      generalize vWord k = wd at *
      cases hbg : begB (bl tl) (bl wd)
      · have HH : Hid (Lib.hasPrefix (bl tl) (bl wd) = false) := by show _ = _; rw [← begB_has]; exact hbg
        have E : Hid (foldP (bl tl) (k + 1) = (bl pw, pn)) := by show _ = _; rw [HN.out, HF.out]; unfold pick; rw [if_neg (by rw [hbg]; simp)]
        clear hbg
        go_wp2_with fail
        refine (CutPrefix_no tl wd _ HH).mono ?_; rintro e w' ⟨rfl, rfl⟩
        go_wp2_with fail
        go_roundw
        case rel => exact ⟨k + 1, pn, pw, by omega, by go_num, E, HPN, hpw, P4⟩
        case measure => simp [intOf]; omega
      · have HH : Hid (Lib.hasPrefix (bl tl) (bl wd) = true) := by show _ = _; rw [← begB_has]; exact hbg
        have hex : bl (tl.extract wd.size tl.size) = (bl tl).drop (bl wd).length := by rw [bl_drop, bl_length]
        have E : Hid (foldP (bl tl) (k + 1) = (bl wd, undecK (bl (tl.extract wd.size tl.size)))) := by
          show _ = _; rw [HN.out, HF.out, hex]; unfold pick; rw [if_pos hbg]; rfl
        have exs : (tl.extract wd.size tl.size).size ≤ 64 := by have := bl_length (tl.extract wd.size tl.size); rw [hex, List.length_drop] at this; have h2 := bl_length tl; omega
        have P5 : Hid (PcS w (wr.setCell ⟨cb, 3, none⟩ (.string wd)) cb [.int .i64 epn, .slice none 0 0, .string ⟨#[]⟩, .string wd, .int .i64 pn, .int .i64 rvn]) := P4.out.set 3 (by simp) (.string wd)
        clear hbg hex
        go_wp2_with fail
        refine (CutPrefix_yes tl wd _ HH).mono ?_; rintro e w' ⟨rfl, rfl⟩
        go_wp2_with fail
        generalize tl.extract wd.size tl.size = dg at *
        refine (Undec_nat dg _ (by omega)).mono ?_; rintro e w' ⟨rfl, rfl⟩
        have hle : Hid (undecK (bl dg) ≤ 4611686018427387903) := undecK_le _
        generalize undecK (bl dg) = un at *
        have P6 : Hid (PcS w ((wr.setCell ⟨cb, 3, none⟩ (.string wd)).setCell ⟨cb, 4, none⟩ (.int .i64 un)) cb [.int .i64 epn, .slice none 0 0, .string ⟨#[]⟩, .string wd, .int .i64 un, .int .i64 rvn]) := P5.out.set 4 (by simp) (.int .i64 un)
        clear P5
        go_wp2_with fail
        go_roundw
        case rel => exact ⟨k + 1, un, wd, by omega, by go_num, E, hle, by omega, P6⟩
        case measure => simp [intOf]; omega
    · obtain rfl : k = 4 := by omega
      clear hk hlt
      go_upto_region 19 with (fail)
      go_cut [95] (fun sl wx => ∃ bb : Bool, sl = .bool bb ∧ Hid (bb = !(lastS (bl hd)).isEmpty) ∧ wr = wx)
      case first =>
        by_cases h0 : 0 < hd.size
        rotate_left
        · have d0 : decide ((0 : Int) < (hd.size : Int)) = false := decide_eq_false (by omega)
          have d1 : decide (0 < hd.size) = false := decide_eq_false h0
          have E : Hid (false = !(lastS (bl hd)).isEmpty) := by show _ = _; rw [bl_nil hd (by omega)]; rfl
          go_wp2_with fail
          go_meet
          exact ⟨false, rfl, E, rfl⟩
        · have d0 : decide ((0 : Int) < (hd.size : Int)) = true := decide_eq_true (by omega)
          have d1 : decide (0 < hd.size) = true := decide_eq_true h0
          obtain ⟨m, hm⟩ : ∃ m, hd.size - 1 = m := ⟨_, rfl⟩
          have hml : m < hd.size := by omega
          have hmi : (m : Int) < (hd.size : Int) := by omega
          have iw : IntKind.i64.wrap ((hd.size : Int) - 1) = (m : Int) := by rw [IntWalk.i64_in _ (by omega)]; omega
          have E : Hid (smlB hd[m] = !(lastS (bl hd)).isEmpty) := by
            show _ = _; rw [last_at hd m hml (by omega)]; cases smlB hd[m] <;> rfl
          clear hm
          go_wp2_with fail
          refine (vmap_small hd[m] _).mono ?_; rintro e w' ⟨rfl, rfl⟩
          go_wp2_with fail
          go_meet
          exact ⟨_, rfl, E, rfl⟩
      case rest =>
      obtain ⟨bb, rfl, HBB, rfl⟩ := hcut
      go_upto_if 95 with (fail)
      go_cut [13] (fun sl wx => ∃ h' lt : ByteArray, sl = .string h' ∧ Hid (bl h' = headL (bl hd)) ∧ h'.size ≤ 64 ∧ Hid (bl lt = lastS (bl hd)) ∧ lt.size ≤ 64 ∧ Hid (PcS w wx cb [.int .i64 epn, .slice none 0 0, .string lt, .string pw, .int .i64 pn, .int .i64 rvn]))
      case first =>
        cases bb
        · have L0 : Hid (lastS (bl hd) = []) := by have := HBB.out; show _ = _; revert this; cases lastS (bl hd) <;> simp
          go_wp2_with fail
          go_meet
          exact ⟨hd, ⟨#[]⟩, rfl, by show _ = _; unfold headL; rw [if_pos L0.out], hd64, by show _ = _; rw [L0.out]; rfl, by decide, P4⟩
        · obtain ⟨m, hm⟩ : ∃ m, hd.size - 1 = m := ⟨_, rfl⟩
          have h0 : 0 < hd.size := by
            apply Classical.byContradiction; intro h
            have := HBB.out; rw [bl_nil hd (by omega)] at this; revert this; decide
          have hml : m < hd.size := by omega
          have hmi : (m : Int) ≤ (hd.size : Int) := by omega
          have iw : IntKind.i64.wrap ((hd.size : Int) - 1) = (m : Int) := by rw [IntWalk.i64_in _ (by omega)]; omega
          have hz : Hid (hd.size = m + 1) := by show _ = _; omega
          have L1 : Hid (lastS (bl hd) = [hd[m]]) := by
            have := HBB.out; have h2 := last_at hd m hml hz.out
            show _ = _; rw [h2] at this ⊢; revert this; cases smlB hd[m] <;> simp
          have E1 : Hid (bl (hd.extract 0 m) = headL (bl hd)) := by
            show _ = _; unfold headL; rw [if_neg (by rw [L1.out]; simp), bl_take, List.dropLast_eq_take, bl_length, hz.out]; rfl
          have E2 : Hid (bl (hd.extract m hd.size) = lastS (bl hd)) := by
            show _ = _; rw [L1.out, bl_drop, List.drop_eq_getElem_cons (by rw [bl_length]; exact hml), bl_get hd m hml, List.drop_of_length_le (by rw [bl_length, hz.out]; omega)]
          have z1 : (hd.extract 0 m).size ≤ 64 := by have := bl_length (hd.extract 0 m); rw [bl_take, List.length_take, bl_length] at this; omega
          have z2 : (hd.extract m hd.size).size ≤ 64 := by have := bl_length (hd.extract m hd.size); rw [bl_drop, List.length_drop, bl_length] at this; omega
          have k2 := P4.out.box.cell 2 _ rfl
          have f2 := P4.out.box.free 2 (by simp)
          have P5 : Hid (PcS w (wr.setCell ⟨cb, 2, none⟩ (.string (hd.extract m hd.size))) cb [.int .i64 epn, .slice none 0 0, .string (hd.extract m hd.size), .string pw, .int .i64 pn, .int .i64 rvn]) := P4.out.set 2 (by simp) (.string (hd.extract m hd.size))
          clear hm
          go_wp2_with fail
          go_region
          go_wp2_with fail
          go_meet
          exact ⟨_, _, rfl, E1, z1, E2, z2, P5.out.step (below_drewN (Below.refl _ _) 1)⟩
      case rest =>
      obtain ⟨h', lt, rfl, HH, hh64, HLT, hlt64, P5⟩ := hcut
      clear P4
      obtain ⟨i0, hi, hz0, hz1, hz2⟩ := info_parts info_i64
      go_wp2_with fail
      refine (Split_at 46 h' _ (HG.out.below P5.out.bel).gl (by omega)).mono ?_; rintro e w5 ⟨rfl, hrd, hb5⟩
      have P6 := Lib.hid (P5.out.step hb5)
      have hgs := P5.out.box.sz
      have hsp1 : (gsplitS 46 h').length ≤ 65 := by unfold gsplitS; rw [List.length_map]; have := gsplit_len 46 (bl h'); rw [bl_length] at this; omega
      have HSM : Hid (∀ x ∈ gsplitS 46 h', x.size ≤ 64) := by
        intro x hx; obtain ⟨p, hp, rfl⟩ := List.mem_map.1 hx
        have h1 := gsplit_mem 46 (bl h') p hp; have h2 := bl_length h'; have h3 := bl_length (⟨p.toArray⟩ : ByteArray); rw [bl_mk] at h3; omega
      have HSB : Hid ((gsplitS 46 h').map bl = gsplit 46 (bl h')) := by
        show _ = _; unfold gsplitS; rw [List.map_map]
        conv => rhs; rw [← List.map_id (gsplit 46 (bl h'))]
        exact List.map_congr_left fun p _ => bl_mk p
      generalize wc.heap.size = gb at *
      have hne0 : 0 < (gsplitS 46 h').length := by unfold gsplitS; rw [List.length_map]; exact List.length_pos_iff.2 (gsplit_ne 46 _)
      have RD := Lib.hid hrd
      have hgb5 : gb < w5.heap.size := by
        obtain ⟨x, hx⟩ : ∃ x, (gsplitS 46 h')[0]? = some x := ⟨_, List.getElem?_eq_getElem hne0⟩
        obtain ⟨b, off, hA, he⟩ := hrd.str 0 x hx
        have := World.block_lt_of_cell? _ _ he
        injection hA with hA; injection hA with h1 _ _; subst h1; exact this
      have hcb5 : cb < w5.heap.size := P6.out.box.sz
      have hgne : gb ≠ cb := by omega
      clear hrd hb5 P5
      obtain ⟨SP, hSP⟩ : ∃ SP, gsplitS 46 h' = SP := ⟨_, rfl⟩
      rw [hSP] at RD HSM HSB hsp1 hne0
      rw [hSP]
      clear hSP
      obtain ⟨base, hbase⟩ : ∃ base, w5.heap.size = base := ⟨_, rfl⟩
      have N0 : Hid (NuS w w5 w5 cb gb base (.slice none 0 0) [] (fun v => [.int .i64 epn, v, .string lt, .string pw, .int .i64 pn, .int .i64 rvn])) :=
        ⟨P6.out, World.ownsRow_nil _ _ _ _, rfl, by omega⟩
      rw [hbase] at hgb5 hcb5
      clear hbase P6
      go_wp2_with fail
      go_loopw [108] (fun i wr => ∃ (k : Nat) (Ao : Option Addr) (co : Nat), k ≤ SP.length ∧ i = .int .i64 k ∧ Hid (NuS w w5 wr cb gb base (.slice Ao k co) ((SP.take k).map fun d => undecK (bl d)) (fun v => [.int .i64 epn, v, .string lt, .string pw, .int .i64 pn, .int .i64 rvn]))) (fun i _ => SP.length - (intOf i).toNat)
      case atStart => exact ⟨0, none, 0, Nat.zero_le _, rfl, N0⟩
      case round =>
        clear N0
        obtain ⟨k, Ao, co, hk, rfl, NS⟩ := hrel
        by_cases hlt : k < SP.length
        · obtain ⟨x, hx⟩ : ∃ x, SP[k]? = some x := ⟨_, List.getElem?_eq_getElem hlt⟩
          obtain ⟨b, off, hA, he⟩ := RD.out.str k x hx
          obtain ⟨rfl, rfl⟩ : gb = b ∧ 0 = off := by injection hA with hA; injection hA with h1 h2 _; exact ⟨h1, h2⟩
          have e0 : wr.cell? ⟨gb, 0 + k, none⟩ = some (.string x) := (World.cell?_of_block (a := ⟨gb, 0 + k, none⟩) NS.out.txt).trans he
          have hix := fun W => idx_of (T := 39) (E := 9) (sz := 1) (c := SP.length) Tryz.underlying39 rfl Tryz.sizeOf9 hA hlt W
          simp only [Nat.mul_one, Nat.zero_add] at hix e0
          have hxs := HSM.out x (List.mem_of_getElem? hx)
          have TK : Hid ((SP.take (k + 1)).map (fun d => undecK (bl d)) = (SP.take k).map (fun d => undecK (bl d)) ++ [undecK (bl x)]) := by
            show _ = _; obtain ⟨hk', hx'⟩ := List.getElem?_eq_some_iff.1 hx; rw [List.take_succ_eq_append_getElem hk', hx']; simp
          have LK : Hid (((SP.take k).map fun d => undecK (bl d)).length = k) := by show _ = _; rw [List.length_map, List.length_take]; omega
          clear hx hA he
          go_wp2_with fail
          refine (Undec_nat x _ (by omega)).mono ?_; rintro e w' ⟨rfl, rfl⟩
          clear e0 hix
          obtain ⟨un, hun⟩ : ∃ un, undecK (bl x) = un := ⟨_, rfl⟩
          rw [hun] at TK
          rw [hun]
          clear hun
          obtain ⟨LL, hLL⟩ : ∃ LL, (SP.take k).map (fun d => undecK (bl d)) = LL := ⟨_, rfl⟩
          rw [hLL] at NS TK LK
          clear hLL
          have k1 := NS.out.pc.box.cell 1 _ rfl
          have f1 := NS.out.pc.box.free 1 (by simp)
          have HO : Hid (wr.ownsRow base 3 1 (.slice Ao k co) k (numCells LL)) := by have := NS.out.own; rw [LK.out] at this; exact this
          have hbs := NS.out.sz
          have hcz := NS.out.pc.box.sz
          have FB : Hid (some cb ≠ (Value.slice Ao k co).ownBlock) := by intro e; have := (HO.out.lt cb e.symm).1; omega
          go_wp2_with (
            at_builtin
            refine wpList_append_any _ rfl _ _ _ rfl base 3 i0 _ 1 8 Tryz.underlying52 hi hz0 hz1 hz2 rfl (by omega) (.slice Ao k co) k _ rfl (HO.out.alloc _) (wr.heap.size + 1) (some ⟨wr.heap.size, 0, none⟩) 1 1 [.int .i64 un] rfl (reads_int1 wr _) (by simp [Value.oneCell']) (by simp only [maxLen]; omega) (by omega) (by simp; omega) ?_
            intro v1 w6 hown1 hg1 hat1
            obtain ⟨A1, c1, rfl⟩ := owns_form hown1
            have k1' : w6.cell? ⟨cb, 1, none⟩ = some (.slice Ao k co) := hg1.cell ((World.cell?_alloc_lt wr _ ⟨cb, 1, none⟩ hcz).trans k1) FB.out
            have f1' : w6.frozen? ⟨cb, 1, none⟩ = false := (World.frozen?_of_block (a := ⟨cb, 1, none⟩) (hg1.block cb (by simp; omega) FB.out)).trans ((((Below.refl _ _).alloc (Nat.le_refl _) _).frozen (p := ⟨cb, 1, none⟩) hcz).trans f1))
          have N1 := Lib.hid (NS.out.app _ (x := un) (by rw [LK.out]; exact hown1) hg1 hcb5 hgb5 hgne)
          clear hown1 hg1 hat1 k1 f1 k1' f1'
          go_wp2_with fail
          go_roundw
          case rel => exact ⟨k + 1, A1, c1, by omega, by go_num, by rw [TK.out]; exact N1⟩
          case measure => simp [intOf]; omega
        · obtain rfl : k = SP.length := by omega
          obtain ⟨NL, hNL⟩ : ∃ NL, SP.map (fun d => undecK (bl d)) = NL := ⟨_, rfl⟩
          have HC := Lib.hid (cand_is (fmt := fmt) (ep := ep) (pr := pr) (rv := rv) HEP.out HRV.out HCA.out HCT.out HF.out HH.out HLT.out HSB.out Ao co)
          rw [List.take_length, hNL] at NS
          rw [hNL] at HC
          have hl : SP.length = NL.length := by rw [← hNL, List.length_map]
          have HNE : Hid (∀ n ∈ NL, n ≤ 4611686018427387903) := by
            intro n hn; rw [← hNL] at hn; obtain ⟨d, _, rfl⟩ := List.mem_map.1 hn; exact undecK_le _
          have hnl : NL.length ≤ 65 := by omega
          rw [hl] at NS
          have k0 := NS.out.pc.box.cell 0 _ rfl
          have k1 := NS.out.pc.box.cell 1 _ rfl
          have k2 := NS.out.pc.box.cell 2 _ rfl
          have k3 := NS.out.pc.box.cell 3 _ rfl
          have k4 := NS.out.pc.box.cell 4 _ rfl
          have k5 := NS.out.pc.box.cell 5 _ rfl
          have FEW : Hid ((⟨epn, Ao, co, NL, lt, pw, pn, rvn⟩ : CoreL).few) := ⟨hep2.out, HNE.out, by show NL.length ≤ 1000; omega, by show lt.size ≤ 1000; omega, hpw, HPN.out, hrv2.out⟩
          clear hNL hl
          go_wp2_with fail
          refine (vmap_Print fmt HFM.out ⟨epn, Ao, co, NL, lt, pw, pn, rvn⟩ _ (HG.out.below NS.out.pc.bel) (owns_rd NS.out.own) FEW.out).mono ?_; rintro e w7 ⟨rfl, hb7⟩
          have P7 := Lib.hid (NS.out.pc.step hb7)
          have O7 := Lib.hid (owns_below NS.out.own hb7)
          clear k0 k1 k2 k3 k4 k5 hb7
          obtain ⟨r0, r1, r2, r3, r4, r5, f0, f1, f2, f3, f4, f5⟩ := pc_six P7.out.res
          cases hpb2 : printB fmt (⟨epn, Ao, co, NL, lt, pw, pn, rvn⟩ : CoreL).plain
          · have E : Hid (prsE fmt s = 11) := HNO.out (by rw [HC.out]; unfold fits; rw [hpb2]; rfl)
            rw [prt_no hpb2]
            clear hpb2
            go_wp2_with fail
            refine bodyPost_ret (pc_res P7.out.res rfl rfl 0 none 0 0 _ _ 0 0) rfl ?_
            exact ⟨CoreL.zero, by rw [E.out]; rfl, Rd.nil _ _ _, CoreL.zero_few, (fun h => by rw [E.out] at h; cases h), put6_below P7.out.bel _ _ _ _ _ _⟩
          · rw [prt_yes hpb2]
            have HPB2 := Lib.hid hpb2
            clear hpb2
            obtain ⟨T, hT⟩ : ∃ T : ByteArray, (⟨(coreT fmt (⟨epn, Ao, co, NL, lt, pw, pn, rvn⟩ : CoreL).plain).toArray⟩ : ByteArray) = T := ⟨_, rfl⟩
            have hTB : Hid (coreT fmt (⟨epn, Ao, co, NL, lt, pw, pn, rvn⟩ : CoreL).plain = bl T) := by show _ = _; rw [← hT, bl_mk]
            rw [hT]
            clear hT
            obtain ⟨tb, htb⟩ : ∃ tb, (T.toList == s.toList) = tb := ⟨_, rfl⟩
            have HTB := Lib.hid htb
            cases tb
            · have E : Hid (prsE fmt s = 11) := HNO.out (by
                rw [HC.out]; unfold fits; rw [HPB2.out, hTB.out]
                have : ¬ bl T = bl s := by intro h; have h2 := HTB.out; rw [beq_bl] at h2; exact of_decide_eq_false h2 (bl_inj h)
                rw [decide_eq_false this]; rfl)
              go_wp2_with fail
              refine bodyPost_ret (pc_res P7.out.res rfl rfl 0 none 0 0 _ _ 0 0) rfl ?_
              exact ⟨CoreL.zero, by rw [E.out]; rfl, Rd.nil _ _ _, CoreL.zero_few, (fun h => by rw [E.out] at h; cases h), put6_below P7.out.bel _ _ _ _ _ _⟩
            · have E := Lib.hid (HYES.out (by
                rw [HC.out]; unfold fits; rw [HPB2.out, hTB.out]
                have : bl T = bl s := by have h2 := HTB.out; rw [beq_bl] at h2; rw [of_decide_eq_true h2]
                rw [decide_eq_true this]; rfl))
              have k0 := P7.out.box.cell 0 _ rfl
              have k1 := P7.out.box.cell 1 _ rfl
              have k2 := P7.out.box.cell 2 _ rfl
              have k3 := P7.out.box.cell 3 _ rfl
              have k4 := P7.out.box.cell 4 _ rfl
              have k5 := P7.out.box.cell 5 _ rfl
              go_wp2_with fail
              refine bodyPost_ret (pc_res P7.out.res rfl rfl epn Ao NL.length co lt pw pn rvn) rfl ?_
              refine ⟨⟨epn, Ao, co, NL, lt, pw, pn, rvn⟩, by rw [E.out.1]; rfl, ?_, FEW.out, (fun _ => by rw [E.out.2, HC.out]), put6_below P7.out.bel _ _ _ _ _ _⟩
              refine owns_rd (O7.out.kept (put6_grown w7 w.heap.size _ _ _ _ _ _) ?_)
              cases hq : (Value.slice Ao NL.length co).ownBlock with
              | none => exact .inl rfl
              | some g => right; intro he; injection he with he; have := (O7.out.lt g hq).1; omega
end
end Go.Proofs.YtlhchpeecfbgnaaGreatDoor
