/- A part of the proof that the digests of any content are the three of it, and that an installed set is new memory. No condition. -/
import Derived.Test.YtlhchpeecfbgnaaGreatDoorG23
import Derived.Test.YtlhchpeecfbgnaaGreatDoorG31
set_option maxRecDepth 100000
set_option maxHeartbeats 20000000
set_option linter.unusedVariables false
set_option linter.unusedSimpArgs false
namespace Go.Proofs.YtlhchpeecfbgnaaGreatDoor
section
open Go.RowKit
theorem nv_ofNat {x : Nat} (h : x < 4294967296) : nv (BitVec.ofNat 32 x) = (x : Int) := by
  unfold nv
  rw [BitVec.toNat_ofNat, Nat.mod_eq_of_lt h]
theorem four_lt (l : List UInt8) (h : l.length = 4) : beV l < 4294967296 := by have := beV_lt l; rw [h] at this; exact this
theorem four_ltl (l : List UInt8) (h : l.length = 4) : leV l < 4294967296 := by have := leV_lt l; rw [h] at this; exact this
def hashC (kd : Nat) (st : List B32) (tl : List UInt8) (n : Nat) : List Value := .int .i64 kd :: (st.map vw ++ (tl.map vb ++ [.int .u64 n]))
theorem hashC_len {kd : Nat} {st : List B32} {tl : List UInt8} {n : Nat} (hs : st.length = 8) (ht : tl.length = 64) : (hashC kd st tl n).length = 74 := by simp [hashC, hs, ht]
theorem hashC_st {kd : Nat} {st : List B32} {tl : List UInt8} {n i : Nat} (hi : i < st.length) : (hashC kd st tl n)[1 + i]? = some (vw (st.getD i 0)) := by
  unfold hashC
  rw [Nat.add_comm, List.getElem?_cons_succ, List.getElem?_append_left (by simpa using hi), List.getElem?_map, List.getElem?_eq_getElem hi, List.getD_eq_getElem?_getD, List.getElem?_eq_getElem hi]
  rfl
theorem hashC_tail {kd : Nat} {st : List B32} {tl : List UInt8} {n i : Nat} (hs : st.length = 8) (hi : i < tl.length) : (hashC kd st tl n)[9 + i]? = (tl.map vb)[i]? := by
  unfold hashC
  rw [show 9 + i = (8 + i) + 1 by omega, List.getElem?_cons_succ, List.getElem?_append_right (by simp [hs]), List.length_map, hs, show 8 + i - 8 = i by omega, List.getElem?_append_left (by simpa using hi)]
theorem hashC_size {kd : Nat} {st : List B32} {tl : List UInt8} {n : Nat} (hs : st.length = 8) (ht : tl.length = 64) : (hashC kd st tl n)[73]? = some (.int .u64 n) := by
  unfold hashC
  rw [List.getElem?_cons_succ, List.getElem?_append_right (by simp [hs]), List.length_map, hs, List.getElem?_append_right (by simp [ht]), List.length_map, ht]
  rfl
theorem hashC_setst {kd : Nat} {p r : List B32} {x y : B32} {tl : List UInt8} {n : Nat} : (hashC kd (p ++ x :: r) tl n).set (1 + p.length) (vw y) = hashC kd (p ++ y :: r) tl n := by
  unfold hashC
  rw [Nat.add_comm, List.set_cons_succ, List.set_append_left _ _ (by simp), List.map_append, List.set_append_right _ _ (by simp)]
  simp
theorem hash_tail {w : World} {hb kd n : Nat} {st : List B32} {tl : List UInt8} (h : Blk w hb (hashC kd st tl n)) (hs : st.length = 8) (ht : tl.length = 64) : Rd w 1 (some ⟨hb, 9, none⟩) 64 (tl.map vb) := by
  refine ⟨by simp [ht], fun _ => ⟨hb, 9, rfl, fun j u hu => h.cell _ _ ?_⟩⟩
  have hj : j < tl.length := by have := (List.getElem?_eq_some_iff.1 hu).1; simpa using this
  rw [hashC_tail hs hj, hu]
theorem sixteen {l : List B32} (h : l.length = 16) : ∃ y0 y1 y2 y3 y4 y5 y6 y7 y8 y9 y10 y11 y12 y13 y14 y15, l = [y0, y1, y2, y3, y4, y5, y6, y7, y8, y9, y10, y11, y12, y13, y14, y15] := by
  match l, h with
  | [y0, y1, y2, y3, y4, y5, y6, y7, y8, y9, y10, y11, y12, y13, y14, y15], _ => exact ⟨y0, y1, y2, y3, y4, y5, y6, y7, y8, y9, y10, y11, y12, y13, y14, y15, rfl⟩
theorem eight8 {l : List B32} (h : l.length = 8) : ∃ a b c d e f g i, l = [a, b, c, d, e, f, g, i] := by
  match l, h with
  | [a, b, c, d, e, f, g, i], _ => exact ⟨a, b, c, d, e, f, g, i, rfl⟩
theorem words_take (low : Bool) (tl : List UInt8) {i : Nat} (hi : i < 16) : (List.range (i + 1)).map (wordAt low tl) = (List.range i).map (wordAt low tl) ++ [wordAt low tl i] := by
  rw [List.range_succ, List.map_append]
  rfl
theorem run_index8 {vs : List Value} (hl : vs.length = 8) {i : Nat} (hi : i < 8) {v : Value} (hv : vs[i]? = some v) (ho : v.oneCell' = true) (W : World) : (Instr.index 111 (.agg vs.toArray) (.int .i64 (i : Int))).run Tryz.prog W = .ok v W := by
  match vs, hl with
  | [a, b, c, d, e, f, g, h], _ =>
    rcases (show i = 0 ∨ i = 1 ∨ i = 2 ∨ i = 3 ∨ i = 4 ∨ i = 5 ∨ i = 6 ∨ i = 7 by omega) with rfl | rfl | rfl | rfl | rfl | rfl | rfl | rfl <;> (simp at hv; subst hv; simp [Instr.index, part, asIntOf, run_underlying Tryz.underlying111, Tryz.isAgg76, Tryz.sizeOf76, go_sem])
theorem blk_grown {w w' : World} {b g : Nat} {vs : List Value} (h : Blk w b vs) (hg : w.grownBy w' (some g)) (hne : ¬ b = g) : Blk w' b vs :=
  have hb := hg.block b h.sz (fun e => hne (Option.some.inj e))
  ⟨Nat.lt_of_lt_of_le h.sz hg.size, fun j u hu => (World.cell?_of_block (a := ⟨b, j, none⟩) hb).trans (h.cell j u hu), fun j hj => (World.frozen?_of_block (a := ⟨b, j, none⟩) hb).trans (h.free j hj)⟩
def GetSpec (low : Bool) (F : FuncId) : Prop := (∀ (args : Array Value) (w : World), (callFunc F args).run Tryz.prog w = .ok (.enter F args) w) ∧
  ∀ (b o m : Nat) (l : List UInt8) (w : World), Rd w 1 (some ⟨b, o, none⟩) 64 (l.map vb) → m + 4 ≤ 64 →
    Calls Tryz.prog F #[.slice (some ⟨b, o, none⟩) 64 64, .int .i64 m, .int .i64 4] w fun e w' => e = .returned (.tuple #[.int .u64 ((if low then leV ((l.drop m).take 4) else beV ((l.drop m).take 4) : Nat)), .bool true]) ∧ w' = w
theorem getSpec_be : GetSpec false 86 := ⟨fun args w => by kernel_rfl, fun b o m l w hr hm => codec_GetBe (some ⟨b, o, none⟩) 64 64 m 4 l w hr (by decide) (by decide) hm (by decide) (by decide)⟩
theorem getSpec_le : GetSpec true 87 := ⟨fun args w => by kernel_rfl, fun b o m l w hr hm => codec_GetLe (some ⟨b, o, none⟩) 64 64 m 4 l w hr (by decide) (by decide) hm (by decide) (by decide)⟩
theorem eq_nat (a b : Nat) : ((a : Int) == (b : Int)) = (a == b) := by
  by_cases h : a = b
  · subst h; simp
  · have : ¬ (a : Int) = (b : Int) := by omega
    rw [beq_eq_false_iff_ne.2 h, beq_eq_false_iff_ne.2 this]
theorem hash_block (hb kd n : Nat) (hk : 1 ≤ kd ∧ kd ≤ 3) (st : List B32) (tl : List UInt8) (w : World) (hG : GlT w) (hs : st.length = 8) (ht : tl.length = 64) (hB : Blk w hb (hashC kd st tl n)) :
    Calls Tryz.prog 55 #[.pointer (some ⟨hb, 0, none⟩)] w fun e w' => e = .returned (.tuple #[]) ∧ Blk w' hb (hashC kd (compress kd st tl) tl n) ∧ w.grownBy w' (some hb) := by
  have b0 := hB.cell 0 _ rfl
  have k1 : ((kd : Int) == 1) = (kd == 1) := eq_nat kd 1
  have HB := Lib.hid hB
  have HG := Lib.hid hG
  have HS := Lib.hid hs
  have HT := Lib.hid ht
  obtain ⟨low, hlow⟩ : ∃ low, (kd == 1) = low := ⟨_, rfl⟩
  rw [hlow] at k1
  have HLOW := Lib.hid hlow
  clear hB hG hs ht hlow
  go_enter Tryz.func55, Tryz.ntmps55
  go_upto_if 14 with (fail)
  go_cut [2] (fun s wx => wx = w ∧ ∃ F : FuncId, s = .func (Fn.func F) #[] #[] ∧ Hid (GetSpec low F))
  case first =>
    cases low
    · go_wp2_with fail
      go_meet
      exact ⟨rfl, _, rfl, getSpec_be⟩
    · go_wp2_with fail
      go_meet
      exact ⟨rfl, _, rfl, getSpec_le⟩
  case rest =>
    obtain ⟨rfl, F, rfl, HF⟩ := hcut
    have hcall := HF.out.1
    obtain ⟨W1, hW1⟩ : ∃ W1, wc.alloc (.cells #[.int .u32 0, .int .u32 0, .int .u32 0, .int .u32 0, .int .u32 0, .int .u32 0, .int .u32 0, .int .u32 0, .int .u32 0, .int .u32 0, .int .u32 0, .int .u32 0, .int .u32 0, .int .u32 0, .int .u32 0, .int .u32 0] 147) = W1 := ⟨_, rfl⟩
    have X1 : Hid (Blk W1 wc.heap.size (padC 16 [])) := by show Blk _ _ _; rw [← hW1]; exact Blk.new wc (padC 16 []) _
    have L1 : Hid (Below wc.heap.size wc W1) := by show Below _ _ _; rw [← hW1]; exact (Below.refl _ _).alloc (Nat.le_refl _) _
    have HBL : Hid (hb < wc.heap.size) := HB.out.sz
    have HB1 := Lib.hid (HB.out.below L1.out)
    obtain ⟨wf, hwf⟩ : ∃ wf, wordAt low tl = wf := ⟨_, rfl⟩
    have HWF := Lib.hid hwf
    clear hwf
    go_wp2_with fail
    clear hW1
    go_loopw [15] (fun s15 wr => ∃ i : Nat, i ≤ 16 ∧ s15 = .int .i64 i ∧ Hid (Blk wr wc.heap.size (padC 16 ((List.range i).map wf))) ∧ Hid (Blk wr hb (hashC kd st tl n)) ∧ Hid (Below wc.heap.size wc wr)) (fun s15 _ => 16 - (intOf s15).toNat)
    case atStart => exact ⟨0, by omega, rfl, X1, HB1, L1⟩
    case round =>
      obtain ⟨i, hi, rfl, HX, HH, HBel⟩ := hrel
      by_cases hlt : i < 16
      · obtain ⟨m, hm⟩ : ∃ m, 4 * i = m := ⟨_, rfl⟩
        have hmi : (4 : Int) * (i : Int) = (m : Int) := by omega
        have hii : (i : Int) < 16 := by omega
        have hm4 : m + 4 ≤ 64 := by omega
        have RT := Lib.hid (hash_tail HH.out HS.out HT.out)
        obtain ⟨x, hx⟩ : ∃ x : Nat, (if low then leV ((tl.drop m).take 4) else beV ((tl.drop m).take 4)) = x := ⟨_, rfl⟩
        have h4 : ((tl.drop m).take 4).length = 4 := by rw [List.length_take, List.length_drop, HT.out]; omega
        have hxl : x < 4294967296 := by rw [← hx]; split; exact four_ltl _ h4; exact four_lt _ h4
        obtain ⟨y, hy⟩ : ∃ y, wf i = y := ⟨_, rfl⟩
        have hv : (x : Int) = nv y := by rw [← hy, ← HWF.out, wordAt, hm, hx, nv_ofNat hxl]
        have hvw : vw y = .int .u32 (x : Int) := by unfold vw; rw [← hv]
        have ck := HX.out.cell i _ (by have := padC_end (n := 16) (l := (List.range i).map wf) (by simpa using hlt); rwa [List.length_map, List.length_range] at this)
        have fk := HX.out.free i (by rw [padC_len (by simpa using hi)]; exact hlt)
        have HX2 : Hid (Blk (wr.setCell ⟨wc.heap.size, i, none⟩ (vw y)) wc.heap.size (padC 16 ((List.range (i + 1)).map wf))) := by
          have := HX.out.set i (by rw [padC_len (by simpa using hi)]; exact hlt) (vw y)
          have e := padC_set (n := 16) (l := (List.range i).map wf) (by simpa using hlt) y
          rw [List.length_map, List.length_range] at e
          rw [e] at this
          show Blk _ _ _
          rw [List.range_succ, List.map_append, List.map_singleton, hy]
          exact this
        have HH2 : Hid (Blk (wr.setCell ⟨wc.heap.size, i, none⟩ (vw y)) hb (hashC kd st tl n)) := HH.out.far (by have := HBL.out; omega) _
        have HB5 : Hid (Below wc.heap.size wc (wr.setCell ⟨wc.heap.size, i, none⟩ (vw y))) := below_set HBel.out (Nat.le_refl _) _
        have HV := Lib.hid hv
        have HX0 := Lib.hid hx
        rw [hvw] at HX2 HH2 HB5
        unfold vw at ck
        clear hm hx hy hv h4 hvw
        go_wp2_with fail
        refine (HF.out.2 hb 9 m tl _ RT.out hm4).mono ?_; rintro e w' ⟨rfl, rfl⟩
        rw [HX0.out]
        go_wp2_with fail
        go_roundw
        case rel => exact ⟨i + 1, by omega, by go_num, HX2, HH2, HB5⟩
        case measure => simp [intOf]; omega
      · have HK : Hid (i = 16) := by show _ = _; omega
        obtain ⟨W3, hW3⟩ : ∃ W3, wr = W3 := ⟨_, rfl⟩
        obtain ⟨ws, hws⟩ : ∃ ws, wordsOf low tl = ws := ⟨_, rfl⟩
        have HX16 : Hid (Blk W3 wc.heap.size (ws.map vw)) := by
          have := HX.out
          rw [HK.out, hW3] at this
          show Blk _ _ _
          rw [← hws, wordsOf, HWF.out]
          simpa [padC] using this
        obtain ⟨y0, y1, y2, y3, y4, y5, y6, y7, y8, y9, y10, y11, y12, y13, y14, y15, hyl⟩ := sixteen (l := ws) (by rw [← hws]; simp [wordsOf])
        obtain ⟨a, b, c, d, e0, f0, g0, h0, hst⟩ := eight8 HS.out
        obtain ⟨rest, hrest⟩ : ∃ rest, tl.map vb ++ [.int .u64 n] = rest := ⟨_, rfl⟩
        have HC : Hid (hashC kd st tl n = .int .i64 kd :: vw a :: vw b :: vw c :: vw d :: vw e0 :: vw f0 :: vw g0 :: vw h0 :: rest) := by show _ = _; rw [hst, ← hrest]; rfl
        have HH2 : Hid (Blk W3 hb (.int .i64 kd :: vw a :: vw b :: vw c :: vw d :: vw e0 :: vw f0 :: vw g0 :: vw h0 :: rest)) := by rw [← HC.out, ← hW3]; exact HH.out
        rw [hyl] at HX16
        have r1 := HH2.out.cell 1 _ rfl
        have r2 := HH2.out.cell 2 _ rfl
        have r3 := HH2.out.cell 3 _ rfl
        have r4 := HH2.out.cell 4 _ rfl
        have r5 := HH2.out.cell 5 _ rfl
        have r6 := HH2.out.cell 6 _ rfl
        have r7 := HH2.out.cell 7 _ rfl
        have r8 := HH2.out.cell 8 _ rfl
        rw [hW3] at HBel ⊢
        have HST := Lib.hid hst
        have HWS := Lib.hid hws
        have HWY := Lib.hid hyl
        have HRE := Lib.hid hrest
        unfold vw at r1 r2 r3 r4 r5 r6 r7 r8
        clear hW3 hst hws hyl hrest HX HH HB1 HB X1 L1
        obtain ⟨W4, hW4⟩ : ∃ W4, W3.alloc (.cells #[vw a, vw b, vw c, vw d, vw e0, vw f0, vw g0, vw h0] 111) = W4 := ⟨_, rfl⟩
        have L4 : Hid (Below W3.heap.size W3 W4) := by show Below _ _ _; rw [← hW4]; exact (Below.refl _ _).alloc (Nat.le_refl _) _
        have HO4 : Hid (Blk W4 W3.heap.size [vw a, vw b, vw c, vw d, vw e0, vw f0, vw g0, vw h0]) := by show Blk _ _ _; rw [← hW4]; exact Blk.new W3 [vw a, vw b, vw c, vw d, vw e0, vw f0, vw g0, vw h0] _
        have HH4 := Lib.hid (HH2.out.below L4.out)
        have HX4 := Lib.hid (HX16.out.below L4.out)
        obtain ⟨w0, hw0⟩ : ∃ w0, wc = w0 := ⟨_, rfl⟩
        have HG4 : Hid (w0.grownBy W4 (some hb)) := by show World.grownBy _ _ _; rw [← hw0]; exact only_below (only_below (World.grownBy.refl wc _) HBel.out) L4.out
        have GT4 : Hid (GlT W4) := (HG.out.below HBel.out).below L4.out
        have h3 : hb < W3.heap.size := HH2.out.sz
        have q0 := HX4.out.cell 0 _ rfl
        have q1 := HX4.out.cell 1 _ rfl
        have q2 := HX4.out.cell 2 _ rfl
        have q3 := HX4.out.cell 3 _ rfl
        have q4 := HX4.out.cell 4 _ rfl
        have q5 := HX4.out.cell 5 _ rfl
        have q6 := HX4.out.cell 6 _ rfl
        have q7 := HX4.out.cell 7 _ rfl
        have q8 := HX4.out.cell 8 _ rfl
        have q9 := HX4.out.cell 9 _ rfl
        have q10 := HX4.out.cell 10 _ rfl
        have q11 := HX4.out.cell 11 _ rfl
        have q12 := HX4.out.cell 12 _ rfl
        have q13 := HX4.out.cell 13 _ rfl
        have q14 := HX4.out.cell 14 _ rfl
        have q15 := HX4.out.cell 15 _ rfl
        have h0c := HH4.out.cell 0 _ rfl
        obtain ⟨lo2, hlo2⟩ : ∃ lo2, (kd == 2) = lo2 := ⟨_, rfl⟩
        have k2 : ((kd : Int) == 2) = lo2 := (eq_nat kd 2).trans hlo2
        have HLO2 := Lib.hid hlo2
        have HW0 := Lib.hid hw0
        clear hlo2 hw0
        unfold vw at hW4 q0 q1 q2 q3 q4 q5 q6 q7 q8 q9 q10 q11 q12 q13 q14 q15
        go_upto_block 2 with (fail)
        clear hW4 r1 r2 r3 r4 r5 r6 r7 r8
        go_cut [] (fun wx => Hid (Blk wx hb (hashC kd (afterB kd ws st) tl n)) ∧ Hid (Blk wx W3.heap.size [vw a, vw b, vw c, vw d, vw e0, vw f0, vw g0, vw h0]) ∧ Hid (w0.grownBy wx (some hb)))
        case first =>
          cases low with
          | true =>
            have HK1 : Hid (kd = 1) := by have := HLOW.out; show _ = _; simpa using this
            go_wp2_with fail
            refine (hash_md5 hb y0 y1 y2 y3 y4 y5 y6 y7 y8 y9 y10 y11 y12 y13 y14 y15 a b c d (.int .i64 kd) (vw e0 :: vw f0 :: vw g0 :: vw h0 :: rest) _ GT4.out HH4.out).mono ?_; rintro e w' ⟨rfl, hb1, hg1⟩
            have R1 : Hid (Blk w' hb (hashC kd (afterB kd ws st) tl n)) := by
              rw [← HWY.out] at hb1
              show Blk _ _ _
              rw [HST.out, HK1.out]
              rw [HK1.out] at hb1
              unfold hashC
              rw [HRE.out]
              exact hb1
            have R2 := Lib.hid (blk_grown HO4.out hg1 (by omega))
            have R3 := Lib.hid (grown_thru HG4.out hg1)
            clear hb1 hg1
            go_wp2_with fail
            go_meet
            exact ⟨R1, R2, R3⟩
          | false =>
            cases lo2 with
            | true =>
              have HK1 : Hid (kd = 2) := by have := HLO2.out; show _ = _; simpa using this
              go_wp2_with fail
              refine (hash_sha1 hb y0 y1 y2 y3 y4 y5 y6 y7 y8 y9 y10 y11 y12 y13 y14 y15 a b c d e0 (.int .i64 kd) (vw f0 :: vw g0 :: vw h0 :: rest) _ HH4.out).mono ?_; rintro e w' ⟨rfl, hb1, hg1⟩
              have R1 : Hid (Blk w' hb (hashC kd (afterB kd ws st) tl n)) := by
                rw [← HWY.out] at hb1
                show Blk _ _ _
                rw [HST.out, HK1.out]
                rw [HK1.out] at hb1
                unfold hashC
                rw [HRE.out]
                exact hb1
              have R2 := Lib.hid (blk_grown HO4.out hg1 (by omega))
              have R3 := Lib.hid (grown_thru HG4.out hg1)
              clear hb1 hg1
              go_wp2_with fail
              go_meet
              exact ⟨R1, R2, R3⟩
            | false =>
              have HK1 : Hid (kd = 3) := by
                have h1 := HLO2.out
                have h2 := HLOW.out
                show _ = _
                simp at h1 h2
                omega
              go_wp2_with fail
              refine (hash_sha256 hb y0 y1 y2 y3 y4 y5 y6 y7 y8 y9 y10 y11 y12 y13 y14 y15 a b c d e0 f0 g0 h0 (.int .i64 kd) rest _ GT4.out HH4.out).mono ?_; rintro e w' ⟨rfl, hb1, hg1⟩
              have R1 : Hid (Blk w' hb (hashC kd (afterB kd ws st) tl n)) := by
                rw [← HWY.out] at hb1
                show Blk _ _ _
                rw [HST.out, HK1.out]
                rw [HK1.out] at hb1
                unfold hashC
                rw [HRE.out]
                exact hb1
              have R2 := Lib.hid (blk_grown HO4.out hg1 (by omega))
              have R3 := Lib.hid (grown_thru HG4.out hg1)
              clear hb1 hg1
              go_wp2_with fail
              go_meet
              exact ⟨R1, R2, R3⟩
        case rest =>
          obtain ⟨R1, R2, R3⟩ := hcut
          obtain ⟨al, hal⟩ : ∃ al, afterB kd ws st = al := ⟨_, rfl⟩
          have hall : al.length = 8 := by rw [← hal]; exact afterB_len kd ws HS.out
          obtain ⟨zl, hzl⟩ : ∃ zl, List.zipWith (· + ·) al st = zl := ⟨_, rfl⟩
          have hzll : zl.length = 8 := by rw [← hzl, List.length_zipWith, hall, HS.out]; rfl
          rw [hal] at R1
          have HZ : Hid (compress kd st tl = zl) := by
            show _ = _
            rw [← hzl, ← hal, compress, HLOW.out]
            rw [HWS.out]
          have o0 := R2.out.cell 0 _ rfl
          have o1 := R2.out.cell 1 _ rfl
          have o2 := R2.out.cell 2 _ rfl
          have o3 := R2.out.cell 3 _ rfl
          have o4 := R2.out.cell 4 _ rfl
          have o5 := R2.out.cell 5 _ rfl
          have o6 := R2.out.cell 6 _ rfl
          have o7 := R2.out.cell 7 _ rfl
          unfold vw at o0 o1 o2 o3 o4 o5 o6 o7
          have HAL := Lib.hid hall
          have HZL := Lib.hid hzll
          have HZQ := Lib.hid hzl
          clear hall hzll hzl hal k1 k2 hcall
          go_wp2_with fail
          clear o0 o1 o2 o3 o4 o5 o6 o7
          go_loopw [56] (fun s56 wr => ∃ i : Nat, i ≤ 8 ∧ s56 = .int .i64 i ∧ Hid (Blk wr hb (hashC kd (zl.take i ++ al.drop i) tl n)) ∧ Hid (w0.grownBy wr (some hb))) (fun s56 _ => 8 - (intOf s56).toNat)
          case atStart => exact ⟨0, by omega, rfl, by simpa using R1, R3⟩
          case round =>
            obtain ⟨i, hi, rfl, HR, HGr⟩ := hrel
            by_cases hlt : i < 8
            · have hii : (i : Int) < 8 := by omega
              obtain ⟨x, hx⟩ : ∃ x, al[i]? = some x := ⟨_, List.getElem?_eq_getElem (by rw [HAL.out]; exact hlt)⟩
              obtain ⟨o, ho⟩ : ∃ o, st[i]? = some o := ⟨_, List.getElem?_eq_getElem (by rw [HS.out]; exact hlt)⟩
              have hz : zl[i]? = some (x + o) := by rw [← HZQ.out, List.getElem?_zipWith, hx, ho]
              have hidx := fun W => run_index8 (vs := [vw a, vw b, vw c, vw d, vw e0, vw f0, vw g0, vw h0]) rfl hlt (v := vw o) (by
                have : ([vw a, vw b, vw c, vw d, vw e0, vw f0, vw g0, vw h0] : List Value) = st.map vw := by rw [HST.out]; rfl
                rw [this, List.getElem?_map, ho]; rfl) rfl W
              have hd : al.drop i = x :: al.drop (i + 1) := by rw [List.drop_eq_getElem_cons (by rw [HAL.out]; exact hlt)]; congr 1; exact (List.getElem?_eq_some_iff.1 hx).2
              have htl : (zl.take i).length = i := by rw [List.length_take, HZL.out]; omega
              have hR := HR.out
              rw [hd] at hR
              have c1 := hR.cell (1 + i) (vw x) (by
                have := hashC_st (kd := kd) (st := zl.take i ++ x :: al.drop (i + 1)) (tl := tl) (n := n) (i := i) (by rw [List.length_append, htl]; simp)
                rw [this, List.getD_eq_getElem?_getD, List.getElem?_append_right (by omega), htl, Nat.sub_self]
                rfl)
              have f1 := hR.free (1 + i) (by rw [hashC_len (by rw [List.length_append, List.length_cons, List.length_drop, htl, HAL.out]; omega) HT.out]; omega)
              obtain ⟨v, hv1, hv2, HV⟩ := w_ad x o
              have HR2 : Hid (Blk (wr.setCell ⟨hb, 1 + i, none⟩ (vw v)) hb (hashC kd (zl.take (i + 1) ++ al.drop (i + 1)) tl n)) := by
                have h1 := hR.set (1 + i) (by rw [hashC_len (by rw [List.length_append, List.length_cons, List.length_drop, htl, HAL.out]; omega) HT.out]; omega) (vw v)
                have h2 := hashC_setst (kd := kd) (p := zl.take i) (r := al.drop (i + 1)) (x := x) (y := v) (tl := tl) (n := n)
                rw [htl] at h2
                rw [h2] at h1
                show Blk _ _ _
                rw [List.take_add_one, hz, ← HV.out, List.append_assoc]
                exact h1
              have HG2 : Hid (w0.grownBy (wr.setCell ⟨hb, 1 + i, none⟩ (vw v)) (some hb)) := only_setCell HGr.out (.inl rfl) _
              unfold vw at c1 hidx HR2 HG2
              clear hx ho hz hd htl hR
              go_wp2_with fail
              go_region
              all_goals go_wp2_with fail
              all_goals go_roundw
              case rel => exact ⟨i + 1, by omega, by go_num, Lib.hid HR2.out.drew, Lib.hid (only_drewN HG2.out 1)⟩
              case measure => simp [intOf]; omega
            · have HK8 : Hid (i = 8) := by show _ = _; omega
              go_wp2_with fail
              go_end0
              refine ⟨rfl, ?_, ?_⟩
              · have := HR.out
                rw [HK8.out, List.take_of_length_le (by rw [HZL.out]; exact Nat.le_refl _), List.drop_eq_nil_of_le (by rw [HAL.out]; exact Nat.le_refl _), List.append_nil] at this
                rw [HZ.out]
                exact this
              · rw [HW0.out]
                exact HGr.out
def HashAt (w : World) (hb kd : Nat) (m : List UInt8) : Prop := ∃ tl, TailOk m tl ∧ Blk w hb (hashC kd (stateOf kd m) tl m.length)
def NT (b : Nat) : Prop := ¬ 0 = b ∧ ¬ 3 = b ∧ ¬ 1 = b
theorem GlT.new {w : World} (h : GlT w) {b : Nat} (hb : w.heap.size ≤ b) : NT b :=
  ⟨fun e => by have := World.block_lt_of_cell? _ _ (h.t5 0 (by decide)); simp at this; omega, fun e => by have := World.block_lt_of_cell? _ _ (h.tu 0 (by decide)); simp at this; omega, fun e => by have := World.block_lt_of_cell? _ _ (h.ts 0 (by decide)); simp at this; omega⟩
theorem GlT.grown {w w' : World} {g : Nat} (h : GlT w) (hg : w.grownBy w' (some g)) (hn : NT g) : GlT w' := by
  have key : ∀ (b j : Nat) (v : Value), ¬ b = g → w.cell? ⟨b, j, none⟩ = some v → w'.cell? ⟨b, j, none⟩ = some v := fun b j v hne hc =>
    (World.cell?_of_block (a := ⟨b, j, none⟩) (hg.block b (World.block_lt_of_cell? _ _ hc) (fun e => hne (Option.some.inj e)))).trans hc
  exact ⟨fun i hi => key _ _ _ hn.1 (h.t5 i hi), fun i hi => key _ _ _ hn.2.1 (h.tu i hi), fun i hi => key _ _ _ hn.2.2 (h.ts i hi)⟩
theorem rd_grown {w w' : World} {sz n g : Nat} {A : Option Addr} {xs : List Value} (h : Rd w sz A n xs) (hg : w.grownBy w' (some g)) (hA : 0 < n → ∀ b o, A = some ⟨b, o, none⟩ → ¬ b = g) : Rd w' sz A n xs :=
  ⟨h.1, fun hn => by
    obtain ⟨b, off, e, hc⟩ := h.2 hn
    exact ⟨b, off, e, fun j u hu => (World.cell?_of_block (a := ⟨b, off + j, none⟩) (hg.block b (World.block_lt_of_cell? _ _ (hc j u hu)) (fun e2 => hA hn b off e (Option.some.inj e2)))).trans (hc j u hu)⟩⟩
def sLen : Value → Nat
  | .slice _ l _ => l
  | _ => 0
theorem slice_arr {T E : TypeId} {N : Nat} (hA : Tryz.prog.underlying T = some (.array N E)) (hs : ∀ w, (sizeOf E).run Tryz.prog w = .ok 1 w) {b o off : Nat} (ho : off < N) (w : World) :
    (Instr.sliceAt T (.pointer (some ⟨b, o, none⟩)) (some (.int .u64 off)) none none).run Tryz.prog w = .ok (.slice (some ⟨b, o + off, none⟩) (N - off) (N - off)) w := by
  have hb : (Instr.sliceBounds false N N (some (.int .u64 off)) none none).run Tryz.prog w = .ok (off, N, N) w := by
    simp [Instr.sliceBounds, run_sliceBound (k := .u64) (i := (off : Int)) (y := N) (h0 := by omega) (h1 := by omega)]
  have hne : ¬ N = off := by omega
  simp [Instr.sliceAt, run_underlying hA, hb, hs, Instr.sureAddr, asAddr, hne, add_off]
theorem hashC_split (kd : Nat) (st : List B32) (tl : List UInt8) (n off k : Nat) : hashC kd st tl n = (.int .i64 kd :: (st.map vw ++ (tl.take off).map vb)) ++ (((tl.drop off).take k).map vb ++ ((tl.drop (off + k)).map vb ++ [.int .u64 n])) := by
  unfold hashC
  have e : tl = tl.take off ++ ((tl.drop off).take k ++ tl.drop (off + k)) := by
    rw [← List.drop_drop, List.take_append_drop, List.take_append_drop]
  rw [List.cons_append, List.append_assoc, ← List.append_assoc (((tl.drop off).take k).map vb), ← List.map_append, ← List.append_assoc ((tl.take off).map vb), ← List.map_append, ← e]
theorem hashC_put (kd : Nat) (st : List B32) (m tl r : List UInt8) (n : Nat) : (.int .i64 kd :: (st.map vw ++ (tl.take (m.length % 64)).map vb)) ++ (r.map vb ++ ((tl.drop (m.length % 64 + r.length)).map vb ++ [.int .u64 n])) = hashC kd st (tailPut m tl r) n := by
  simp [hashC, tailPut]
theorem hashC_setn {kd : Nat} {st : List B32} {tl : List UInt8} {n n' : Nat} (hs : st.length = 8) (ht : tl.length = 64) : (hashC kd st tl n).set 73 (.int .u64 n') = hashC kd st tl n' := by
  unfold hashC
  rw [List.set_cons_succ, List.set_append_right _ _ (by simp [hs]), List.set_append_right _ _ (by simp [hs, ht])]
  simp [hs, ht]
theorem hash_Write (hb kd n c : Nat) (hk : 1 ≤ kd ∧ kd ≤ 3) (m bs : List UInt8) (A : Option Addr) (w : World) (hG : GlT w) (hN : NT hb) (hH : HashAt w hb kd m) (hr : Rd w 1 A n (bs.map vb)) (hA : 0 < n → ∀ b o, A = some ⟨b, o, none⟩ → ¬ b = hb) (hc : n ≤ c) (hc2 : c ≤ 9223372036854775807) (hm : m.length + n ≤ 1152921504606846976) :
    Calls Tryz.prog 26 #[.pointer (some ⟨hb, 0, none⟩), .slice A n c] w fun e w' => e = .returned (.tuple #[]) ∧ HashAt w' hb kd (m ++ bs) ∧ w.grownBy w' (some hb) := by
  have HBN : Hid (bs.length = n) := vb_map_len hr
  have HR := Lib.hid hr
  have HA := Lib.hid hA
  have HH := Lib.hid hH
  have HG := Lib.hid hG
  have HNT := Lib.hid hN
  have HM := Lib.hid hm
  clear hr hA hH hG hN hm
  go_enter Tryz.func26, Tryz.ntmps26
  go_wp2_with fail
  go_loopw [1] (fun s1 wr => ∃ (j r : Nat) (A1 : Option Addr) (c1 : Nat), s1 = .slice A1 r c1 ∧ r ≤ c1 ∧ c1 ≤ 9223372036854775807 ∧ Hid (j + r = n) ∧ Hid (Rd wr 1 A1 r ((bs.drop j).map vb)) ∧ Hid (0 < r → ∀ b o, A1 = some ⟨b, o, none⟩ → ¬ b = hb) ∧ Hid (HashAt wr hb kd (m ++ bs.take j)) ∧ Hid (w.grownBy wr (some hb))) (fun s1 _ => sLen s1)
  case atStart => exact ⟨0, n, A, c, rfl, hc, hc2, by simp [Hid], by simpa using HR, HA, by simpa using HH, World.grownBy.refl w _⟩
  case round =>
    obtain ⟨j, r, A1, c1, rfl, hrc, hc1, HJ, HRr, HAr, HHr, HGr⟩ := hrel
    by_cases hr0 : 0 < r
    · obtain ⟨tl, hT, hB⟩ := HHr.out
      obtain ⟨L, hL⟩ : ∃ L, m ++ bs.take j = L := ⟨_, rfl⟩
      rw [hL] at hT hB
      have hjn := HJ.out
      have hLl : L.length = m.length + j := by rw [← hL, List.length_append, List.length_take, HBN.out]; omega
      obtain ⟨sz, hsz⟩ : ∃ sz, L.length = sz := ⟨_, rfl⟩
      obtain ⟨off, hoff⟩ : ∃ off, sz % 64 = off := ⟨_, rfl⟩
      obtain ⟨cnt, hcnt⟩ : ∃ cnt, Nat.min r (64 - off) = cnt := ⟨_, rfl⟩
      obtain ⟨rm, hrm⟩ : ∃ rm, 64 - off = rm := ⟨_, rfl⟩
      have ho64 : off < 64 := by omega
      have hcr : cnt ≤ r := by rw [← hcnt]; exact Nat.min_le_left _ _
      have hcm : cnt ≤ rm := by rw [← hcnt, hrm]; exact Nat.min_le_right _ _
      have hc0 : 0 < cnt := by rw [← hcnt]; exact Nat.lt_min.2 ⟨hr0, by omega⟩
      obtain ⟨sz2, hsz2⟩ : ∃ sz2, sz + cnt = sz2 := ⟨_, rfl⟩
      have hmM := HM.out
      have hszM : sz2 ≤ 1152921504606846976 := by omega
      obtain ⟨ch, hch⟩ : ∃ ch, (bs.drop j).take cnt = ch := ⟨_, rfl⟩
      have hchl : ch.length = cnt := by rw [← hch, List.length_take, List.length_drop, HBN.out]; omega
      obtain ⟨b1, o1, hA1, hcell⟩ := HRr.out.2 hr0
      have hb1 : ¬ b1 = hb := HAr.out hr0 b1 o1 hA1
      have hst := stateOf_len kd L
      -- the copy
      have hsl := fun W => slice_arr (T := 112) (E := 5) (N := 64) Tryz.underlying112 Tryz.sizeOf5 (b := hb) (o := 9) (off := off) ho64 W
      rw [hrm] at hsl
      have hB1 := hB
      rw [hashC_split kd _ tl L.length off cnt] at hB1
      have hpl : (.int .i64 (kd : Int) :: ((stateOf kd L).map vw ++ (tl.take off).map vb) : List Value).length = 9 + off := by
        simp [hst, hT.1]; omega
      have hcp : ∀ ty, (Builtin.copy_ #[22, 22] ty #[.slice (some ⟨hb, 9 + off, none⟩) rm rm, .slice (some ⟨b1, o1, none⟩) r c1]).run Tryz.prog wr.drew = .ok (.int .i64 cnt) (wr.drew.setCells hb (9 + off) (ch.map vb)) := fun ty =>
        run_copyB hB1.drew ty Tryz.underlying22 (by kernel_rfl) hpl.symm (ch.map vb) (by rw [List.length_map, hchl, ← hcnt, hrm]) (by simp [hchl, hT.1]; omega) (by rw [List.length_map, hchl]) (fun q v hq => by
          rw [add_off]
          refine hcell q v ?_
          rw [← hch, List.map_take] at hq
          exact (List.getElem?_take_of_lt (by have := (List.getElem?_eq_some_iff.1 hq).1; simp at this; omega)).symm.trans hq) (fun v hv => by obtain ⟨x, _, rfl⟩ := List.mem_map.1 hv; rfl)
      obtain ⟨W2, hW2⟩ : ∃ W2, wr.drew.setCells hb (9 + off) (ch.map vb) = W2 := ⟨_, rfl⟩
      have hmo : L.length % 64 = off := by rw [hsz, hoff]
      have B2 : Hid (Blk W2 hb (hashC kd (stateOf kd L) (tailPut L tl ch) sz)) := by
        have := Blk.setN ((tl.drop (off + cnt)).map vb ++ [.int .u64 L.length]) (ch.map vb) (((tl.drop off).take cnt).map vb) _ wr.drew (by simp [hchl, hT.1]; omega) hB1.drew
        rw [hpl, hW2] at this
        show Blk _ _ _
        rw [← hashC_put, hmo, hchl, ← hsz]
        exact this
      rw [hW2] at hcp
      have G2 : Hid (w.grownBy W2 (some hb)) := by rw [← hW2]; exact only_setCells _ _ _ _ (only_drewN HGr.out 1)
      have htp : (tailPut L tl ch).length = 64 := tailPut_len hT.1 (by rw [hmo, hchl]; omega)
      have k73 := B2.out.cell 73 _ (hashC_size hst htp)
      have f73 := B2.out.free 73 (by rw [hashC_len hst htp]; decide)
      obtain ⟨W3, hW3⟩ : ∃ W3, W2.setCell ⟨hb, 73, none⟩ (.int .u64 sz2) = W3 := ⟨_, rfl⟩
      have B3 : Hid (Blk W3 hb (hashC kd (stateOf kd L) (tailPut L tl ch) sz2)) := by
        have := B2.out.set 73 (by rw [hashC_len hst htp]; decide) (.int .u64 sz2)
        rw [hashC_setn hst htp, hW3] at this
        exact this
      have G3 : Hid (w.grownBy W3 (some hb)) := by rw [← hW3]; exact only_setCell G2.out (.inl rfl) _
      have q73 := B3.out.cell 73 _ (hashC_size hst htp)
      have k73a := hB.drew.cell 73 _ (hashC_size hst hT.1)
      rw [hsz] at k73a
      have w73 : wr.cell? ⟨hb, 73, none⟩ = some (.int .u64 sz) := k73a
      -- what is left
      have hsf := fun W => sl_from (T := 22) (E := 5) (sz := 1) Tryz.underlying22 rfl Tryz.sizeOf5 (A := some ⟨b1, o1, none⟩) (n := r) (c := c1) (k := cnt) hcr W
      obtain ⟨A2, hA2⟩ : ∃ A2, (if c1 = cnt then (some ⟨b1, o1, none⟩ : Option Addr) else (some ⟨b1, o1, none⟩ : Option Addr).map (·.add (cnt * 1))) = A2 := ⟨_, rfl⟩
      obtain ⟨r2, hr2⟩ : ∃ r2, r - cnt = r2 := ⟨_, rfl⟩
      obtain ⟨c2, hc2'⟩ : ∃ c2, c1 - cnt = c2 := ⟨_, rfl⟩
      rw [hA2, hr2, hc2'] at hsf
      subst hA1
      have R2 : Hid (Rd wr 1 A2 r2 ((bs.drop (j + cnt)).map vb)) := by
        have := HRr.out.cut (i := cnt) (j := r) (c := c1) hcr (Nat.le_refl _) hrc
        rw [hA2, hr2, ← List.map_drop, List.drop_drop, List.take_of_length_le (by rw [List.length_map, List.length_drop, HBN.out]; omega)] at this
        exact this
      have A2' : Hid (0 < r2 → ∀ b o, A2 = some ⟨b, o, none⟩ → ¬ b = hb) := by
        show 0 < r2 → ∀ b o, A2 = some ⟨b, o, none⟩ → ¬ b = hb
        intro _ b o e
        rw [← hA2] at e
        split at e
        · injection e with e; injection e with e _; rw [← e]; exact hb1
        · rw [Option.map_some, add_off] at e; injection e with e; injection e with e _; rw [← e]; exact hb1
      have HL2 : Hid (m ++ bs.take (j + cnt) = L ++ ch) := by show _ = _; rw [List.take_add, ← hL, ← hch, List.append_assoc]
      have HLc : Hid ((L ++ ch).length = sz2) := by show _ = _; rw [List.length_append, hsz, hchl, hsz2]
      have HJ2 : Hid (j + cnt + r2 = n) := by show _ = _; omega
      have hrc2 : r2 ≤ c2 := by omega
      have hc22 : c2 ≤ 9223372036854775807 := by omega
      have hr2lt : r2 < r := by omega
      have e1 : (sz : Int) % 64 = (off : Int) := by omega
      have e1t : (sz : Int).tmod 64 = (off : Int) := by rw [Int.tmod_eq_emod_of_nonneg (by omega)]; omega
      have e1w : IntKind.u64.wrap (off : Int) = (off : Int) := IntWalk.u64_in _ (by omega)
      have e2 : IntKind.u64.wrap (cnt : Int) = (cnt : Int) := IntWalk.u64_in _ (by omega)
      have e3 : (sz : Int) + (cnt : Int) = (sz2 : Int) := by omega
      have e3w : IntKind.u64.wrap (sz2 : Int) = (sz2 : Int) := IntWalk.u64_in _ (by omega)
      obtain ⟨ful, hful⟩ : ∃ ful, (sz2 % 64 == 0) = ful := ⟨_, rfl⟩
      have e4 : ((sz2 : Int) % 64 == 0) = ful := by rw [← hful]; exact eq_nat (sz2 % 64) 0
      have HF : Hid ((sz2 % 64 == 0) = ful) := hful
      have HHN : Hid (ful = false → HashAt W3 hb kd (m ++ bs.take (j + cnt))) := by
        show _ → _
        intro hf
        have h64 : ¬ sz2 % 64 = 0 := by rw [hf] at hful; simpa using hful
        have hlt : L.length % 64 + ch.length < 64 := by rw [hmo, hchl]; omega
        rw [HL2.out]
        refine ⟨_, hT.part hlt, ?_⟩
        rw [stateOf_part kd hlt, HLc.out]
        exact B3.out
      have HBK : Hid (ful = true → stateOf kd (L ++ ch) = compress kd (stateOf kd L) (tailPut L tl ch) ∧ TailOk (L ++ ch) (tailPut L tl ch)) := by
        show _ → _
        intro hf
        have h64 : sz2 % 64 = 0 := by rw [hf] at hful; simpa using hful
        have heq : L.length % 64 + ch.length = 64 := by rw [hmo, hchl]; omega
        exact ⟨stateOf_block kd hT heq, TailOk.zero htp (by rw [HLc.out]; exact h64)⟩
      have HST := Lib.hid hst
      have HTP := Lib.hid htp
      have HGG := Lib.hid (HG.out.grown G3.out HNT.out)
      have HRW := Lib.hid (rd_grown R2.out (w' := W3) (g := hb) (by rw [← hW3, ← hW2]; exact only_setCell (only_setCells _ _ _ _ (only_drewN (World.grownBy.refl wr _) 1)) (.inl rfl) _) A2'.out)
      have rm0 : (0 : Int) ≤ (rm : Int) := by omega
      have HCR := Lib.hid hcr
      clear hT hB hL hjn hLl hsz hoff hcnt hrm hsz2 hmM hch hchl hcell hb1 hst hB1 hpl hmo htp k73a hA2 hr2 hc2' hful HRr hW2 hcm
      go_wp2_with fail
      go_region_law (refine step_copy_eq rfl (.tmp 16) (.tmp 17) 22 22 rfl _ _ rfl rfl hcp ?_)
      clear hcp w73
      cases ful with
      | false =>
        go_wp2_with fail
        go_roundw
        case rel => exact ⟨j + cnt, r2, A2, c2, rfl, hrc2, hc22, HJ2, HRW, A2', Lib.hid (HHN.out rfl), G3⟩
        case measure => simp [sLen]; omega
      | true =>
        go_wp2_with fail
        refine (hash_block hb kd sz2 hk (stateOf kd L) (tailPut L tl ch) _ HGG.out HST.out HTP.out B3.out).mono ?_; rintro e w' ⟨rfl, hb5, hg5⟩
        have HH5 : Hid (HashAt w' hb kd (m ++ bs.take (j + cnt))) := by
          show HashAt _ _ _ _
          rw [HL2.out]
          refine ⟨_, (HBK.out (by first | trivial | rfl)).2, ?_⟩
          rw [(HBK.out (by first | trivial | rfl)).1, HLc.out]
          exact hb5
        have HR5 := Lib.hid (rd_grown HRW.out hg5 A2'.out)
        have HG5 := Lib.hid (grown_thru G3.out hg5)
        clear hb5 hg5
        go_wp2_with fail
        go_roundw
        case rel => exact ⟨j + cnt, r2, A2, c2, rfl, hrc2, hc22, HJ2, HR5, A2', HH5, HG5⟩
        case measure => simp [sLen]; omega
    · obtain rfl : r = 0 := by omega
      have HJ0 : Hid (j = n) := by have := HJ.out; show _ = _; omega
      go_wp2_with fail
      go_end0
      refine ⟨rfl, ?_, HGr.out⟩
      have := HHr.out
      rw [List.take_of_length_le (by rw [HBN.out, HJ0.out]; exact Nat.le_refl _)] at this
      exact this
end
end Go.Proofs.YtlhchpeecfbgnaaGreatDoor
