/- A part of the proof that the digests of any content are the three of it, and that an installed set is new memory. No condition. -/
import Derived.Test.YtlhchpeecfbgnaaGreatDoorG34
import Derived.Test.YtlhchpeecfbgnaaGreatDoorG46
set_option maxRecDepth 100000
set_option maxHeartbeats 20000000
set_option linter.unusedVariables false
set_option linter.unusedSimpArgs false
namespace Go.Proofs.YtlhchpeecfbgnaaGreatDoor
section
open Go.RowKit Go.Maps
theorem info_pkC : (Tryz.prog.info? 43).map (fun i => (i.zero, i.size, i.bytes)) = some (some (.agg #[.string ⟨#[]⟩, .string ⟨#[]⟩, .string ⟨#[]⟩, .string ⟨#[]⟩, .slice none 0 0, .slice none 0 0, .slice none 0 0, .slice none 0 0, .slice none 0 0]), 9, 184) := by kernel_rfl
theorem reads_nine (w : World) (t : TypeId) (vs : List Value) (hl : vs.length = 9) : Reads (w.alloc (.cells vs.toArray t)) (w.heap.size + 1) 9 (some ⟨w.heap.size, 0, none⟩) 1 vs := by
  refine ⟨by rw [hl], fun _ => ⟨_, rfl, by simp, fun j u hu => ?_⟩⟩
  rw [show Addr.add ⟨w.heap.size, 0, none⟩ j = ⟨w.heap.size, j, none⟩ by unfold Addr.add; split <;> simp_all]
  exact (Blk.new w vs t).cell j u hu
theorem one_of {l : List PkL} {p : PkL} (h : l.length = [p].length) (ha : ∀ (i : Nat) (x y : PkL), [p][i]? = some x → l[i]? = some y → x.alike y) : ∃ q, l = [q] ∧ p.alike q := by
  match l, h with
  | [q], _ => exact ⟨q, rfl, ha 0 p q rfl rfl⟩
theorem below_thenC {w a b : World} (h : Below w.heap.size w a) (k : Below a.heap.size a b) : Below w.heap.size w b :=
  h.trans ⟨k.os, k.tape, k.output, k.size, fun i hi => k.block i (Nat.lt_of_lt_of_le hi h.size)⟩
theorem below_drewC6 {w a : World} (h : Below w.heap.size w a) (n : Nat) : Below w.heap.size w (a.drewN n) := ⟨h.os, h.tape, h.output, h.size, h.block⟩
theorem Convert_ok (b : Int) (hb : b = 2 ∨ b = 3) {ver : ByteArray} (h : isV ver) (V : ByteArray) (ht : prtVal (trans 1 b ver) = .tuple #[.string V, .int .i64 0]) (pb c : Nat) (w : World) (hG : GlP w) (hp : Blk w pb (pkV ver).cells) :
    Calls Tryz.prog 11 #[.int .i64 1, .int .i64 b, .slice (some ⟨pb, 0, none⟩) 1 c, .slice none 0 0] w fun e w' => ∃ g cc, e = .returned (.tuple #[.slice (some ⟨g, 0, none⟩) 1 cc, .slice none 0 0]) ∧ (∃ r, Blk w' g (.string ⟨#[97, 97]⟩ :: .string V :: .string ⟨#[110, 111, 97, 114, 99, 104]⟩ :: r)) ∧ Below w.heap.size w w' := by
  obtain ⟨i0, hi0, hz0, hz1, hz2⟩ := info_parts info_pkC
  have hmm := @run_makeMap Tryz.prog
  have HG := Lib.hid hG
  have HP := Lib.hid hp
  have HB := Lib.hid hb
  have HT := Lib.hid ht
  have HV := Lib.hid h
  clear hG hp hb ht h
  go_enter Tryz.func11, Tryz.ntmps11
  go_wp2_with fail
  refine (convert_isFormat 1 (.inl rfl) w).mono ?_; rintro e w0 ⟨rfl, h0⟩
  rw [h0]
  clear h0
  go_wp2_with fail
  refine (convert_isFormat b (.inr HB.out) w).mono ?_; rintro e w0' ⟨rfl, h0⟩
  rw [h0]
  clear h0
  go_wp2_with fail
  refine (Check_V HV.out pb c w HG.out.gl (dbV_ok HP.out)).mono ?_; rintro e w1 ⟨rfl, hb1⟩
  have B1 := Lib.hid hb1
  clear hb1
  go_wp2_with fail
  obtain ⟨W2, hW2⟩ : ∃ W2, ((w1.alloc (.cells #[.string ⟨#[]⟩, .string ⟨#[]⟩, .int .i64 0] 49)).alloc (.map #[] 0)).alloc (.cells #[.int .i64 1, .int .i64 b, .map (some (w1.heap.size + 1)), .slice none 0 0] 61) = W2 := ⟨_, rfl⟩
  obtain ⟨kb, hkb⟩ : ∃ kb, w1.heap.size + 1 + 1 = kb := ⟨_, rfl⟩
  obtain ⟨m, hm⟩ : ∃ m, Value.map (some (w1.heap.size + 1)) = m := ⟨_, rfl⟩
  have B2 : Hid (Below w.heap.size w W2) := by
    show Below _ _ _
    rw [← hW2]
    have := B1.out.size
    exact ((B1.out.alloc B1.out.size _).alloc (by simp; omega) _).alloc (by simp; omega) _
  have K2 : Hid (Blk W2 kb (cvC 1 b m (.slice none 0 0))) := by
    have hk := Blk.new ((w1.alloc (.cells #[.string ⟨#[]⟩, .string ⟨#[]⟩, .int .i64 0] 49)).alloc (.map #[] 0)) (cvC 1 b m (.slice none 0 0)) 61
    rw [show ((w1.alloc (.cells #[.string ⟨#[]⟩, .string ⟨#[]⟩, .int .i64 0] 49)).alloc (.map #[] 0)).heap.size = kb by rw [← hkb]; simp] at hk
    show Blk _ _ _
    rw [← hW2, hm]
    exact hk
  have HKB : Hid (w.heap.size ≤ kb) := by have := B1.out.size; show _ ≤ _; omega
  rw [hW2, hkb]
  clear hW2 hkb hm
  refine (learn_nil ⟨kb, 0, none⟩ 0 none W2).mono ?_; rintro e w2 ⟨rfl, h2⟩
  rw [h2]
  clear h2
  go_wp2_with fail
  refine (model_Copy (some ⟨pb, 0, none⟩) c [pkV ver] W2 ((dbV_ok HP.out).below B2.out) (by show (1 : Nat) ≤ 100000; decide) (fun p hp => by rw [List.mem_singleton.1 hp]; exact ⟨Nat.zero_le _, Nat.zero_le _, Nat.zero_le _, Nat.zero_le _, Nat.zero_le _⟩)).mono ?_
  rintro e w3 ⟨A3, c3, g3, l3, rfl, hl3, ha3, hd3, hb3⟩
  obtain ⟨q, rfl, hq⟩ := one_of hl3 ha3
  have R3 := owns_rd hd3.row
  have B3 := Lib.hid (below_thenC B2.out hb3)
  have K3 := Lib.hid (K2.out.below hb3)
  clear hl3 ha3 hd3 hb3
  obtain ⟨nm, v', ar, sm, na, nc, needs, ba, bc, bars, ga, gc, gives, fa, fc, files, sa, sc, scripts⟩ := q
  obtain ⟨q1, q2, q3, q4, q5, q6, q7, q8, q9⟩ := hq
  simp only [pkV] at q1 q2 q3 q4 q5 q6 q7 q8 q9
  subst q1 q2 q3 q4 q5 q6 q7 q8 q9
  obtain ⟨b3, o3, hA, he⟩ := R3.2 (by show 0 < 1; decide)
  have e0 := he 0 (.string ⟨#[97, 97]⟩) rfl
  have e1 := he 1 (.string ver) rfl
  have e2 := he 2 (.string ⟨#[97, 108, 108]⟩) rfl
  have e3 := he 3 (.string ⟨#[115]⟩) rfl
  have e4 := he 4 (.slice na 0 nc) rfl
  have e5 := he 5 (.slice ba 0 bc) rfl
  have e6 := he 6 (.slice ga 0 gc) rfl
  have e7 := he 7 (.slice fa 0 fc) rfl
  have e8 := he 8 (.slice sa 0 sc) rfl
  simp only [Nat.add_zero] at e0
  subst hA
  clear he R3
  rw [show [pkV ver].length = 1 from rfl]
  go_wp2_with fail
  refine wp_loop_rounds 2 ?_
  rw [rounds_succ]
  go_wp2_with fail
  obtain ⟨W4, hW4⟩ : ∃ W4, w3.alloc (.cells #[.string ⟨#[97, 97]⟩, .string ver, .string ⟨#[97, 108, 108]⟩, .string ⟨#[115]⟩, .slice na 0 nc, .slice ba 0 bc, .slice ga 0 gc, .slice fa 0 fc, .slice sa 0 sc] 43) = W4 := ⟨_, rfl⟩
  have B4 : Hid (Below w.heap.size w W4) := by show Below _ _ _; rw [← hW4]; exact B3.out.alloc B3.out.size _
  have K4 : Hid (Blk W4 kb (cvC 1 b m (.slice none 0 0))) := by show Blk _ _ _; rw [← hW4]; exact K3.out.alloc _
  rw [hW4]
  clear hW4 e0 e1 e2 e3 e4 e5 e6 e7 e8
  refine (convert_one_ok b HB.out m kb ⟨#[97, 97]⟩ ver ⟨#[97, 108, 108]⟩ ⟨#[115]⟩ V ⟨#[110, 111, 97, 114, 99, 104]⟩ na ba ga fa sa nc bc gc fc sc W4 (HG.out.below B4.out) (Nat.le_trans (v_short HV.out) (by decide)) K4.out HT.out (archN HB.out)).mono ?_
  rintro e w5 ⟨rfl, hk5, hg5⟩
  have K5 := Lib.hid hk5
  have B5 := Lib.hid (B4.out.grown hg5 B4.out.size (fun j hj => by injection hj with hj; have := HKB.out; omega))
  clear hk5 hg5
  go_wp2_with (
    at_builtin
    refine wpList_append_any _ rfl _ _ 23 rfl w5.heap.size 43 i0 _ 9 184 Tryz.underlying23 hi0 hz0 hz1 hz2 rfl (by omega) (.slice none 0 0) 0 [] rfl (World.ownsRow_nil _ _ _ _) (w5.heap.size + 1) (some ⟨w5.heap.size, 0, none⟩) 1 1 [.string ⟨#[97, 97]⟩, .string V, .string ⟨#[110, 111, 97, 114, 99, 104]⟩, .string ⟨#[115]⟩, .slice none 0 0, .slice none 0 0, .slice ga 0 gc, .slice fa 0 fc, .slice sa 0 sc] rfl (reads_nine w5 _ _ rfl) (by simp [Value.oneCell']) (by simp only [maxLen]; omega) (by omega) (by simp) ?_
    intro v6 w6 hown6 hg6 hat6
    obtain ⟨g6, c6, rfl, hl6, hl6'⟩ := hown6.form (by decide)
    have P6 := Lib.hid (owns_blk hown6)
    have B6 := Lib.hid ((B5.out.alloc B5.out.size (.cells #[.string ⟨#[97, 97]⟩, .string V, .string ⟨#[110, 111, 97, 114, 99, 104]⟩, .string ⟨#[115]⟩, .slice none 0 0, .slice none 0 0, .slice ga 0 gc, .slice fa 0 fc, .slice sa 0 sc] 43)).grown hg6 (Nat.le_trans B5.out.size (by simp)) (by simp [Value.ownBlock]))
    have K6 := Lib.hid ((K5.out.alloc (.cells #[.string ⟨#[97, 97]⟩, .string V, .string ⟨#[110, 111, 97, 114, 99, 104]⟩, .string ⟨#[115]⟩, .slice none 0 0, .slice none 0 0, .slice ga 0 gc, .slice fa 0 fc, .slice sa 0 sc] 43)).grownQ hg6 (by simp [Value.ownBlock]))
    have k63 := K6.out.cell 3 _ rfl
    clear hown6 hg6 hat6)
  rw [rounds_succ]
  go_wp2_with fail
  go_ret2
  exact ⟨g6, c6, rfl, ⟨_, P6.out⟩, B6.out⟩
theorem Convert_bad (b : Int) (hb : b = 2 ∨ b = 3) {ver : ByteArray} (h : isV ver) (V : ByteArray) (ec : Int) (hec : ec ≠ 0) (ht : prtVal (trans 1 b ver) = .tuple #[.string V, .int .i64 ec]) (pb c : Nat) (w : World) (hG : GlP w) (hp : Blk w pb (pkV ver).cells) :
    Calls Tryz.prog 11 #[.int .i64 1, .int .i64 b, .slice (some ⟨pb, 0, none⟩) 1 c, .slice none 0 0] w fun e w' => ∃ g cc, e = .returned (.tuple #[.slice none 0 0, .slice (some ⟨g, 0, none⟩) 1 cc]) ∧ Blk w' g [.string ⟨#[97, 97]⟩, .string ⟨#[118, 101, 114, 115, 105, 111, 110]⟩, .int .i64 11] ∧ w.heap.size ≤ g ∧ Below w.heap.size w w' := by
  obtain ⟨i0, hi0, hz0, hz1, hz2⟩ := info_parts info_pkC
  have hmm := @run_makeMap Tryz.prog
  have HG := Lib.hid hG
  have HP := Lib.hid hp
  have HB := Lib.hid hb
  have HT := Lib.hid ht
  have HV := Lib.hid h
  clear hG hp hb ht h
  go_enter Tryz.func11, Tryz.ntmps11
  go_wp2_with fail
  refine (convert_isFormat 1 (.inl rfl) w).mono ?_; rintro e w0 ⟨rfl, h0⟩
  rw [h0]
  clear h0
  go_wp2_with fail
  refine (convert_isFormat b (.inr HB.out) w).mono ?_; rintro e w0' ⟨rfl, h0⟩
  rw [h0]
  clear h0
  go_wp2_with fail
  refine (Check_V HV.out pb c w HG.out.gl (dbV_ok HP.out)).mono ?_; rintro e w1 ⟨rfl, hb1⟩
  have B1 := Lib.hid hb1
  clear hb1
  go_wp2_with fail
  obtain ⟨W2, hW2⟩ : ∃ W2, ((w1.alloc (.cells #[.string ⟨#[]⟩, .string ⟨#[]⟩, .int .i64 0] 49)).alloc (.map #[] 0)).alloc (.cells #[.int .i64 1, .int .i64 b, .map (some (w1.heap.size + 1)), .slice none 0 0] 61) = W2 := ⟨_, rfl⟩
  obtain ⟨kb, hkb⟩ : ∃ kb, w1.heap.size + 1 + 1 = kb := ⟨_, rfl⟩
  obtain ⟨m, hm⟩ : ∃ m, Value.map (some (w1.heap.size + 1)) = m := ⟨_, rfl⟩
  have B2 : Hid (Below w.heap.size w W2) := by
    show Below _ _ _
    rw [← hW2]
    have := B1.out.size
    exact ((B1.out.alloc B1.out.size _).alloc (by simp; omega) _).alloc (by simp; omega) _
  have K2 : Hid (Blk W2 kb (cvC 1 b m (.slice none 0 0))) := by
    have hk := Blk.new ((w1.alloc (.cells #[.string ⟨#[]⟩, .string ⟨#[]⟩, .int .i64 0] 49)).alloc (.map #[] 0)) (cvC 1 b m (.slice none 0 0)) 61
    rw [show ((w1.alloc (.cells #[.string ⟨#[]⟩, .string ⟨#[]⟩, .int .i64 0] 49)).alloc (.map #[] 0)).heap.size = kb by rw [← hkb]; simp] at hk
    show Blk _ _ _
    rw [← hW2, hm]
    exact hk
  have HKB : Hid (w.heap.size ≤ kb) := by have := B1.out.size; show _ ≤ _; omega
  rw [hW2, hkb]
  clear hW2 hkb hm
  refine (learn_nil ⟨kb, 0, none⟩ 0 none W2).mono ?_; rintro e w2 ⟨rfl, h2⟩
  rw [h2]
  clear h2
  go_wp2_with fail
  refine (model_Copy (some ⟨pb, 0, none⟩) c [pkV ver] W2 ((dbV_ok HP.out).below B2.out) (by show (1 : Nat) ≤ 100000; decide) (fun p hp => by rw [List.mem_singleton.1 hp]; exact ⟨Nat.zero_le _, Nat.zero_le _, Nat.zero_le _, Nat.zero_le _, Nat.zero_le _⟩)).mono ?_
  rintro e w3 ⟨A3, c3, g3, l3, rfl, hl3, ha3, hd3, hb3⟩
  obtain ⟨q, rfl, hq⟩ := one_of hl3 ha3
  have R3 := owns_rd hd3.row
  have B3 := Lib.hid (below_thenC B2.out hb3)
  have K3 := Lib.hid (K2.out.below hb3)
  clear hl3 ha3 hd3 hb3
  obtain ⟨nm, v', ar, sm, na, nc, needs, ba, bc, bars, ga, gc, gives, fa, fc, files, sa, sc, scripts⟩ := q
  obtain ⟨q1, q2, q3, q4, q5, q6, q7, q8, q9⟩ := hq
  simp only [pkV] at q1 q2 q3 q4 q5 q6 q7 q8 q9
  subst q1 q2 q3 q4 q5 q6 q7 q8 q9
  obtain ⟨b3, o3, hA, he⟩ := R3.2 (by show 0 < 1; decide)
  have e0 := he 0 (.string ⟨#[97, 97]⟩) rfl
  have e1 := he 1 (.string ver) rfl
  have e2 := he 2 (.string ⟨#[97, 108, 108]⟩) rfl
  have e3 := he 3 (.string ⟨#[115]⟩) rfl
  have e4 := he 4 (.slice na 0 nc) rfl
  have e5 := he 5 (.slice ba 0 bc) rfl
  have e6 := he 6 (.slice ga 0 gc) rfl
  have e7 := he 7 (.slice fa 0 fc) rfl
  have e8 := he 8 (.slice sa 0 sc) rfl
  simp only [Nat.add_zero] at e0
  subst hA
  clear he R3
  rw [show [pkV ver].length = 1 from rfl]
  go_wp2_with fail
  refine wp_loop_rounds 2 ?_
  rw [rounds_succ]
  go_wp2_with fail
  obtain ⟨W4, hW4⟩ : ∃ W4, w3.alloc (.cells #[.string ⟨#[97, 97]⟩, .string ver, .string ⟨#[97, 108, 108]⟩, .string ⟨#[115]⟩, .slice na 0 nc, .slice ba 0 bc, .slice ga 0 gc, .slice fa 0 fc, .slice sa 0 sc] 43) = W4 := ⟨_, rfl⟩
  have B4 : Hid (Below w.heap.size w W4) := by show Below _ _ _; rw [← hW4]; exact B3.out.alloc B3.out.size _
  have K4 : Hid (Blk W4 kb (cvC 1 b m (.slice none 0 0))) := by show Blk _ _ _; rw [← hW4]; exact K3.out.alloc _
  rw [hW4]
  clear hW4 e0 e1 e2 e3 e4 e5 e6 e7 e8
  refine (convert_one_bad b HB.out m kb ⟨#[97, 97]⟩ ver ⟨#[97, 108, 108]⟩ ⟨#[115]⟩ V ⟨#[110, 111, 97, 114, 99, 104]⟩ ec hec na ba ga fa sa nc bc gc fc sc W4 (HG.out.below B4.out) (Nat.le_trans (v_short HV.out) (by decide)) K4.out HT.out (archN HB.out)).mono ?_
  rintro e w5 ⟨rfl, gR, cR, hk5, hr5, hl5, hg5⟩
  have K5 := Lib.hid hk5
  have B5 := Lib.hid (B4.out.grown hg5 B4.out.size (fun j hj => by injection hj with hj; have := HKB.out; omega))
  have R5 := Lib.hid hr5
  clear hr5
  clear hk5 hg5
  go_wp2_with (
    at_builtin
    refine wpList_append_any _ rfl _ _ 23 rfl w5.heap.size 43 i0 _ 9 184 Tryz.underlying23 hi0 hz0 hz1 hz2 rfl (by omega) (.slice none 0 0) 0 [] rfl (World.ownsRow_nil _ _ _ _) (w5.heap.size + 1) (some ⟨w5.heap.size, 0, none⟩) 1 1 [.string ⟨#[97, 97]⟩, .string V, .string ⟨#[110, 111, 97, 114, 99, 104]⟩, .string ⟨#[115]⟩, .slice none 0 0, .slice none 0 0, .slice ga 0 gc, .slice fa 0 fc, .slice sa 0 sc] rfl (reads_nine w5 _ _ rfl) (by simp [Value.oneCell']) (by simp only [maxLen]; omega) (by omega) (by simp) ?_
    intro v6 w6 hown6 hg6 hat6
    obtain ⟨g6, c6, rfl, hl6, hl6'⟩ := hown6.form (by decide)
    have P6 := Lib.hid (owns_blk hown6)
    have B6 := Lib.hid ((B5.out.alloc B5.out.size (.cells #[.string ⟨#[97, 97]⟩, .string V, .string ⟨#[110, 111, 97, 114, 99, 104]⟩, .string ⟨#[115]⟩, .slice none 0 0, .slice none 0 0, .slice ga 0 gc, .slice fa 0 fc, .slice sa 0 sc] 43)).grown hg6 (Nat.le_trans B5.out.size (by simp)) (by simp [Value.ownBlock]))
    have K6 := Lib.hid ((K5.out.alloc (.cells #[.string ⟨#[97, 97]⟩, .string V, .string ⟨#[110, 111, 97, 114, 99, 104]⟩, .string ⟨#[115]⟩, .slice none 0 0, .slice none 0 0, .slice ga 0 gc, .slice fa 0 fc, .slice sa 0 sc] 43)).grownQ hg6 (by simp [Value.ownBlock]))
    have R6 := Lib.hid ((R5.out.alloc (.cells #[.string ⟨#[97, 97]⟩, .string V, .string ⟨#[110, 111, 97, 114, 99, 104]⟩, .string ⟨#[115]⟩, .slice none 0 0, .slice none 0 0, .slice ga 0 gc, .slice fa 0 fc, .slice sa 0 sc] 43)).grownQ hg6 (by simp [Value.ownBlock]))
    have k63 := K6.out.cell 3 _ rfl
    clear hown6 hg6 hat6)
  rw [rounds_succ]
  go_wp2_with fail
  go_quiet (fail)
  go_wp2_with fail
  go_ret2
  exact ⟨gR, cR, rfl, R6.out.drewN _, Nat.le_trans B4.out.size hl5, below_drewC6 B6.out _⟩
end
end Go.Proofs.YtlhchpeecfbgnaaGreatDoor
