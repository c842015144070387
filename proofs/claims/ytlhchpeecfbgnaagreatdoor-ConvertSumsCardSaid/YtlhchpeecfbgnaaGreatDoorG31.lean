/- A part of the proof that the digests of any content are the three of it, and that an installed set is new memory. No condition. -/
import Derived.Deep.RegionHeld3
import Derived.Test.YtlhchpeecfbgnaaGreatDoorG22
set_option maxRecDepth 100000
set_option maxHeartbeats 20000000
set_option linter.unusedVariables false
set_option linter.unusedSimpArgs false
namespace Go.Proofs.YtlhchpeecfbgnaaGreatDoor
section
open Go.RowKit
def sha1Cells (kv : Value) (s : S5) (rest : List Value) : List Value := kv :: vw s.a :: vw s.b :: vw s.c :: vw s.d :: vw s.e :: rest
def padC (n : Nat) (l : List B32) : List Value := l.map vw ++ List.replicate (n - l.length) (vw 0)
theorem padC_len {n : Nat} {l : List B32} (h : l.length ≤ n) : (padC n l).length = n := by simp [padC]; omega
theorem padC_get (n : Nat) {l : List B32} {i : Nat} (h : i < l.length) : (padC n l)[i]? = some (vw (l.getD i 0)) := by
  unfold padC
  rw [List.getElem?_append_left (by simpa using h), List.getElem?_map, List.getElem?_eq_getElem h, List.getD_eq_getElem?_getD, List.getElem?_eq_getElem h]
  rfl
theorem padC_end {n : Nat} {l : List B32} (h : l.length < n) : (padC n l)[l.length]? = some (vw 0) := by
  unfold padC
  rw [List.getElem?_append_right (by simp), List.length_map, Nat.sub_self, List.getElem?_replicate, if_pos (by omega)]
theorem padC_set {n : Nat} {l : List B32} (h : l.length < n) (x : B32) : (padC n l).set l.length (vw x) = padC n (l ++ [x]) := by
  unfold padC
  rw [List.set_append_right _ _ (by simp), List.length_map, Nat.sub_self, show n - l.length = (n - (l ++ [x]).length) + 1 by simp; omega, List.replicate_succ]
  simp
theorem below_setCells {n g : Nat} {a : World} : ∀ (cs : List Value) (o : Nat) {w : World}, Below n a w → n ≤ g → Below n a (w.setCells g o cs)
  | [], _, _, h, _ => h
  | c :: r, o, _, h, hg => below_setCells r (o + 1) (h.setCell (p := ⟨g, o, none⟩) hg c) hg
theorem sha_start {w W1 : World} {hb N : Nat} {T : TypeId} {Z : Array Value} {ws : List B32} {hc : List Value} (hZ : Z = (List.replicate N (vw 0)).toArray) (hN : 16 ≤ N) (L1 : Below w.heap.size w W1) (S1 : W1.heap.size = w.heap.size + 1) (hw : ws.length = 16) (X1 : Blk W1 w.heap.size (ws.map vw)) (HB : Blk W1 hb hc) (hl : hb < w.heap.size) :
    ∃ W2, (∀ ty, (Builtin.copy_ #[77, 77] ty #[.slice (some ⟨w.heap.size + 1, 0, none⟩) N N, .slice (some ⟨w.heap.size, 0, none⟩) 16 16]).run Tryz.prog ((W1.alloc (.cells Z T)).drew) = .ok (.int .i64 (16 : Nat)) W2) ∧ Hid (Blk W2 hb hc) ∧ Hid (Blk W2 (w.heap.size + 1) (padC N ws)) ∧ Hid (Below w.heap.size w W2) := by
  subst hZ
  have e16 : (ws.map vw).length = 16 := by rw [List.length_map]; exact hw
  have hz : Blk ((W1.alloc (.cells (List.replicate N (vw 0)).toArray T)).drew) (w.heap.size + 1) ([] ++ (List.replicate 16 (vw 0) ++ List.replicate (N - 16) (vw 0))) := by
    rw [← S1, List.nil_append, List.replicate_append_replicate, show 16 + (N - 16) = N by omega]
    exact (Blk.new W1 (List.replicate N (vw 0)) T).drew
  refine ⟨((W1.alloc (.cells (List.replicate N (vw 0)).toArray T)).drew).setCells (w.heap.size + 1) 0 (ws.map vw), fun ty => run_copyB hz ty Tryz.underlying77 (by kernel_rfl) rfl (ws.map vw) (by rw [e16]; exact (Nat.min_eq_left hN).symm) (by rw [e16]; simp) e16 (fun j v hj => by rw [add_at]; exact ((X1.alloc _).drew).cell j v hj) (fun v hv => by obtain ⟨x, _, rfl⟩ := List.mem_map.1 hv; rfl), ?_, ?_, ?_⟩
  · exact Blk.belowN (wr := (W1.alloc (.cells (List.replicate N (vw 0)).toArray T)).drew) ((HB.alloc _).drew) (n := w.heap.size + 1) (below_setCells (ws.map vw) 0 (Below.refl _ _) (Nat.le_refl _)) (by omega)
  · have := Blk.setN (List.replicate (N - 16) (vw 0)) (ws.map vw) (List.replicate 16 (vw 0)) [] _ (by rw [e16]; simp) hz
    simpa [Hid, padC, hw] using this
  · exact below_setCells (ws.map vw) 0 (below_drewN (L1.alloc L1.size _) 1) (by omega)
theorem far_cell {wr : World} {b k m : Nat} {v u : Value} (h : wr.cell? ⟨b, m, none⟩ = some u) (hne : ¬ k = m) : ((wr.setCell ⟨b, k, none⟩ v).drew).cell? ⟨b, m, none⟩ = some u := by
  show (wr.setCell ⟨b, k, none⟩ v).cell? ⟨b, m, none⟩ = some u
  rw [World.cell?_setCell_other _ _ _ _ (by intro h; injection h with _ h; exact hne h)]
  exact h
theorem sched_at {wr : World} {b k : Nat} {l : List B32} {N : Nat} (h : Blk wr b (padC N l)) (hl : l.length = k) (q : Nat) (qi NI : Int) (hqi : qi = q) (hNI : NI = N) (hq : 0 < q) (hq2 : q ≤ k) (hkN : k ≤ N) (hkM : k ≤ 1000) :
    ∃ m : Nat, (k : Int) - qi = (m : Int) ∧ IntKind.i64.wrap (m : Int) = (m : Int) ∧ (m : Int) < NI ∧ ¬ k = m ∧ ¬ m = k ∧ ∃ x, Hid (l.getD (k - q) 0 = x) ∧ wr.cell? ⟨b, m, none⟩ = some (vw x) := by
  have e : (k : Int) - qi = ((k - q : Nat) : Int) := by omega
  refine ⟨k - q, e, ?_, by omega, by omega, by omega, _, rfl, ?_⟩
  · exact IntWalk.i64_in _ (by omega)
  · exact h.cell _ _ (padC_get N (by omega))
theorem sha1_next {ls : List B32} {s0 : S5} {k q : Nat} {ya yb yc yd ye f x s : B32} (h : sha1Run ls s0 k = ⟨ya, yb, yc, yd, ye⟩) (hq : k / 20 = q) (hx : ls.getD k 0 = x) (hf : f = sha1F q yb yc yd) (hs : s = rl 5 ya + f + ye + sha1K q + x) :
    sha1Run ls s0 (k + 1) = ⟨s, ya, rl 30 yb, yc, yd⟩ := by
  rw [sha1Run, h, sha1Step, hq, hx, hs, hf]
theorem hash_sha1 (hb : Nat) (x0 x1 x2 x3 x4 x5 x6 x7 x8 x9 x10 x11 x12 x13 x14 x15 a b c d e0 : B32) (kv : Value) (rest : List Value) (w : World)
    (hB : Blk w hb (kv :: vw a :: vw b :: vw c :: vw d :: vw e0 :: rest)) :
    Calls Tryz.prog 89 #[.pointer (some ⟨hb, 0, none⟩), .agg #[vw x0, vw x1, vw x2, vw x3, vw x4, vw x5, vw x6, vw x7, vw x8, vw x9, vw x10, vw x11, vw x12, vw x13, vw x14, vw x15]] w fun e w' => e = .returned (.tuple #[]) ∧
      Blk w' hb (sha1Cells kv (sha1Run (sha1W [x0, x1, x2, x3, x4, x5, x6, x7, x8, x9, x10, x11, x12, x13, x14, x15] 64) ⟨a, b, c, d, e0⟩ 80) rest) ∧ w.grownBy w' (some hb) := by
  obtain ⟨ws, hws⟩ : ∃ ws, ws = [x0, x1, x2, x3, x4, x5, x6, x7, x8, x9, x10, x11, x12, x13, x14, x15] := ⟨_, rfl⟩
  have hwl : ws.length = 16 := by rw [hws]; rfl
  obtain ⟨W1, hW1⟩ : ∃ W1, w.alloc (.cells #[vw x0, vw x1, vw x2, vw x3, vw x4, vw x5, vw x6, vw x7, vw x8, vw x9, vw x10, vw x11, vw x12, vw x13, vw x14, vw x15] 147) = W1 := ⟨_, rfl⟩
  have L1 : Hid (Below w.heap.size w W1) := by show Below _ _ _; rw [← hW1]; exact (Below.refl _ _).alloc (Nat.le_refl _) _
  have X1 : Hid (Blk W1 w.heap.size (ws.map vw)) := by show Blk _ _ _; rw [← hW1, hws]; exact Blk.new w _ _
  have S1 : W1.heap.size = w.heap.size + 1 := by rw [← hW1]; simp
  have HBL : Hid (hb < w.heap.size) := hB.sz
  have HB := Lib.hid (hB.below L1.out)
  have HWS := Lib.hid hws
  have HWL := Lib.hid hwl
  clear hB hws hwl
  unfold vw at hW1 ⊢
  go_enter Tryz.func89, Tryz.ntmps89
  go_wp2_with fail
  obtain ⟨W2, hcp, HB2, X2, L2⟩ := sha_start (Z := Tryz.zeroCells200) (T := 200) (N := 80) (by kernel_rfl) (by decide) L1.out S1 HWL.out X1.out HB.out HBL.out
  clear S1
  go_region_law (refine step_copy_eq rfl (.tmp 15) (.tmp 16) 77 77 rfl _ _ rfl rfl hcp ?_)
  clear hcp
  go_wp2_with fail
  go_loopw [5] (fun i wr => ∃ (k : Nat) (l : List B32), 16 ≤ k ∧ k ≤ 80 ∧ i = .int .i64 k ∧ Hid (l.length = k ∧ ∃ n, k = 16 + n ∧ l = sha1W ws n) ∧ Hid (Blk wr (w.heap.size + 1) (padC 80 l)) ∧ Hid (Blk wr hb (kv :: vw a :: vw b :: vw c :: vw d :: vw e0 :: rest)) ∧ Hid (Below w.heap.size w wr)) (fun i _ => 80 - (intOf i).toNat)
  case atStart => exact ⟨16, ws, by omega, by omega, rfl, ⟨HWL.out, 0, rfl, rfl⟩, X2, HB2, L2⟩
  case round =>
    obtain ⟨k, l, hk16, hk, rfl, HL, HX, HH, HBel⟩ := hrel
    by_cases hlt : k < 80
    · obtain ⟨m3, e3, i3, n3, ne3, nf3, z3, hz3, c3⟩ := sched_at HX.out HL.out.1 3 3 80 rfl rfl (by omega) (by omega) hk (by omega)
      obtain ⟨m8, e8, i8, n8, ne8, nf8, z8, hz8, c8⟩ := sched_at HX.out HL.out.1 8 8 80 rfl rfl (by omega) (by omega) hk (by omega)
      obtain ⟨m14, e14, i14, n14, ne14, nf14, z14, hz14, c14⟩ := sched_at HX.out HL.out.1 14 14 80 rfl rfl (by omega) (by omega) hk (by omega)
      obtain ⟨m16, e16, i16, n16, ne16, nf16, z16, hz16, c16⟩ := sched_at HX.out HL.out.1 16 16 80 rfl rfl (by omega) (by omega) hk (by omega)
      have hki : (k : Int) < 80 := by omega
      have ck := HX.out.cell k _ (by have := padC_end (n := 80) (l := l) (by rw [HL.out.1]; exact hlt); rwa [HL.out.1] at this)
      have fk := HX.out.free k (by rw [padC_len (by rw [HL.out.1]; omega)]; exact hlt)
      obtain ⟨t1, h1, H1⟩ := w_xor z3 z8
      obtain ⟨t2, h2, H2⟩ := w_xor t1 z14
      obtain ⟨t3, h3, H3⟩ := w_xor t2 z16
      have HT : Hid (rl 1 t3 = sha1X l k) := by show _ = _; unfold sha1X; rw [H3.out, H2.out, H1.out, hz3.out, hz8.out, hz14.out, hz16.out]
      have HX2 : Hid (Blk (wr.setCell ⟨w.heap.size + 1, k, none⟩ (vw (rl 1 t3))) (w.heap.size + 1) (padC 80 (l ++ [rl 1 t3]))) := by
        have := HX.out.set k (by rw [padC_len (by rw [HL.out.1]; omega)]; exact hlt) (vw (rl 1 t3))
        have e := padC_set (n := 80) (l := l) (by rw [HL.out.1]; exact hlt) (rl 1 t3)
        rw [HL.out.1] at e
        rw [e] at this
        exact this
      have HH2 : Hid (Blk (wr.setCell ⟨w.heap.size + 1, k, none⟩ (vw (rl 1 t3))) hb (kv :: vw a :: vw b :: vw c :: vw d :: vw e0 :: rest)) := HH.out.far (by have := HBL.out; omega) _
      have HB5 : Hid (Below w.heap.size w (wr.setCell ⟨w.heap.size + 1, k, none⟩ (vw (rl 1 t3)))) := below_set HBel.out (by omega) _
      have HN : Hid ((l ++ [rl 1 t3]).length = k + 1 ∧ ∃ n, k + 1 = 16 + n ∧ l ++ [rl 1 t3] = sha1W ws n) := by
        obtain ⟨h1, n, h2, h3⟩ := HL.out
        refine ⟨by rw [List.length_append, h1]; rfl, n + 1, by omega, ?_⟩
        rw [sha1W, ← h3, HT.out, h2]
      unfold vw at c3 c8 c14 c16 ck HX2 HH2 HB5
      have F3 := Lib.hid (far_cell (v := .int .u32 (nv (rl 1 t3))) c3 ne3)
      have F8 := Lib.hid (far_cell (v := .int .u32 (nv (rl 1 t3))) c8 ne8)
      have F14 := Lib.hid (far_cell (v := .int .u32 (nv (rl 1 t3))) c14 ne14)
      have F16 := Lib.hid (far_cell (v := .int .u32 (nv (rl 1 t3))) c16 ne16)
      go_wp2_with fail
      go_region_held3 (fun w' => w'.cell? ⟨w.heap.size + 1, m3, none⟩ = some (.int .u32 (nv z3)) ∧ w'.cell? ⟨w.heap.size + 1, m8, none⟩ = some (.int .u32 (nv z8)) ∧ w'.cell? ⟨w.heap.size + 1, m14, none⟩ = some (.int .u32 (nv z14)) ∧ w'.cell? ⟨w.heap.size + 1, m16, none⟩ = some (.int .u32 (nv z16)))
        (first | exact ⟨c3, c8, c14, c16⟩ | exact ⟨F3.out, F8.out, F14.out, F16.out⟩ | go_keep)
        ((go_at_call 128; refine (bits_rot t3 1 (by decide) (by decide) _).mono ?_; rintro e w' ⟨rfl, rfl⟩))
      all_goals go_wp2_with fail
      all_goals go_roundw
      case rel => exact ⟨k + 1, _, by omega, by omega, by go_num, HN, Lib.hid HX2.out.drew, Lib.hid HH2.out.drew, Lib.hid (below_drewN HB5.out 1)⟩
      case measure => simp [intOf]; omega
    · have HK8 : Hid (k = 80) := by show _ = _; omega
      obtain ⟨W3, hW3⟩ : ∃ W3, wr = W3 := ⟨_, rfl⟩
      have HLS : Hid (l = sha1W ws 64) := by
        obtain ⟨_, n, h2, h3⟩ := HL.out
        have : n = 64 := by have := HK8.out; omega
        show _ = _
        rw [h3, this]
      have LL : Hid (l.length = 80) := HL.out.1.trans HK8.out
      have b1 := HH.out.cell 1 _ rfl
      have b2 := HH.out.cell 2 _ rfl
      have b3 := HH.out.cell 3 _ rfl
      have b4 := HH.out.cell 4 _ rfl
      have b5 := HH.out.cell 5 _ rfl
      unfold vw at b1 b2 b3 b4 b5
      rw [hW3] at b1 b2 b3 b4 b5 HX HH HBel ⊢
      clear hW3 HL X2 HB2 L2 HWL X1 HB
      go_wp2_with fail
      go_quiet (fail)
      go_wp2_with fail
      clear b1 b2 b3 b4 b5
      go_loopw [69, 6, 7, 8, 9, 10] (fun i sa sb sc sd se wr => ∃ (k : Nat) (ya yb yc yd ye : B32), k ≤ 80 ∧ i = .int .i64 k ∧ sa = .int .u32 (nv ya) ∧ sb = .int .u32 (nv yb) ∧ sc = .int .u32 (nv yc) ∧ sd = .int .u32 (nv yd) ∧ se = .int .u32 (nv ye) ∧ Hid (sha1Run l ⟨a, b, c, d, e0⟩ k = ⟨ya, yb, yc, yd, ye⟩) ∧ Hid (∃ n, wr = W3.drewN n)) (fun i _ _ _ _ _ _ => 80 - (intOf i).toNat)
      case atStart => exact ⟨0, a, b, c, d, e0, by omega, rfl, rfl, rfl, rfl, rfl, rfl, rfl, _, rfl⟩
      case round =>
        obtain ⟨k, ya, yb, yc, yd, ye, hk, rfl, rfl, rfl, rfl, rfl, rfl, HS, HW⟩ := hrel
        by_cases hlt : k < 80
        · obtain ⟨xk, hxk⟩ : ∃ t, l.getD k 0 = t := ⟨_, rfl⟩
          have xg : wr.cell? ⟨w.heap.size + 1, k, none⟩ = some (vw xk) := by obtain ⟨n, hn⟩ := HW.out; rw [hn, ← hxk]; exact HX.out.cell k _ (padC_get 80 (by rw [LL.out]; exact hlt))
          unfold vw at xg
          obtain ⟨q, hq⟩ : ∃ q, k / 20 = q := ⟨_, rfl⟩
          have e2 : (k : Int) / 20 = (q : Int) := by omega
          have hki : (k : Int) < 80 := by omega
          have HQ := Lib.hid hq; have HXK := Lib.hid hxk
          have hq4 : q < 4 := by omega
          clear hq hxk
          rcases (show q = 0 ∨ q = 1 ∨ q = 2 ∨ q = 3 by omega) with rfl | rfl | rfl | rfl
          · obtain ⟨t1, h1, H1⟩ := w_and yb yc
            obtain ⟨t2, h2, H2⟩ := w_not yb
            obtain ⟨t3, h3, H3⟩ := w_and t2 yd
            obtain ⟨f, h4, H4⟩ := w_or t1 t3
            have HF : Hid (f = sha1F 0 yb yc yd) := by show _ = _; rw [H4.out, H3.out, H2.out, H1.out]; rfl
            obtain ⟨s1, g1, _, S1⟩ := w_ad (rl 5 ya) f
            obtain ⟨s2, g2, _, S2⟩ := w_ad s1 ye
            obtain ⟨s3, g3, _, S3⟩ := w_ad s2 (sha1K 0)
            have g3' : IntKind.u32.wrap (nv s2 + 1518500249) = nv s3 := g3
            obtain ⟨s4, g4, _, S4⟩ := w_ad s3 xk
            have HS4 : Hid (s4 = rl 5 ya + f + ye + sha1K 0 + xk) := by show _ = _; rw [S4.out, S3.out, S2.out, S1.out]
            clear g3
            go_upto_region 20 with (fail)
            go_quiet ((go_at_call 128; exact Calls.quiet_of_same (bits_rot ya 5 (by decide) (by decide) _)))
            go_wp2_with fail
            refine (bits_rot yb 30 (by decide) (by decide) _).mono ?_; rintro e w' ⟨rfl, rfl⟩
            go_wp2_with fail
            go_roundw
            case rel => exact ⟨k + 1, s4, ya, rl 30 yb, yc, yd, by omega, by go_num, rfl, rfl, rfl, rfl, rfl, sha1_next HS.out HQ.out HXK.out HF.out HS4.out, drew_more HW.out _⟩
            case measure => simp [intOf]; omega
          · obtain ⟨t1, h1, H1⟩ := w_xor yb yc
            obtain ⟨f, h2, H2⟩ := w_xor t1 yd
            have HF : Hid (f = sha1F 1 yb yc yd) := by show _ = _; rw [H2.out, H1.out]; rfl
            obtain ⟨s1, g1, _, S1⟩ := w_ad (rl 5 ya) f
            obtain ⟨s2, g2, _, S2⟩ := w_ad s1 ye
            obtain ⟨s3, g3, _, S3⟩ := w_ad s2 (sha1K 1)
            have g3' : IntKind.u32.wrap (nv s2 + 1859775393) = nv s3 := g3
            obtain ⟨s4, g4, _, S4⟩ := w_ad s3 xk
            have HS4 : Hid (s4 = rl 5 ya + f + ye + sha1K 1 + xk) := by show _ = _; rw [S4.out, S3.out, S2.out, S1.out]
            clear g3
            go_upto_region 20 with (fail)
            go_quiet ((go_at_call 128; exact Calls.quiet_of_same (bits_rot ya 5 (by decide) (by decide) _)))
            go_wp2_with fail
            refine (bits_rot yb 30 (by decide) (by decide) _).mono ?_; rintro e w' ⟨rfl, rfl⟩
            go_wp2_with fail
            go_roundw
            case rel => exact ⟨k + 1, s4, ya, rl 30 yb, yc, yd, by omega, by go_num, rfl, rfl, rfl, rfl, rfl, sha1_next HS.out HQ.out HXK.out HF.out HS4.out, drew_more HW.out _⟩
            case measure => simp [intOf]; omega
          · obtain ⟨t1, h1, H1⟩ := w_and yb yc
            obtain ⟨t2, h2, H2⟩ := w_and yb yd
            obtain ⟨t3, h3, H3⟩ := w_or t1 t2
            obtain ⟨t4, h4, H4⟩ := w_and yc yd
            obtain ⟨f, h5, H5⟩ := w_or t3 t4
            have HF : Hid (f = sha1F 2 yb yc yd) := by show _ = _; rw [H5.out, H4.out, H3.out, H2.out, H1.out]; rfl
            obtain ⟨s1, g1, _, S1⟩ := w_ad (rl 5 ya) f
            obtain ⟨s2, g2, _, S2⟩ := w_ad s1 ye
            obtain ⟨s3, g3, _, S3⟩ := w_ad s2 (sha1K 2)
            have g3' : IntKind.u32.wrap (nv s2 + 2400959708) = nv s3 := g3
            obtain ⟨s4, g4, _, S4⟩ := w_ad s3 xk
            have HS4 : Hid (s4 = rl 5 ya + f + ye + sha1K 2 + xk) := by show _ = _; rw [S4.out, S3.out, S2.out, S1.out]
            clear g3
            go_upto_region 20 with (fail)
            go_quiet ((go_at_call 128; exact Calls.quiet_of_same (bits_rot ya 5 (by decide) (by decide) _)))
            go_wp2_with fail
            refine (bits_rot yb 30 (by decide) (by decide) _).mono ?_; rintro e w' ⟨rfl, rfl⟩
            go_wp2_with fail
            go_roundw
            case rel => exact ⟨k + 1, s4, ya, rl 30 yb, yc, yd, by omega, by go_num, rfl, rfl, rfl, rfl, rfl, sha1_next HS.out HQ.out HXK.out HF.out HS4.out, drew_more HW.out _⟩
            case measure => simp [intOf]; omega
          · obtain ⟨t1, h1, H1⟩ := w_xor yb yc
            obtain ⟨f, h2, H2⟩ := w_xor t1 yd
            have HF : Hid (f = sha1F 3 yb yc yd) := by show _ = _; rw [H2.out, H1.out]; rfl
            obtain ⟨s1, g1, _, S1⟩ := w_ad (rl 5 ya) f
            obtain ⟨s2, g2, _, S2⟩ := w_ad s1 ye
            obtain ⟨s3, g3, _, S3⟩ := w_ad s2 (sha1K 3)
            have g3' : IntKind.u32.wrap (nv s2 + 3395469782) = nv s3 := g3
            obtain ⟨s4, g4, _, S4⟩ := w_ad s3 xk
            have HS4 : Hid (s4 = rl 5 ya + f + ye + sha1K 3 + xk) := by show _ = _; rw [S4.out, S3.out, S2.out, S1.out]
            clear g3
            go_upto_region 20 with (fail)
            go_quiet ((go_at_call 128; exact Calls.quiet_of_same (bits_rot ya 5 (by decide) (by decide) _)))
            go_wp2_with fail
            refine (bits_rot yb 30 (by decide) (by decide) _).mono ?_; rintro e w' ⟨rfl, rfl⟩
            go_wp2_with fail
            go_roundw
            case rel => exact ⟨k + 1, s4, ya, rl 30 yb, yc, yd, by omega, by go_num, rfl, rfl, rfl, rfl, rfl, sha1_next HS.out HQ.out HXK.out HF.out HS4.out, drew_more HW.out _⟩
            case measure => simp [intOf]; omega
        · obtain rfl : k = 80 := by omega
          have HH3 : Hid (Blk wr hb (kv :: vw a :: vw b :: vw c :: vw d :: vw e0 :: rest)) := by obtain ⟨n, hn⟩ := HW.out; rw [hn]; exact HH.out.drewN n
          have hcp : ∀ ty, (Builtin.copy_ #[77, 77] ty #[.slice (some ⟨hb, 1, none⟩) 8 8, .slice (some ⟨wr.heap.size, 0, none⟩) 5 5]).run Tryz.prog (wr.alloc (.cells #[.int .u32 (nv ya), .int .u32 (nv yb), .int .u32 (nv yc), .int .u32 (nv yd), .int .u32 (nv ye)] 76)) = .ok (.int .i64 (5 : Nat)) ((wr.alloc (.cells #[.int .u32 (nv ya), .int .u32 (nv yb), .int .u32 (nv yc), .int .u32 (nv yd), .int .u32 (nv ye)] 76)).setCells hb 1 [vw ya, vw yb, vw yc, vw yd, vw ye]) := fun ty =>
            run_copyB (pre := [kv]) (old := [vw a, vw b, vw c, vw d, vw e0]) (post := rest) (HH3.out.alloc _) ty Tryz.underlying77 (by kernel_rfl) rfl [vw ya, vw yb, vw yc, vw yd, vw ye] rfl rfl rfl (fun j v hj => by
              rw [add_at]
              exact (Blk.new wr [vw ya, vw yb, vw yc, vw yd, vw ye] 76).cell j v hj) (by intro v hv; simp [vw] at hv; rcases hv with rfl | rfl | rfl | rfl | rfl <;> rfl)
          go_wp2_with (refine wpList_copy_eq _ rfl _ _ 77 77 rfl _ _ rfl rfl hcp ?_)
          go_end0
          refine ⟨rfl, ?_, ?_⟩
          · rw [← HWS.out, ← HLS.out, HS.out]
            exact Blk.setN rest [vw ya, vw yb, vw yc, vw yd, vw ye] [vw a, vw b, vw c, vw d, vw e0] [kv] _ rfl (HH3.out.alloc _)
          · exact only_setCells _ _ _ _ (only_alloc (by obtain ⟨n, hn⟩ := HW.out; rw [hn]; exact only_drewN (only_below (World.grownBy.refl w _) HBel.out) n) _)
def shaCells (kv : Value) (s : S8) (rest : List Value) : List Value := kv :: vw s.a :: vw s.b :: vw s.c :: vw s.d :: vw s.e :: vw s.f :: vw s.g :: vw s.h :: rest
theorem quiet_two {f : FuncId} {args : Array Value} {w : World} {n m : Nat} {v : Value} (h : Calls Tryz.prog f args (w.drewN (n + m)) fun e w' => e = .returned v ∧ w' = w.drewN (n + m)) :
    Calls Tryz.prog f args (w.drewN (n + m)) fun e w'' => e = .returned v ∧ ∃ k, w'' = (w.drewN n).drewN k := h.mono fun _ _ ⟨he, hm⟩ => ⟨he, m, hm.trans (World.drewN_drewN _ _ _).symm⟩
theorem quiet_two' {f : FuncId} {args : Array Value} {w : World} {n m : Nat} {v : Value} (h : Calls Tryz.prog f args (w.drewN (n + m)) fun e w' => e = .returned v ∧ w' = w.drewN (n + m)) :
    Calls Tryz.prog f args (w.drewN (n + m)) fun e w'' => e = .returned v ∧ ∃ k, w'' = w.drewN (n + k) := h.mono fun _ _ ⟨he, hm⟩ => ⟨he, m, hm⟩
theorem w_shr (x : B32) (k : Nat) : ∃ z, nv x / 2 ^ k = nv z ∧ Hid (z = x >>> k) := ⟨_, nv_shr x k, rfl⟩
theorem hash_sha256 (hb : Nat) (x0 x1 x2 x3 x4 x5 x6 x7 x8 x9 x10 x11 x12 x13 x14 x15 a b c d e0 f0 g0 h0 : B32) (kv : Value) (rest : List Value) (w : World) (hG : GlT w)
    (hB : Blk w hb (kv :: vw a :: vw b :: vw c :: vw d :: vw e0 :: vw f0 :: vw g0 :: vw h0 :: rest)) :
    Calls Tryz.prog 90 #[.pointer (some ⟨hb, 0, none⟩), .agg #[vw x0, vw x1, vw x2, vw x3, vw x4, vw x5, vw x6, vw x7, vw x8, vw x9, vw x10, vw x11, vw x12, vw x13, vw x14, vw x15]] w fun e w' => e = .returned (.tuple #[]) ∧
      Blk w' hb (shaCells kv (shaRun (shaW [x0, x1, x2, x3, x4, x5, x6, x7, x8, x9, x10, x11, x12, x13, x14, x15] 48) ⟨a, b, c, d, e0, f0, g0, h0⟩ 64) rest) ∧ w.grownBy w' (some hb) := by
  obtain ⟨ws, hws⟩ : ∃ ws, ws = [x0, x1, x2, x3, x4, x5, x6, x7, x8, x9, x10, x11, x12, x13, x14, x15] := ⟨_, rfl⟩
  have hwl : ws.length = 16 := by rw [hws]; rfl
  obtain ⟨W1, hW1⟩ : ∃ W1, w.alloc (.cells #[vw x0, vw x1, vw x2, vw x3, vw x4, vw x5, vw x6, vw x7, vw x8, vw x9, vw x10, vw x11, vw x12, vw x13, vw x14, vw x15] 147) = W1 := ⟨_, rfl⟩
  have L1 : Hid (Below w.heap.size w W1) := by show Below _ _ _; rw [← hW1]; exact (Below.refl _ _).alloc (Nat.le_refl _) _
  have X1 : Hid (Blk W1 w.heap.size (ws.map vw)) := by show Blk _ _ _; rw [← hW1, hws]; exact Blk.new w _ _
  have S1 : W1.heap.size = w.heap.size + 1 := by rw [← hW1]; simp
  have HBL : Hid (hb < w.heap.size) := hB.sz
  have HB := Lib.hid (hB.below L1.out)
  have HG := Lib.hid hG
  have HWS := Lib.hid hws
  have HWL := Lib.hid hwl
  clear hB hws hwl hG
  unfold vw at hW1 ⊢
  go_enter Tryz.func90, Tryz.ntmps90
  go_wp2_with fail
  clear hW1
  obtain ⟨W2, hcp, HB2, X2, L2⟩ := sha_start (Z := (List.replicate 64 (Value.int .u32 0)).toArray) (T := 118) (N := 64) (by kernel_rfl) (by decide) L1.out S1 HWL.out X1.out HB.out HBL.out
  clear S1
  go_region_law (refine step_copy_eq rfl (.tmp 20) (.tmp 21) 77 77 rfl _ _ rfl rfl hcp ?_)
  clear hcp
  go_wp2_with fail
  go_loopw [5] (fun i wr => ∃ (k : Nat) (l : List B32), 16 ≤ k ∧ k ≤ 64 ∧ i = .int .i64 k ∧ Hid (l.length = k ∧ ∃ n, k = 16 + n ∧ l = shaW ws n) ∧ Hid (Blk wr (w.heap.size + 1) (padC 64 l)) ∧ Hid (Blk wr hb (kv :: vw a :: vw b :: vw c :: vw d :: vw e0 :: vw f0 :: vw g0 :: vw h0 :: rest)) ∧ Hid (Below w.heap.size w wr)) (fun i _ => 64 - (intOf i).toNat)
  case atStart => exact ⟨16, ws, by omega, by omega, rfl, ⟨HWL.out, 0, rfl, rfl⟩, X2, HB2, L2⟩
  case round =>
    obtain ⟨k, l, hk16, hk, rfl, HL, HX, HH, HBel⟩ := hrel
    by_cases hlt : k < 64
    · obtain ⟨m15, e15, i15, n15, ne15, nf15, z15, hz15, c15⟩ := sched_at HX.out HL.out.1 15 15 64 rfl rfl (by omega) (by omega) hk (by omega)
      obtain ⟨m2, e2, i2, n2, ne2, nf2, z2, hz2, c2⟩ := sched_at HX.out HL.out.1 2 2 64 rfl rfl (by omega) (by omega) hk (by omega)
      obtain ⟨m7, e7, i7, n7, ne7, nf7, z7, hz7, c7⟩ := sched_at HX.out HL.out.1 7 7 64 rfl rfl (by omega) (by omega) hk (by omega)
      obtain ⟨m16, e16, i16, n16, ne16, nf16, z16, hz16, c16⟩ := sched_at HX.out HL.out.1 16 16 64 rfl rfl (by omega) (by omega) hk (by omega)
      have hki : (k : Int) < 64 := by omega
      have ck := HX.out.cell k _ (by have := padC_end (n := 64) (l := l) (by rw [HL.out.1]; exact hlt); rwa [HL.out.1] at this)
      have fk := HX.out.free k (by rw [padC_len (by rw [HL.out.1]; omega)]; exact hlt)
      obtain ⟨a1, h1, H1⟩ := w_xor (rr 7 z15) (rr 18 z15)
      obtain ⟨a2, h2, H2⟩ := w_shr z15 3
      obtain ⟨a3, h3, H3⟩ := w_xor a1 a2
      obtain ⟨b1, h4, H4⟩ := w_xor (rr 17 z2) (rr 19 z2)
      obtain ⟨b2, h5, H5⟩ := w_shr z2 10
      obtain ⟨b3, h6, H6⟩ := w_xor b1 b2
      obtain ⟨s1, g1, _, S1⟩ := w_ad z16 a3
      obtain ⟨s2, g2, _, S2⟩ := w_ad s1 z7
      obtain ⟨s3, g3, _, S3⟩ := w_ad s2 b3
      have h2' : nv z15 / 8 = nv a2 := by simpa using h2
      have h5' : nv z2 / 1024 = nv b2 := by simpa using h5
      have HT : Hid (s3 = shaX l k) := by show _ = _; unfold shaX shaS0 shaS1; rw [S3.out, S2.out, S1.out, H6.out, H5.out, H4.out, H3.out, H2.out, H1.out, hz15.out, hz2.out, hz7.out, hz16.out]
      have HX2 : Hid (∀ n, Blk ((wr.drewN n).setCell ⟨w.heap.size + 1, k, none⟩ (vw s3)) (w.heap.size + 1) (padC 64 (l ++ [s3]))) := by
        show ∀ _, _
        intro n
        have := (HX.out.drewN n).set k (by rw [padC_len (by rw [HL.out.1]; omega)]; exact hlt) (vw s3)
        have e := padC_set (n := 64) (l := l) (by rw [HL.out.1]; exact hlt) s3
        rw [HL.out.1] at e
        rw [e] at this
        exact this
      have HH2 : Hid (∀ n, Blk ((wr.drewN n).setCell ⟨w.heap.size + 1, k, none⟩ (vw s3)) hb (kv :: vw a :: vw b :: vw c :: vw d :: vw e0 :: vw f0 :: vw g0 :: vw h0 :: rest)) := fun n => (HH.out.drewN n).far (by have := HBL.out; omega) _
      have HB5 : Hid (∀ n, Below w.heap.size w ((wr.drewN n).setCell ⟨w.heap.size + 1, k, none⟩ (vw s3))) := fun n => below_set (below_drewN HBel.out n) (by omega) _
      have HN : Hid ((l ++ [s3]).length = k + 1 ∧ ∃ n, k + 1 = 16 + n ∧ l ++ [s3] = shaW ws n) := by
        obtain ⟨h1, n, h2, h3⟩ := HL.out
        refine ⟨by rw [List.length_append, h1]; rfl, n + 1, by omega, ?_⟩
        rw [shaW, ← h3, HT.out, h2]
      unfold vw at c15 c2 c7 c16 ck
      clear h2 h5
      go_wp2_with fail
      go_quiet (fail)
      go_wp2_with fail
      refine (digest_right z15 7 (by decide) (by decide) _).mono ?_; rintro e w' ⟨rfl, rfl⟩
      go_wp2_with fail
      refine (digest_right z15 18 (by decide) (by decide) _).mono ?_; rintro e w' ⟨rfl, rfl⟩
      go_wp2_with fail
      refine (digest_right z2 17 (by decide) (by decide) _).mono ?_; rintro e w' ⟨rfl, rfl⟩
      go_wp2_with fail
      refine (digest_right z2 19 (by decide) (by decide) _).mono ?_; rintro e w' ⟨rfl, rfl⟩
      go_wp2_with fail
      go_region_held3 (fun w' => w'.cell? ⟨w.heap.size + 1, m16, none⟩ = some (.int .u32 (nv z16)) ∧ w'.cell? ⟨w.heap.size + 1, m7, none⟩ = some (.int .u32 (nv z7)))
        (first | exact ⟨c16, c7⟩ | exact ⟨far_cell c16 ne16, far_cell c7 ne7⟩ | exact ⟨far_cell (wr := World.drewN wr _) c16 ne16, far_cell (wr := World.drewN wr _) c7 ne7⟩ | go_keep)
        (fail)
      all_goals go_wp2_with fail
      all_goals go_roundw
      case rel => exact ⟨k + 1, _, by omega, by omega, by go_num, HN, Lib.hid (HX2.out _), Lib.hid (HH2.out _), Lib.hid (HB5.out _)⟩
      case measure => simp [intOf]; omega
    · have HK8 : Hid (k = 64) := by show _ = _; omega
      obtain ⟨W3, hW3⟩ : ∃ W3, wr = W3 := ⟨_, rfl⟩
      have HLS : Hid (l = shaW ws 48) := by
        obtain ⟨_, n, h2, h3⟩ := HL.out
        have : n = 48 := by have := HK8.out; omega
        show _ = _
        rw [h3, this]
      have LL : Hid (l.length = 64) := HL.out.1.trans HK8.out
      have b1 := HH.out.cell 1 _ rfl
      have b2 := HH.out.cell 2 _ rfl
      have b3 := HH.out.cell 3 _ rfl
      have b4 := HH.out.cell 4 _ rfl
      have b5 := HH.out.cell 5 _ rfl
      have b6 := HH.out.cell 6 _ rfl
      have b7 := HH.out.cell 7 _ rfl
      have b8 := HH.out.cell 8 _ rfl
      unfold vw at b1 b2 b3 b4 b5 b6 b7 b8
      rw [hW3] at b1 b2 b3 b4 b5 b6 b7 b8 HX HH HBel ⊢
      clear hW3 HL X2 HB2 L2 HWL X1 HB
      go_wp2_with fail
      clear b1 b2 b3 b4 b5 b6 b7 b8
      have hS0 : w.heap.size + 1 < W3.heap.size := HX.out.sz
      go_loopw [70] (fun i wr => ∃ (k : Nat) (ya yb yc yd ye yf yg yh : B32), k ≤ 64 ∧ i = .int .i64 k ∧ Hid (shaRun l ⟨a, b, c, d, e0, f0, g0, h0⟩ k = ⟨ya, yb, yc, yd, ye, yf, yg, yh⟩) ∧ Hid (Blk wr W3.heap.size [vw ya, vw yb, vw yc, vw yd, vw ye, vw yf, vw yg, vw yh]) ∧ Hid (Blk wr (w.heap.size + 1) (padC 64 l)) ∧ Hid (Blk wr hb (kv :: vw a :: vw b :: vw c :: vw d :: vw e0 :: vw f0 :: vw g0 :: vw h0 :: rest)) ∧ Hid (Below w.heap.size w wr)) (fun i _ => 64 - (intOf i).toNat)
      case atStart => exact ⟨0, a, b, c, d, e0, f0, g0, h0, by omega, rfl, rfl, Blk.new W3 [vw a, vw b, vw c, vw d, vw e0, vw f0, vw g0, vw h0] _, HX.out.alloc _, HH.out.alloc _, HBel.out.alloc HBel.out.size _⟩
      case round =>
        obtain ⟨k, ya, yb, yc, yd, ye, yf, yg, yh, hk, rfl, HS, HV, HXr, HHr, HBr⟩ := hrel
        have c0 := HV.out.cell 0 _ rfl
        have c1 := HV.out.cell 1 _ rfl
        have c2 := HV.out.cell 2 _ rfl
        have c3 := HV.out.cell 3 _ rfl
        have c4 := HV.out.cell 4 _ rfl
        have c5 := HV.out.cell 5 _ rfl
        have c6 := HV.out.cell 6 _ rfl
        have c7 := HV.out.cell 7 _ rfl
        by_cases hlt : k < 64
        · obtain ⟨xk, hxk⟩ : ∃ t, l.getD k 0 = t := ⟨_, rfl⟩
          have xg := HXr.out.cell k _ (padC_get 64 (by rw [LL.out]; exact hlt))
          rw [hxk] at xg
          have tg := (HG.out.below HBr.out).ts k hlt
          obtain ⟨tk, htk⟩ : ∃ t, shaT k = t := ⟨_, rfl⟩
          rw [htk] at tg
          have hki : (k : Int) < 64 := by omega
          have fz0 := HV.out.free 0 (by simp)
          have fz1 := HV.out.free 1 (by simp)
          have fz2 := HV.out.free 2 (by simp)
          have fz3 := HV.out.free 3 (by simp)
          have fz4 := HV.out.free 4 (by simp)
          have fz5 := HV.out.free 5 (by simp)
          have fz6 := HV.out.free 6 (by simp)
          have fz7 := HV.out.free 7 (by simp)
          obtain ⟨p1, h1, H1⟩ := w_xor (rr 6 ye) (rr 11 ye)
          obtain ⟨p2, h2, H2⟩ := w_xor p1 (rr 25 ye)
          obtain ⟨p3, h3, _, H3⟩ := w_ad yh p2
          obtain ⟨p4, h4, H4⟩ := w_and ye yf
          obtain ⟨p5, h5, H5⟩ := w_not ye
          obtain ⟨p6, h6, H6⟩ := w_and p5 yg
          obtain ⟨p7, h7, H7⟩ := w_xor p4 p6
          obtain ⟨p8, h8, _, HA8⟩ := w_ad p3 p7
          obtain ⟨p9, h9, _, H9⟩ := w_ad p8 tk
          obtain ⟨t1, h10, _, H10⟩ := w_ad p9 xk
          have HT1 : Hid (t1 = sha1T1 l k ⟨ya, yb, yc, yd, ye, yf, yg, yh⟩) := by show _ = _; unfold sha1T1; rw [H10.out, H9.out, HA8.out, H7.out, H6.out, H5.out, H4.out, H3.out, H2.out, H1.out, hxk, htk]
          obtain ⟨q1, j1, J1⟩ := w_xor (rr 2 ya) (rr 13 ya)
          obtain ⟨q2, j2, J2⟩ := w_xor q1 (rr 22 ya)
          obtain ⟨q3, j3, J3⟩ := w_and ya yb
          obtain ⟨q4, j4, J4⟩ := w_and ya yc
          obtain ⟨q5, j5, J5⟩ := w_xor q3 q4
          obtain ⟨q6, j6, J6⟩ := w_and yb yc
          obtain ⟨q7, j7, J7⟩ := w_xor q5 q6
          obtain ⟨t2, _, j8, J8⟩ := w_ad q2 q7
          have HT2 : Hid (t2 = sha1T2 ⟨ya, yb, yc, yd, ye, yf, yg, yh⟩) := by show _ = _; unfold sha1T2; rw [J8.out, J7.out, J6.out, J5.out, J4.out, J3.out, J2.out, J1.out]
          obtain ⟨na, _, j9, J9⟩ := w_ad t1 t2
          obtain ⟨nE, _, j10, J10⟩ := w_ad yd t1
          have HN : Hid (shaRun l ⟨a, b, c, d, e0, f0, g0, h0⟩ (k + 1) = ⟨na, ya, yb, yc, nE, ye, yf, yg⟩) := by show _ = _; rw [shaRun, HS.out, shaStep, J9.out, J10.out, HT1.out, HT2.out]
          have HVN : Hid (∀ n, Blk ((wr.drewN n).setCells W3.heap.size 0 [vw na, vw ya, vw yb, vw yc, vw nE, vw ye, vw yf, vw yg]) W3.heap.size [vw na, vw ya, vw yb, vw yc, vw nE, vw ye, vw yf, vw yg]) := fun n => by
            have := Blk.setN [] [vw na, vw ya, vw yb, vw yc, vw nE, vw ye, vw yf, vw yg] [vw ya, vw yb, vw yc, vw yd, vw ye, vw yf, vw yg, vw yh] [] (wr.drewN n) rfl (by simpa using HV.out.drewN n)
            simpa using this
          have HXN : Hid (∀ n, Blk ((wr.drewN n).setCells W3.heap.size 0 [vw na, vw ya, vw yb, vw yc, vw nE, vw ye, vw yf, vw yg]) (w.heap.size + 1) (padC 64 l)) := fun n => (HXr.out.drewN n).belowN (n := W3.heap.size) (below_setCells [vw na, vw ya, vw yb, vw yc, vw nE, vw ye, vw yf, vw yg] 0 (Below.refl _ _) (Nat.le_refl _)) hS0
          have HHN : Hid (∀ n, Blk ((wr.drewN n).setCells W3.heap.size 0 [vw na, vw ya, vw yb, vw yc, vw nE, vw ye, vw yf, vw yg]) hb (kv :: vw a :: vw b :: vw c :: vw d :: vw e0 :: vw f0 :: vw g0 :: vw h0 :: rest)) := fun n => (HHr.out.drewN n).belowN (n := W3.heap.size) (below_setCells [vw na, vw ya, vw yb, vw yc, vw nE, vw ye, vw yf, vw yg] 0 (Below.refl _ _) (Nat.le_refl _)) (by have := HBL.out; omega)
          have HBN : Hid (∀ n, Below w.heap.size w ((wr.drewN n).setCells W3.heap.size 0 [vw na, vw ya, vw yb, vw yc, vw nE, vw ye, vw yf, vw yg])) := fun n => below_setCells [vw na, vw ya, vw yb, vw yc, vw nE, vw ye, vw yf, vw yg] 0 (below_drewN HBr.out n) (by omega)
          unfold vw at xg c0 c1 c2 c3 c4 c5 c6 c7
          clear hxk htk
          go_upto_region 14 with (fail)
          go_quiet (fail)
          go_upto_region 15 with (fail)
          go_quiet (first
            | (go_at_call 129; exact quiet_two (digest_right ye 6 (by decide) (by decide) _))
            | (go_at_call 129; exact quiet_two' (digest_right ye 6 (by decide) (by decide) _))
            | (go_at_call 129; exact Calls.quiet_of_same (digest_right ye 6 (by decide) (by decide) _))
            | (go_at_call 129; exact quiet_two (digest_right ye 11 (by decide) (by decide) _))
            | (go_at_call 129; exact quiet_two' (digest_right ye 11 (by decide) (by decide) _))
            | (go_at_call 129; exact Calls.quiet_of_same (digest_right ye 11 (by decide) (by decide) _))
            | (go_at_call 129; exact quiet_two (digest_right ye 25 (by decide) (by decide) _))
            | (go_at_call 129; exact quiet_two' (digest_right ye 25 (by decide) (by decide) _))
            | (go_at_call 129; exact Calls.quiet_of_same (digest_right ye 25 (by decide) (by decide) _)))
          go_wp2_with fail
          refine (digest_right ya 2 (by decide) (by decide) _).mono ?_; rintro e w' ⟨rfl, rfl⟩
          go_wp2_with fail
          refine (digest_right ya 13 (by decide) (by decide) _).mono ?_; rintro e w' ⟨rfl, rfl⟩
          go_wp2_with fail
          refine (digest_right ya 22 (by decide) (by decide) _).mono ?_; rintro e w' ⟨rfl, rfl⟩
          go_wp2_with fail
          go_roundw
          case rel => exact ⟨k + 1, na, ya, yb, yc, nE, ye, yf, yg, by omega, by go_num, HN, Lib.hid (HVN.out _), Lib.hid (HXN.out _), Lib.hid (HHN.out _), Lib.hid (HBN.out _)⟩
          case measure => simp [intOf]; omega
        · have HK9 : Hid (k = 64) := by show _ = _; omega
          have d1 := HHr.out.cell 1 _ rfl
          have d2 := HHr.out.cell 2 _ rfl
          have d3 := HHr.out.cell 3 _ rfl
          have d4 := HHr.out.cell 4 _ rfl
          have d5 := HHr.out.cell 5 _ rfl
          have d6 := HHr.out.cell 6 _ rfl
          have d7 := HHr.out.cell 7 _ rfl
          have d8 := HHr.out.cell 8 _ rfl
          have fz1 := HHr.out.free 1 (by simp)
          have fz2 := HHr.out.free 2 (by simp)
          have fz3 := HHr.out.free 3 (by simp)
          have fz4 := HHr.out.free 4 (by simp)
          have fz5 := HHr.out.free 5 (by simp)
          have fz6 := HHr.out.free 6 (by simp)
          have fz7 := HHr.out.free 7 (by simp)
          have fz8 := HHr.out.free 8 (by simp)
          unfold vw at c0 c1 c2 c3 c4 c5 c6 c7 d1 d2 d3 d4 d5 d6 d7 d8
          go_wp2_with fail
          go_end0
          refine ⟨rfl, ?_, ?_⟩
          · rw [← HWS.out, ← HLS.out, ← HK9.out, HS.out]
            exact Blk.setN rest [vw ya, vw yb, vw yc, vw yd, vw ye, vw yf, vw yg, vw yh] [vw a, vw b, vw c, vw d, vw e0, vw f0, vw g0, vw h0] [kv] wr rfl HHr.out
          · exact only_setCells [vw ya, vw yb, vw yc, vw yd, vw ye, vw yf, vw yg, vw yh] 1 _ _ (only_below (World.grownBy.refl w _) HBr.out)
end
end Go.Proofs.YtlhchpeecfbgnaaGreatDoor
