/- A part of the proof that the digests of any content are the three of it, and that an installed set is new memory. No condition. -/
import Derived.Test.YtlhchpeecfbgnaaGreatDoorG33
set_option maxRecDepth 100000
set_option maxHeartbeats 20000000
set_option linter.unusedVariables false
set_option linter.unusedSimpArgs false
namespace Go.Proofs.YtlhchpeecfbgnaaGreatDoor
section
open Go.RowKit
theorem row_at {wr : World} {base g k co : Nat} {l : List B32} (h : wr.ownsRow base 76 1 (.slice (some ⟨g, 0, none⟩) k co) k (l.map vw)) (hl : l.length = k) (q : Nat) (qi : Int) (hqi : qi = q) (hq : 0 < q) (hq2 : q ≤ k) (hkM : k ≤ 1000) :
    ∃ m : Nat, (k : Int) - qi = (m : Int) ∧ IntKind.i64.wrap (m : Int) = (m : Int) ∧ (m : Int) < (k : Int) ∧ ∃ x, Hid (l.getD (k - q) 0 = x) ∧ Hid ((l.map vw)[m]? = some (vw x)) ∧ wr.cell? ⟨g, m, none⟩ = some (vw x) := by
  have e : (k : Int) - qi = ((k - q : Nat) : Int) := by omega
  have hm : (l.map vw)[k - q]? = some (vw (l.getD (k - q) 0)) := by
    rw [List.getElem?_map, List.getElem?_eq_getElem (by omega), List.getD_eq_getElem?_getD, List.getElem?_eq_getElem (by omega)]; rfl
  refine ⟨k - q, e, IntWalk.i64_in _ (by omega), by omega, _, rfl, hm, ?_⟩
  have hc := h.cells (g := g) rfl (k - q) (vw (l.getD (k - q) 0)) hm
  rw [add_at] at hc
  exact hc
theorem word_news (w : World) (v : Value) (t : TypeId) : ∀ j u, [v][j]? = some u → ((w.alloc (.cells #[v] t)).drew).cell? ((⟨w.heap.size, 0, none⟩ : Addr).add j) = some u := fun j u hu => by
  rw [add_at]
  exact (Blk.new w [v] t).cell j u hu
theorem r02_sha1 (base ba oa ca cb : Nat) (B : Option Addr) (a b c d e0 : B32) (ws : List B32) (w : World) (hl : ws.length = 16) (hbase : base ≤ w.heap.size) (hba : ba < base) (hs : Rd w 1 (some ⟨ba, oa, none⟩) 5 [vw a, vw b, vw c, vw d, vw e0]) (hw : w.ownsRow base 76 1 (.slice B 16 cb) 16 (ws.map vw)) :
    Calls Tryz.prog 31 #[.slice (some ⟨ba, oa, none⟩) 5 ca, .slice B 16 cb] w fun e w' => ∃ g, e = .returned (.slice (some ⟨g, 0, none⟩) 5 5) ∧ base ≤ g ∧
      (∀ s, sha1Run (sha1W ws 64) ⟨a, b, c, d, e0⟩ 80 = s → Rd w' 1 (some ⟨g, 0, none⟩) 5 [vw (a + s.a), vw (b + s.b), vw (c + s.c), vw (d + s.d), vw (e0 + s.e)]) ∧ Below base w w' := by
  obtain ⟨i0, hi0, hz0, hz1, hz2⟩ := info_parts info_w32
  obtain ⟨_, _, hA, hca⟩ := hs.2 (by decide)
  obtain ⟨rfl, rfl⟩ : ba = _ ∧ oa = _ := by injection hA with hA; injection hA with h1 h2; exact ⟨h1, h2⟩
  have HC : Hid (∀ j v, [vw a, vw b, vw c, vw d, vw e0][j]? = some v → w.cell? ⟨ba, oa + j, none⟩ = some v) := hca
  have HL := Lib.hid hl
  have HW := Lib.hid hw
  clear hs hw hA hca hl
  go_enter Tryz.func31, Tryz.ntmps31
  go_wp2_with fail
  go_loopw [5, 1] (fun i s1 wr => ∃ (k : Nat) (l : List B32) (Bo : Option Addr) (co : Nat), 16 ≤ k ∧ k ≤ 80 ∧ i = .int .i64 k ∧ s1 = .slice Bo k co ∧ Hid (l.length = k ∧ ∃ n, k = 16 + n ∧ l = sha1W ws n) ∧ Hid (wr.ownsRow base 76 1 (.slice Bo k co) k (l.map vw)) ∧ Hid (Below base w wr)) (fun i _ _ => 80 - (intOf i).toNat)
  case atStart => exact ⟨16, ws, B, cb, by omega, by omega, rfl, rfl, ⟨HL.out, 0, rfl, rfl⟩, HW, Below.refl _ _⟩
  case round =>
    obtain ⟨k, l, Bo, co, hk16, hk, rfl, rfl, HL2, HO, HB⟩ := hrel
    obtain ⟨g, cap, hv, hg, hg'⟩ := HO.out.form (by omega)
    obtain ⟨rfl, rfl⟩ : Bo = some ⟨g, 0, none⟩ ∧ co = cap := by injection hv with h1 _ h2; exact ⟨h1, h2⟩
    clear hv
    by_cases hlt : k < 80
    · obtain ⟨m3, e3, i3, n3, z3, hz3, y3, c3⟩ := row_at HO.out HL2.out.1 3 3 rfl (by omega) (by omega) (by omega)
      obtain ⟨m8, e8, i8, n8, z8, hz8, y8, c8⟩ := row_at HO.out HL2.out.1 8 8 rfl (by omega) (by omega) (by omega)
      obtain ⟨m14, e14, i14, n14, z14, hz14, y14, c14⟩ := row_at HO.out HL2.out.1 14 14 rfl (by omega) (by omega) (by omega)
      obtain ⟨m16, e16, i16, n16, z16, hz16, y16, c16⟩ := row_at HO.out HL2.out.1 16 16 rfl (by omega) (by omega) (by omega)
      obtain ⟨t1, h1, H1⟩ := w_xor z3 z8
      obtain ⟨t2, h2, H2⟩ := w_xor t1 z14
      obtain ⟨t3, h3, H3⟩ := w_xor t2 z16
      have HT : Hid (rl 1 t3 = sha1X l k) := by show _ = _; unfold sha1X; rw [H3.out, H2.out, H1.out, hz3.out, hz8.out, hz14.out, hz16.out]
      have hwz : base ≤ wr.heap.size := Nat.le_trans hbase HB.out.size
      have hgl : g < wr.heap.size := hg'
      unfold vw at c3 c8 c14 c16
      go_wp2_with fail
      go_region_held3 (fun w' => w'.cell? ⟨g, m3, none⟩ = some (.int .u32 (nv z3)) ∧ w'.cell? ⟨g, m8, none⟩ = some (.int .u32 (nv z8)) ∧ w'.cell? ⟨g, m14, none⟩ = some (.int .u32 (nv z14)) ∧ w'.cell? ⟨g, m16, none⟩ = some (.int .u32 (nv z16)))
        (first | exact ⟨c3, c8, c14, c16⟩ | exact ⟨(World.cell?_alloc_lt _ _ _ hgl).trans c3, (World.cell?_alloc_lt _ _ _ hgl).trans c8, (World.cell?_alloc_lt _ _ _ hgl).trans c14, (World.cell?_alloc_lt _ _ _ hgl).trans c16⟩ | exact ⟨hk1 _ _ y3.out, hk1 _ _ y8.out, hk1 _ _ y14.out, hk1 _ _ y16.out⟩ | go_keep)
        (first
          | (go_at_call 60; refine (r02_left t3 1 (by decide) (by decide) _).mono ?_; rintro e w' ⟨rfl, rfl⟩)
          | (refine step_append_kept _ (by rfl) _ _ _ (by rfl) base 76 i0 _ 1 4 Tryz.underlying77 hi0 hz0 hz1 hz2 rfl (by omega) g k co _ (by omega) (by rfl) ((HO.out.alloc _).drew) ⟨wr.heap.size, 0, none⟩ 1 1 _ (by rfl) rfl (word_news wr _ _) (by simp [Value.oneCell']) (by first | (simp only [maxLen]; omega) | (unfold maxLen; omega)) (by omega) (by first | omega | (simp; done) | (simp; omega)) ?_
             intro v1 w6 hown1 hg1 hk1))
      all_goals
        obtain ⟨A1, c1, rfl⟩ := owns_form hown1
        have O6 : Hid (w6.ownsRow base 76 1 (.slice A1 (k + 1) c1) (k + 1) ((l ++ [rl 1 t3]).map vw)) := by
          show World.ownsRow _ _ _ _ _ _ _
          rw [List.map_append]
          exact hown1
        have L6 : Hid (Below base w w6) := (below_drewN (HB.out.alloc hwz _) 1).grown hg1 (Nat.le_trans hwz (by simp)) (fun p hp => by injection hp with hp; omega)
        have HN : Hid ((l ++ [rl 1 t3]).length = k + 1 ∧ ∃ n, k + 1 = 16 + n ∧ l ++ [rl 1 t3] = sha1W ws n) := by
          obtain ⟨h1, n, h2, h3⟩ := HL2.out
          refine ⟨by rw [List.length_append, h1]; rfl, n + 1, by omega, ?_⟩
          rw [sha1W, ← h3, HT.out, h2]
        clear hown1 hg1 hk1
        go_wp2_with fail
        go_roundw
        case rel => exact ⟨k + 1, _, A1, c1, by omega, by omega, by go_num, rfl, HN, O6, L6⟩
        case measure => simp [intOf]; omega
    · have HK8 : Hid (k = 80) := by show _ = _; omega
      obtain ⟨W3, hW3⟩ : ∃ W3, wr = W3 := ⟨_, rfl⟩
      have HLS : Hid (l = sha1W ws 64) := by
        obtain ⟨_, n, h2, h3⟩ := HL2.out
        have : n = 64 := by have := HK8.out; omega
        show _ = _
        rw [h3, this]
      have key : ∀ j v, [vw a, vw b, vw c, vw d, vw e0][j]? = some v → W3.cell? ⟨ba, oa + j, none⟩ = some v := fun j v hj => by rw [← hW3]; exact (HB.out.cell (p := ⟨ba, oa + j, none⟩) hba).trans (HC.out j v hj)
      have r0 := key 0 _ rfl
      have r1 := key 1 _ rfl
      have r2 := key 2 _ rfl
      have r3 := key 3 _ rfl
      have r4 := key 4 _ rfl
      simp only [Nat.add_zero] at r0
      have HKEY := Lib.hid key
      have HX : Hid (∀ j, j < 80 → W3.cell? ⟨g, j, none⟩ = some (vw (l.getD j 0))) := by
        show ∀ _, _
        intro j hj
        have hll : l.length = 80 := HL2.out.1.trans HK8.out
        have hc := HO.out.cells (g := g) rfl j (vw (l.getD j 0)) (by
          rw [List.getElem?_map, List.getElem?_eq_getElem (by omega), List.getD_eq_getElem?_getD, List.getElem?_eq_getElem (by omega)]; rfl)
        rw [add_at, hW3] at hc
        exact hc
      have hk80 : 80 ≤ k := by omega
      rw [hW3] at HB ⊢
      unfold vw at r0 r1 r2 r3 r4
      clear hW3 HL2 HO key HW
      go_wp2_with fail
      go_quiet (fail)
      go_wp2_with fail
      clear r0 r1 r2 r3 r4
      go_loopw [11, 6, 7, 8, 9, 10] (fun i sa sb sc sd se wr => ∃ (k : Nat) (ya yb yc yd ye : B32), k ≤ 80 ∧ i = .int .i64 k ∧ sa = .int .u32 (nv ya) ∧ sb = .int .u32 (nv yb) ∧ sc = .int .u32 (nv yc) ∧ sd = .int .u32 (nv yd) ∧ se = .int .u32 (nv ye) ∧ Hid (sha1Run l ⟨a, b, c, d, e0⟩ k = ⟨ya, yb, yc, yd, ye⟩) ∧ Hid (∃ n, wr = W3.drewN n)) (fun i _ _ _ _ _ _ => 80 - (intOf i).toNat)
      case atStart => exact ⟨0, a, b, c, d, e0, by omega, rfl, rfl, rfl, rfl, rfl, rfl, rfl, _, rfl⟩
      case round =>
        obtain ⟨kk, ya, yb, yc, yd, ye, hkk, rfl, rfl, rfl, rfl, rfl, rfl, HS, HW2⟩ := hrel
        by_cases hlt : kk < 80
        · obtain ⟨xk, hxk⟩ : ∃ t, l.getD kk 0 = t := ⟨_, rfl⟩
          have xg : wr.cell? ⟨g, kk, none⟩ = some (vw xk) := by obtain ⟨n, hn⟩ := HW2.out; rw [hn, ← hxk]; exact HX.out kk hlt
          unfold vw at xg
          have hgk : (kk : Int) < (k : Int) := by omega
          obtain ⟨q, hq⟩ : ∃ q, kk / 20 = q := ⟨_, rfl⟩
          have HQ := Lib.hid hq; have HXK := Lib.hid hxk
          have hq20 : 20 * q ≤ kk ∧ kk < 20 * q + 20 := by omega
          have hq4 : q < 4 := by omega
          clear hq hxk
          rcases (show q = 0 ∨ q = 1 ∨ q = 2 ∨ q = 3 by omega) with rfl | rfl | rfl | rfl
          · have l1 : (kk : Int) < 20 := by omega
            obtain ⟨t1, h1, H1⟩ := w_and yb yc
            obtain ⟨t2, h2, H2⟩ := w_not yb
            obtain ⟨t3, h3, H3⟩ := w_and t2 yd
            obtain ⟨f, h4, H4⟩ := w_or t1 t3
            have HF : Hid (f = sha1F 0 yb yc yd) := by show _ = _; rw [H4.out, H3.out, H2.out, H1.out]; rfl
            obtain ⟨s1, g1, _, S1⟩ := w_ad (rl 5 ya) f
            obtain ⟨s2, g2, _, S2⟩ := w_ad s1 ye
            obtain ⟨s3, g3, _, S3⟩ := w_ad s2 (sha1K 0)
            have g3' : IntKind.u32.wrap (nv s2 + 1518500249) = nv s3 := g3
            obtain ⟨s4, g4, _, S4⟩ := w_ad s3 xk
            have HS4 : Hid (s4 = rl 5 ya + f + ye + sha1K 0 + xk) := by show _ = _; rw [S4.out, S3.out, S2.out, S1.out]
            clear g3
            go_upto_region 19 with (fail)
            go_quiet (first
              | (go_at_call 60; exact quiet_two (r02_left ya 5 (by decide) (by decide) _))
              | (go_at_call 60; exact quiet_two' (r02_left ya 5 (by decide) (by decide) _))
              | (go_at_call 60; exact Calls.quiet_of_same (r02_left ya 5 (by decide) (by decide) _)))
            go_wp2_with fail
            refine (r02_left yb 30 (by decide) (by decide) _).mono ?_; rintro e w' ⟨rfl, rfl⟩
            go_wp2_with fail
            go_roundw
            case rel => exact ⟨kk + 1, s4, ya, rl 30 yb, yc, yd, by omega, by go_num, rfl, rfl, rfl, rfl, rfl, sha1_next HS.out HQ.out HXK.out HF.out HS4.out, drew_more HW2.out _⟩
            case measure => simp [intOf]; omega
          · have l1 : decide ((kk : Int) < 20) = false := decide_eq_false (by omega)
            have l2 : (kk : Int) < 40 := by omega
            obtain ⟨t1, h1, H1⟩ := w_xor yb yc
            obtain ⟨f, h2, H2⟩ := w_xor t1 yd
            have HF : Hid (f = sha1F 1 yb yc yd) := by show _ = _; rw [H2.out, H1.out]; rfl
            obtain ⟨s1, g1, _, S1⟩ := w_ad (rl 5 ya) f
            obtain ⟨s2, g2, _, S2⟩ := w_ad s1 ye
            obtain ⟨s3, g3, _, S3⟩ := w_ad s2 (sha1K 1)
            have g3' : IntKind.u32.wrap (nv s2 + 1859775393) = nv s3 := g3
            obtain ⟨s4, g4, _, S4⟩ := w_ad s3 xk
            have HS4 : Hid (s4 = rl 5 ya + f + ye + sha1K 1 + xk) := by show _ = _; rw [S4.out, S3.out, S2.out, S1.out]
            clear g3
            go_upto_region 19 with (fail)
            go_quiet (first
              | (go_at_call 60; exact quiet_two (r02_left ya 5 (by decide) (by decide) _))
              | (go_at_call 60; exact quiet_two' (r02_left ya 5 (by decide) (by decide) _))
              | (go_at_call 60; exact Calls.quiet_of_same (r02_left ya 5 (by decide) (by decide) _)))
            go_wp2_with fail
            refine (r02_left yb 30 (by decide) (by decide) _).mono ?_; rintro e w' ⟨rfl, rfl⟩
            go_wp2_with fail
            go_roundw
            case rel => exact ⟨kk + 1, s4, ya, rl 30 yb, yc, yd, by omega, by go_num, rfl, rfl, rfl, rfl, rfl, sha1_next HS.out HQ.out HXK.out HF.out HS4.out, drew_more HW2.out _⟩
            case measure => simp [intOf]; omega
          · have l1 : decide ((kk : Int) < 20) = false := decide_eq_false (by omega)
            have l2 : decide ((kk : Int) < 40) = false := decide_eq_false (by omega)
            have l3 : (kk : Int) < 60 := by omega
            obtain ⟨t1, h1, H1⟩ := w_and yb yc
            obtain ⟨t2, h2, H2⟩ := w_and yb yd
            obtain ⟨t3, h3, H3⟩ := w_or t1 t2
            obtain ⟨t4, h4, H4⟩ := w_and yc yd
            obtain ⟨f, h5, H5⟩ := w_or t3 t4
            have HF : Hid (f = sha1F 2 yb yc yd) := by show _ = _; rw [H5.out, H4.out, H3.out, H2.out, H1.out]; rfl
            obtain ⟨s1, g1, _, S1⟩ := w_ad (rl 5 ya) f
            obtain ⟨s2, g2, _, S2⟩ := w_ad s1 ye
            obtain ⟨s3, g3, _, S3⟩ := w_ad s2 (sha1K 2)
            have g3' : IntKind.u32.wrap (nv s2 + 2400959708) = nv s3 := g3
            obtain ⟨s4, g4, _, S4⟩ := w_ad s3 xk
            have HS4 : Hid (s4 = rl 5 ya + f + ye + sha1K 2 + xk) := by show _ = _; rw [S4.out, S3.out, S2.out, S1.out]
            clear g3
            go_upto_region 19 with (fail)
            go_quiet (first
              | (go_at_call 60; exact quiet_two (r02_left ya 5 (by decide) (by decide) _))
              | (go_at_call 60; exact quiet_two' (r02_left ya 5 (by decide) (by decide) _))
              | (go_at_call 60; exact Calls.quiet_of_same (r02_left ya 5 (by decide) (by decide) _)))
            go_wp2_with fail
            refine (r02_left yb 30 (by decide) (by decide) _).mono ?_; rintro e w' ⟨rfl, rfl⟩
            go_wp2_with fail
            go_roundw
            case rel => exact ⟨kk + 1, s4, ya, rl 30 yb, yc, yd, by omega, by go_num, rfl, rfl, rfl, rfl, rfl, sha1_next HS.out HQ.out HXK.out HF.out HS4.out, drew_more HW2.out _⟩
            case measure => simp [intOf]; omega
          · have l1 : decide ((kk : Int) < 20) = false := decide_eq_false (by omega)
            have l2 : decide ((kk : Int) < 40) = false := decide_eq_false (by omega)
            have l3 : decide ((kk : Int) < 60) = false := decide_eq_false (by omega)
            obtain ⟨t1, h1, H1⟩ := w_xor yb yc
            obtain ⟨f, h2, H2⟩ := w_xor t1 yd
            have HF : Hid (f = sha1F 3 yb yc yd) := by show _ = _; rw [H2.out, H1.out]; rfl
            obtain ⟨s1, g1, _, S1⟩ := w_ad (rl 5 ya) f
            obtain ⟨s2, g2, _, S2⟩ := w_ad s1 ye
            obtain ⟨s3, g3, _, S3⟩ := w_ad s2 (sha1K 3)
            have g3' : IntKind.u32.wrap (nv s2 + 3395469782) = nv s3 := g3
            obtain ⟨s4, g4, _, S4⟩ := w_ad s3 xk
            have HS4 : Hid (s4 = rl 5 ya + f + ye + sha1K 3 + xk) := by show _ = _; rw [S4.out, S3.out, S2.out, S1.out]
            clear g3
            go_upto_region 19 with (fail)
            go_quiet (first
              | (go_at_call 60; exact quiet_two (r02_left ya 5 (by decide) (by decide) _))
              | (go_at_call 60; exact quiet_two' (r02_left ya 5 (by decide) (by decide) _))
              | (go_at_call 60; exact Calls.quiet_of_same (r02_left ya 5 (by decide) (by decide) _)))
            go_wp2_with fail
            refine (r02_left yb 30 (by decide) (by decide) _).mono ?_; rintro e w' ⟨rfl, rfl⟩
            go_wp2_with fail
            go_roundw
            case rel => exact ⟨kk + 1, s4, ya, rl 30 yb, yc, yd, by omega, by go_num, rfl, rfl, rfl, rfl, rfl, sha1_next HS.out HQ.out HXK.out HF.out HS4.out, drew_more HW2.out _⟩
            case measure => simp [intOf]; omega
        · obtain rfl : kk = 80 := by omega
          obtain ⟨n2, hn2⟩ := HW2.out
          have HB2 : Hid (Below base w wr) := by show Below _ _ _; rw [hn2]; exact below_drewN HB.out n2
          have hwz : base ≤ wr.heap.size := Nat.le_trans hbase HB2.out.size
          have k2 : ∀ j v, [vw a, vw b, vw c, vw d, vw e0][j]? = some v → wr.cell? ⟨ba, oa + j, none⟩ = some v := fun j v hj => by rw [hn2]; exact HKEY.out j v hj
          have r0 := k2 0 _ rfl
          have r1 := k2 1 _ rfl
          have r2 := k2 2 _ rfl
          have r3 := k2 3 _ rfl
          have r4 := k2 4 _ rfl
          simp only [Nat.add_zero] at r0
          obtain ⟨z0, h0, _, Z0⟩ := w_ad a ya
          obtain ⟨z1, h1, _, Z1⟩ := w_ad b yb
          obtain ⟨z2, h2, _, Z2⟩ := w_ad c yc
          obtain ⟨z3, h3, _, Z3⟩ := w_ad d yd
          obtain ⟨z4, h4, _, Z4⟩ := w_ad e0 ye
          have RD : Hid (Rd ((wr.alloc (.cells #[vw z0, vw z1, vw z2, vw z3, vw z4] 76)).drew) 1 (some ⟨wr.heap.size, 0, none⟩) 5 [vw z0, vw z1, vw z2, vw z3, vw z4]) := ⟨rfl, fun _ => ⟨_, 0, rfl, fun j u hu => by rw [Nat.zero_add]; exact (Blk.new wr [vw z0, vw z1, vw z2, vw z3, vw z4] 76).cell j u hu⟩⟩
          have BN : Hid (Below base w ((wr.alloc (.cells #[vw z0, vw z1, vw z2, vw z3, vw z4] 76)).drew)) := below_drewN (HB2.out.alloc hwz _) 1
          have HE : Hid (∀ s, sha1Run (sha1W ws 64) ⟨a, b, c, d, e0⟩ 80 = s → [vw z0, vw z1, vw z2, vw z3, vw z4] = [vw (a + s.a), vw (b + s.b), vw (c + s.c), vw (d + s.d), vw (e0 + s.e)]) := by
            show ∀ _, _
            intro s hs
            have := HS.out
            rw [HLS.out, hs] at this
            rw [this, Z0.out, Z1.out, Z2.out, Z3.out, Z4.out]
          unfold vw at r0 r1 r2 r3 r4
          clear k2 hn2
          go_wp2_with fail
          go_region
          all_goals
            go_wp2_with fail
            go_ret
            exact ⟨_, rfl, hwz, fun s hs => HE.out s hs ▸ RD.out, BN.out⟩
theorem sha_next {ls : List B32} {s0 : S8} {k : Nat} {ya yb yc yd ye yf yg yh t1 t2 na nE : B32} (h : shaRun ls s0 k = ⟨ya, yb, yc, yd, ye, yf, yg, yh⟩) (h1 : t1 = sha1T1 ls k ⟨ya, yb, yc, yd, ye, yf, yg, yh⟩) (h2 : t2 = sha1T2 ⟨ya, yb, yc, yd, ye, yf, yg, yh⟩) (h3 : na = t1 + t2) (h4 : nE = yd + t1) :
    shaRun ls s0 (k + 1) = ⟨na, ya, yb, yc, nE, ye, yf, yg⟩ := by rw [shaRun, h, shaStep, h3, h4, h1, h2]
theorem r02_sha256 (base ba oa ca cb : Nat) (B : Option Addr) (a b c d e0 f0 g0 h0 : B32) (ws : List B32) (w : World) (hl : ws.length = 16) (hbase : base ≤ w.heap.size) (hgb : ∀ w', Below base w w' → GlT w') (hba : ba < base) (hs : Rd w 1 (some ⟨ba, oa, none⟩) 8 [vw a, vw b, vw c, vw d, vw e0, vw f0, vw g0, vw h0]) (hw : w.ownsRow base 76 1 (.slice B 16 cb) 16 (ws.map vw)) :
    Calls Tryz.prog 32 #[.slice (some ⟨ba, oa, none⟩) 8 ca, .slice B 16 cb] w fun e w' => ∃ g, e = .returned (.slice (some ⟨g, 0, none⟩) 8 8) ∧ base ≤ g ∧
      (∀ s, shaRun (shaW ws 48) ⟨a, b, c, d, e0, f0, g0, h0⟩ 64 = s → Rd w' 1 (some ⟨g, 0, none⟩) 8 [vw (a + s.a), vw (b + s.b), vw (c + s.c), vw (d + s.d), vw (e0 + s.e), vw (f0 + s.f), vw (g0 + s.g), vw (h0 + s.h)]) ∧ Below base w w' := by
  obtain ⟨i0, hi0, jz0, jz1, jz2⟩ := info_parts info_w32
  obtain ⟨_, _, hA, hca⟩ := hs.2 (by decide)
  obtain ⟨rfl, rfl⟩ : ba = _ ∧ oa = _ := by injection hA with hA; injection hA with h1 h2; exact ⟨h1, h2⟩
  have HC : Hid (∀ j v, [vw a, vw b, vw c, vw d, vw e0, vw f0, vw g0, vw h0][j]? = some v → w.cell? ⟨ba, oa + j, none⟩ = some v) := hca
  have HL := Lib.hid hl
  have HW := Lib.hid hw
  have HGB := Lib.hid hgb
  clear hs hw hA hca hl hgb
  go_enter Tryz.func32, Tryz.ntmps32
  go_wp2_with fail
  go_loopw [5, 1] (fun i s1 wr => ∃ (k : Nat) (l : List B32) (Bo : Option Addr) (co : Nat), 16 ≤ k ∧ k ≤ 64 ∧ i = .int .i64 k ∧ s1 = .slice Bo k co ∧ Hid (l.length = k ∧ ∃ n, k = 16 + n ∧ l = shaW ws n) ∧ Hid (wr.ownsRow base 76 1 (.slice Bo k co) k (l.map vw)) ∧ Hid (Below base w wr)) (fun i _ _ => 64 - (intOf i).toNat)
  case atStart => exact ⟨16, ws, B, cb, by omega, by omega, rfl, rfl, ⟨HL.out, 0, rfl, rfl⟩, HW, Below.refl _ _⟩
  case round =>
    obtain ⟨k, l, Bo, co, hk16, hk, rfl, rfl, HL2, HO, HB⟩ := hrel
    obtain ⟨g, cap, hv, hg, hg'⟩ := HO.out.form (by omega)
    obtain ⟨rfl, rfl⟩ : Bo = some ⟨g, 0, none⟩ ∧ co = cap := by injection hv with h1 _ h2; exact ⟨h1, h2⟩
    clear hv
    by_cases hlt : k < 64
    · obtain ⟨m15, e15, i15, n15, z15, hz15, y15, c15⟩ := row_at HO.out HL2.out.1 15 15 rfl (by omega) (by omega) (by omega)
      obtain ⟨m2, e2, i2, n2, z2, hz2, y2, c2⟩ := row_at HO.out HL2.out.1 2 2 rfl (by omega) (by omega) (by omega)
      obtain ⟨m7, e7, i7, n7, z7, hz7, y7, c7⟩ := row_at HO.out HL2.out.1 7 7 rfl (by omega) (by omega) (by omega)
      obtain ⟨m16, e16, i16, n16, z16, hz16, y16, c16⟩ := row_at HO.out HL2.out.1 16 16 rfl (by omega) (by omega) (by omega)
      obtain ⟨a1, h1, H1⟩ := w_xor (rr 7 z15) (rr 18 z15)
      obtain ⟨a2, h2, H2⟩ := w_shr z15 3
      obtain ⟨a3, h3, H3⟩ := w_xor a1 a2
      obtain ⟨b1, h4, H4⟩ := w_xor (rr 17 z2) (rr 19 z2)
      obtain ⟨b2, h5, H5⟩ := w_shr z2 10
      obtain ⟨b3, h6, H6⟩ := w_xor b1 b2
      obtain ⟨s1, g1, _, S1⟩ := w_ad z16 a3
      obtain ⟨s2, g2, _, S2⟩ := w_ad s1 z7
      obtain ⟨s3, g3, _, S3⟩ := w_ad s2 b3
      have h2' : nv z15 / 8 = nv a2 := by simpa using h2
      have h5' : nv z2 / 1024 = nv b2 := by simpa using h5
      have HT : Hid (s3 = shaX l k) := by show _ = _; unfold shaX shaS0 shaS1; rw [S3.out, S2.out, S1.out, H6.out, H5.out, H4.out, H3.out, H2.out, H1.out, hz15.out, hz2.out, hz7.out, hz16.out]
      unfold vw at c15 c2 c7 c16
      clear h2 h5
      go_wp2_with fail
      go_quiet (first
        | (go_at_call 62; exact quiet_two (r02_right z15 7 (by decide) (by decide) _))
        | (go_at_call 62; exact quiet_two' (r02_right z15 7 (by decide) (by decide) _))
        | (go_at_call 62; exact Calls.quiet_of_same (r02_right z15 7 (by decide) (by decide) _))
        | (go_at_call 62; exact quiet_two (r02_right z15 18 (by decide) (by decide) _))
        | (go_at_call 62; exact quiet_two' (r02_right z15 18 (by decide) (by decide) _))
        | (go_at_call 62; exact Calls.quiet_of_same (r02_right z15 18 (by decide) (by decide) _)))
      obtain ⟨W4, hW4⟩ : ∃ W4, wr.drewN nq = W4 := ⟨_, rfl⟩
      have HO4 : Hid (W4.ownsRow base 76 1 (.slice (some ⟨g, 0, none⟩) k co) k (l.map vw)) := by show World.ownsRow _ _ _ _ _ _ _; rw [← hW4]; exact HO.out
      have HB4 : Hid (Below base w W4) := by show Below _ _ _; rw [← hW4]; exact below_drewN HB.out nq
      have d2 : W4.cell? ⟨g, m2, none⟩ = some (.int .u32 (nv z2)) := by rw [← hW4]; exact c2
      have d7 : W4.cell? ⟨g, m7, none⟩ = some (.int .u32 (nv z7)) := by rw [← hW4]; exact c7
      have d16 : W4.cell? ⟨g, m16, none⟩ = some (.int .u32 (nv z16)) := by rw [← hW4]; exact c16
      rw [hW4]
      clear hW4 c15 c2 c7 c16
      go_wp2_with fail
      go_quiet (first
        | (go_at_call 62; exact quiet_two (r02_right z2 17 (by decide) (by decide) _))
        | (go_at_call 62; exact quiet_two' (r02_right z2 17 (by decide) (by decide) _))
        | (go_at_call 62; exact Calls.quiet_of_same (r02_right z2 17 (by decide) (by decide) _))
        | (go_at_call 62; exact quiet_two (r02_right z2 19 (by decide) (by decide) _))
        | (go_at_call 62; exact quiet_two' (r02_right z2 19 (by decide) (by decide) _))
        | (go_at_call 62; exact Calls.quiet_of_same (r02_right z2 19 (by decide) (by decide) _)))
      obtain ⟨W5, hW5⟩ : ∃ W5, W4.drewN nq = W5 := ⟨_, rfl⟩
      have HO5 : Hid (W5.ownsRow base 76 1 (.slice (some ⟨g, 0, none⟩) k co) k (l.map vw)) := by show World.ownsRow _ _ _ _ _ _ _; rw [← hW5]; exact HO4.out
      have HB5 : Hid (Below base w W5) := by show Below _ _ _; rw [← hW5]; exact below_drewN HB4.out nq
      have c7 : W5.cell? ⟨g, m7, none⟩ = some (.int .u32 (nv z7)) := by rw [← hW5]; exact d7
      have c16 : W5.cell? ⟨g, m16, none⟩ = some (.int .u32 (nv z16)) := by rw [← hW5]; exact d16
      rw [hW5]
      clear hW5 d2 d7 d16
      have hgl : g < W5.heap.size := (HO5.out.lt g rfl).2
      have hwz : base ≤ W5.heap.size := Nat.le_trans hbase HB5.out.size
      go_wp2_with fail
      go_region_held3 (fun w' => w'.cell? ⟨g, m16, none⟩ = some (.int .u32 (nv z16)) ∧ w'.cell? ⟨g, m7, none⟩ = some (.int .u32 (nv z7)))
        (first | exact ⟨c16, c7⟩ | exact ⟨(World.cell?_alloc_lt _ _ _ hgl).trans c16, (World.cell?_alloc_lt _ _ _ hgl).trans c7⟩ | exact ⟨hk1 _ _ y16.out, hk1 _ _ y7.out⟩ | go_keep)
        (first
          | (refine step_append_kept _ (by rfl) _ _ _ (by rfl) base 76 i0 _ 1 4 Tryz.underlying77 hi0 jz0 jz1 jz2 rfl (by omega) g k co _ (by omega) (by rfl) ((HO5.out.alloc _).drew) ⟨W5.heap.size, 0, none⟩ 1 1 _ (by rfl) rfl (word_news W5 _ _) (by simp [Value.oneCell']) (by first | (simp only [maxLen]; omega) | (unfold maxLen; omega)) (by omega) (by first | omega | (simp; done) | (simp; omega)) ?_
             intro v1 w6 hown1 hg1 hk1))
      all_goals
        obtain ⟨A1, c1, rfl⟩ := owns_form hown1
        have O6 : Hid (w6.ownsRow base 76 1 (.slice A1 (k + 1) c1) (k + 1) ((l ++ [s3]).map vw)) := by
          show World.ownsRow _ _ _ _ _ _ _
          rw [List.map_append]
          exact hown1
        have L6 : Hid (Below base w w6) := (below_drewN (HB5.out.alloc hwz _) 1).grown hg1 (Nat.le_trans hwz (by simp)) (fun p hp => by injection hp with hp; omega)
        have HN : Hid ((l ++ [s3]).length = k + 1 ∧ ∃ n, k + 1 = 16 + n ∧ l ++ [s3] = shaW ws n) := by
          obtain ⟨h1, n, h2, h3⟩ := HL2.out
          refine ⟨by rw [List.length_append, h1]; rfl, n + 1, by omega, ?_⟩
          rw [shaW, ← h3, HT.out, h2]
        clear hown1 hg1 hk1
        go_wp2_with fail
        go_roundw
        case rel => exact ⟨k + 1, _, A1, c1, by omega, by omega, by go_num, rfl, HN, O6, L6⟩
        case measure => simp [intOf]; omega
    · have HK8 : Hid (k = 64) := by show _ = _; omega
      obtain ⟨W3, hW3⟩ : ∃ W3, wr = W3 := ⟨_, rfl⟩
      have HLS : Hid (l = shaW ws 48) := by
        obtain ⟨_, n, h2, h3⟩ := HL2.out
        have : n = 48 := by have := HK8.out; omega
        show _ = _
        rw [h3, this]
      have key : ∀ j v, [vw a, vw b, vw c, vw d, vw e0, vw f0, vw g0, vw h0][j]? = some v → W3.cell? ⟨ba, oa + j, none⟩ = some v := fun j v hj => by rw [← hW3]; exact (HB.out.cell (p := ⟨ba, oa + j, none⟩) hba).trans (HC.out j v hj)
      have r0 := key 0 _ rfl
      have r1 := key 1 _ rfl
      have r2 := key 2 _ rfl
      have r3 := key 3 _ rfl
      have r4 := key 4 _ rfl
      have r5 := key 5 _ rfl
      have r6 := key 6 _ rfl
      have r7 := key 7 _ rfl
      simp only [Nat.add_zero] at r0
      have HKEY := Lib.hid key
      have HX : Hid (∀ j, j < 64 → W3.cell? ⟨g, j, none⟩ = some (vw (l.getD j 0))) := by
        show ∀ _, _
        intro j hj
        have hll : l.length = 64 := HL2.out.1.trans HK8.out
        have hc := HO.out.cells (g := g) rfl j (vw (l.getD j 0)) (by
          rw [List.getElem?_map, List.getElem?_eq_getElem (by omega), List.getD_eq_getElem?_getD, List.getElem?_eq_getElem (by omega)]; rfl)
        rw [add_at, hW3] at hc
        exact hc
      have hk80 : 64 ≤ k := by omega
      rw [hW3] at HB ⊢
      have GT := Lib.hid (HGB.out W3 HB.out)
      unfold vw at r0 r1 r2 r3 r4 r5 r6 r7
      clear hW3 HL2 HO key HW
      go_wp2_with fail
      go_quiet (fail)
      go_wp2_with fail
      clear r0 r1 r2 r3 r4 r5 r6 r7
      go_loopw [16, 8, 9, 10, 11, 12, 13, 14, 15] (fun i sa sb sc sd se sf sg sh wr => ∃ (k : Nat) (ya yb yc yd ye yf yg yh : B32), k ≤ 64 ∧ i = .int .i64 k ∧ sa = .int .u32 (nv ya) ∧ sb = .int .u32 (nv yb) ∧ sc = .int .u32 (nv yc) ∧ sd = .int .u32 (nv yd) ∧ se = .int .u32 (nv ye) ∧ sf = .int .u32 (nv yf) ∧ sg = .int .u32 (nv yg) ∧ sh = .int .u32 (nv yh) ∧ Hid (shaRun l ⟨a, b, c, d, e0, f0, g0, h0⟩ k = ⟨ya, yb, yc, yd, ye, yf, yg, yh⟩) ∧ Hid (∃ n, wr = W3.drewN n)) (fun i _ _ _ _ _ _ _ _ _ => 64 - (intOf i).toNat)
      case atStart => exact ⟨0, a, b, c, d, e0, f0, g0, h0, by omega, rfl, rfl, rfl, rfl, rfl, rfl, rfl, rfl, rfl, rfl, _, rfl⟩
      case round =>
        obtain ⟨kk, ya, yb, yc, yd, ye, yf, yg, yh, hkk, rfl, rfl, rfl, rfl, rfl, rfl, rfl, rfl, rfl, HS, HW2⟩ := hrel
        by_cases hlt : kk < 64
        · obtain ⟨xk, hxk⟩ : ∃ t, l.getD kk 0 = t := ⟨_, rfl⟩
          have xg : wr.cell? ⟨g, kk, none⟩ = some (vw xk) := by obtain ⟨n, hn⟩ := HW2.out; rw [hn, ← hxk]; exact HX.out kk hlt
          obtain ⟨tk, htk⟩ : ∃ t, shaT kk = t := ⟨_, rfl⟩
          have tg : wr.cell? ⟨1, kk, none⟩ = some (.int .u32 (nv tk)) := by obtain ⟨n, hn⟩ := HW2.out; rw [hn, ← htk]; exact GT.out.ts kk hlt
          unfold vw at xg
          have hgk : (kk : Int) < (k : Int) := by omega
          have hki : (kk : Int) < 64 := by omega
          obtain ⟨p1, h1, H1⟩ := w_xor (rr 6 ye) (rr 11 ye)
          obtain ⟨p2, h2, H2⟩ := w_xor p1 (rr 25 ye)
          obtain ⟨p3, h3, _, H3⟩ := w_ad yh p2
          obtain ⟨p4, h4, H4⟩ := w_and ye yf
          obtain ⟨p5, h5, H5⟩ := w_not ye
          obtain ⟨p6, h6, H6⟩ := w_and p5 yg
          obtain ⟨p7, h7, H7⟩ := w_xor p4 p6
          obtain ⟨p8, h8, _, HA8⟩ := w_ad p3 p7
          obtain ⟨p9, h9, _, H9⟩ := w_ad p8 tk
          obtain ⟨t1, h10, _, H10⟩ := w_ad p9 xk
          have HT1 : Hid (t1 = sha1T1 l kk ⟨ya, yb, yc, yd, ye, yf, yg, yh⟩) := by show _ = _; unfold sha1T1; rw [H10.out, H9.out, HA8.out, H7.out, H6.out, H5.out, H4.out, H3.out, H2.out, H1.out, hxk, htk]
          obtain ⟨q1, j1, J1⟩ := w_xor (rr 2 ya) (rr 13 ya)
          obtain ⟨q2, j2, J2⟩ := w_xor q1 (rr 22 ya)
          obtain ⟨q3, j3, J3⟩ := w_and ya yb
          obtain ⟨q4, j4, J4⟩ := w_and ya yc
          obtain ⟨q5, j5, J5⟩ := w_xor q3 q4
          obtain ⟨q6, j6, J6⟩ := w_and yb yc
          obtain ⟨q7, j7, J7⟩ := w_xor q5 q6
          obtain ⟨t2, j8, _, J8⟩ := w_ad q2 q7
          have HT2 : Hid (t2 = sha1T2 ⟨ya, yb, yc, yd, ye, yf, yg, yh⟩) := by show _ = _; unfold sha1T2; rw [J8.out, J7.out, J6.out, J5.out, J4.out, J3.out, J2.out, J1.out]
          obtain ⟨na, j9, _, J9⟩ := w_ad t1 t2
          obtain ⟨nE, j10, _, J10⟩ := w_ad yd t1
          have HN : Hid (shaRun l ⟨a, b, c, d, e0, f0, g0, h0⟩ (kk + 1) = ⟨na, ya, yb, yc, nE, ye, yf, yg⟩) := sha_next HS.out HT1.out HT2.out J9.out J10.out
          clear hxk htk
          go_upto_region 11 with (fail)
          go_quiet (first
            | (go_at_call 62; exact quiet_two (r02_right ye 6 (by decide) (by decide) _))
            | (go_at_call 62; exact quiet_two' (r02_right ye 6 (by decide) (by decide) _))
            | (go_at_call 62; exact Calls.quiet_of_same (r02_right ye 6 (by decide) (by decide) _))
            | (go_at_call 62; exact quiet_two (r02_right ye 11 (by decide) (by decide) _))
            | (go_at_call 62; exact quiet_two' (r02_right ye 11 (by decide) (by decide) _))
            | (go_at_call 62; exact Calls.quiet_of_same (r02_right ye 11 (by decide) (by decide) _))
            | (go_at_call 62; exact quiet_two (r02_right ye 25 (by decide) (by decide) _))
            | (go_at_call 62; exact quiet_two' (r02_right ye 25 (by decide) (by decide) _))
            | (go_at_call 62; exact Calls.quiet_of_same (r02_right ye 25 (by decide) (by decide) _)))
          go_wp2_with fail
          refine (r02_right ya 2 (by decide) (by decide) _).mono ?_; rintro e w' ⟨rfl, rfl⟩
          go_wp2_with fail
          refine (r02_right ya 13 (by decide) (by decide) _).mono ?_; rintro e w' ⟨rfl, rfl⟩
          go_wp2_with fail
          refine (r02_right ya 22 (by decide) (by decide) _).mono ?_; rintro e w' ⟨rfl, rfl⟩
          go_wp2_with fail
          go_roundw
          case rel => exact ⟨kk + 1, na, ya, yb, yc, nE, ye, yf, yg, by omega, by go_num, rfl, rfl, rfl, rfl, rfl, rfl, rfl, rfl, HN, drew_more HW2.out _⟩
          case measure => simp [intOf]; omega
        · obtain rfl : kk = 64 := by omega
          obtain ⟨n2, hn2⟩ := HW2.out
          have HB2 : Hid (Below base w wr) := by show Below _ _ _; rw [hn2]; exact below_drewN HB.out n2
          have hwz : base ≤ wr.heap.size := Nat.le_trans hbase HB2.out.size
          have k2 : ∀ j v, [vw a, vw b, vw c, vw d, vw e0, vw f0, vw g0, vw h0][j]? = some v → wr.cell? ⟨ba, oa + j, none⟩ = some v := fun j v hj => by rw [hn2]; exact HKEY.out j v hj
          have r0 := k2 0 _ rfl
          have r1 := k2 1 _ rfl
          have r2 := k2 2 _ rfl
          have r3 := k2 3 _ rfl
          have r4 := k2 4 _ rfl
          have r5 := k2 5 _ rfl
          have r6 := k2 6 _ rfl
          have r7 := k2 7 _ rfl
          simp only [Nat.add_zero] at r0
          obtain ⟨z0, hh0, _, Z0⟩ := w_ad a ya
          obtain ⟨z1, hh1, _, Z1⟩ := w_ad b yb
          obtain ⟨z2, hh2, _, Z2⟩ := w_ad c yc
          obtain ⟨z3, hh3, _, Z3⟩ := w_ad d yd
          obtain ⟨z4, hh4, _, Z4⟩ := w_ad e0 ye
          obtain ⟨z5, hh5, _, Z5⟩ := w_ad f0 yf
          obtain ⟨z6, hh6, _, Z6⟩ := w_ad g0 yg
          obtain ⟨z7, hh7, _, Z7⟩ := w_ad h0 yh
          have RD : Hid (Rd ((wr.alloc (.cells #[vw z0, vw z1, vw z2, vw z3, vw z4, vw z5, vw z6, vw z7] 76)).drew) 1 (some ⟨wr.heap.size, 0, none⟩) 8 [vw z0, vw z1, vw z2, vw z3, vw z4, vw z5, vw z6, vw z7]) := ⟨rfl, fun _ => ⟨_, 0, rfl, fun j u hu => by rw [Nat.zero_add]; exact (Blk.new wr [vw z0, vw z1, vw z2, vw z3, vw z4, vw z5, vw z6, vw z7] 76).cell j u hu⟩⟩
          have BN : Hid (Below base w ((wr.alloc (.cells #[vw z0, vw z1, vw z2, vw z3, vw z4, vw z5, vw z6, vw z7] 76)).drew)) := below_drewN (HB2.out.alloc hwz _) 1
          have HE : Hid (∀ s, shaRun (shaW ws 48) ⟨a, b, c, d, e0, f0, g0, h0⟩ 64 = s → [vw z0, vw z1, vw z2, vw z3, vw z4, vw z5, vw z6, vw z7] = [vw (a + s.a), vw (b + s.b), vw (c + s.c), vw (d + s.d), vw (e0 + s.e), vw (f0 + s.f), vw (g0 + s.g), vw (h0 + s.h)]) := by
            show ∀ _, _
            intro s hs
            have := HS.out
            rw [HLS.out, hs] at this
            rw [this, Z0.out, Z1.out, Z2.out, Z3.out, Z4.out, Z5.out, Z6.out, Z7.out]
          unfold vw at r0 r1 r2 r3 r4 r5 r6 r7
          have hbw : ba < wr.heap.size := Nat.lt_of_lt_of_le hba hwz
          clear k2 hn2
          go_wp2_with fail
          go_region_held3 (fun w' => w'.cell? ⟨ba, oa, none⟩ = some (.int .u32 (nv a)) ∧ w'.cell? ⟨ba, oa + 1, none⟩ = some (.int .u32 (nv b)) ∧ w'.cell? ⟨ba, oa + 2, none⟩ = some (.int .u32 (nv c)) ∧ w'.cell? ⟨ba, oa + 3, none⟩ = some (.int .u32 (nv d)) ∧ w'.cell? ⟨ba, oa + 4, none⟩ = some (.int .u32 (nv e0)) ∧ w'.cell? ⟨ba, oa + 5, none⟩ = some (.int .u32 (nv f0)) ∧ w'.cell? ⟨ba, oa + 6, none⟩ = some (.int .u32 (nv g0)) ∧ w'.cell? ⟨ba, oa + 7, none⟩ = some (.int .u32 (nv h0)))
            (first | exact ⟨r0, r1, r2, r3, r4, r5, r6, r7⟩ | exact ⟨(World.cell?_alloc_lt _ _ _ hbw).trans r0, (World.cell?_alloc_lt _ _ _ hbw).trans r1, (World.cell?_alloc_lt _ _ _ hbw).trans r2, (World.cell?_alloc_lt _ _ _ hbw).trans r3, (World.cell?_alloc_lt _ _ _ hbw).trans r4, (World.cell?_alloc_lt _ _ _ hbw).trans r5, (World.cell?_alloc_lt _ _ _ hbw).trans r6, (World.cell?_alloc_lt _ _ _ hbw).trans r7⟩ | go_keep)
            (fail)
          all_goals
            go_wp2_with fail
            go_ret
            exact ⟨_, rfl, hwz, fun s hs => HE.out s hs ▸ RD.out, BN.out⟩
end
end Go.Proofs.YtlhchpeecfbgnaaGreatDoor
