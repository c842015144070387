/- A part of the proof that the digests of any content are the three of it, and that an installed set is new memory. No condition. -/
import Derived.Deep.RegionLaw
import Derived.Laws.CopyOwn
import Derived.Laws.IdiomCopy
import Derived.Test.YtlhchpeecfbgnaaGreatDoorG14
import Derived.Test.YtlhchpeecfbgnaaGreatDoorG20
import Derived.Test.YtlhchpeecfbgnaaGreatDoorG21
set_option maxRecDepth 100000
set_option maxHeartbeats 20000000
set_option linter.unusedVariables false
set_option linter.unusedSimpArgs false
namespace Go.Proofs.YtlhchpeecfbgnaaGreatDoor
section
open Go.RowKit
theorem drew_more {a w : World} (h : ∃ n, w = a.drewN n) (m : Nat) : ∃ n, w.drewN m = a.drewN n := by
  obtain ⟨n, rfl⟩ := h
  exact ⟨n + m, World.drewN_drewN _ _ _⟩
theorem add_off (b o j : Nat) : (⟨b, o, none⟩ : Addr).add j = ⟨b, o + j, none⟩ := by unfold Addr.add; split <;> simp_all
theorem add_at (b j : Nat) : (⟨b, 0, none⟩ : Addr).add j = ⟨b, j, none⟩ := by rw [add_off, Nat.zero_add]
theorem Blk.setN {b : Nat} (post : List Value) : ∀ (cs old pre : List Value) (wr : World), cs.length = old.length → Blk wr b (pre ++ (old ++ post)) → Blk (wr.setCells b pre.length cs) b (pre ++ (cs ++ post))
  | [], [], _, _, _, h => h
  | c :: cr, o :: r, pre, wr, hl, h => by
    have h1 := h.set pre.length (by simp) c
    rw [List.set_append_right _ _ (Nat.le_refl _), Nat.sub_self] at h1
    have h2 : Blk (wr.setCell ⟨b, pre.length, none⟩ c) b ((pre ++ [c]) ++ (r ++ post)) := by simpa using h1
    have h3 := Blk.setN post cr r (pre ++ [c]) _ (by simpa using hl) h2
    rw [World.setCells]
    simpa using h3
  | [], _ :: _, _, _, hl, _ => by simp at hl
  | _ :: _, [], _, _, hl, _ => by simp at hl
theorem only_setCells {g : Nat} : ∀ (cs : List Value) (o : Nat) (a w : World), a.grownBy w (some g) → a.grownBy (w.setCells g o cs) (some g)
  | [], _, _, _, h => h
  | c :: r, o, a, w, h => only_setCells r (o + 1) a _ (only_setCell h (p := ⟨g, o, none⟩) (.inl rfl) c)
theorem run_copyB {w : World} {b sl sc dl dc n : Nat} {pre old post : List Value} (hb : Blk w b (pre ++ (old ++ post))) {T T2 e : TypeId} (ty : TypeId) (hu : Tryz.prog.underlying T = some (.slice e)) (hs : (Tryz.prog.info? e).map (·.size) = some 1) {off : Nat} (hoff : off = pre.length) {a : Addr} (cs : List Value) (hn : cs.length = Nat.min sl dl) (hl : cs.length = old.length) (hcn : cs.length = n)
    (hsrc : ∀ j v, cs[j]? = some v → w.cell? (a.add j) = some v) (h1 : ∀ v ∈ cs, v.oneCell' = true) :
    (Builtin.copy_ #[T, T2] ty #[.slice (some ⟨b, off, none⟩) dl dc, .slice (some a) sl sc]).run Tryz.prog w = .ok (.int .i64 n) (w.setCells b off cs) := by
  subst hoff hcn
  refine run_copy_cells w T T2 ty e b pre.length dl dc a sl sc cs hu hs hn hsrc (fun j hj => ?_) (fun j hj => hb.free _ (by simp; omega)) h1
  have : (pre ++ (old ++ post))[pre.length + j]? = some (old[j]'(by omega)) := by
    rw [List.getElem?_append_right (by omega), Nat.add_sub_cancel_left, List.getElem?_append_left (by omega), List.getElem?_eq_getElem (by omega)]
  rw [hb.cell _ _ this]
  rfl
theorem wpList_copy_eq (w : World) {ops : Array Oper} {rest : List Oper} {o : Oper} {a : Act} {Q : Exit → Act → World → Prop} (hgd : o.guard = none) (d s : Operand) (t t' : TypeId)
    (ho : o.op = .call { callee := .builtin .copy, args := #[d, s], argTypes := #[t, t'] }) (v u : Value) (hd : a.eval d = v) (hs : a.eval s = u) {v' : Value} {w' : World}
    (hr : ∀ ty, (Builtin.copy_ #[t, t'] ty #[v, u]).run Tryz.prog w = .ok v' w') (h : wpList Tryz.prog ops Q rest (a.put o.dst v') w') : wpList Tryz.prog ops Q (o :: rest) a w := by
  refine wpList_plain hgd fun K hK => ?_
  unfold Oper.wp execOp
  simp only [ho, resolve, invoke, builtin, Sem.run_bind, Sem.run_pure, Result.andThen_ok, List.map_toArray, List.map_cons, List.map_nil, hd, hs, hr]
  exact hK _ _ h
theorem step_copy_eq {ops : Array Oper} {o : Oper} {a : Act} {w : World} {K : Act → World → Prop} {Q : Exit → Act → World → Prop} {E : Prop} (hgd : o.guard = none) (d s : Operand) (t t' : TypeId)
    (ho : o.op = .call { callee := .builtin .copy, args := #[d, s], argTypes := #[t, t'] }) (v u : Value) (hd : a.eval d = v) (hs : a.eval s = u) {v' : Value} {w' : World}
    (hr : ∀ ty, (Builtin.copy_ #[t, t'] ty #[v, u]).run Tryz.prog w = .ok v' w') (h : K (a.put o.dst v') w') : if Region.wanted o (yielded ops a.tmps) = true then Oper.wp Tryz.prog o a w K Q else E := by
  have hw : Region.wanted o (yielded ops a.tmps) = true := by simp [Region.wanted, hgd]
  rw [if_pos hw]
  unfold Oper.wp execOp
  simp only [ho, resolve, invoke, builtin, Sem.run_bind, Sem.run_pure, Result.andThen_ok, List.map_toArray, List.map_cons, List.map_nil, hd, hs, hr]
  exact h
structure GlT (w : World) : Prop where
  t5 : ∀ i : Nat, i < 64 → w.cell? ⟨0, i, none⟩ = some (.int .u32 (nv (md5T i)))
  tu : ∀ i : Nat, i < 64 → w.cell? ⟨3, i / 16 * 4 + i % 4, none⟩ = some (.int .i64 (md5Tu i))
  ts : ∀ i : Nat, i < 64 → w.cell? ⟨1, i, none⟩ = some (.int .u32 (nv (shaT i)))
theorem GlT.keep {w w' : World} (h : GlT w) (hk : ∀ p : Addr, p.block < w.heap.size → w'.cell? p = w.cell? p) : GlT w' :=
  ⟨fun i hi => (hk _ (World.block_lt_of_cell? _ _ (h.t5 i hi))).trans (h.t5 i hi), fun i hi => (hk _ (World.block_lt_of_cell? _ _ (h.tu i hi))).trans (h.tu i hi), fun i hi => (hk _ (World.block_lt_of_cell? _ _ (h.ts i hi))).trans (h.ts i hi)⟩
theorem GlT.below {w w' : World} (h : GlT w) (hb : Below w.heap.size w w') : GlT w' := h.keep fun _ hp => hb.cell hp
def md5Cells (kv : Value) (s : S4) (rest : List Value) : List Value := kv :: vw s.a :: vw s.b :: vw s.c :: vw s.d :: rest
theorem md5_next {ws : List B32} {s0 : S4} {k q tu : Nat} {ya yb yc yd tk xk f s3 : B32} (h : md5Run ws s0 k = ⟨ya, yb, yc, yd⟩) (hq : k / 16 = q) (ht : md5Tu k = tu) (hk : md5T k = tk) (hx : ws.getD (md5G q k) 0 = xk) (hf : f = md5F q yb yc yd) (hs : s3 = ya + f + tk + xk) :
    md5Run ws s0 (k + 1) = ⟨yd, yb + rl tu s3, yb, yc⟩ := by
  rw [md5Run, h, md5Step, hq, ht, hk, hx, hs, hf]
theorem hash_md5 (hb : Nat) (x0 x1 x2 x3 x4 x5 x6 x7 x8 x9 x10 x11 x12 x13 x14 x15 a b c d : B32) (kv : Value) (rest : List Value) (w : World) (hG : GlT w)
    (hB : Blk w hb (kv :: vw a :: vw b :: vw c :: vw d :: rest)) :
    Calls Tryz.prog 88 #[.pointer (some ⟨hb, 0, none⟩), .agg #[vw x0, vw x1, vw x2, vw x3, vw x4, vw x5, vw x6, vw x7, vw x8, vw x9, vw x10, vw x11, vw x12, vw x13, vw x14, vw x15]] w fun e w' => e = .returned (.tuple #[]) ∧
      Blk w' hb (md5Cells kv (md5Run [x0, x1, x2, x3, x4, x5, x6, x7, x8, x9, x10, x11, x12, x13, x14, x15] ⟨a, b, c, d⟩ 64) rest) ∧ w.grownBy w' (some hb) := by
  obtain ⟨W1, hW1⟩ : ∃ W1, w.alloc (.cells #[vw x0, vw x1, vw x2, vw x3, vw x4, vw x5, vw x6, vw x7, vw x8, vw x9, vw x10, vw x11, vw x12, vw x13, vw x14, vw x15] 147) = W1 := ⟨_, rfl⟩
  have L1 : Hid (Below w.heap.size w W1) := by show Below _ _ _; rw [← hW1]; exact (Below.refl _ _).alloc (Nat.le_refl _) _
  obtain ⟨ws, hws⟩ : ∃ ws, ws = [x0, x1, x2, x3, x4, x5, x6, x7, x8, x9, x10, x11, x12, x13, x14, x15] := ⟨_, rfl⟩
  have X1 : Hid (∀ i : Nat, i < 16 → W1.cell? ⟨w.heap.size, i, none⟩ = some (.int .u32 (nv (ws.getD i 0)))) := by
    show ∀ i : Nat, i < 16 → W1.cell? ⟨w.heap.size, i, none⟩ = some (.int .u32 (nv (ws.getD i 0)))
    intro i hi
    have := (Blk.new w (ws.map vw) 147).cell i (vw (ws.getD i 0)) (by rw [hws]; rw [List.getElem?_map]; rw [List.getD_eq_getElem?_getD, List.getElem?_eq_getElem (by simpa using hi)]; rfl)
    rw [← hW1]
    rw [hws] at this ⊢
    exact this
  have HB : Hid (Blk W1 hb (kv :: vw a :: vw b :: vw c :: vw d :: rest)) := hB.below L1.out
  have b1 := HB.out.cell 1 _ rfl
  have b2 := HB.out.cell 2 _ rfl
  have b3 := HB.out.cell 3 _ rfl
  have b4 := HB.out.cell 4 _ rfl
  have HG := Lib.hid (hG.below L1.out)
  have HWS := Lib.hid hws
  clear hB hG hws
  unfold vw at b1 b2 b3 b4 hW1 ⊢
  go_enter Tryz.func88, Tryz.ntmps88
  go_wp2_with fail
  clear hW1
  go_quiet (fail)
  go_wp2_with fail
  go_loopw [32, 4, 5, 6, 7, 11] (fun i sa sb sc sd _ wr => ∃ (k : Nat) (ya yb yc yd : B32), k ≤ 64 ∧ i = .int .i64 k ∧ sa = .int .u32 (nv ya) ∧ sb = .int .u32 (nv yb) ∧ sc = .int .u32 (nv yc) ∧ sd = .int .u32 (nv yd) ∧ Hid (md5Run ws ⟨a, b, c, d⟩ k = ⟨ya, yb, yc, yd⟩) ∧ Hid (∃ n, wr = W1.drewN n)) (fun i _ _ _ _ _ _ => 64 - (intOf i).toNat)
  case atStart => exact ⟨0, a, b, c, d, by omega, rfl, rfl, rfl, rfl, rfl, rfl, _, rfl⟩
  case round =>
    obtain ⟨k, ya, yb, yc, yd, hk, rfl, rfl, rfl, rfl, rfl, HS, HW⟩ := hrel
    by_cases hlt : k < 64
    · have XW : ∀ p v, W1.cell? p = some v → wr.cell? p = some v := fun p v h => by obtain ⟨n, hn⟩ := HW.out; rw [hn]; exact h
      have t5 := XW _ _ (HG.out.t5 k hlt)
      have tu := XW _ _ (HG.out.tu k hlt)
      have hr := md5Tu_ok k hlt
      obtain ⟨q, hq⟩ : ∃ q, k / 16 = q := ⟨_, rfl⟩
      obtain ⟨r, hr4⟩ : ∃ r, k % 4 = r := ⟨_, rfl⟩
      rw [hq, hr4] at tu
      have e2 : (k : Int) / 16 = (q : Int) := by omega
      have e4 : (k : Int).tmod 4 = (r : Int) := by rw [Int.tmod_eq_emod_of_nonneg (by omega)]; omega
      have hgl := md5G_lt k hlt
      rw [hq] at hgl
      obtain ⟨gk, hgk⟩ : ∃ gk, md5G q k = gk := ⟨_, rfl⟩
      rw [hgk] at hgl
      have xg := XW _ _ (X1.out _ hgl)
      have hgi : (gk : Int) < 16 := by omega
      have hqi : (q : Int) < 4 := by omega
      have hri : (r : Int) < 4 := by omega
      obtain ⟨tur, htu⟩ : ∃ t, md5Tu k = t := ⟨_, rfl⟩
      rw [htu] at tu hr
      obtain ⟨tk, htk⟩ : ∃ t, md5T k = t := ⟨_, rfl⟩
      rw [htk] at t5
      obtain ⟨xk, hxk⟩ : ∃ t, ws.getD gk 0 = t := ⟨_, rfl⟩
      rw [hxk] at xg
      have hq4 : q < 4 := by omega
      have hr44 : r < 4 := by omega
      have HQ := Lib.hid hq; have HR := Lib.hid hr4; have HTU := Lib.hid htu; have HTK := Lib.hid htk; have HXK := Lib.hid hxk; have HRR := Lib.hid hr; have HGK := Lib.hid hgk
      clear hq hr4 htu htk hxk hr hgk XW
      rcases (show q = 0 ∨ q = 1 ∨ q = 2 ∨ q = 3 by omega) with rfl | rfl | rfl | rfl
      · obtain ⟨t1, t2, t3, f, h1, h2, h3, h4, HF⟩ : ∃ t1 t2 t3 f : B32, bits .and .u32 (nv yb) (nv yc) = nv t1 ∧ bits .xor .u32 (if IntKind.u32.signed = true then -1 else IntKind.u32.max) (nv yb) = nv t2 ∧ bits .and .u32 (nv t2) (nv yd) = nv t3 ∧ bits .or .u32 (nv t1) (nv t3) = nv f ∧ Hid (f = md5F 0 yb yc yd) := ⟨_, _, _, _, nv_and _ _, nv_not _, nv_and _ _, nv_or _ _, rfl⟩
        have ew : IntKind.i64.wrap 0 = 0 := by rfl
        obtain rfl : k = gk := HGK.out
        rw [show 0 * 4 + r = r by omega] at tu
        obtain ⟨s1, s2, s3, h5, h6, h7, HS3⟩ : ∃ s1 s2 s3 : B32, IntKind.u32.wrap (nv ya + nv f) = nv s1 ∧ IntKind.u32.wrap (nv s1 + nv tk) = nv s2 ∧ IntKind.u32.wrap (nv s2 + nv xk) = nv s3 ∧ Hid (s3 = ya + f + tk + xk) := ⟨_, _, _, nv_addw _ _, nv_addw _ _, nv_addw _ _, rfl⟩
        have h8 := nv_add yb (rl tur s3)
        go_upto_region 14 with (fail)
        go_quiet ((go_at_call 128; exact Calls.quiet_of_same (bits_rot s3 tur HRR.out.2 HRR.out.1 _)))
        go_wp2_with fail
        go_roundw
        case rel => exact ⟨k + 1, yd, yb + rl tur s3, yb, yc, by omega, by go_num, rfl, rfl, rfl, rfl, md5_next HS.out HQ.out HTU.out HTK.out (HGK.out ▸ HXK.out) HF.out HS3.out, drew_more HW.out _⟩
        case measure => simp [intOf]; omega
      · obtain ⟨t1, t2, t3, f, h1, h2, h3, h4, HF⟩ : ∃ t1 t2 t3 f : B32, bits .and .u32 (nv yd) (nv yb) = nv t1 ∧ bits .xor .u32 (if IntKind.u32.signed = true then -1 else IntKind.u32.max) (nv yd) = nv t2 ∧ bits .and .u32 (nv t2) (nv yc) = nv t3 ∧ bits .or .u32 (nv t1) (nv t3) = nv f ∧ Hid (f = md5F 1 yb yc yd) := ⟨_, _, _, _, nv_and _ _, nv_not _, nv_and _ _, nv_or _ _, rfl⟩
        have ew : IntKind.i64.wrap 1 = 1 := by rfl
        have eg : (5 * (k : Int) + 1) % 16 = (gk : Int) := by have : (5 * k + 1) % 16 = gk := HGK.out; omega
        obtain ⟨s1, s2, s3, h5, h6, h7, HS3⟩ : ∃ s1 s2 s3 : B32, IntKind.u32.wrap (nv ya + nv f) = nv s1 ∧ IntKind.u32.wrap (nv s1 + nv tk) = nv s2 ∧ IntKind.u32.wrap (nv s2 + nv xk) = nv s3 ∧ Hid (s3 = ya + f + tk + xk) := ⟨_, _, _, nv_addw _ _, nv_addw _ _, nv_addw _ _, rfl⟩
        have h8 := nv_add yb (rl tur s3)
        go_upto_region 14 with (fail)
        go_quiet ((go_at_call 128; exact Calls.quiet_of_same (bits_rot s3 tur HRR.out.2 HRR.out.1 _)))
        go_wp2_with fail
        go_roundw
        case rel => exact ⟨k + 1, yd, yb + rl tur s3, yb, yc, by omega, by go_num, rfl, rfl, rfl, rfl, md5_next HS.out HQ.out HTU.out HTK.out (HGK.out ▸ HXK.out) HF.out HS3.out, drew_more HW.out _⟩
        case measure => simp [intOf]; omega
      · obtain ⟨t1, f, h1, h2, HF⟩ : ∃ t1 f : B32, bits .xor .u32 (nv yb) (nv yc) = nv t1 ∧ bits .xor .u32 (nv t1) (nv yd) = nv f ∧ Hid (f = md5F 2 yb yc yd) := ⟨_, _, nv_xor _ _, nv_xor _ _, rfl⟩
        have ew : IntKind.i64.wrap 2 = 2 := by rfl
        have eg : (3 * (k : Int) + 5) % 16 = (gk : Int) := by have : (3 * k + 5) % 16 = gk := HGK.out; omega
        obtain ⟨s1, s2, s3, h5, h6, h7, HS3⟩ : ∃ s1 s2 s3 : B32, IntKind.u32.wrap (nv ya + nv f) = nv s1 ∧ IntKind.u32.wrap (nv s1 + nv tk) = nv s2 ∧ IntKind.u32.wrap (nv s2 + nv xk) = nv s3 ∧ Hid (s3 = ya + f + tk + xk) := ⟨_, _, _, nv_addw _ _, nv_addw _ _, nv_addw _ _, rfl⟩
        have h8 := nv_add yb (rl tur s3)
        go_upto_region 14 with (fail)
        go_quiet ((go_at_call 128; exact Calls.quiet_of_same (bits_rot s3 tur HRR.out.2 HRR.out.1 _)))
        go_wp2_with fail
        go_roundw
        case rel => exact ⟨k + 1, yd, yb + rl tur s3, yb, yc, by omega, by go_num, rfl, rfl, rfl, rfl, md5_next HS.out HQ.out HTU.out HTK.out (HGK.out ▸ HXK.out) HF.out HS3.out, drew_more HW.out _⟩
        case measure => simp [intOf]; omega
      · obtain ⟨t1, t2, f, h1, h2, h3, HF⟩ : ∃ t1 t2 f : B32, bits .xor .u32 (if IntKind.u32.signed = true then -1 else IntKind.u32.max) (nv yd) = nv t1 ∧ bits .or .u32 (nv yb) (nv t1) = nv t2 ∧ bits .xor .u32 (nv yc) (nv t2) = nv f ∧ Hid (f = md5F 3 yb yc yd) := ⟨_, _, _, nv_not _, nv_or _ _, nv_xor _ _, rfl⟩
        have ew : IntKind.i64.wrap 3 = 3 := by rfl
        have eg : (7 * (k : Int)) % 16 = (gk : Int) := by have : 7 * k % 16 = gk := HGK.out; omega
        obtain ⟨s1, s2, s3, h5, h6, h7, HS3⟩ : ∃ s1 s2 s3 : B32, IntKind.u32.wrap (nv ya + nv f) = nv s1 ∧ IntKind.u32.wrap (nv s1 + nv tk) = nv s2 ∧ IntKind.u32.wrap (nv s2 + nv xk) = nv s3 ∧ Hid (s3 = ya + f + tk + xk) := ⟨_, _, _, nv_addw _ _, nv_addw _ _, nv_addw _ _, rfl⟩
        have h8 := nv_add yb (rl tur s3)
        go_upto_region 14 with (fail)
        go_quiet ((go_at_call 128; exact Calls.quiet_of_same (bits_rot s3 tur HRR.out.2 HRR.out.1 _)))
        go_wp2_with fail
        go_roundw
        case rel => exact ⟨k + 1, yd, yb + rl tur s3, yb, yc, by omega, by go_num, rfl, rfl, rfl, rfl, md5_next HS.out HQ.out HTU.out HTK.out (HGK.out ▸ HXK.out) HF.out HS3.out, drew_more HW.out _⟩
        case measure => simp [intOf]; omega
    · obtain rfl : k = 64 := by omega
      have HB2 : Hid (Blk wr hb (kv :: vw a :: vw b :: vw c :: vw d :: rest)) := by obtain ⟨n, hn⟩ := HW.out; rw [hn]; exact HB.out.drewN n
      have hcp : ∀ ty, (Builtin.copy_ #[77, 77] ty #[.slice (some ⟨hb, 1, none⟩) 8 8, .slice (some ⟨wr.heap.size, 0, none⟩) 4 4]).run Tryz.prog (wr.alloc (.cells #[.int .u32 (nv ya), .int .u32 (nv yb), .int .u32 (nv yc), .int .u32 (nv yd)] 76)) = .ok (.int .i64 (4 : Nat)) ((wr.alloc (.cells #[.int .u32 (nv ya), .int .u32 (nv yb), .int .u32 (nv yc), .int .u32 (nv yd)] 76)).setCells hb 1 [vw ya, vw yb, vw yc, vw yd]) := fun ty =>
        run_copyB (pre := [kv]) (old := [vw a, vw b, vw c, vw d]) (post := rest) (HB2.out.alloc _) ty Tryz.underlying77 (by kernel_rfl) rfl [vw ya, vw yb, vw yc, vw yd] rfl rfl rfl (fun j v hj => by
          rw [add_at]
          exact (Blk.new wr [vw ya, vw yb, vw yc, vw yd] 76).cell j v hj) (by intro v hv; simp [vw] at hv; rcases hv with rfl | rfl | rfl | rfl <;> rfl)
      go_wp2_with (refine wpList_copy_eq _ rfl _ _ 77 77 rfl _ _ rfl rfl hcp ?_)
      go_end0
      refine ⟨rfl, ?_, ?_⟩
      · rw [← HWS.out, HS.out]
        exact Blk.setN rest [vw ya, vw yb, vw yc, vw yd] [vw a, vw b, vw c, vw d] [kv] _ rfl (HB2.out.alloc _)
      · exact only_setCells _ _ _ _ (only_alloc (by obtain ⟨n, hn⟩ := HW.out; rw [hn]; exact only_drewN (only_below (World.grownBy.refl w _) L1.out) n) _)
end
end Go.Proofs.YtlhchpeecfbgnaaGreatDoor
