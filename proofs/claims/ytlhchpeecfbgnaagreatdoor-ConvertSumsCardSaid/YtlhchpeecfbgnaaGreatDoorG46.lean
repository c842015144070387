/- A part of the proof that the digests of any content are the three of it, and that an installed set is new memory. No condition. -/
import Derived.Test.YtlhchpeecfbgnaaGreatDoorG31
import Derived.Test.YtlhchpeecfbgnaaGreatDoorG41
import Derived.Test.YtlhchpeecfbgnaaGreatDoorG45
set_option maxRecDepth 100000
set_option maxHeartbeats 20000000
set_option linter.unusedVariables false
set_option linter.unusedSimpArgs false
namespace Go.Proofs.YtlhchpeecfbgnaaGreatDoor
section
open Go.RowKit
def zPk : List Value := [.string ⟨#[]⟩, .string ⟨#[]⟩, .string ⟨#[]⟩, .string ⟨#[]⟩, .slice none 0 0, .slice none 0 0, .slice none 0 0, .slice none 0 0, .slice none 0 0]
theorem reads_none (w : World) (B sz : Nat) (A : Option Addr) : Reads w B sz A 0 [] := ⟨by simp, fun h => absurd h (by omega)⟩
def X0 : Nat → List Value → Prop := fun _ _ => False
def XR (g : Nat) (l : List Value) : Nat → List Value → Prop := fun x vs => x = g ∧ vs = l
theorem Blk.farN {b c : Nat} {vs : List Value} (hne : c ≠ b) : ∀ (cs : List Value) (o : Nat) {wr : World}, Blk wr b vs → Blk (wr.setCells c o cs) b vs
  | [], _, _, h => h
  | v :: r, o, _, h => Blk.farN hne r (o + 1) (h.far hne v)
theorem grown_below {a w w' : World} {row : Option Nat} (h : a.grownBy w row) (hb : Below a.heap.size w w') : a.grownBy w' row :=
  ⟨hb.os.trans h.os, hb.tape.trans h.tape, hb.output.trans h.output, Nat.le_trans h.size hb.size, fun i hi hn => (hb.block i hi).trans (h.block i hi hn)⟩
structure CvB (X : Nat → List Value → Prop) (w wr : World) (kb : Nat) (kc pc : List Value) : Prop where
  gr : w.grownBy wr (some kb)
  kv : Blk wr kb kc
  box : Blk wr w.heap.size [.pointer (some ⟨kb, 0, none⟩)]
  pk : Blk wr (w.heap.size + 1) pc
  res : Blk wr (w.heap.size + 2) zPk
  lt : kb < w.heap.size
  xt : ∀ x vs, X x vs → Blk wr x vs
  xn : ∀ x vs, X x vs → w.heap.size + 2 < x
theorem CvB.step {X : Nat → List Value → Prop} {w wr w' : World} {kb : Nat} {kc pc : List Value} (h : CvB X w wr kb kc pc) (hb : Below wr.heap.size wr w') : CvB X w w' kb kc pc :=
  ⟨only_below h.gr hb, h.kv.below hb, h.box.below hb, h.pk.below hb, h.res.below hb, h.lt, fun x vs hx => (h.xt x vs hx).below hb, h.xn⟩
theorem CvB.drewN {X : Nat → List Value → Prop} {w wr : World} {kb : Nat} {kc pc : List Value} (h : CvB X w wr kb kc pc) (n : Nat) : CvB X w (wr.drewN n) kb kc pc := h.step ⟨rfl, rfl, rfl, Nat.le_refl _, fun _ _ => rfl⟩
theorem CvB.drew {X : Nat → List Value → Prop} {w wr : World} {kb : Nat} {kc pc : List Value} (h : CvB X w wr kb kc pc) : CvB X w wr.drew kb kc pc := h.step ⟨rfl, rfl, rfl, Nat.le_refl _, fun _ _ => rfl⟩
theorem CvB.put {X : Nat → List Value → Prop} {w wr : World} {kb : Nat} {kc pc : List Value} (h : CvB X w wr kb kc pc) (j : Nat) (hj : j < pc.length) (v : Value) : CvB X w (wr.setCell ⟨w.heap.size + 1, j, none⟩ v) kb kc (pc.set j v) :=
  ⟨only_setCell h.gr (.inr (by show w.heap.size ≤ w.heap.size + 1; omega)) v, h.kv.far (by have := h.lt; omega) v, h.box.far (by omega) v, h.pk.set j hj v, h.res.far (by omega) v, h.lt, fun x vs hx => (h.xt x vs hx).far (by have := h.xn x vs hx; omega) v, h.xn⟩
theorem CvB.ref {w wr w' : World} {kb g : Nat} {kc kc' pc l : List Value} (h : CvB X0 w wr kb kc pc) (hk : Blk w' kb kc') (hl : Blk w' g l) (hgl : wr.heap.size ≤ g) (hg : wr.grownBy w' (some kb)) : CvB (XR g l) w w' kb kc' pc :=
  ⟨grown_thru h.gr hg, hk, h.box.grownQ hg (by have := h.lt; intro e; injection e with e; omega), h.pk.grownQ hg (by have := h.lt; intro e; injection e with e; omega), h.res.grownQ hg (by have := h.lt; intro e; injection e with e; omega), h.lt, fun x vs hx => by obtain ⟨rfl, rfl⟩ := hx; exact hl, fun x vs hx => by obtain ⟨rfl, rfl⟩ := hx; have := h.res.sz; omega⟩
theorem CvB.start {w : World} {kb : Nat} {kc : List Value} (hk : Blk w kb kc) (pc : List Value) (t1 t2 : TypeId) : CvB X0 w (((w.alloc (.cells #[.pointer (some ⟨kb, 0, none⟩)] t1)).alloc (.cells pc.toArray t2)).alloc (.cells zPk.toArray t2)) kb kc pc := by
  refine ⟨only_alloc (only_alloc (only_alloc (World.grownBy.refl w _) _) _) _, ((hk.alloc _).alloc _).alloc _, ((Blk.new w [.pointer (some ⟨kb, 0, none⟩)] t1).alloc _).alloc _, ?_, ?_, hk.sz, fun x vs hx => hx.elim, fun x vs hx => hx.elim⟩
  · have h := (Blk.new (w.alloc (.cells #[.pointer (some ⟨kb, 0, none⟩)] t1)) pc t2).alloc (.cells zPk.toArray t2)
    simpa using h
  · have h := Blk.new ((w.alloc (.cells #[.pointer (some ⟨kb, 0, none⟩)] t1)).alloc (.cells pc.toArray t2)) zPk t2
    simpa using h
theorem CvB.done {X : Nat → List Value → Prop} {w wr W : World} {kb : Nat} {kc pc : List Value} (h : CvB X w wr kb kc pc) (vs : List Value) (hv : vs.length = 9) (hW : wr.setCells (w.heap.size + 2) 0 vs = W) :
    Blk W (w.heap.size + 2) vs ∧ Blk W kb kc ∧ w.grownBy W (some kb) ∧ ∀ x l, X x l → Blk W x l := by
  subst hW
  refine ⟨?_, h.kv.farN (by have := h.lt; omega) vs 0, grown_below h.gr (below_setCells vs 0 (Below.refl _ _) (by omega)), fun x l hx => (h.xt x l hx).farN (by have := h.xn x l hx; omega) vs 0⟩
  have hz : Blk wr (w.heap.size + 2) ([] ++ (zPk ++ [])) := by simpa using h.res
  have := Blk.setN [] vs zPk [] wr (by rw [hv]; rfl) hz
  simpa using this
theorem CvB.grow {X : Nat → List Value → Prop} {w wr w' : World} {kb : Nat} {kc pc : List Value} (h : CvB X w wr kb kc pc) (hg : wr.grownBy w' none) : CvB X w w' kb kc pc :=
  h.step ⟨hg.os, hg.tape, hg.output, hg.size, fun i hi => hg.block i hi (by simp)⟩
theorem bdrewA (w : World) : Below w.heap.size w w.drew := ⟨rfl, rfl, rfl, Nat.le_refl _, fun _ _ => rfl⟩
theorem convert_one_ok (b : Int) (hb : b = 2 ∨ b = 3) (m : Value) (kb : Nat) (nm ver ar sm V AR : ByteArray) (na ba ga fa sa : Option Addr) (nc bc gc fc sc : Nat) (w : World) (hG : GlP w) (hv : ver.size ≤ 9223372036854775807) (hk : Blk w kb (cvC 1 b m (.slice none 0 0))) (ht : prtVal (trans 1 b ver) = .tuple #[.string V, .int .i64 0]) (har : archOf 1 b ar = (AR, 0)) :
    Calls Tryz.prog 23 #[.pointer (some ⟨kb, 0, none⟩), .agg #[.string nm, .string ver, .string ar, .string sm, .slice na 0 nc, .slice ba 0 bc, .slice ga 0 gc, .slice fa 0 fc, .slice sa 0 sc]] w fun e w' =>
      e = .returned (.agg #[.string nm, .string V, .string AR, .string sm, .slice none 0 0, .slice none 0 0, .slice ga 0 gc, .slice fa 0 fc, .slice sa 0 sc]) ∧ Blk w' kb (cvC 1 b m (.slice none 0 0)) ∧ w.grownBy w' (some kb) := by
  obtain ⟨i0, hi0, hz0, hz1, hz2⟩ := info_parts info_depC
  have hbf : isF b := by rcases hb with rfl | rfl <;> simp [isF]
  have HG := Lib.hid hG
  have HT := Lib.hid ht
  have HAR := Lib.hid har
  have HBB := Lib.hid hb
  obtain ⟨W3, hW3⟩ : ∃ W3, ((w.alloc (.cells #[.pointer (some ⟨kb, 0, none⟩)] 89)).alloc (.cells #[.string nm, .string ver, .string ar, .string sm, .slice na 0 nc, .slice ba 0 bc, .slice ga 0 gc, .slice fa 0 fc, .slice sa 0 sc] 43)).alloc (.cells #[.string ⟨#[]⟩, .string ⟨#[]⟩, .string ⟨#[]⟩, .string ⟨#[]⟩, .slice none 0 0, .slice none 0 0, .slice none 0 0, .slice none 0 0, .slice none 0 0] 43) = W3 := ⟨_, rfl⟩
  have B3 : Hid (CvB X0 w W3 kb (cvC 1 b m (.slice none 0 0)) [.string nm, .string ver, .string ar, .string sm, .slice na 0 nc, .slice ba 0 bc, .slice ga 0 gc, .slice fa 0 fc, .slice sa 0 sc]) := by
    show CvB _ _ _ _ _ _
    rw [← hW3]
    exact CvB.start hk _ _ _
  have GP : Hid (GlP W3) := by
    show GlP _
    rw [← hW3]
    exact hG.below (((((Below.refl _ _).alloc (Nat.le_refl _) _).alloc (by simp) _).alloc (by simp; omega) _))
  clear hk hG ht har hb hbf
  go_enter Tryz.func23, Tryz.ntmps23
  go_upto_region 3 with (fail)
  clear hW3
  have c0 := B3.out.box.cell 0 _ rfl
  have k0 := B3.out.kv.cell 0 _ rfl
  have k1 := B3.out.kv.cell 1 _ rfl
  have p1 := B3.out.pk.cell 1 _ rfl
  go_cut [6] (fun s6 wx => s6 = .int .i64 0 ∧ Hid (CvB X0 w wx kb (cvC 1 b m (.slice none 0 0)) [.string nm, .string V, .string ar, .string sm, .slice na 0 nc, .slice ba 0 bc, .slice ga 0 gc, .slice fa 0 fc, .slice sa 0 sc]))
  case first =>
    refine wp_region_held_drew (S := fun w' => w'.cell? ⟨w.heap.size, 0, none⟩ = some (.pointer (some ⟨kb, 0, none⟩)) ∧ w'.cell? ⟨kb, 0, none⟩ = some (.int .i64 1) ∧ w'.cell? ⟨kb, 1, none⟩ = some (.int .i64 b)) (by kernel_rfl) ?_ (fun hHeld => ?_)
    · exact ⟨c0, k0, k1⟩
    refine' wpAnyH_take (i := 0) (oi := _) (v := _) rfl (by kernel_rfl) (by kernel_rfl) (by kernel_rfl) (fun _ _ _ h => h) (Or.inl ⟨by rfl, ?hy1⟩) (by assumption) ?rr1
    case hy1 => (intro w' hSw; (try dsimp only at hSw); go_simp; try (with_reducible rfl))
    (try simp only [Act.put, List.setIfInBounds_toArray, List.set_cons_zero, List.set_cons_succ])
    refine' wpAnyH_take (i := 1) (oi := _) (v := _) rfl (by kernel_rfl) (by kernel_rfl) (by kernel_rfl) (fun _ _ _ h => h) (Or.inl ⟨by rfl, ?hy2⟩) (by assumption) ?rr2
    case hy2 => (intro w' hSw; (try dsimp only at hSw); go_simp; try (with_reducible rfl))
    (try simp only [Act.put, List.setIfInBounds_toArray, List.set_cons_zero, List.set_cons_succ])
    refine' wpAnyH_take (i := 2) (oi := _) (v := _) rfl (by kernel_rfl) (by kernel_rfl) (by kernel_rfl) (fun _ _ _ h => h) (Or.inl ⟨by rfl, ?hy3⟩) (by assumption) ?rr3
    case hy3 => (intro w' hSw; (try dsimp only at hSw); go_simp; try (with_reducible rfl))
    (try simp only [Act.put, List.setIfInBounds_toArray, List.set_cons_zero, List.set_cons_succ])
    refine' wpAnyH_take (i := 3) (oi := _) (v := _) rfl (by kernel_rfl) (by kernel_rfl) (by kernel_rfl) (fun _ _ _ h => h) (Or.inl ⟨by rfl, ?hy4⟩) (by assumption) ?rr4
    case hy4 => (intro w' hSw; (try dsimp only at hSw); go_simp; try (with_reducible rfl))
    (try simp only [Act.put, List.setIfInBounds_toArray, List.set_cons_zero, List.set_cons_succ])
    refine' wpAnyH_take (i := 4) (oi := _) (v := _) rfl (by kernel_rfl) (by kernel_rfl) (by kernel_rfl) (fun _ _ _ h => h) (Or.inl ⟨by rfl, ?hy5⟩) (by assumption) ?rr5
    case hy5 => (intro w' hSw; (try dsimp only at hSw); go_simp; try (with_reducible rfl))
    (try simp only [Act.put, List.setIfInBounds_toArray, List.set_cons_zero, List.set_cons_succ])
    refine' wpAnyH_take (i := 5) (oi := _) (v := _) rfl (by kernel_rfl) (by kernel_rfl) (by kernel_rfl) (fun _ _ _ h => h) (Or.inl ⟨by rfl, ?hy6⟩) (by assumption) ?rr6
    case hy6 => (intro w' hSw; (try dsimp only at hSw); go_simp; try (with_reducible rfl))
    (try simp only [Act.put, List.setIfInBounds_toArray, List.set_cons_zero, List.set_cons_succ])
    refine' wpAnyH_take (i := 6) (oi := _) (v := _) rfl (by kernel_rfl) (by kernel_rfl) (by kernel_rfl) (fun _ _ _ h => h) (Or.inl ⟨by rfl, ?hy7⟩) (by assumption) ?rr7
    case hy7 => (intro w' hSw; (try dsimp only at hSw); go_simp; try (with_reducible rfl))
    (try simp only [Act.put, List.setIfInBounds_toArray, List.set_cons_zero, List.set_cons_succ])
    refine' wpAnyH_take (i := 7) (oi := _) (v := _) rfl (by kernel_rfl) (by kernel_rfl) (by kernel_rfl) (fun _ _ _ h => h) (Or.inl ⟨by rfl, ?hy8⟩) (by assumption) ?rr8
    case hy8 => (intro w' hSw; (try dsimp only at hSw); go_simp; try (with_reducible rfl))
    (try simp only [Act.put, List.setIfInBounds_toArray, List.set_cons_zero, List.set_cons_succ])
    refine' wpAnyH_take (i := 8) (oi := _) (v := _) rfl (by kernel_rfl) (by kernel_rfl) (by kernel_rfl) (fun _ _ _ h => h) (Or.inl ⟨by rfl, ?hy9⟩) (by assumption) ?rr9
    case hy9 => (intro w' hSw; (try dsimp only at hSw); go_simp; try (with_reducible rfl))
    (try simp only [Act.put, List.setIfInBounds_toArray, List.set_cons_zero, List.set_cons_succ])
    refine wpAnyH_ready (rs := [9]) (by kernel_rfl) (by simp) ?_
    refine AllReadyH.cons (o := _) rfl (fun K hK => ?_) AllReadyH.nil
    go_simp
    refine hK.out _ _ ?_ (fun hHeld => ?_)
    · exact ⟨c0, k0, k1⟩
    clear hK K
    (try simp only [Act.put, List.setIfInBounds_toArray, List.set_cons_zero, List.set_cons_succ])
    refine wpAnyH_ready (rs := [10]) (by kernel_rfl) (by simp) ?_
    refine AllReadyH.cons (o := _) rfl (fun K hK => ?_) AllReadyH.nil
    go_simp
    refine (vmap_Translate 1 b ver _ (GP.out.below (bdrewA W3)) hv).mono ?_
    rintro e w4 ⟨rfl, hb4⟩
    rw [HT.out]
    have B4 := Lib.hid (B3.out.drew.step hb4)
    have B5 := Lib.hid (B4.out.put 1 (by show 1 < 9; omega) (.string V))
    have y1 := B4.out.pk.cell 1 _ rfl
    have g1 := B4.out.pk.free 1 (by show 1 < 9; omega)
    go_wp2_with fail
    refine hK.out _ _ ?_ (fun hHeld => ?_)
    · exact ⟨B4.out.box.cell 0 _ rfl, B4.out.kv.cell 0 _ rfl, B4.out.kv.cell 1 _ rfl⟩
    clear hK K
    (try simp only [Act.put, List.setIfInBounds_toArray, List.set_cons_zero, List.set_cons_succ])
    refine' wpAnyH_take (i := 11) (oi := _) (v := _) rfl (by kernel_rfl) (by kernel_rfl) (by kernel_rfl) (fun _ _ _ h => h) (Or.inl ⟨by rfl, ?hy11⟩) (by assumption) ?rr11
    case hy11 => (intro w' hSw; (try dsimp only at hSw); go_simp; try (with_reducible rfl))
    (try simp only [Act.put, List.setIfInBounds_toArray, List.set_cons_zero, List.set_cons_succ])
    refine' wpAnyH_take (i := 12) (oi := _) (v := _) rfl (by kernel_rfl) (by kernel_rfl) (by kernel_rfl) (fun _ _ _ h => h) (Or.inl ⟨by rfl, ?hy12⟩) (by assumption) ?rr12
    case hy12 => (intro w' hSw; (try dsimp only at hSw); go_simp; try (with_reducible rfl))
    (try simp only [Act.put, List.setIfInBounds_toArray, List.set_cons_zero, List.set_cons_succ])
    refine' wpAnyH_take (i := 13) (oi := _) (v := _) rfl (by kernel_rfl) (by kernel_rfl) (by kernel_rfl) (fun _ _ _ h => h) (Or.inl ⟨by rfl, ?hy13⟩) (by assumption) ?rr13
    case hy13 => (intro w' hSw; (try dsimp only at hSw); go_simp; try (with_reducible rfl))
    (try simp only [Act.put, List.setIfInBounds_toArray, List.set_cons_zero, List.set_cons_succ])
    refine' wpAnyH_take (i := 14) (oi := _) (v := _) rfl (by kernel_rfl) (by kernel_rfl) (by kernel_rfl) (fun _ _ _ h => h) (Or.inl ⟨by rfl, ?hy10⟩) (by assumption) ?rr10
    case hy10 => (intro w' hSw; (try dsimp only at hSw); go_simp; try (with_reducible rfl))
    (try simp only [Act.put, List.setIfInBounds_toArray, List.set_cons_zero, List.set_cons_succ])
    refine wpAnyH_ready (rs := [15]) (by kernel_rfl) (by simp) ?_
    refine AllReadyH.cons (o := _) rfl (fun K hK => ?_) AllReadyH.nil
    go_simp
    refine hK.out _ _ ?_ (fun hHeld => ?_)
    · exact ⟨B5.out.box.cell 0 _ rfl, B5.out.kv.cell 0 _ rfl, B5.out.kv.cell 1 _ rfl⟩
    clear hK K
    (try simp only [Act.put, List.setIfInBounds_toArray, List.set_cons_zero, List.set_cons_succ])
    refine' wpAnyH_take (i := 16) (oi := { dst := some 6, op := Op.assign (Operand.tmp 34), type := 47, pos := _, after := _, guard := none }) (v := _) rfl (by kernel_rfl) (by kernel_rfl) (by kernel_rfl) (fun _ _ _ h => h) (Or.inl ⟨by rfl, ?hy14⟩) (by assumption) ?rr14
    case hy14 => (intro w' hSw; (try dsimp only at hSw); go_simp; try (with_reducible rfl))
    (try simp only [Act.put, List.setIfInBounds_toArray, List.set_cons_zero, List.set_cons_succ])
    refine wpAnyH_done (by kernel_rfl) ?_ _
    (try simp only [Act.put, List.setIfInBounds_toArray, List.set_cons_zero, List.set_cons_succ, List.set])
    simp only [List.set] at B5
    clear c0 k0 k1 p1 y1 g1 hb4
    go_wp2_with fail
    go_meet
    exact ⟨rfl, B5⟩
  case rest =>
    obtain ⟨rfl, B5⟩ := hcut
    obtain ⟨W5, hW5⟩ : ∃ W5, wc = W5 := ⟨_, rfl⟩
    rw [hW5] at B5 ⊢
    clear hW5 c0 k0 k1 p1
    obtain ⟨W6, hW6⟩ : ∃ W6, W5 = W6 := ⟨_, rfl⟩
    have B6 := B5
    rw [hW6] at B6 ⊢
    clear hW6
    have c0 := B6.out.box.cell 0 _ rfl
    have k0 := B6.out.kv.cell 0 _ rfl
    have p4 := B6.out.pk.cell 4 _ rfl
    go_upto_region 6 with (fail)
    go_quiet ((go_at_call 46; exact Calls.quiet_of_same (dmap_From_nil 1 (.inl rfl) na nc false _)))
    clear c0 k0 p4
    obtain ⟨W7, hW7⟩ : ∃ W7, W6.drewN nq = W7 := ⟨_, rfl⟩
    have B7 := Lib.hid (B6.out.drewN nq)
    rw [hW7] at B7 ⊢
    clear hW7
    have c0 := B7.out.box.cell 0 _ rfl
    have k0 := B7.out.kv.cell 0 _ rfl
    have p5 := B7.out.pk.cell 5 _ rfl
    go_upto_region 7 with (fail)
    go_quiet ((go_at_call 46; exact Calls.quiet_of_same (dmap_From_nil 1 (.inl rfl) ba bc true _)))
    clear c0 k0 p5
    obtain ⟨W8, hW8⟩ : ∃ W8, W7.drewN nq = W8 := ⟨_, rfl⟩
    have B8 := Lib.hid (B7.out.drewN nq)
    rw [hW8] at B8 ⊢
    clear hW8
    have c0 := B8.out.box.cell 0 _ rfl
    have k1 := B8.out.kv.cell 1 _ rfl
    go_upto_region 13 with (fail)
    go_cut [6] (fun s6 wx => s6 = .int .i64 0 ∧ Hid (CvB X0 w wx kb (cvC 1 b m (.slice none 0 0)) [.string nm, .string V, .string ar, .string sm, .slice none 0 0, .slice none 0 0, .slice ga 0 gc, .slice fa 0 fc, .slice sa 0 sc]))
    case first =>
      go_region_held3 (fun w' => w'.cell? ⟨w.heap.size, 0, none⟩ = some (.pointer (some ⟨kb, 0, none⟩)) ∧ w'.cell? ⟨kb, 1, none⟩ = some (.int .i64 b))
        (first
          | exact ⟨c0, k1⟩
          | exact ⟨c09, k19⟩
          | exact ⟨B12.out.box.cell 0 _ rfl, B12.out.kv.cell 1 _ rfl⟩
          | exact ⟨B11.out.box.cell 0 _ rfl, B11.out.kv.cell 1 _ rfl⟩
          | exact ⟨B10.out.box.cell 0 _ rfl, B10.out.kv.cell 1 _ rfl⟩
          | go_keep)
        (first
          | (go_at_call 47; refine (dmap_To_nil b HBB.out A9 c9 _).mono ?_; rintro e w10 ⟨rfl, hb10⟩
             have B10 := Lib.hid (B9.out.step hb10)
             have B11 := Lib.hid (B10.out.put 4 (by show 4 < 9; omega) (.slice none 0 0))
             have B12 := Lib.hid (B11.out.put 5 (by show 5 < 9; omega) (.slice none 0 0))
             have y4 := B10.out.pk.cell 4 _ rfl
             have g4 := B10.out.pk.free 4 (by show 4 < 9; omega)
             have y5 := B10.out.pk.cell 5 _ rfl
             have g5 := B10.out.pk.free 5 (by show 5 < 9; omega))
          | (refine step_append_any _ (by rfl) _ _ _ (by rfl) W8.heap.size 136 i0 _ 2 32 Tryz.underlying101 hi0 hz0 hz1 hz2 rfl (by omega) (.slice none 0 0) 0 [] (by rfl) (World.ownsRow_nil _ _ _ _) 0 none 0 0 [] (by rfl) (reads_none _ _ _ _) (by simp) (by simp only [maxLen]; omega) (by omega) (by simp) ?_
             intro v9 w9 hown9 hg9 hat9
             obtain ⟨A9, c9, rfl⟩ := owns_form hown9
             have B9 := Lib.hid ((B8.out.drew).grow hg9)
             have c09 := B9.out.box.cell 0 _ rfl
             have k19 := B9.out.kv.cell 1 _ rfl))
      all_goals
        simp only [List.set] at B12
        clear c0 k1 c09 k19 y4 g4 y5 g5 hb10 hown9 hg9 hat9
        go_wp2_with fail
        go_meet
        exact ⟨rfl, B12⟩
    case rest =>
      obtain ⟨rfl, B11⟩ := hcut
      obtain ⟨W11, hW11⟩ : ∃ W11, wc = W11 := ⟨_, rfl⟩
      rw [hW11] at B11 ⊢
      clear hW11 c0 k1
      have p6 := B11.out.pk.cell 6 _ rfl
      have c0 := B11.out.box.cell 0 _ rfl
      have k0 := B11.out.kv.cell 0 _ rfl
      have k1 := B11.out.kv.cell 1 _ rfl
      have p2 := B11.out.pk.cell 2 _ rfl
      go_wp2_with fail
      refine wp_loop_rounds 1 ?_
      rw [rounds_succ]
      go_upto_region 24 with (fail)
      go_cut [15, 16] (fun s15 s16 wx => s15 = .string AR ∧ s16 = .int .i64 0 ∧ Hid (CvB X0 w wx kb (cvC 1 b m (.slice none 0 0)) [.string nm, .string V, .string ar, .string sm, .slice none 0 0, .slice none 0 0, .slice ga 0 gc, .slice fa 0 fc, .slice sa 0 sc]))
      case first =>
        go_region_held3 (fun w' => w'.cell? ⟨w.heap.size, 0, none⟩ = some (.pointer (some ⟨kb, 0, none⟩)) ∧ w'.cell? ⟨kb, 0, none⟩ = some (.int .i64 1) ∧ w'.cell? ⟨kb, 1, none⟩ = some (.int .i64 b) ∧ w'.cell? ⟨w.heap.size + 1, 2, none⟩ = some (.string ar))
          (first
            | exact ⟨c0, k0, k1, p2⟩
            | exact ⟨B12.out.box.cell 0 _ rfl, B12.out.kv.cell 0 _ rfl, B12.out.kv.cell 1 _ rfl, B12.out.pk.cell 2 _ rfl⟩
            | go_keep)
          (first
            | (go_at_call 49; refine (model_Arch 1 b ar _).mono ?_; rintro e w12 ⟨rfl, hb12⟩
               rw [HAR.out]
               have B12 := Lib.hid (B11.out.drew.step hb12)
               unfold archV))
        all_goals
          clear p6 c0 k0 k1 p2 hb12
          go_wp2_with fail
          go_meet
          exact ⟨rfl, rfl, B12⟩
      case rest =>
        obtain ⟨rfl, rfl, B12⟩ := hcut
        obtain ⟨w12, hw12⟩ : ∃ w12, wc = w12 := ⟨_, rfl⟩
        rw [hw12] at B12 ⊢
        clear hw12 p6 c0 k0 k1 p2
        have p2 := B12.out.pk.cell 2 _ rfl
        have g2 := B12.out.pk.free 2 (by show 2 < 9; omega)
        have B13 := Lib.hid (B12.out.put 2 (by show 2 < 9; omega) (.string AR))
        obtain ⟨W13, hW13⟩ : ∃ W13, w12.setCell ⟨w.heap.size + 1, 2, none⟩ (.string AR) = W13 := ⟨_, rfl⟩
        rw [hW13] at B13
        simp only [List.set] at B13
        have p7 := B13.out.pk.cell 7 _ rfl
        have p8 := B13.out.pk.cell 8 _ rfl
        go_wp2_with fail
        refine wp_loop_rounds 1 ?_
        rw [rounds_succ]
        go_wp2_with fail
        refine (contains_none sa sc _ _).mono ?_; rintro e w14 ⟨rfl, h14⟩
        rw [h14]
        clear h14
        have q0 := B13.out.pk.cell 0 _ rfl
        have q1 := B13.out.pk.cell 1 _ rfl
        have q2 := B13.out.pk.cell 2 _ rfl
        have q3 := B13.out.pk.cell 3 _ rfl
        have q4 := B13.out.pk.cell 4 _ rfl
        have q5 := B13.out.pk.cell 5 _ rfl
        have q6 := B13.out.pk.cell 6 _ rfl
        have z0 := B13.out.res.cell 0 _ rfl
        have z1 := B13.out.res.cell 1 _ rfl
        have z2 := B13.out.res.cell 2 _ rfl
        have z3 := B13.out.res.cell 3 _ rfl
        have z4 := B13.out.res.cell 4 _ rfl
        have z5 := B13.out.res.cell 5 _ rfl
        have z6 := B13.out.res.cell 6 _ rfl
        have z7 := B13.out.res.cell 7 _ rfl
        have z8 := B13.out.res.cell 8 _ rfl
        have f0 := B13.out.res.free 0 (by decide)
        have f1 := B13.out.res.free 1 (by decide)
        have f2 := B13.out.res.free 2 (by decide)
        have f3 := B13.out.res.free 3 (by decide)
        have f4 := B13.out.res.free 4 (by decide)
        have f5 := B13.out.res.free 5 (by decide)
        have f6 := B13.out.res.free 6 (by decide)
        have f7 := B13.out.res.free 7 (by decide)
        have f8 := B13.out.res.free 8 (by decide)
        go_wp2_with fail
        obtain ⟨W9, hW9⟩ : ∃ W9, W13.setCells (w.heap.size + 2) 0 [.string nm, .string V, .string AR, .string sm, .slice none 0 0, .slice none 0 0, .slice ga 0 gc, .slice fa 0 fc, .slice sa 0 sc] = W9 := ⟨_, rfl⟩
        obtain ⟨KF, KV, GF, XF⟩ := B13.out.done _ rfl hW9
        show bodyPost _ _ _ _ _ (W13.setCells (w.heap.size + 2) 0 [.string nm, .string V, .string AR, .string sm, .slice none 0 0, .slice none 0 0, .slice ga 0 gc, .slice fa 0 fc, .slice sa 0 sc])
        rw [hW9]
        have x0 := KF.cell 0 _ rfl
        have x1 := KF.cell 1 _ rfl
        have x2 := KF.cell 2 _ rfl
        have x3 := KF.cell 3 _ rfl
        have x4 := KF.cell 4 _ rfl
        have x5 := KF.cell 5 _ rfl
        have x6 := KF.cell 6 _ rfl
        have x7 := KF.cell 7 _ rfl
        have x8 := KF.cell 8 _ rfl
        refine bodyPost_ret (v := .agg #[.string nm, .string V, .string AR, .string sm, .slice none 0 0, .slice none 0 0, .slice ga 0 gc, .slice fa 0 fc, .slice sa 0 sc]) (by simp [results, Tryz.results23, go_sem, x0, x1, x2, x3, x4, x5, x6, x7, x8]) rfl ⟨rfl, KV, GF⟩
theorem convert_one_bad (b : Int) (hb : b = 2 ∨ b = 3) (m : Value) (kb : Nat) (nm ver ar sm V AR : ByteArray) (ec : Int) (hec : ec ≠ 0) (na ba ga fa sa : Option Addr) (nc bc gc fc sc : Nat) (w : World) (hG : GlP w) (hv : ver.size ≤ 9223372036854775807) (hk : Blk w kb (cvC 1 b m (.slice none 0 0))) (ht : prtVal (trans 1 b ver) = .tuple #[.string V, .int .i64 ec]) (har : archOf 1 b ar = (AR, 0)) :
    Calls Tryz.prog 23 #[.pointer (some ⟨kb, 0, none⟩), .agg #[.string nm, .string ver, .string ar, .string sm, .slice na 0 nc, .slice ba 0 bc, .slice ga 0 gc, .slice fa 0 fc, .slice sa 0 sc]] w fun e w' =>
      e = .returned (.agg #[.string nm, .string V, .string AR, .string sm, .slice none 0 0, .slice none 0 0, .slice ga 0 gc, .slice fa 0 fc, .slice sa 0 sc]) ∧ ∃ g c, Blk w' kb (cvC 1 b m (.slice (some ⟨g, 0, none⟩) 1 c)) ∧ Blk w' g [.string nm, .string ⟨#[118, 101, 114, 115, 105, 111, 110]⟩, .int .i64 11] ∧ w.heap.size ≤ g ∧ w.grownBy w' (some kb) := by
  obtain ⟨i0, hi0, hz0, hz1, hz2⟩ := info_parts info_depC
  have hbf : isF b := by rcases hb with rfl | rfl <;> simp [isF]
  have HG := Lib.hid hG
  have HT := Lib.hid ht
  have HAR := Lib.hid har
  have HBB := Lib.hid hb
  have HEC := Lib.hid hec
  obtain ⟨W3, hW3⟩ : ∃ W3, ((w.alloc (.cells #[.pointer (some ⟨kb, 0, none⟩)] 89)).alloc (.cells #[.string nm, .string ver, .string ar, .string sm, .slice na 0 nc, .slice ba 0 bc, .slice ga 0 gc, .slice fa 0 fc, .slice sa 0 sc] 43)).alloc (.cells #[.string ⟨#[]⟩, .string ⟨#[]⟩, .string ⟨#[]⟩, .string ⟨#[]⟩, .slice none 0 0, .slice none 0 0, .slice none 0 0, .slice none 0 0, .slice none 0 0] 43) = W3 := ⟨_, rfl⟩
  have B3 : Hid (CvB X0 w W3 kb (cvC 1 b m (.slice none 0 0)) [.string nm, .string ver, .string ar, .string sm, .slice na 0 nc, .slice ba 0 bc, .slice ga 0 gc, .slice fa 0 fc, .slice sa 0 sc]) := by
    show CvB _ _ _ _ _ _
    rw [← hW3]
    exact CvB.start hk _ _ _
  have GP : Hid (GlP W3) := by
    show GlP _
    rw [← hW3]
    exact hG.below (((((Below.refl _ _).alloc (Nat.le_refl _) _).alloc (by simp) _).alloc (by simp; omega) _))
  clear hk hG ht har hb hbf
  go_enter Tryz.func23, Tryz.ntmps23
  go_upto_region 3 with (fail)
  clear hW3
  have c0 := B3.out.box.cell 0 _ rfl
  have k0 := B3.out.kv.cell 0 _ rfl
  have k1 := B3.out.kv.cell 1 _ rfl
  have p1 := B3.out.pk.cell 1 _ rfl
  go_cut [6] (fun s6 wx => s6 = .int .i64 ec ∧ Hid (CvB X0 w wx kb (cvC 1 b m (.slice none 0 0)) [.string nm, .string V, .string ar, .string sm, .slice na 0 nc, .slice ba 0 bc, .slice ga 0 gc, .slice fa 0 fc, .slice sa 0 sc]))
  case first =>
    refine wp_region_held_drew (S := fun w' => w'.cell? ⟨w.heap.size, 0, none⟩ = some (.pointer (some ⟨kb, 0, none⟩)) ∧ w'.cell? ⟨kb, 0, none⟩ = some (.int .i64 1) ∧ w'.cell? ⟨kb, 1, none⟩ = some (.int .i64 b)) (by kernel_rfl) ?_ (fun hHeld => ?_)
    · exact ⟨c0, k0, k1⟩
    refine' wpAnyH_take (i := 0) (oi := _) (v := _) rfl (by kernel_rfl) (by kernel_rfl) (by kernel_rfl) (fun _ _ _ h => h) (Or.inl ⟨by rfl, ?hy1⟩) (by assumption) ?rr1
    case hy1 => (intro w' hSw; (try dsimp only at hSw); go_simp; try (with_reducible rfl))
    (try simp only [Act.put, List.setIfInBounds_toArray, List.set_cons_zero, List.set_cons_succ])
    refine' wpAnyH_take (i := 1) (oi := _) (v := _) rfl (by kernel_rfl) (by kernel_rfl) (by kernel_rfl) (fun _ _ _ h => h) (Or.inl ⟨by rfl, ?hy2⟩) (by assumption) ?rr2
    case hy2 => (intro w' hSw; (try dsimp only at hSw); go_simp; try (with_reducible rfl))
    (try simp only [Act.put, List.setIfInBounds_toArray, List.set_cons_zero, List.set_cons_succ])
    refine' wpAnyH_take (i := 2) (oi := _) (v := _) rfl (by kernel_rfl) (by kernel_rfl) (by kernel_rfl) (fun _ _ _ h => h) (Or.inl ⟨by rfl, ?hy3⟩) (by assumption) ?rr3
    case hy3 => (intro w' hSw; (try dsimp only at hSw); go_simp; try (with_reducible rfl))
    (try simp only [Act.put, List.setIfInBounds_toArray, List.set_cons_zero, List.set_cons_succ])
    refine' wpAnyH_take (i := 3) (oi := _) (v := _) rfl (by kernel_rfl) (by kernel_rfl) (by kernel_rfl) (fun _ _ _ h => h) (Or.inl ⟨by rfl, ?hy4⟩) (by assumption) ?rr4
    case hy4 => (intro w' hSw; (try dsimp only at hSw); go_simp; try (with_reducible rfl))
    (try simp only [Act.put, List.setIfInBounds_toArray, List.set_cons_zero, List.set_cons_succ])
    refine' wpAnyH_take (i := 4) (oi := _) (v := _) rfl (by kernel_rfl) (by kernel_rfl) (by kernel_rfl) (fun _ _ _ h => h) (Or.inl ⟨by rfl, ?hy5⟩) (by assumption) ?rr5
    case hy5 => (intro w' hSw; (try dsimp only at hSw); go_simp; try (with_reducible rfl))
    (try simp only [Act.put, List.setIfInBounds_toArray, List.set_cons_zero, List.set_cons_succ])
    refine' wpAnyH_take (i := 5) (oi := _) (v := _) rfl (by kernel_rfl) (by kernel_rfl) (by kernel_rfl) (fun _ _ _ h => h) (Or.inl ⟨by rfl, ?hy6⟩) (by assumption) ?rr6
    case hy6 => (intro w' hSw; (try dsimp only at hSw); go_simp; try (with_reducible rfl))
    (try simp only [Act.put, List.setIfInBounds_toArray, List.set_cons_zero, List.set_cons_succ])
    refine' wpAnyH_take (i := 6) (oi := _) (v := _) rfl (by kernel_rfl) (by kernel_rfl) (by kernel_rfl) (fun _ _ _ h => h) (Or.inl ⟨by rfl, ?hy7⟩) (by assumption) ?rr7
    case hy7 => (intro w' hSw; (try dsimp only at hSw); go_simp; try (with_reducible rfl))
    (try simp only [Act.put, List.setIfInBounds_toArray, List.set_cons_zero, List.set_cons_succ])
    refine' wpAnyH_take (i := 7) (oi := _) (v := _) rfl (by kernel_rfl) (by kernel_rfl) (by kernel_rfl) (fun _ _ _ h => h) (Or.inl ⟨by rfl, ?hy8⟩) (by assumption) ?rr8
    case hy8 => (intro w' hSw; (try dsimp only at hSw); go_simp; try (with_reducible rfl))
    (try simp only [Act.put, List.setIfInBounds_toArray, List.set_cons_zero, List.set_cons_succ])
    refine' wpAnyH_take (i := 8) (oi := _) (v := _) rfl (by kernel_rfl) (by kernel_rfl) (by kernel_rfl) (fun _ _ _ h => h) (Or.inl ⟨by rfl, ?hy9⟩) (by assumption) ?rr9
    case hy9 => (intro w' hSw; (try dsimp only at hSw); go_simp; try (with_reducible rfl))
    (try simp only [Act.put, List.setIfInBounds_toArray, List.set_cons_zero, List.set_cons_succ])
    refine wpAnyH_ready (rs := [9]) (by kernel_rfl) (by simp) ?_
    refine AllReadyH.cons (o := _) rfl (fun K hK => ?_) AllReadyH.nil
    go_simp
    refine hK.out _ _ ?_ (fun hHeld => ?_)
    · exact ⟨c0, k0, k1⟩
    clear hK K
    (try simp only [Act.put, List.setIfInBounds_toArray, List.set_cons_zero, List.set_cons_succ])
    refine wpAnyH_ready (rs := [10]) (by kernel_rfl) (by simp) ?_
    refine AllReadyH.cons (o := _) rfl (fun K hK => ?_) AllReadyH.nil
    go_simp
    refine (vmap_Translate 1 b ver _ (GP.out.below (bdrewA W3)) hv).mono ?_
    rintro e w4 ⟨rfl, hb4⟩
    rw [HT.out]
    have B4 := Lib.hid (B3.out.drew.step hb4)
    have B5 := Lib.hid (B4.out.put 1 (by show 1 < 9; omega) (.string V))
    have y1 := B4.out.pk.cell 1 _ rfl
    have g1 := B4.out.pk.free 1 (by show 1 < 9; omega)
    go_wp2_with fail
    refine hK.out _ _ ?_ (fun hHeld => ?_)
    · exact ⟨B4.out.box.cell 0 _ rfl, B4.out.kv.cell 0 _ rfl, B4.out.kv.cell 1 _ rfl⟩
    clear hK K
    (try simp only [Act.put, List.setIfInBounds_toArray, List.set_cons_zero, List.set_cons_succ])
    refine' wpAnyH_take (i := 11) (oi := _) (v := _) rfl (by kernel_rfl) (by kernel_rfl) (by kernel_rfl) (fun _ _ _ h => h) (Or.inl ⟨by rfl, ?hy11⟩) (by assumption) ?rr11
    case hy11 => (intro w' hSw; (try dsimp only at hSw); go_simp; try (with_reducible rfl))
    (try simp only [Act.put, List.setIfInBounds_toArray, List.set_cons_zero, List.set_cons_succ])
    refine' wpAnyH_take (i := 12) (oi := _) (v := _) rfl (by kernel_rfl) (by kernel_rfl) (by kernel_rfl) (fun _ _ _ h => h) (Or.inl ⟨by rfl, ?hy12⟩) (by assumption) ?rr12
    case hy12 => (intro w' hSw; (try dsimp only at hSw); go_simp; try (with_reducible rfl))
    (try simp only [Act.put, List.setIfInBounds_toArray, List.set_cons_zero, List.set_cons_succ])
    refine' wpAnyH_take (i := 13) (oi := _) (v := _) rfl (by kernel_rfl) (by kernel_rfl) (by kernel_rfl) (fun _ _ _ h => h) (Or.inl ⟨by rfl, ?hy13⟩) (by assumption) ?rr13
    case hy13 => (intro w' hSw; (try dsimp only at hSw); go_simp; try (with_reducible rfl))
    (try simp only [Act.put, List.setIfInBounds_toArray, List.set_cons_zero, List.set_cons_succ])
    refine' wpAnyH_take (i := 14) (oi := _) (v := _) rfl (by kernel_rfl) (by kernel_rfl) (by kernel_rfl) (fun _ _ _ h => h) (Or.inl ⟨by rfl, ?hy10⟩) (by assumption) ?rr10
    case hy10 => (intro w' hSw; (try dsimp only at hSw); go_simp; try (with_reducible rfl))
    (try simp only [Act.put, List.setIfInBounds_toArray, List.set_cons_zero, List.set_cons_succ])
    refine wpAnyH_ready (rs := [15]) (by kernel_rfl) (by simp) ?_
    refine AllReadyH.cons (o := _) rfl (fun K hK => ?_) AllReadyH.nil
    go_simp
    refine hK.out _ _ ?_ (fun hHeld => ?_)
    · exact ⟨B5.out.box.cell 0 _ rfl, B5.out.kv.cell 0 _ rfl, B5.out.kv.cell 1 _ rfl⟩
    clear hK K
    (try simp only [Act.put, List.setIfInBounds_toArray, List.set_cons_zero, List.set_cons_succ])
    refine' wpAnyH_take (i := 16) (oi := { dst := some 6, op := Op.assign (Operand.tmp 34), type := 47, pos := _, after := _, guard := none }) (v := _) rfl (by kernel_rfl) (by kernel_rfl) (by kernel_rfl) (fun _ _ _ h => h) (Or.inl ⟨by rfl, ?hy14⟩) (by assumption) ?rr14
    case hy14 => (intro w' hSw; (try dsimp only at hSw); go_simp; try (with_reducible rfl))
    (try simp only [Act.put, List.setIfInBounds_toArray, List.set_cons_zero, List.set_cons_succ])
    refine wpAnyH_done (by kernel_rfl) ?_ _
    (try simp only [Act.put, List.setIfInBounds_toArray, List.set_cons_zero, List.set_cons_succ, List.set])
    simp only [List.set] at B5
    clear c0 k0 k1 p1 y1 g1 hb4
    go_wp2_with fail
    go_meet
    exact ⟨rfl, B5⟩
  case rest =>
    obtain ⟨rfl, B5⟩ := hcut
    obtain ⟨W5, hW5⟩ : ∃ W5, wc = W5 := ⟨_, rfl⟩
    rw [hW5] at B5 ⊢
    clear hW5 c0 k0 k1 p1
    have hne : (ec != 0) = true := by simpa using HEC.out
    go_wp2_with fail
    refine (convert_refuse 1 b m kb w.heap.size nm ⟨#[118, 101, 114, 115, 105, 111, 110]⟩ 11 _ W5 B5.out.kv B5.out.box B5.out.pk).mono ?_
    rintro e W6 ⟨rfl, gR, cR, hkR, hgR, hleR, hgrR⟩
    have B6 := Lib.hid (B5.out.ref hkR hgR hleR hgrR)
    have LR : Hid (w.heap.size ≤ gR) := Nat.le_trans B5.out.gr.size hleR
    clear hkR hgR hleR hgrR
    have c0 := B6.out.box.cell 0 _ rfl
    have k0 := B6.out.kv.cell 0 _ rfl
    have p4 := B6.out.pk.cell 4 _ rfl
    go_upto_region 6 with (fail)
    go_quiet ((go_at_call 46; exact Calls.quiet_of_same (dmap_From_nil 1 (.inl rfl) na nc false _)))
    clear c0 k0 p4
    obtain ⟨W7, hW7⟩ : ∃ W7, W6.drewN nq = W7 := ⟨_, rfl⟩
    have B7 := Lib.hid (B6.out.drewN nq)
    rw [hW7] at B7 ⊢
    clear hW7
    have c0 := B7.out.box.cell 0 _ rfl
    have k0 := B7.out.kv.cell 0 _ rfl
    have p5 := B7.out.pk.cell 5 _ rfl
    go_upto_region 7 with (fail)
    go_quiet ((go_at_call 46; exact Calls.quiet_of_same (dmap_From_nil 1 (.inl rfl) ba bc true _)))
    clear c0 k0 p5
    obtain ⟨W8, hW8⟩ : ∃ W8, W7.drewN nq = W8 := ⟨_, rfl⟩
    have B8 := Lib.hid (B7.out.drewN nq)
    rw [hW8] at B8 ⊢
    clear hW8
    have c0 := B8.out.box.cell 0 _ rfl
    have k1 := B8.out.kv.cell 1 _ rfl
    go_upto_region 13 with (fail)
    go_cut [6] (fun s6 wx => s6 = .int .i64 0 ∧ Hid (CvB (XR gR [.string nm, .string ⟨#[118, 101, 114, 115, 105, 111, 110]⟩, .int .i64 11]) w wx kb (cvC 1 b m (.slice (some ⟨gR, 0, none⟩) 1 cR)) [.string nm, .string V, .string ar, .string sm, .slice none 0 0, .slice none 0 0, .slice ga 0 gc, .slice fa 0 fc, .slice sa 0 sc]))
    case first =>
      go_region_held3 (fun w' => w'.cell? ⟨w.heap.size, 0, none⟩ = some (.pointer (some ⟨kb, 0, none⟩)) ∧ w'.cell? ⟨kb, 1, none⟩ = some (.int .i64 b))
        (first
          | exact ⟨c0, k1⟩
          | exact ⟨c09, k19⟩
          | exact ⟨B12.out.box.cell 0 _ rfl, B12.out.kv.cell 1 _ rfl⟩
          | exact ⟨B11.out.box.cell 0 _ rfl, B11.out.kv.cell 1 _ rfl⟩
          | exact ⟨B10.out.box.cell 0 _ rfl, B10.out.kv.cell 1 _ rfl⟩
          | go_keep)
        (first
          | (go_at_call 47; refine (dmap_To_nil b HBB.out A9 c9 _).mono ?_; rintro e w10 ⟨rfl, hb10⟩
             have B10 := Lib.hid (B9.out.step hb10)
             have B11 := Lib.hid (B10.out.put 4 (by show 4 < 9; omega) (.slice none 0 0))
             have B12 := Lib.hid (B11.out.put 5 (by show 5 < 9; omega) (.slice none 0 0))
             have y4 := B10.out.pk.cell 4 _ rfl
             have g4 := B10.out.pk.free 4 (by show 4 < 9; omega)
             have y5 := B10.out.pk.cell 5 _ rfl
             have g5 := B10.out.pk.free 5 (by show 5 < 9; omega))
          | (refine step_append_any _ (by rfl) _ _ _ (by rfl) W8.heap.size 136 i0 _ 2 32 Tryz.underlying101 hi0 hz0 hz1 hz2 rfl (by omega) (.slice none 0 0) 0 [] (by rfl) (World.ownsRow_nil _ _ _ _) 0 none 0 0 [] (by rfl) (reads_none _ _ _ _) (by simp) (by simp only [maxLen]; omega) (by omega) (by simp) ?_
             intro v9 w9 hown9 hg9 hat9
             obtain ⟨A9, c9, rfl⟩ := owns_form hown9
             have B9 := Lib.hid ((B8.out.drew).grow hg9)
             have c09 := B9.out.box.cell 0 _ rfl
             have k19 := B9.out.kv.cell 1 _ rfl))
      all_goals
        simp only [List.set] at B12
        clear c0 k1 c09 k19 y4 g4 y5 g5 hb10 hown9 hg9 hat9
        go_wp2_with fail
        go_meet
        exact ⟨rfl, B12⟩
    case rest =>
      obtain ⟨rfl, B11⟩ := hcut
      obtain ⟨W11, hW11⟩ : ∃ W11, wc = W11 := ⟨_, rfl⟩
      rw [hW11] at B11 ⊢
      clear hW11 c0 k1
      have p6 := B11.out.pk.cell 6 _ rfl
      have c0 := B11.out.box.cell 0 _ rfl
      have k0 := B11.out.kv.cell 0 _ rfl
      have k1 := B11.out.kv.cell 1 _ rfl
      have p2 := B11.out.pk.cell 2 _ rfl
      go_wp2_with fail
      refine wp_loop_rounds 1 ?_
      rw [rounds_succ]
      go_upto_region 24 with (fail)
      go_cut [15, 16] (fun s15 s16 wx => s15 = .string AR ∧ s16 = .int .i64 0 ∧ Hid (CvB (XR gR [.string nm, .string ⟨#[118, 101, 114, 115, 105, 111, 110]⟩, .int .i64 11]) w wx kb (cvC 1 b m (.slice (some ⟨gR, 0, none⟩) 1 cR)) [.string nm, .string V, .string ar, .string sm, .slice none 0 0, .slice none 0 0, .slice ga 0 gc, .slice fa 0 fc, .slice sa 0 sc]))
      case first =>
        go_region_held3 (fun w' => w'.cell? ⟨w.heap.size, 0, none⟩ = some (.pointer (some ⟨kb, 0, none⟩)) ∧ w'.cell? ⟨kb, 0, none⟩ = some (.int .i64 1) ∧ w'.cell? ⟨kb, 1, none⟩ = some (.int .i64 b) ∧ w'.cell? ⟨w.heap.size + 1, 2, none⟩ = some (.string ar))
          (first
            | exact ⟨c0, k0, k1, p2⟩
            | exact ⟨B12.out.box.cell 0 _ rfl, B12.out.kv.cell 0 _ rfl, B12.out.kv.cell 1 _ rfl, B12.out.pk.cell 2 _ rfl⟩
            | go_keep)
          (first
            | (go_at_call 49; refine (model_Arch 1 b ar _).mono ?_; rintro e w12 ⟨rfl, hb12⟩
               rw [HAR.out]
               have B12 := Lib.hid (B11.out.drew.step hb12)
               unfold archV))
        all_goals
          clear p6 c0 k0 k1 p2 hb12
          go_wp2_with fail
          go_meet
          exact ⟨rfl, rfl, B12⟩
      case rest =>
        obtain ⟨rfl, rfl, B12⟩ := hcut
        obtain ⟨w12, hw12⟩ : ∃ w12, wc = w12 := ⟨_, rfl⟩
        rw [hw12] at B12 ⊢
        clear hw12 p6 c0 k0 k1 p2
        have p2 := B12.out.pk.cell 2 _ rfl
        have g2 := B12.out.pk.free 2 (by show 2 < 9; omega)
        have B13 := Lib.hid (B12.out.put 2 (by show 2 < 9; omega) (.string AR))
        obtain ⟨W13, hW13⟩ : ∃ W13, w12.setCell ⟨w.heap.size + 1, 2, none⟩ (.string AR) = W13 := ⟨_, rfl⟩
        rw [hW13] at B13
        simp only [List.set] at B13
        have p7 := B13.out.pk.cell 7 _ rfl
        have p8 := B13.out.pk.cell 8 _ rfl
        go_wp2_with fail
        refine wp_loop_rounds 1 ?_
        rw [rounds_succ]
        go_wp2_with fail
        refine (contains_none sa sc _ _).mono ?_; rintro e w14 ⟨rfl, h14⟩
        rw [h14]
        clear h14
        have q0 := B13.out.pk.cell 0 _ rfl
        have q1 := B13.out.pk.cell 1 _ rfl
        have q2 := B13.out.pk.cell 2 _ rfl
        have q3 := B13.out.pk.cell 3 _ rfl
        have q4 := B13.out.pk.cell 4 _ rfl
        have q5 := B13.out.pk.cell 5 _ rfl
        have q6 := B13.out.pk.cell 6 _ rfl
        have z0 := B13.out.res.cell 0 _ rfl
        have z1 := B13.out.res.cell 1 _ rfl
        have z2 := B13.out.res.cell 2 _ rfl
        have z3 := B13.out.res.cell 3 _ rfl
        have z4 := B13.out.res.cell 4 _ rfl
        have z5 := B13.out.res.cell 5 _ rfl
        have z6 := B13.out.res.cell 6 _ rfl
        have z7 := B13.out.res.cell 7 _ rfl
        have z8 := B13.out.res.cell 8 _ rfl
        have f0 := B13.out.res.free 0 (by decide)
        have f1 := B13.out.res.free 1 (by decide)
        have f2 := B13.out.res.free 2 (by decide)
        have f3 := B13.out.res.free 3 (by decide)
        have f4 := B13.out.res.free 4 (by decide)
        have f5 := B13.out.res.free 5 (by decide)
        have f6 := B13.out.res.free 6 (by decide)
        have f7 := B13.out.res.free 7 (by decide)
        have f8 := B13.out.res.free 8 (by decide)
        go_wp2_with fail
        obtain ⟨W9, hW9⟩ : ∃ W9, W13.setCells (w.heap.size + 2) 0 [.string nm, .string V, .string AR, .string sm, .slice none 0 0, .slice none 0 0, .slice ga 0 gc, .slice fa 0 fc, .slice sa 0 sc] = W9 := ⟨_, rfl⟩
        obtain ⟨KF, KV, GF, XF⟩ := B13.out.done _ rfl hW9
        show bodyPost _ _ _ _ _ (W13.setCells (w.heap.size + 2) 0 [.string nm, .string V, .string AR, .string sm, .slice none 0 0, .slice none 0 0, .slice ga 0 gc, .slice fa 0 fc, .slice sa 0 sc])
        rw [hW9]
        have x0 := KF.cell 0 _ rfl
        have x1 := KF.cell 1 _ rfl
        have x2 := KF.cell 2 _ rfl
        have x3 := KF.cell 3 _ rfl
        have x4 := KF.cell 4 _ rfl
        have x5 := KF.cell 5 _ rfl
        have x6 := KF.cell 6 _ rfl
        have x7 := KF.cell 7 _ rfl
        have x8 := KF.cell 8 _ rfl
        refine bodyPost_ret (v := .agg #[.string nm, .string V, .string AR, .string sm, .slice none 0 0, .slice none 0 0, .slice ga 0 gc, .slice fa 0 fc, .slice sa 0 sc]) (by simp [results, Tryz.results23, go_sem, x0, x1, x2, x3, x4, x5, x6, x7, x8]) rfl ⟨rfl, gR, cR, KV, XF gR _ ⟨rfl, rfl⟩, LR.out, GF⟩
end
end Go.Proofs.YtlhchpeecfbgnaaGreatDoor
