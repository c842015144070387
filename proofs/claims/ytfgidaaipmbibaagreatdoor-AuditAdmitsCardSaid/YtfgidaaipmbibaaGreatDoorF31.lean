/- A part of the proof of a law on which findings a policy admits. No condition. -/
import Derived.Test.YtfgidaaipmbibaaGreatDoorF17
import Derived.Test.YtfgidaaipmbibaaGreatDoorF29
import Derived.Test.YtfgidaaipmbibaaGreatDoorF30
set_option maxRecDepth 100000
set_option maxHeartbeats 20000000
set_option linter.unusedVariables false
set_option linter.unusedSimpArgs false
namespace Go.Proofs.YtfgidaaipmbibaaGreatDoor
section
open Go.RowKit Go.Deep
open Go.RowKit
open Go.RowKit Go.Maps
def ckV (nm : ByteArray) (r : ByteArray × Int) : Value := if r.2 = 0 then refV ⟨#[]⟩ ⟨#[]⟩ 0 else refV nm r.1 r.2
theorem ckV_zero (nm what : ByteArray) : ckV nm (what, 0) = .agg #[.string ⟨#[]⟩, .string ⟨#[]⟩, .int .i64 0] := rfl
theorem ckV_else (nm what : ByteArray) {c : Int} (h : c ≠ 0) : ckV nm (what, c) = .agg #[.string nm, .string what, .int .i64 c] := by unfold ckV; rw [if_neg h]; rfl
structure RC (w wr : World) : Prop where
  bel : Below w.heap.size w wr
  res : Blk wr w.heap.size [.string ⟨#[]⟩, .string ⟨#[]⟩, .int .i64 0]
theorem RC.step {w wr w' : World} (h : RC w wr) (hb : Below wr.heap.size wr w') : RC w w' := ⟨bthen h.bel hb, h.res.below hb⟩
theorem RC.alloc {w wr : World} (h : RC w wr) (o : Obj) : RC w (wr.alloc o) := h.step ((Below.refl _ _).alloc (Nat.le_refl _) o)
theorem RC.start (w : World) : RC w (w.alloc (.cells #[.string ⟨#[]⟩, .string ⟨#[]⟩, .int .i64 0] 36)) :=
  ⟨(Below.refl _ _).alloc (Nat.le_refl _) _, Blk.new w [.string ⟨#[]⟩, .string ⟨#[]⟩, .int .i64 0] _⟩
theorem RC.done {w wr : World} (h : RC w wr) (a b c : Value) : Below w.heap.size w (((wr.setCell ⟨w.heap.size, 0, none⟩ a).setCell ⟨w.heap.size, 1, none⟩ b).setCell ⟨w.heap.size, 2, none⟩ c) :=
  below_set (below_set (below_set h.bel (Nat.le_refl _) _) (Nat.le_refl _) _) (Nat.le_refl _) _
theorem nine {w : World} {b o : Nat} {p : PkL} (h : ∀ (j : Nat) (u : Value), p.cells[j]? = some u → w.cell? ⟨b, o + j, none⟩ = some u) :
    w.cell? ⟨b, o, none⟩ = some (.string p.nm) ∧ w.cell? ⟨b, o + 1, none⟩ = some (.string p.ver) ∧ w.cell? ⟨b, o + 2, none⟩ = some (.string p.ar) ∧ w.cell? ⟨b, o + 3, none⟩ = some (.string p.sm) ∧ w.cell? ⟨b, o + 4, none⟩ = some (.slice p.na p.needs.length p.nc) ∧ w.cell? ⟨b, o + 5, none⟩ = some (.slice p.ba p.bars.length p.bc) ∧ w.cell? ⟨b, o + 6, none⟩ = some (.slice p.ga p.gives.length p.gc) ∧ w.cell? ⟨b, o + 7, none⟩ = some (.slice p.fa p.files.length p.fc) ∧ w.cell? ⟨b, o + 8, none⟩ = some (.slice p.sa p.scripts.length p.sc) :=
  ⟨h 0 _ rfl, h 1 _ rfl, h 2 _ rfl, h 3 _ rfl, h 4 _ rfl, h 5 _ rfl, h 6 _ rfl, h 7 _ rfl, h 8 _ rfl⟩
def At8 (w : World) (b o : Nat) (x : FileM) : Prop :=
  w.cell? ⟨b, o, none⟩ = some (.string x.path) ∧ w.cell? ⟨b, o + 1, none⟩ = some (.int .i64 x.kind) ∧ w.cell? ⟨b, o + 2, none⟩ = some (.int .i64 x.mode) ∧ w.cell? ⟨b, o + 3, none⟩ = some (.string x.owner) ∧ w.cell? ⟨b, o + 4, none⟩ = some (.string x.group) ∧ w.cell? ⟨b, o + 5, none⟩ = some (.string x.link) ∧ w.cell? ⟨b, o + 6, none⟩ = some (.string x.sum) ∧ w.cell? ⟨b, o + 7, none⟩ = some (.bool x.conf)
theorem eight {w : World} {b o : Nat} {x : FileM} (h : ∀ (j : Nat) (u : Value), x.cells[j]? = some u → w.cell? ⟨b, o + j, none⟩ = some u) : At8 w b o x :=
  ⟨h 0 _ rfl, h 1 _ rfl, h 2 _ rfl, h 3 _ rfl, h 4 _ rfl, h 5 _ rfl, h 6 _ rfl, h 7 _ rfl⟩
theorem RC.six {w wr : World} (h : RC w wr) : wr.cell? ⟨w.heap.size, 0, none⟩ = some (.string ⟨#[]⟩) ∧ wr.cell? ⟨w.heap.size, 1, none⟩ = some (.string ⟨#[]⟩) ∧ wr.cell? ⟨w.heap.size, 2, none⟩ = some (.int .i64 0) ∧ wr.frozen? ⟨w.heap.size, 0, none⟩ = false ∧ wr.frozen? ⟨w.heap.size, 1, none⟩ = false ∧ wr.frozen? ⟨w.heap.size, 2, none⟩ = false :=
  ⟨h.res.cell 0 _ rfl, h.res.cell 1 _ rfl, h.res.cell 2 _ rfl, h.res.free 0 (by simp), h.res.free 1 (by simp), h.res.free 2 (by simp)⟩
theorem dbW_form {ans : PkL → ByteArray × Int} {fo : Bool} {l : List PkL} (h : fo = false) : dbV (dbW ans fo l) = .agg #[.string ⟨#[]⟩, .string ⟨#[102, 111, 114, 109, 97, 116]⟩, .int .i64 9] := by unfold dbW; rw [if_pos h]; rfl
theorem dbW_large {ans : PkL → ByteArray × Int} {fo : Bool} {l : List PkL} (h : fo = true) (hl : 128 < l.length) : dbV (dbW ans fo l) = .agg #[.string ⟨#[]⟩, .string ⟨#[112, 97, 99, 107, 97, 103, 101, 115]⟩, .int .i64 4] := by unfold dbW; rw [if_neg (by rw [h]; simp), if_pos hl]; rfl
theorem dbW_else {ans : PkL → ByteArray × Int} {fo : Bool} {l : List PkL} (h : fo = true) (hl : ¬ 128 < l.length) : dbW ans fo l = dbE ans [] l := by unfold dbW; rw [if_neg (by rw [h]; simp), if_neg hl]
theorem neq_shared (x y : FileM) (w : World) : (binOp .neq 78 (.agg #[.int .i64 x.kind, .int .i64 x.mode, .string x.owner, .string x.group, .string x.link]) (.agg #[.int .i64 y.kind, .int .i64 y.mode, .string y.owner, .string y.group, .string y.link])).run Tryz.prog w = .ok (.bool (!alikeB x y)) w := by
  go_simp
  unfold alikeB
  (repeat' split) <;> simp_all
theorem zero_shared (w : World) : (zeroValue 78).run Tryz.prog w = .ok (.agg #[.int .i64 0, .int .i64 0, .string ⟨#[]⟩, .string ⟨#[]⟩, .string ⟨#[]⟩]) w := by kernel_rfl
structure MC (w wr : World) (L : List FileM) (f : ByteArray → Option Value) : Prop where
  rc : RC w wr
  map : MapIs wr (w.heap.size + 1) L.length f
  inv : CInv L f
  sz : w.heap.size + 2 ≤ wr.heap.size
theorem MC.step {w wr w' : World} {L : List FileM} {f : ByteArray → Option Value} (h : MC w wr L f) (hb : Below wr.heap.size wr w') : MC w w' L f := ⟨h.rc.step hb, h.map.below hb, h.inv, Nat.le_trans h.sz hb.size⟩
theorem MC.start (w : World) : MC w ((w.alloc (.cells #[.string ⟨#[]⟩, .string ⟨#[]⟩, .int .i64 0] 36)).alloc (.map #[] 0)) [] (fun _ => none) :=
  ⟨(RC.start w).alloc _, by have := MapIs.made (w.alloc (.cells #[.string ⟨#[]⟩, .string ⟨#[]⟩, .int .i64 0] 36)); simpa using this, CInv.nil, by simp⟩
theorem Blk.grownC {wr w' : World} {b c : Nat} {vs : List Value} (h : Blk wr c vs) (hg : wr.grownBy w' (some b)) (hne : c ≠ b) : Blk w' c vs := by
  have hk : w'.heap[c]? = wr.heap[c]? := hg.block c h.sz (by intro e; injection e with e; exact hne e)
  refine ⟨Nat.lt_of_lt_of_le h.sz hg.size, fun j u hu => ?_, fun j hj => ?_⟩
  · exact (World.cell?_of_block (a := ⟨c, j, none⟩) hk).trans (h.cell j u hu)
  · exact (World.frozen?_of_block (a := ⟨c, j, none⟩) hk).trans (h.free j hj)
theorem MC.put {w wr w' : World} {L : List FileM} {f : ByteArray → Option Value} {x : FileM} (h : MC w wr L f) (hx : f x.path = none ∨ f x.path = some (shV x)) (hm : MapIs w' (w.heap.size + 1) (L.length + 1) (fun s => if s = x.path then some (shV x) else f s)) (hg : wr.grownBy w' (some (w.heap.size + 1))) : MC w w' (L ++ [x]) (fun s => if s = x.path then some (shV x) else f s) :=
  ⟨⟨h.rc.bel.grown hg h.rc.bel.size (fun j hj => by injection hj with hj; omega), h.rc.res.grownC hg (by omega)⟩, by rw [List.length_append]; exact hm, h.inv.put x hx, Nat.le_trans h.sz hg.size⟩
theorem MC.look {w wr : World} {L : List FileM} {f : ByteArray → Option Value} (h : MC w wr L f) (s : ByteArray) (hs : s.size ≤ maxLen) :
    ∃ (z : FileM) (b : Bool), (Instr.lookup 75 (.map (some (w.heap.size + 1))) (.string s) true).run Tryz.prog wr = .ok (.tuple #[.agg #[.int .i64 z.kind, .int .i64 z.mode, .string z.owner, .string z.group, .string z.link], .bool b]) wr ∧ (b = false → f s = none) ∧ (b = true → f s = some (shV z)) := by
  have hl := h.map.look_ok Tryz.underlying75 zero_shared s hs
  cases hf : f s with
  | none =>
    rw [hf] at hl
    exact ⟨⟨⟨#[]⟩, 0, 0, ⟨#[]⟩, ⟨#[]⟩, ⟨#[]⟩, ⟨#[]⟩, false⟩, false, hl, fun _ => rfl, (fun h => by cases h)⟩
  | some v =>
    rw [hf] at hl
    obtain ⟨⟨y, hy, hp⟩, h2⟩ := h.inv.mem s v hf
    have hv := h2 y hy hp
    subst hv
    exact ⟨y, true, hl, (fun h => by cases h), fun _ => rfl⟩
theorem mc_res {tmps : Array Value} {w w2 : World} (h : RC w w2) (ht : tmps[4]? = some (.pointer (some ⟨w.heap.size, 0, none⟩))) (a b : ByteArray) (c : Int) :
    (results Tryz.f9 tmps).run Tryz.prog (((w2.setCell ⟨w.heap.size, 0, none⟩ (.string a)).setCell ⟨w.heap.size, 1, none⟩ (.string b)).setCell ⟨w.heap.size, 2, none⟩ (.int .i64 c)) =
      .ok (.agg #[.string a, .string b, .int .i64 c]) (((w2.setCell ⟨w.heap.size, 0, none⟩ (.string a)).setCell ⟨w.heap.size, 1, none⟩ (.string b)).setCell ⟨w.heap.size, 2, none⟩ (.int .i64 c)) := by
  obtain ⟨r0, r1, r2, fr0, fr1, fr2⟩ := h.six
  simp [results, Tryz.results9, ht, go_sem, r0, r1, r2]
theorem model_Check_of (fmt : Int) (F : PkL → ByteArray × Int) (A : Option Addr) (c : Nat) (l : List PkL) (w : World) (hG : Gl w) (hd : DbOk w A l) (hl : l.length ≤ 100000) (hwd : wDb l ≤ 100000) (hs : ∀ p ∈ l, p.files.length ≤ 1000000 ∧ ∀ x ∈ p.files, x.path.size ≤ 1000000) (hC : ∀ p ∈ l, ∀ W, Gl W → p.ok W → Calls Tryz.prog 25 #[.int .i64 fmt, p.val] W fun e w' => e = .returned (ckV p.nm (F p)) ∧ Below W.heap.size W w') (hFZ : ∀ p ∈ l, (F p).2 = 0 → (filesAns fmt p.files).2 = 0) :
    Calls Tryz.prog 9 #[.int .i64 fmt, .slice A l.length c] w fun e w' => e = .returned (dbV (dbW F (fmtB fmt) l)) ∧ Below w.heap.size w w' := by
  have HG := Lib.hid hG; have HD := Lib.hid hd; have HS := Lib.hid hs; have HCP := Lib.hid hC; have HFZ := Lib.hid hFZ; have HWD := Lib.hid hwd
  clear hG hd hs hwd hC hFZ
  have R0 := Lib.hid (RC.start w)
  obtain ⟨W0, hW0⟩ : ∃ W0, w.alloc (.cells #[.string ⟨#[]⟩, .string ⟨#[]⟩, .int .i64 0] 36) = W0 := ⟨_, rfl⟩
  have R0' : Hid (RC w W0) := by show RC w W0; rw [← hW0]; exact R0.out
  have M0 : Hid (MC w (W0.alloc (.map #[] 0)) [] (fun _ => none)) := by show MC _ _ _ _; rw [← hW0]; exact MC.start w
  have Z0 : Hid (W0.heap.size = w.heap.size + 1) := by show _ = _; rw [← hW0]; simp
  have hI := fun W => model_isFormat fmt W
  cases hfm : fmtB fmt with
  | false =>
    have E : Hid (dbV (dbW F false l) = _) := dbW_form rfl
    obtain ⟨r0, r1, r2, fr0, fr1, fr2⟩ := R0'.out.six
    rw [hfm] at hI
    clear hfm R0
    go_enter Tryz.func9, Tryz.ntmps9
    go_wp2_with fail
    refine (hI _).mono ?_; rintro e w' ⟨rfl, rfl⟩
    go_wp2_with fail
    exact bodyPost_ret (mc_res R0'.out rfl _ _ _) rfl ⟨by rw [E.out], R0'.out.done _ _ _⟩
  | true =>
  rw [hfm] at hI
  clear hfm R0
  by_cases h128 : 128 < l.length
  · have d8 : decide ((128 : Int) < l.length) = true := decide_eq_true (by omega)
    have d8n : decide (128 < l.length) = true := decide_eq_true h128
    have E : Hid (dbV (dbW F true l) = _) := dbW_large rfl h128
    obtain ⟨r0, r1, r2, fr0, fr1, fr2⟩ := R0'.out.six
    clear h128
    go_enter Tryz.func9, Tryz.ntmps9
    go_wp2_with fail
    refine (hI _).mono ?_; rintro e w' ⟨rfl, rfl⟩
    go_wp2_with fail
    exact bodyPost_ret (mc_res R0'.out rfl _ _ _) rfl ⟨by rw [E.out], R0'.out.done _ _ _⟩
  have d8 : decide ((128 : Int) < l.length) = false := decide_eq_false (by omega)
  have d8n : decide (128 < l.length) = false := decide_eq_false h128
  have E0 : Hid (dbW F true l = dbE F [] l) := dbW_else rfl h128
  clear h128 R0'
  rw [E0.out]
  have hmm := @run_makeMap Tryz.prog
  go_enter Tryz.func9, Tryz.ntmps9
  go_wp2_with fail
  refine (hI _).mono ?_; rintro e w' ⟨rfl, rfl⟩
  go_wp2_with fail
  clear hmm hW0 d8 d8n hI
  rw [Z0.out]
  go_loopw [25] (fun i wr => ∃ (k : Nat) (f : ByteArray → Option Value), k ≤ l.length ∧ i = .int .i64 k ∧ Hid (dbE F [] l = dbE F (l.take k) (l.drop k)) ∧ Hid (MC w wr (came l k []) f)) (fun i _ => l.length - (intOf i).toNat)
  case atStart => exact ⟨0, _, Nat.zero_le _, rfl, rfl, Lib.hid (by simpa [came] using M0.out)⟩
  case round =>
    clear M0 Z0
    obtain ⟨k, f, hk, rfl, HE, HR⟩ := hrel
    by_cases hlt : k < l.length
    · obtain ⟨p, hp⟩ : ∃ p, l[k]? = some p := ⟨_, List.getElem?_eq_getElem hlt⟩
      have hpm : p ∈ l := List.mem_of_getElem? hp
      have HP := Lib.hid hp; have HPM := Lib.hid hpm
      clear hp hpm
      obtain ⟨b, off, hA, he⟩ := (HD.out.row.below HR.out.rc.bel).elem pk_len k p HP.out
      obtain ⟨e0, e1, e2, e3, e4, e5, e6, e7, e8⟩ := nine he
      have hix := fun W => idx_of (T := 39) (E := 33) (sz := 9) (c := c) Tryz.underlying39 rfl Tryz.sizeOf33 hA hlt W
      have HA := Lib.hid hA
      clear hA he
      have Ra := Lib.hid (HR.out.step ((Below.refl _ _).alloc (Nat.le_refl _) (.cells #[.string p.nm, .string p.ver, .string p.ar, .string p.sm, .slice p.na p.needs.length p.nc, .slice p.ba p.bars.length p.bc, .slice p.ga p.gives.length p.gc, .slice p.fa p.files.length p.fc, .slice p.sa p.scripts.length p.sc] 33)))
      have Ka := Lib.hid (Blk.new wr p.cells 33)
      obtain ⟨W1, hW1⟩ : ∃ W1, wr.alloc (.cells #[.string p.nm, .string p.ver, .string p.ar, .string p.sm, .slice p.na p.needs.length p.nc, .slice p.ba p.bars.length p.bc, .slice p.ga p.gives.length p.gc, .slice p.fa p.files.length p.fc, .slice p.sa p.scripts.length p.sc] 33) = W1 := ⟨_, rfl⟩
      have Rb : Hid (MC w W1 (came l k []) f) := by show MC _ W1 _ _; rw [← hW1]; exact Ra.out
      have Kb : Hid (Blk W1 wr.heap.size p.cells) := by show Blk W1 _ _; rw [← hW1]; exact Ka.out
      have k0 := Kb.out.cell 0 _ rfl
      have k1 := Kb.out.cell 1 _ rfl
      have k2 := Kb.out.cell 2 _ rfl
      have k3 := Kb.out.cell 3 _ rfl
      have k4 := Kb.out.cell 4 _ rfl
      have k5 := Kb.out.cell 5 _ rfl
      have k6 := Kb.out.cell 6 _ rfl
      have k7 := Kb.out.cell 7 _ rfl
      have k8 := Kb.out.cell 8 _ rfl
      clear Ra Ka
      have HC := Lib.hid fun (W : World) (g : Gl W) (h : p.ok W) => HCP.out p HPM.out W g h
      obtain ⟨⟨what, code⟩, hr⟩ : ∃ r, F p = r := ⟨_, rfl⟩
      have HQ := Lib.hid hr; clear hr
      rw [HQ.out] at HC
      by_cases hc : ¬ code = 0
      · rw [ckV_else _ _ hc] at HC
        have q1 : (code != 0) = true := by simp [hc]
        have E : Hid (dbE F [] l = (p.nm, what, code)) := by
          have h1 := pkE_ans (pre := l.take k) (p := p) (ans := (what, code)) hc
          show _ = _
          rw [dbE_bad HP.out HE.out (by rw [HQ.out, h1]; exact hc), HQ.out, h1]
        clear hc
        go_wp2_with fail
        refine (HC.out W1 (HG.out.below Rb.out.rc.bel) ((HD.out.all p HPM.out).below Rb.out.rc.bel)).mono ?_; rintro e w1 ⟨rfl, hb1⟩
        have R1 := Lib.hid ((Rb.out.step hb1).rc.alloc (.cells #[.string p.nm, .string what, .int .i64 code] 36))
        have K1 := Lib.hid (Blk.new w1 [.string p.nm, .string what, .int .i64 code] 36)
        clear hb1 e0 e1 e2 e3 e4 e5 e6 e7 e8 hix k0 k1 k2 k3 k4 k5 k6 k7 k8 hW1
        obtain ⟨W2, hW2⟩ : ∃ W2, w1.alloc (.cells #[.string p.nm, .string what, .int .i64 code] 36) = W2 := ⟨_, rfl⟩
        have R1' : Hid (RC w W2) := by show RC w W2; rw [← hW2]; exact R1.out
        have K1' : Hid (Blk W2 w1.heap.size [.string p.nm, .string what, .int .i64 code]) := by show Blk W2 _ _; rw [← hW2]; exact K1.out
        have k0 := K1'.out.cell 0 _ rfl
        have k1 := K1'.out.cell 1 _ rfl
        have k2 := K1'.out.cell 2 _ rfl
        obtain ⟨r0, r1, r2, fr0, fr1, fr2⟩ := R1'.out.six
        clear R1 K1
        go_wp2_with fail
        exact bodyPost_ret (mc_res R1'.out rfl _ _ _) rfl ⟨by rw [E.out]; rfl, R1'.out.done _ _ _⟩
      obtain rfl : code = 0 := Decidable.not_not.1 hc
      clear hc
      rw [ckV_zero] at HC
      have A0 : Hid ((F p).2 = 0) := by show _ = _; rw [HQ.out]
      go_wp2_with fail
      clear hW1
      refine (HC.out W1 (HG.out.below Rb.out.rc.bel) ((HD.out.all p HPM.out).below Rb.out.rc.bel)).mono ?_; rintro e w1 ⟨rfl, hb1⟩
      have R1 := Lib.hid ((Rb.out.step hb1).step ((Below.refl _ _).alloc (Nat.le_refl _) (.cells #[.string ⟨#[]⟩, .string ⟨#[]⟩, .int .i64 0] 36)))
      have K1 := Lib.hid ((Kb.out.below hb1).alloc (.cells #[.string ⟨#[]⟩, .string ⟨#[]⟩, .int .i64 0] 36))
      have HPB : Hid (w.heap.size + 2 ≤ wr.heap.size) := HR.out.sz
      clear hb1 e0 e1 e2 e3 e4 e5 e6 e7 e8 k0 k1 k2 k3 k4 k5 k6 k7 k8 HC hix Rb Kb HR
      generalize wr.heap.size = pb at *
      go_upto_region 12 with (fail)
      obtain ⟨W2, hW2⟩ : ∃ W2, w1.alloc (.cells #[.string ⟨#[]⟩, .string ⟨#[]⟩, .int .i64 0] 36) = W2 := ⟨_, rfl⟩
      have R1' : Hid (MC w W2 (came l k []) f) := by show MC _ W2 _ _; rw [← hW2]; exact R1.out
      have K1' : Hid (Blk W2 pb p.cells) := by show Blk W2 _ _; rw [← hW2]; exact K1.out
      rw [hW2]
      clear R1 K1 hW2
      go_cut [49] (fun s49 wx => ∃ bb : Bool, s49 = .bool bb ∧ Hid (bb = !ordP l k p) ∧ Hid (MC w wx (came l k []) f) ∧ Hid (Blk wx pb p.cells))
      case first =>
        by_cases k0 : k = 0
        · have k0' : decide (0 < (k : Int)) = false := decide_eq_false (by omega)
          have k0n : decide (0 < k) = false := decide_eq_false (by omega)
          have OB : Hid (false = !ordP l k p) := by show _ = _; rw [k0, ordP_zero]; rfl
          clear k0
          go_quiet (fail)
          go_wp2_with fail
          go_meet
          exact ⟨false, rfl, OB, R1'.out.step (below_drewN (Below.refl _ _) _), K1'.out.drewN _⟩
        · have k0' : decide (0 < (k : Int)) = true := decide_eq_true (by omega)
          have k0n : decide (0 < k) = true := decide_eq_true (by omega)
          have kpos : 0 < k := by omega
          obtain ⟨q, hq⟩ : ∃ q, l[k - 1]? = some q := ⟨_, List.getElem?_eq_getElem (by omega)⟩
          obtain ⟨b2, off2, hA2, he2⟩ := (HD.out.row.below R1'.out.rc.bel).elem pk_len (k - 1) q hq
          have n0 := K1'.out.cell 0 _ rfl
          have p0 := he2 0 _ rfl
          simp only [Nat.add_zero] at p0
          have hixp := fun W => idx_int (T := 39) (E := 33) (sz := 9) (c := c) (i := (k : Int) - 1) Tryz.underlying39 rfl Tryz.sizeOf33 (by omega) hA2 (show k - 1 < l.length by omega) W
          have OB : Hid ((Op.bytesLess p.nm.toList q.nm.toList || p.nm.toList == q.nm.toList) = !ordP l k p) := by
            show _ = _
            have := ordP_succ (l := l) (k := k - 1) p hq
            rw [show k - 1 + 1 = k by omega] at this
            rw [this]; exact leq_bl p.nm q.nm
          have iw : IntKind.i64.wrap ((k : Int) - 1) = (k : Int) - 1 := IntWalk.i64_in _ (by omega)
          clear hq he2 hA2 k0
          go_quiet (fail)
          go_wp2_with fail
          go_meet
          exact ⟨_, rfl, OB, R1'.out.step (below_drewN (Below.refl _ _) _), K1'.out.drewN _⟩
      case rest =>
      clear R1' K1'
      obtain ⟨bb, rfl, HOB, HR2, HK2⟩ := hcut
      cases bb
      case true =>
        have HO : Hid (ordP l k p = false) := by have := HOB.out; show _ = _; revert this; cases ordP l k p <;> simp
        have E : Hid (dbE F [] l = (p.nm, ⟨#[110, 97, 109, 101]⟩, 15)) := by
          have h1 := pkE_ord (ans := F p) A0.out HO.out
          show _ = _
          rw [dbE_bad HP.out HE.out (by rw [h1]; simp), h1]
        have n0 := HK2.out.cell 0 _ rfl
        obtain ⟨r0, r1, r2, fr0, fr1, fr2⟩ := HR2.out.rc.six
        go_wp2_with fail
        exact bodyPost_ret (mc_res HR2.out.rc rfl _ _ _) rfl ⟨by rw [E.out]; rfl, HR2.out.rc.done _ _ _⟩
      have HO : Hid (ordP l k p = true) := by have := HOB.out; show _ = _; revert this; cases ordP l k p <;> simp
      clear HOB
      have SRT : Hid ((fpaths p.files).Pairwise (fun s t => bl s < bl t)) := filesE_fine (fmt := fmt) (HFZ.out p HPM.out A0.out)
      have fl := (HS.out p HPM.out).1
      have n7 := HK2.out.cell 7 _ rfl
      go_wp2_with fail
      clear n7
      go_loopw [56] (fun i wr => ∃ (m : Nat) (f : ByteArray → Option Value), m ≤ p.files.length ∧ i = .int .i64 m ∧ Hid (∀ y ∈ p.files.take m, conf (l.take k) y = false) ∧ Hid (MC w wr (came l k (p.files.take m)) f) ∧ Hid (Blk wr pb p.cells)) (fun i _ => p.files.length - (intOf i).toNat)
      case atStart => exact ⟨0, f, Nat.zero_le _, rfl, by simp [Hid], HR2, HK2⟩
      case round =>
        clear HR2 HK2
        obtain ⟨m, f, hm, rfl, HN, HR, HK⟩ := hrel
        by_cases hml : m < p.files.length
        · obtain ⟨x, hx⟩ : ∃ x, p.files[m]? = some x := ⟨_, List.getElem?_eq_getElem hml⟩
          have HXS : Hid (x.path.size ≤ maxLen) := by
            have := ((HS.out p HPM.out).2 x (List.mem_of_getElem? hx))
            show _ ≤ _; unfold maxLen; omega
          obtain ⟨b', off', hA', he'⟩ := ((HD.out.all p HPM.out).below HR.out.rc.bel).files.elem file_len m x hx
          obtain ⟨f0, f1, f2, f3, f4, f5, f6, f7⟩ := eight he'
          have hix' := fun W => idx_of (T := 28) (E := 27) (sz := 8) (c := p.fc) Tryz.underlying28 rfl Tryz.sizeOf27 hA' hml W
          have HX := Lib.hid hx
          clear hx hA' he'
          obtain ⟨W3, hW3⟩ : ∃ W3, wr.alloc (.cells #[.string x.path, .int .i64 x.kind, .int .i64 x.mode, .string x.owner, .string x.group, .string x.link, .string x.sum, .bool x.conf] 27) = W3 := ⟨_, rfl⟩
          have B3 : Hid (Below wr.heap.size wr W3) := by rw [← hW3]; exact (Below.refl _ _).alloc (Nat.le_refl _) _
          have K3 : Hid (Blk W3 wr.heap.size x.cells) := by rw [← hW3]; exact Blk.new wr x.cells _
          obtain ⟨W4, hW4⟩ : ∃ W4, W3.alloc (.cells #[.int .i64 x.kind, .int .i64 x.mode, .string x.owner, .string x.group, .string x.link] 78) = W4 := ⟨_, rfl⟩
          have B4 : Hid (Below W3.heap.size W3 W4) := by rw [← hW4]; exact (Below.refl _ _).alloc (Nat.le_refl _) _
          have S4 : Hid (Blk W4 W3.heap.size [.int .i64 x.kind, .int .i64 x.mode, .string x.owner, .string x.group, .string x.link]) := by rw [← hW4]; exact Blk.new W3 [.int .i64 x.kind, .int .i64 x.mode, .string x.owner, .string x.group, .string x.link] _
          have M4 := Lib.hid ((HR.out.step B3.out).step B4.out)
          have P4 := Lib.hid ((HK.out.below B3.out).below B4.out)
          have X4 := Lib.hid (K3.out.below B4.out)
          obtain ⟨z, there, hlk, hz1, hz2⟩ := M4.out.look x.path HXS.out
          have HZ1 := Lib.hid hz1; have HZ2 := Lib.hid hz2
          clear hz1 hz2
          have g0 := K3.out.cell 0 _ rfl
          have g1 := K3.out.cell 1 _ rfl
          have g2 := K3.out.cell 2 _ rfl
          have g3 := K3.out.cell 3 _ rfl
          have g4 := K3.out.cell 4 _ rfl
          have g5 := K3.out.cell 5 _ rfl
          have v0 := X4.out.cell 0 _ rfl
          obtain ⟨W5, hW5⟩ : ∃ W5, W4.alloc (.cells #[.int .i64 z.kind, .int .i64 z.mode, .string z.owner, .string z.group, .string z.link] 78) = W5 := ⟨_, rfl⟩
          have B5 : Hid (Below W4.heap.size W4 W5) := by rw [← hW5]; exact (Below.refl _ _).alloc (Nat.le_refl _) _
          have Z5 : Hid (Blk W5 W4.heap.size [.int .i64 z.kind, .int .i64 z.mode, .string z.owner, .string z.group, .string z.link]) := by rw [← hW5]; exact Blk.new W4 [.int .i64 z.kind, .int .i64 z.mode, .string z.owner, .string z.group, .string z.link] _
          go_upto_region 19 with (fail)
          have M5 := Lib.hid (M4.out.step B5.out)
          have P5 := Lib.hid (P4.out.below B5.out)
          have X5 := Lib.hid (X4.out.below B5.out)
          have S5 := Lib.hid (S4.out.below B5.out)
          have HXB : Hid (w.heap.size + 2 ≤ wr.heap.size ∧ pb < wr.heap.size) := ⟨HR.out.sz, HK.out.sz⟩
          clear f0 f1 f2 f3 f4 f5 f6 f7 g0 g1 g2 g3 g4 g5 v0 hix' hlk hW3 hW4 hW5 M4 P4 X4 S4 B3 B4 B5 K3 HR HK
          generalize wr.heap.size = xb at *
          generalize W3.heap.size = sb at *
          generalize W4.heap.size = zb at *
          go_cut [83] (fun s83 wx => ∃ bb : Bool, s83 = .bool bb ∧ Hid (bb = conf (l.take k) x) ∧ Hid (bb = false → f x.path = none ∨ f x.path = some (shV x)) ∧ wx = W5)
          case first =>
            have nq := fun W => neq_shared z x W
            have u0 := Z5.out.cell 0 _ rfl
            have u1 := Z5.out.cell 1 _ rfl
            have u2 := Z5.out.cell 2 _ rfl
            have u3 := Z5.out.cell 3 _ rfl
            have u4 := Z5.out.cell 4 _ rfl
            have v0 := S5.out.cell 0 _ rfl
            have v1 := S5.out.cell 1 _ rfl
            have v2 := S5.out.cell 2 _ rfl
            have v3 := S5.out.cell 3 _ rfl
            have v4 := S5.out.cell 4 _ rfl
            cases there
            · have C0 : Hid (false = conf (l.take k) x) := (M5.out.inv.fresh (HZ1.out (by trivial))).symm
              go_wp2_with fail
              go_meet
              exact ⟨false, rfl, C0, fun _ => .inl (HZ1.out (by trivial)), rfl⟩
            · cases hzx : alikeB z x
              · have C0 : Hid (true = conf (l.take k) x) := (M5.out.inv.other (HZ2.out (by trivial)) (fun e => by rw [(alikeB_iff z x).2 e] at hzx; cases hzx) (sorted_ne SRT.out HX.out)).symm
                rw [hzx] at nq
                clear hzx
                go_wp2_with fail
                go_meet
                exact ⟨true, rfl, C0, (fun h => by cases h), rfl⟩
              · have C1 : Hid (f x.path = some (shV x)) := by show _ = _; rw [HZ2.out (by trivial), (alikeB_iff z x).1 hzx]
                have C0 : Hid (false = conf (l.take k) x) := (M5.out.inv.same C1.out).symm
                rw [hzx] at nq
                clear hzx
                go_wp2_with fail
                go_meet
                exact ⟨false, rfl, C0, fun _ => .inr C1.out, rfl⟩
          case rest =>
          obtain ⟨bb, rfl, HCF, HFX, rfl⟩ := hcut
          have x0 := X5.out.cell 0 _ rfl
          cases bb
          case true =>
            have E : Hid (dbE F [] l = (p.nm, x.path, 8)) := by
              have h1 := pkE_conf (ans := F p) A0.out HO.out HX.out HN.out HCF.out.symm
              show _ = _
              rw [dbE_bad HP.out HE.out (by rw [h1]; simp), h1]
            have n0 := P5.out.cell 0 _ rfl
            obtain ⟨r0, r1, r2, fr0, fr1, fr2⟩ := M5.out.rc.six
            go_wp2_with fail
            exact bodyPost_ret (mc_res M5.out.rc rfl _ _ _) rfl ⟨by rw [E.out]; rfl, M5.out.rc.done _ _ _⟩
          have v0 := S5.out.cell 0 _ rfl
          have v1 := S5.out.cell 1 _ rfl
          have v2 := S5.out.cell 2 _ rfl
          have v3 := S5.out.cell 3 _ rfl
          have v4 := S5.out.cell 4 _ rfl
          have hcl := came_length l k p m HP.out
          have HWL : Hid (wDb l ≤ 100000) := HWD
          obtain ⟨w6, hrun6, hm6, hg6⟩ := M5.out.map.put Tryz.underlying75 (by have := HWL.out; unfold maxLen; omega) x.path HXS.out (shV x)
          have M6 := Lib.hid (M5.out.put (HFX.out rfl) hm6 hg6)
          have P6 := Lib.hid (P5.out.grownC hg6 (by have := HPB.out; omega))
          unfold shV at hrun6
          clear hm6 hg6 hcl
          go_wp2_with fail
          clear hrun6 v0 v1 v2 v3 v4 x0
          go_roundw
          case rel => exact ⟨m + 1, _, by omega, by go_num, Lib.hid (fun z hz => by
            obtain ⟨hk', hf'⟩ := List.getElem?_eq_some_iff.1 HX.out
            rw [List.take_succ_eq_append_getElem hk', hf'] at hz
            rcases List.mem_append.1 hz with hz | hz
            · exact HN.out z hz
            · rw [List.mem_singleton.1 hz]; exact HCF.out.symm), Lib.hid (by rw [came_snoc l k HX.out]; exact M6.out), P6⟩
          case measure => simp [intOf]; omega
        · have F : Hid ((pkE (F p) (l.take k) p).2.2 = 0) := by
            show _ = _
            rw [pkE_fine A0.out HO.out (fun y hy => HN.out y (by rw [List.take_of_length_le (by omega)]; exact hy))]
          have CN : Hid (came l (k + 1) [] = came l k (p.files.take m)) := by show _ = _; rw [came_next HP.out, List.take_of_length_le (by omega)]
          go_wp2_with fail
          go_roundw
          case rel => exact ⟨k + 1, f, by omega, by go_num, Lib.hid (dbE_next HP.out HE.out F.out), Lib.hid (by rw [CN.out]; exact HR.out)⟩
          case measure => simp [intOf]; omega
    · have E := Lib.hid (dbE_end (ans := F) (l := l) (k := k) (by omega) HE.out)
      obtain ⟨r0, r1, r2, fr0, fr1, fr2⟩ := HR.out.rc.six
      go_wp2_with fail
      exact bodyPost_ret (mc_res HR.out.rc rfl _ _ _) rfl ⟨by rw [E.out]; rfl, HR.out.rc.done _ _ _⟩
end
end Go.Proofs.YtfgidaaipmbibaaGreatDoor
