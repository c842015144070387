/- Contract: drayagelaw19.ModelKeeps returns true. -/
import Derived.Test.YtdfdllbebfoggaaGreatDoorMk10
import Derived.Test.YtdfdllbebfoggaaGreatDoorMd3
namespace Go.Proofs.YtdfdllbebfoggaaGreatDoor
open Go.RowKit

/-- The copy that is written to: its headers stay, all else is as it was. -/
structure CSh (w0 wr : World) (lo hi gc : Nat) (lc : List PkL) : Prop where
  os : wr.os = w0.os
  tape : wr.tape = w0.tape
  output : wr.output = w0.output
  size : wr.heap.size = w0.heap.size
  out : ∀ i : Nat, (i < lo ∨ hi ≤ i) → wr.heap[i]? = w0.heap[i]?
  hdr : ∀ (i : Nat) (q : PkL) (j : Nat), lc[i]? = some q → 4 ≤ j → j < 9 → wr.cell? ⟨gc, i * 9 + j, none⟩ = q.cells[j]?
  frz : ∀ p : Addr, wr.frozen? p = w0.frozen? p
  ex : ∀ (p : Addr) (v : Value), w0.cell? p = some v → ∃ v', wr.cell? p = some v'

theorem CSh.set {w0 wr : World} {lo hi gc : Nat} {lc : List PkL} (h : CSh w0 wr lo hi gc lc) (b off : Nat) (h1 : lo ≤ b) (h2 : b < hi) (hne : b = gc → off % 9 = 0) (u : Value) : CSh w0 (wr.setCell ⟨b, off, none⟩ u) lo hi gc lc := by
  refine ⟨h.os, h.tape, h.output, by simpa [World.setCell] using h.size, fun i hi' => ?_, fun i q j hq h4 h9 => ?_, fun p => ?_, fun p v hp => ?_⟩
  · rw [Below.heap_setCell wr ⟨b, off, none⟩ u i (by show i ≠ b; omega)]; exact h.out i hi'
  · rw [World.cell?_setCell_other wr ⟨b, off, none⟩ ⟨gc, i * 9 + j, none⟩ u (by intro he; injection he with e1 e2 _; have := hne e1; omega)]
    exact h.hdr i q j hq h4 h9
  · rw [World.frozen?_setCell]; exact h.frz p
  · obtain ⟨v', hv'⟩ := h.ex p v hp
    exact cell?_setCell_some hv'

theorem owns_cell {w : World} {base : Nat} {e : TypeId} {size n c : Nat} {A : Option Addr} {xs : List Value} (h : w.ownsRow base e size (.slice A n c) n xs) (hn : 0 < n) :
    ∃ g, A = some ⟨g, 0, none⟩ ∧ base ≤ g ∧ g < w.heap.size ∧ (∀ j, j < n * size → ∃ v, w.cell? ⟨g, j, none⟩ = some v) ∧ ∀ j, w.frozen? ⟨g, j, none⟩ = false := by
  obtain ⟨g, cap, hv, hb, hlt⟩ := h.form hn
  obtain ⟨rfl, rfl⟩ : A = some ⟨g, 0, none⟩ ∧ c = cap := by injection hv with h1 _ h2; exact ⟨h1, h2⟩
  refine ⟨g, rfl, hb, hlt, fun j hj => ?_, fun j => h.frozenAt j⟩
  have hl : j < xs.length := by rw [h.1]; exact hj
  exact ⟨xs[j], by rw [h.cellAt j hj, List.getElem?_eq_getElem hl]⟩
theorem owns_out {w0 wr : World} {base hi : Nat} {e : TypeId} {size n : Nat} {v : Value} {xs : List Value} (h : w0.ownsRow base e size v n xs) (hb : hi ≤ base) (ho : ∀ i : Nat, hi ≤ i → wr.heap[i]? = w0.heap[i]?) : wr.ownsRow base e size v n xs := by
  refine ⟨h.1, ?_⟩
  rcases h.2 with h0 | ⟨g, cap, cur, hv, hg, hh, r⟩
  · exact .inl h0
  · exact .inr ⟨g, cap, cur, hv, hg, (ho g (by omega)).trans hh, r⟩
theorem CSh.below {w1 w0 wr : World} {hi gc : Nat} {lc : List PkL} (h : CSh w0 wr w1.heap.size hi gc lc) (hb : Below w1.heap.size w1 w0) : Below w1.heap.size w1 wr :=
  ⟨h.os.trans hb.os, h.tape.trans hb.tape, h.output.trans hb.output, by rw [h.size]; exact hb.size, fun i hi' => (h.out i (.inl hi')).trans (hb.block i hi')⟩
theorem DbOwn.okOut {w0 wr : World} {hi g0 c : Nat} {A : Option Addr} {l : List PkL} (h : DbOwn w0 hi g0 (.slice A l.length c) l) (ho : ∀ i : Nat, hi ≤ i → wr.heap[i]? = w0.heap[i]?) : DbOk wr A l := by
  refine ⟨owns_rd (owns_out h.row (Nat.le_refl _) ho), fun q hq => ?_⟩
  have hg : hi ≤ g0 + 1 := by
    have hl : 0 < l.length := by cases l with | nil => simp at hq | cons => simp
    have := (h.row.lt g0 (h.blk hl)).1; omega
  obtain ⟨a1, a2, a3, a4, a5⟩ := h.all q hq
  exact PkOwn.ok (lo := g0 + 1) ⟨owns_out a1 hg ho, owns_out a2 hg ho, owns_out a3 hg ho, owns_out a4 hg ho, owns_out a5 hg ho⟩

theorem len_wStrs (l : List ByteArray) : l.length ≤ wStrs l := by
  unfold wStrs; induction l with | nil => simp | cons a r ih => simp at *; omega
theorem len_wAtoms (l : List AtomM) : l.length ≤ wAtoms l := by
  unfold wAtoms; induction l with | nil => simp | cons a r ih => simp at *; omega
theorem len_wFiles (l : List FileM) : l.length ≤ wFiles l := by
  unfold wFiles; induction l with | nil => simp | cons a r ih => simp at *; omega
theorem len_wScripts (l : List ScriptM) : l.length ≤ wScripts l := by
  unfold wScripts; induction l with | nil => simp | cons a r ih => simp at *; omega
theorem wDb_mem : ∀ (l : List PkL) (p : PkL), p ∈ l → wsum p ≤ wDb l
  | [], p, h => by simp at h
  | a :: r, p, h => by
    unfold wDb; simp
    rcases List.mem_cons.1 h with rfl | h
    · omega
    · have := wDb_mem r p h; unfold wDb at this; omega
theorem few_of_light {l : List PkL} (h : wDb l ≤ 100000) (p : PkL) (hp : p ∈ l) : p.few := by
  have h1 := wDb_mem l p hp
  have a1 := len_wStrs p.needs; have a2 := len_wStrs p.bars; have a3 := len_wAtoms p.gives; have a4 := len_wFiles p.files; have a5 := len_wScripts p.scripts
  unfold wsum at h1
  exact ⟨by omega, by omega, by omega, by omega, by omega⟩
theorem PkL.alike.fits {p q : PkL} (h : p.alike q) (f : p.fits) : q.fits := by
  obtain ⟨h1, h2, h3, h4, h5, h6, h7, h8, h9⟩ := h
  obtain ⟨f1, f2, f3, f4, f5, f6, f7, f8, f9, f10, f11, f12, f13, f14⟩ := f
  exact ⟨by rw [← h1]; exact f1, by rw [← h2]; exact f2, by rw [← h3]; exact f3, by rw [← h4]; exact f4, by rw [← h5]; exact f5, by rw [← h6]; exact f6, by rw [← h7]; exact f7, by rw [← h8]; exact f8, by rw [← h9]; exact f9, by rw [← h5]; exact f10, by rw [← h6]; exact f11, by rw [← h7]; exact f12, by rw [← h8]; exact f13, by rw [← h9]; exact f14⟩
theorem eqL_refl {α : Type} {eq : α → α → Bool} (h : ∀ x, eq x x = true) : ∀ l : List α, eqL eq l l = true
  | [] => rfl
  | a :: r => by simp only [eqL]; rw [h a, eqL_refl h r]; rfl
theorem alike_eqPk {p q : PkL} (h : p.alike q) : eqPk p q = true := by
  obtain ⟨h1, h2, h3, h4, h5, h6, h7, h8, h9⟩ := h
  unfold eqPk
  rw [h1, h2, h3, h4, h5, h6, h7, h8, h9, eqB_refl, eqB_refl, eqB_refl, eqB_refl, eqL_refl eqB_refl, eqL_refl eqB_refl, eqL_refl (fun x => by simp [eqAtom, eqB_refl]), eqL_refl (fun x => by simp [eqFile, eqB_refl]), eqL_refl (fun x => by simp [eqScript, eqB_refl])]
  rfl

theorem model_Same_is (A B : Option Addr) (c d : Nat) (l m : List PkL) (w : World) (h1 : DbOk w A l) (h2 : DbOk w B m) (n1 : l.length ≤ 9223372036854775807) (n2 : m.length ≤ 9223372036854775807) (f1 : ∀ p ∈ l, p.fits) (f2 : ∀ p ∈ m, p.fits) (hl : Hid (m.length = l.length)) (he : Hid (eqL eqPk l m = true)) :
    Calls Tryz.prog 22 #[.slice A l.length c, .slice B l.length d] w fun e w' => e = .returned (.bool true) ∧ Below w.heap.size w w' := by
  have := model_Same A B c d l m w h1 h2 n1 n2 f1 f2
  rw [hl.out, he.out] at this; exact this
theorem ref_Same_is (A B : Option Addr) (c d : Nat) (l m : List PkL) (w : World) (h1 : DbOk w A l) (h2 : DbOk w B m) (n1 : l.length ≤ 9223372036854775807) (n2 : m.length ≤ 9223372036854775807) (f1 : ∀ p ∈ l, p.fits) (f2 : ∀ p ∈ m, p.fits) (hl : Hid (m.length = l.length)) (he : Hid (eqL eqPk l m = true)) :
    Calls Tryz.prog 23 #[.slice A l.length c, .slice B l.length d] w fun e w' => e = .returned (.bool true) ∧ Below w.heap.size w w' := by
  have := ref_Same A B c d l m w h1 h2 n1 n2 f1 f2
  rw [hl.out, he.out] at this; exact this
theorem owns_lt2 {w : World} {base : Nat} {e : TypeId} {size n c g : Nat} {A : Option Addr} {xs : List Value} (h : w.ownsRow base e size (.slice A n c) n xs) (hA : A = some ⟨g, 0, none⟩) (hn : 0 < n) : g < w.heap.size := by
  obtain ⟨g', hA', _, hlt, _⟩ := owns_cell h hn
  rw [hA] at hA'; injection hA' with hA'; injection hA' with h1 _ _; omega

set_option maxRecDepth 100000 in
set_option maxHeartbeats 4000000 in
theorem law_ModelKeeps (A B : Option Addr) (ca cb : Nat) (l m : List PkL) (w : World) (hG : Gl w) (hl : DbOk w A l) (hm : DbOk w B m) (n1 : l.length ≤ 9223372036854775807) (n2 : m.length ≤ 9223372036854775807) (f1 : ∀ p ∈ l, p.fits) (f2 : ∀ p ∈ m, p.fits) :
    Calls Tryz.prog 6 #[.slice A l.length ca, .slice B m.length cb] w fun e w' => e = .returned (.bool true) ∧ Below w.heap.size w w' := by
  have HG := Lib.hid hG; have HL := Lib.hid hl; have HM := Lib.hid hm; have F1 := Lib.hid f1; have F2 := Lib.hid f2
  clear hG hl hm f1 f2
  go_enter Tryz.func6, Tryz.ntmps6
  go_wp2_with fail
  refine (law_awake _ HG.out).mono ?_; rintro e wa ⟨rfl, hba⟩
  have BA := Lib.hid hba; clear hba
  go_wp2_with fail
  refine (ref_Light A ca l 40 (by omega) 10000 (by omega) (by omega) _ (HL.out.below BA.out) F1.out n1).mono ?_; rintro e wb ⟨⟨b1, rfl, hb1⟩, hbb⟩
  have BB := Lib.hid (bthen BA.out hbb); clear hbb
  have L1 := Lib.hid hb1; clear hb1
  cases b1
  · go_wp2_with fail
    go_ret
    exact ⟨rfl, BB.out⟩
  go_wp2_with fail
  refine (ref_Light B cb m 40 (by omega) 10000 (by omega) (by omega) _ (HM.out.below BB.out) F2.out n2).mono ?_; rintro e w1 ⟨⟨b2, rfl, hb2⟩, hbc⟩
  have BC := Lib.hid (bthen BB.out hbc); clear hbc hb2
  cases b2
  · go_wp2_with fail
    go_ret
    exact ⟨rfl, BC.out⟩
  have lt1 : l.length ≤ 40 := (L1.out trivial).1
  have lw : Hid (wDb l ≤ 100000) := by show _ ≤ _; have := (L1.out trivial).2; omega
  have DL := Lib.hid (HL.out.below BC.out)
  go_wp2_with fail
  refine (model_Copy A ca l _ DL.out (by omega) (few_of_light lw.out)).mono ?_
  rintro e w2 ⟨Ac, cc, gc, lc, rfl, hlc, halc, hoc, hbd⟩
  have BD := Lib.hid hbd; have OC := Lib.hid hoc; have HLC := Lib.hid hlc
  clear hbd hoc hlc halc
  go_wp2_with fail
  refine (model_Copy A ca l _ (DL.out.below BD.out) (by omega) (few_of_light lw.out)).mono ?_
  rintro e w3 ⟨Ad, cd, gd, ld, rfl, hld, hald, hod, hbe⟩
  have BE := Lib.hid hbe; have OD := Lib.hid hod; have HLD := Lib.hid hld; have AL := Lib.hid hald
  clear hbe hod hld hald
  -- the copy that is written to, in the world behind both copies
  have S0 : Hid (0 < l.length → Ac = some ⟨gc, 0, none⟩ ∧ w1.heap.size ≤ gc ∧ gc < w2.heap.size) := by
    intro hn
    have hn' : 0 < lc.length := by rw [HLC.out]; exact hn
    obtain ⟨g, hA, hb, hlt, _, _⟩ := owns_cell (by rw [← HLC.out] at OC; exact OC.out.row) hn'
    have := OC.out.blk hn'
    rw [hA] at this; simp [Value.ownBlock] at this
    subst this
    exact ⟨hA, hb, hlt⟩
  have OC3 := Lib.hid (owns_below OC.out.row BE.out)
  have PO3 : Hid (∀ q ∈ lc, PkOwn q w3 (gc + 1)) := fun q hq => (OC.out.all q hq).below BE.out
  have C0 : Hid (CSh w3 w3 w1.heap.size w2.heap.size gc lc) := by
    refine ⟨rfl, rfl, rfl, rfl, fun _ _ => rfl, fun i q j hq h4 h9 => ?_, fun _ => rfl, fun p v hp => ⟨v, hp⟩⟩
    have hi : i < lc.length := (List.getElem?_eq_some_iff.1 hq).1
    obtain ⟨rfl, _, _⟩ := S0.out (by rw [← HLC.out]; omega)
    have hrow : w3.ownsRow w1.heap.size 27 9 (.slice (some ⟨gc, 0, none⟩) lc.length cc) lc.length (lc.flatMap PkL.cells) := by have := OC3.out; rw [← HLC.out] at this; exact this
    rw [hrow.cellAt (i * 9 + j) (by omega), flat_at pk_len lc i j q hq h9]
  have PK3 : Hid (∀ k : Nat, k < l.length → (∃ v, w3.cell? ⟨gc, k * 9, none⟩ = some v) ∧ w3.frozen? ⟨gc, k * 9, none⟩ = false) := by
    intro k hk
    obtain ⟨rfl, _, _⟩ := S0.out (by omega)
    have hrow : w3.ownsRow w1.heap.size 27 9 (.slice (some ⟨gc, 0, none⟩) l.length cc) l.length (lc.flatMap PkL.cells) := by have := OC3.out; rw [HLC.out] at this; exact this
    obtain ⟨g, hA, _, _, hc, hf⟩ := owns_cell hrow (by omega)
    injection hA with hA; injection hA with hA _ _; subst hA
    exact ⟨hc _ (by omega), hf _⟩
  go_wp2_with fail
  go_loopw [7] (fun i wr => ∃ k : Nat, k ≤ l.length ∧ i = .int .i64 k ∧ Hid (CSh w3 wr w1.heap.size w2.heap.size gc lc)) (fun i _ => l.length - (intOf i).toNat)
  case atStart => exact ⟨0, Nat.zero_le _, rfl, C0⟩
  case round =>
    obtain ⟨k, hk, rfl, CS⟩ := hrel
    by_cases hlt : k < l.length
    · obtain ⟨rfl, hgc1, hgc2⟩ := S0.out (by omega)
      have hltc : k < lc.length := by rw [HLC.out]; exact hlt
      obtain ⟨q, hq⟩ : ∃ q, lc[k]? = some q := ⟨_, List.getElem?_eq_getElem hltc⟩
      have PO := Lib.hid (PO3.out q (List.mem_of_getElem? hq))
      have HQ := Lib.hid hq; clear hq hltc
      have hz2 : w2.heap.size ≤ w3.heap.size := BE.out.size
      obtain ⟨wo, rfl⟩ : ∃ wo : World, wo = wr := ⟨_, rfl⟩
      have ql0 : q.files.length ≤ 9223372036854775807 := by have := (PO.out.files); rcases this.2 with ⟨_, h⟩ | ⟨g, cap, cur, hv, _, _, h1, h2, _⟩; omega; unfold maxLen at h2; injection hv with _ e2 _; omega
      go_wp2_with fail
      go_loopw [8] (fun i wr => ∃ j : Nat, j ≤ q.files.length ∧ i = .int .i64 j ∧ Hid (CSh w3 wr w1.heap.size w2.heap.size gc lc)) (fun i _ => q.files.length - (intOf i).toNat)
      case atStart => exact ⟨0, Nat.zero_le _, rfl, CS⟩
      case round =>
        obtain ⟨j, hj, rfl, CS1⟩ := hrel
        have hc : wr.cell? ⟨gc, k * 9 + 7, none⟩ = some (.slice q.fa q.files.length q.fc) := CS1.out.hdr k q 7 HQ.out (by omega) (by omega)
        by_cases hj2 : j < q.files.length
        · obtain ⟨g, hA, hg1, hg2, hex, hfr⟩ := owns_cell PO.out.files (by omega)
          have hix := fun W => idx_of (T := 24) (E := 46) (sz := 8) (c := q.fc) Tryz.underlying24 rfl Tryz.sizeOf46 hA hj2 W
          simp only [Nat.zero_add] at hix
          obtain ⟨v0, hv0⟩ := hex (j * 8) (by omega)
          obtain ⟨v1, hv1⟩ := CS1.out.ex _ _ hv0
          have hf1 : wr.frozen? ⟨g, j * 8, none⟩ = false := (CS1.out.frz _).trans (hfr _)
          have hgs : g < w2.heap.size := owns_lt2 (OC.out.all q (List.mem_of_getElem? HQ.out)).files hA (by omega)
          have NX := Lib.hid (CS1.out.set g (j * 8) (by omega) hgs (by omega) (.string ⟨#[33]⟩))
          clear hA hv0 hex hfr
          go_wp2_with fail
          go_roundw
          case rel => exact ⟨j + 1, by omega, by go_num, NX⟩
          case measure => simp [intOf]; omega
        · skip
          have ql1 : q.needs.length ≤ 9223372036854775807 := by have := (PO.out.needs); rcases this.2 with ⟨_, h⟩ | ⟨g, cap, cur, hv, _, _, h1, h2, _⟩; omega; unfold maxLen at h2; injection hv with _ e2 _; omega
          go_wp2_with fail
          go_loopw [9] (fun i wr => ∃ j : Nat, j ≤ q.needs.length ∧ i = .int .i64 j ∧ Hid (CSh w3 wr w1.heap.size w2.heap.size gc lc)) (fun i _ => q.needs.length - (intOf i).toNat)
          case atStart => exact ⟨0, Nat.zero_le _, rfl, CS1⟩
          case round =>
            obtain ⟨j, hj, rfl, CS2⟩ := hrel
            have hc : wr.cell? ⟨gc, k * 9 + 4, none⟩ = some (.slice q.na q.needs.length q.nc) := CS2.out.hdr k q 4 HQ.out (by omega) (by omega)
            by_cases hj2 : j < q.needs.length
            · obtain ⟨g, hA, hg1, hg2, hex, hfr⟩ := owns_cell PO.out.needs (by omega)
              have hix := fun W => idx_of (T := 22) (E := 9) (sz := 1) (c := q.nc) Tryz.underlying22 rfl Tryz.sizeOf9 hA hj2 W
              simp only [Nat.zero_add, Nat.mul_one] at hix
              obtain ⟨v0, hv0⟩ := hex (j) (by omega)
              obtain ⟨v1, hv1⟩ := CS2.out.ex _ _ hv0
              have hf1 : wr.frozen? ⟨g, j, none⟩ = false := (CS2.out.frz _).trans (hfr _)
              have hgs : g < w2.heap.size := owns_lt2 (OC.out.all q (List.mem_of_getElem? HQ.out)).needs hA (by omega)
              have NX := Lib.hid (CS2.out.set g (j) (by omega) hgs (by omega) (.string ⟨#[33]⟩))
              clear hA hv0 hex hfr
              go_wp2_with fail
              go_roundw
              case rel => exact ⟨j + 1, by omega, by go_num, NX⟩
              case measure => simp [intOf]; omega
            · skip
              have ql2 : q.bars.length ≤ 9223372036854775807 := by have := (PO.out.bars); rcases this.2 with ⟨_, h⟩ | ⟨g, cap, cur, hv, _, _, h1, h2, _⟩; omega; unfold maxLen at h2; injection hv with _ e2 _; omega
              go_wp2_with fail
              go_loopw [10] (fun i wr => ∃ j : Nat, j ≤ q.bars.length ∧ i = .int .i64 j ∧ Hid (CSh w3 wr w1.heap.size w2.heap.size gc lc)) (fun i _ => q.bars.length - (intOf i).toNat)
              case atStart => exact ⟨0, Nat.zero_le _, rfl, CS2⟩
              case round =>
                obtain ⟨j, hj, rfl, CS3⟩ := hrel
                have hc : wr.cell? ⟨gc, k * 9 + 5, none⟩ = some (.slice q.ba q.bars.length q.bc) := CS3.out.hdr k q 5 HQ.out (by omega) (by omega)
                by_cases hj2 : j < q.bars.length
                · obtain ⟨g, hA, hg1, hg2, hex, hfr⟩ := owns_cell PO.out.bars (by omega)
                  have hix := fun W => idx_of (T := 22) (E := 9) (sz := 1) (c := q.bc) Tryz.underlying22 rfl Tryz.sizeOf9 hA hj2 W
                  simp only [Nat.zero_add, Nat.mul_one] at hix
                  obtain ⟨v0, hv0⟩ := hex (j) (by omega)
                  obtain ⟨v1, hv1⟩ := CS3.out.ex _ _ hv0
                  have hf1 : wr.frozen? ⟨g, j, none⟩ = false := (CS3.out.frz _).trans (hfr _)
                  have hgs : g < w2.heap.size := owns_lt2 (OC.out.all q (List.mem_of_getElem? HQ.out)).bars hA (by omega)
                  have NX := Lib.hid (CS3.out.set g (j) (by omega) hgs (by omega) (.string ⟨#[33]⟩))
                  clear hA hv0 hex hfr
                  go_wp2_with fail
                  go_roundw
                  case rel => exact ⟨j + 1, by omega, by go_num, NX⟩
                  case measure => simp [intOf]; omega
                · skip
                  have ql3 : q.gives.length ≤ 9223372036854775807 := by have := (PO.out.gives); rcases this.2 with ⟨_, h⟩ | ⟨g, cap, cur, hv, _, _, h1, h2, _⟩; omega; unfold maxLen at h2; injection hv with _ e2 _; omega
                  go_wp2_with fail
                  go_loopw [11] (fun i wr => ∃ j : Nat, j ≤ q.gives.length ∧ i = .int .i64 j ∧ Hid (CSh w3 wr w1.heap.size w2.heap.size gc lc)) (fun i _ => q.gives.length - (intOf i).toNat)
                  case atStart => exact ⟨0, Nat.zero_le _, rfl, CS3⟩
                  case round =>
                    obtain ⟨j, hj, rfl, CS4⟩ := hrel
                    have hc : wr.cell? ⟨gc, k * 9 + 6, none⟩ = some (.slice q.ga q.gives.length q.gc) := CS4.out.hdr k q 6 HQ.out (by omega) (by omega)
                    by_cases hj2 : j < q.gives.length
                    · obtain ⟨g, hA, hg1, hg2, hex, hfr⟩ := owns_cell PO.out.gives (by omega)
                      have hix := fun W => idx_of (T := 23) (E := 48) (sz := 3) (c := q.gc) Tryz.underlying23 rfl Tryz.sizeOf48 hA hj2 W
                      simp only [Nat.zero_add] at hix
                      obtain ⟨v0, hv0⟩ := hex (j * 3) (by omega)
                      obtain ⟨v1, hv1⟩ := CS4.out.ex _ _ hv0
                      have hf1 : wr.frozen? ⟨g, j * 3, none⟩ = false := (CS4.out.frz _).trans (hfr _)
                      have hgs : g < w2.heap.size := owns_lt2 (OC.out.all q (List.mem_of_getElem? HQ.out)).gives hA (by omega)
                      have NX := Lib.hid (CS4.out.set g (j * 3) (by omega) hgs (by omega) (.string ⟨#[33]⟩))
                      clear hA hv0 hex hfr
                      go_wp2_with fail
                      go_roundw
                      case rel => exact ⟨j + 1, by omega, by go_num, NX⟩
                      case measure => simp [intOf]; omega
                    · skip
                      have ql4 : q.scripts.length ≤ 9223372036854775807 := by have := (PO.out.scripts); rcases this.2 with ⟨_, h⟩ | ⟨g, cap, cur, hv, _, _, h1, h2, _⟩; omega; unfold maxLen at h2; injection hv with _ e2 _; omega
                      go_wp2_with fail
                      go_loopw [12] (fun i wr => ∃ j : Nat, j ≤ q.scripts.length ∧ i = .int .i64 j ∧ Hid (CSh w3 wr w1.heap.size w2.heap.size gc lc)) (fun i _ => q.scripts.length - (intOf i).toNat)
                      case atStart => exact ⟨0, Nat.zero_le _, rfl, CS4⟩
                      case round =>
                        obtain ⟨j, hj, rfl, CS5⟩ := hrel
                        have hc : wr.cell? ⟨gc, k * 9 + 8, none⟩ = some (.slice q.sa q.scripts.length q.sc) := CS5.out.hdr k q 8 HQ.out (by omega) (by omega)
                        by_cases hj2 : j < q.scripts.length
                        · obtain ⟨g, hA, hg1, hg2, hex, hfr⟩ := owns_cell PO.out.scripts (by omega)
                          have hix := fun W => idx_of (T := 25) (E := 50) (sz := 2) (c := q.sc) Tryz.underlying25 rfl Tryz.sizeOf50 hA hj2 W
                          simp only [Nat.zero_add] at hix
                          obtain ⟨v0, hv0⟩ := hex (j * 2 + 1) (by omega)
                          obtain ⟨v1, hv1⟩ := CS5.out.ex _ _ hv0
                          have hf1 : wr.frozen? ⟨g, j * 2 + 1, none⟩ = false := (CS5.out.frz _).trans (hfr _)
                          have hgs : g < w2.heap.size := owns_lt2 (OC.out.all q (List.mem_of_getElem? HQ.out)).scripts hA (by omega)
                          have NX := Lib.hid (CS5.out.set g (j * 2 + 1) (by omega) hgs (by omega) (.string ⟨#[33]⟩))
                          clear hA hv0 hex hfr
                          go_wp2_with fail
                          go_roundw
                          case rel => exact ⟨j + 1, by omega, by go_num, NX⟩
                          case measure => simp [intOf]; omega
                        · skip
                          obtain ⟨⟨v0, hv0⟩, hf0⟩ := PK3.out k hlt
                          obtain ⟨v1, hv1⟩ := CS5.out.ex _ _ hv0
                          have hf1 : wr.frozen? ⟨gc, k * 9, none⟩ = false := (CS5.out.frz _).trans hf0
                          have NX := Lib.hid (CS5.out.set gc (k * 9) hgc1 hgc2 (by omega) (.string ⟨#[33]⟩))
                          clear hv0 hf0
                          go_wp2_with fail
                          go_roundw
                          case rel => exact ⟨k + 1, by omega, by go_num, NX⟩
                          case measure => simp [intOf]; omega
    · have BR := Lib.hid (CS.out.below (bthen BD.out BE.out))
      have DD : Hid (DbOk wr Ad ld) := DbOwn.okOut (by have := OD.out; rw [← HLD.out] at this; exact this) (fun i hi => CS.out.out i (.inr hi))
      have FD : Hid (∀ q ∈ ld, q.fits) := by
        intro q hq
        obtain ⟨i, hi, rfl⟩ := List.getElem_of_mem hq
        have hil : i < l.length := by rw [← HLD.out]; exact hi
        exact (AL.out i _ _ (List.getElem?_eq_getElem hil) (List.getElem?_eq_getElem hi)).fits (F1.out _ (List.getElem_mem hil))
      have EQ : Hid (eqL eqPk l ld = true) := eqL_good eqPk l ld HLD.out.symm (fun i x y hx hy => alike_eqPk (AL.out i x y hx hy))
      have nd : ld.length ≤ 9223372036854775807 := by rw [HLD.out]; exact n1
      go_wp2_with fail
      refine (model_Same A B ca cb l m _ (by exact DL.out.below BR.out) (by exact (HM.out.below BC.out).below BR.out) n1 n2 F1.out F2.out).mono ?_; rintro e w4 ⟨rfl, h4⟩
      go_wp2_with fail
      refine (ref_Same A B ca cb l m _ (by exact (DL.out.below BR.out).below h4) (by exact ((HM.out.below BC.out).below BR.out).below h4) n1 n2 F1.out F2.out).mono ?_; rintro e w5 ⟨rfl, h5⟩
      go_wp2_with fail
      refine (model_Same_is A Ad ca cd l ld _ (by exact ((DL.out.below BR.out).below h4).below h5) (by exact (DD.out.below h4).below h5) n1 nd F1.out FD.out HLD EQ).mono ?_; rintro e w6 ⟨rfl, h6⟩
      go_wp2_with fail
      refine (ref_Same_is A Ad ca cd l ld _ (by exact (((DL.out.below BR.out).below h4).below h5).below h6) (by exact ((DD.out.below h4).below h5).below h6) n1 nd F1.out FD.out HLD EQ).mono ?_; rintro e w7 ⟨rfl, h7⟩
      go_wp2_with fail
      go_ret
      exact ⟨ret_bool (by simp), bthen BC.out (bthen BR.out (bthen (bthen (bthen h4 h5) h6) h7))⟩
end Go.Proofs.YtdfdllbebfoggaaGreatDoor
