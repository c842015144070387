/- Contracts: two packages, two databases held against each other, in the reference. -/
import Derived.Test.YtdfdllbebfoggaaGreatDoorMk8
namespace Go.Proofs.YtdfdllbebfoggaaGreatDoor
open Go.RowKit

theorem eqPk_len {p q : PkL} (h : p.gives.length ≠ q.gives.length ∨ p.files.length ≠ q.files.length ∨ p.scripts.length ≠ q.scripts.length) : eqPk p q = false := by
  unfold eqPk
  rcases h with h | h | h
  · rw [eqL_length eqAtom _ _ h]; simp
  · rw [eqL_length eqFile _ _ h]; simp
  · rw [eqL_length eqScript _ _ h]; simp

set_option maxRecDepth 100000 in
set_option maxHeartbeats 4000000 in
theorem ref_One (p q : PkL) (w : World) (hp : p.ok w) (hq : q.ok w) (fp : p.fits) (fq : q.fits) :
    Calls Tryz.prog 55 #[p.val, q.val] w fun e w' => e = .returned (.bool (eqPk p q)) ∧ Below w.heap.size w w' := by
  have HW : Hid (Below w.heap.size w ((w.alloc (.cells #[.string p.nm, .string p.ver, .string p.ar, .string p.sm, .slice p.na p.needs.length p.nc, .slice p.ba p.bars.length p.bc, .slice p.ga p.gives.length p.gc, .slice p.fa p.files.length p.fc, .slice p.sa p.scripts.length p.sc] 27)).alloc (.cells #[.string q.nm, .string q.ver, .string q.ar, .string q.sm, .slice q.na q.needs.length q.nc, .slice q.ba q.bars.length q.bc, .slice q.ga q.gives.length q.gc, .slice q.fa q.files.length q.fc, .slice q.sa q.scripts.length q.sc] 27))) := ((Below.refl _ _).alloc (Nat.le_refl _) _).alloc (by simp) _
  have HP := Lib.hid (hp.below HW.out)
  have HQ := Lib.hid (hq.below HW.out)
  have FP := Lib.hid fp; have FQ := Lib.hid fq
  clear hp hq fp fq
  unfold PkL.val
  cases h0 : (p.nm.toList == q.nm.toList)
  · have E : Hid (eqPk p q = false) := by show _ = _; simp [eqPk, eqB, h0]
    go_enter Tryz.func55, Tryz.ntmps55
    go_wp2_with fail
    go_ret
    exact ⟨ret_bool E.out.symm, HW.out⟩
  cases h1 : (p.ver.toList == q.ver.toList)
  · have E : Hid (eqPk p q = false) := by show _ = _; simp [eqPk, eqB, h1]
    go_enter Tryz.func55, Tryz.ntmps55
    go_wp2_with fail
    go_ret
    exact ⟨ret_bool E.out.symm, HW.out⟩
  cases h2 : (p.ar.toList == q.ar.toList)
  · have E : Hid (eqPk p q = false) := by show _ = _; simp [eqPk, eqB, h2]
    go_enter Tryz.func55, Tryz.ntmps55
    go_wp2_with fail
    go_ret
    exact ⟨ret_bool E.out.symm, HW.out⟩
  cases h3 : (p.sm.toList == q.sm.toList)
  · have E : Hid (eqPk p q = false) := by show _ = _; simp [eqPk, eqB, h3]
    go_enter Tryz.func55, Tryz.ntmps55
    go_wp2_with fail
    go_ret
    exact ⟨ret_bool E.out.symm, HW.out⟩
  cases h4 : eqL eqB p.needs q.needs
  · have E : Hid (eqPk p q = false) := by show _ = _; simp [eqPk, h4]
    go_enter Tryz.func55, Tryz.ntmps55
    go_wp2_with fail
    refine (ref_SameTexts _ _ _ _ p.needs q.needs _ (by exact HP.out.needs) (by exact HQ.out.needs) FP.out.needs FQ.out.needs).mono ?_; rintro e w1 ⟨rfl, hb1⟩
    have HB1 := Lib.hid hb1
    obtain ⟨hc1, hf1⟩ := bcellN HB1.out
    clear hb1
    go_wp2_with fail
    go_ret
    exact ⟨ret_bool E.out.symm, HW.out.trans (HB1.out.mono (by simp; omega))⟩
  cases h5 : eqL eqB p.bars q.bars
  · have E : Hid (eqPk p q = false) := by show _ = _; simp [eqPk, h5]
    go_enter Tryz.func55, Tryz.ntmps55
    go_wp2_with fail
    refine (ref_SameTexts _ _ _ _ p.needs q.needs _ (by exact HP.out.needs) (by exact HQ.out.needs) FP.out.needs FQ.out.needs).mono ?_; rintro e w1 ⟨rfl, hb1⟩
    have HB1 := Lib.hid hb1
    obtain ⟨hc1, hf1⟩ := bcellN HB1.out
    clear hb1
    go_wp2_with fail
    refine (ref_SameTexts _ _ _ _ p.bars q.bars _ (by exact (HP.out.bars.below HB1.out)) (by exact (HQ.out.bars.below HB1.out)) FP.out.bars FQ.out.bars).mono ?_; rintro e w2 ⟨rfl, hb2⟩
    have HB2 := Lib.hid (bthen HB1.out hb2)
    clear hc1 hf1
    obtain ⟨hc2, hf2⟩ := bcellN HB2.out
    clear hb2
    go_wp2_with fail
    go_ret
    exact ⟨ret_bool E.out.symm, HW.out.trans (HB2.out.mono (by simp; omega))⟩
  by_cases g6 : p.gives.length = q.gives.length
  rotate_left
  · have E : Hid (eqPk p q = false) := eqPk_len (.inl g6)
    have gb6 : ((p.gives.length : Int) != (q.gives.length : Int)) = true := by simp; omega
    clear g6
    go_enter Tryz.func55, Tryz.ntmps55
    go_wp2_with fail
    refine (ref_SameTexts _ _ _ _ p.needs q.needs _ (by exact HP.out.needs) (by exact HQ.out.needs) FP.out.needs FQ.out.needs).mono ?_; rintro e w1 ⟨rfl, hb1⟩
    have HB1 := Lib.hid hb1
    obtain ⟨hc1, hf1⟩ := bcellN HB1.out
    clear hb1
    go_wp2_with fail
    refine (ref_SameTexts _ _ _ _ p.bars q.bars _ (by exact (HP.out.bars.below HB1.out)) (by exact (HQ.out.bars.below HB1.out)) FP.out.bars FQ.out.bars).mono ?_; rintro e w2 ⟨rfl, hb2⟩
    have HB2 := Lib.hid (bthen HB1.out hb2)
    clear hc1 hf1
    obtain ⟨hc2, hf2⟩ := bcellN HB2.out
    clear hb2
    go_wp2_with fail
    go_ret
    exact ⟨ret_bool E.out.symm, HW.out.trans (HB2.out.mono (by simp; omega))⟩
  have gb6 : ((p.gives.length : Int) != (q.gives.length : Int)) = false := by simp [g6]
  have hle6 : p.gives.length ≤ q.gives.length := by omega
  have hlm6 := FP.out.gives
  have G6 := Lib.hid g6; clear g6
  by_cases g7 : p.files.length = q.files.length
  rotate_left
  · have E : Hid (eqPk p q = false) := eqPk_len (.inr (.inl g7))
    have gb7 : ((p.files.length : Int) != (q.files.length : Int)) = true := by simp; omega
    clear g7
    go_enter Tryz.func55, Tryz.ntmps55
    go_wp2_with fail
    refine (ref_SameTexts _ _ _ _ p.needs q.needs _ (by exact HP.out.needs) (by exact HQ.out.needs) FP.out.needs FQ.out.needs).mono ?_; rintro e w1 ⟨rfl, hb1⟩
    have HB1 := Lib.hid hb1
    obtain ⟨hc1, hf1⟩ := bcellN HB1.out
    clear hb1
    go_wp2_with fail
    refine (ref_SameTexts _ _ _ _ p.bars q.bars _ (by exact (HP.out.bars.below HB1.out)) (by exact (HQ.out.bars.below HB1.out)) FP.out.bars FQ.out.bars).mono ?_; rintro e w2 ⟨rfl, hb2⟩
    have HB2 := Lib.hid (bthen HB1.out hb2)
    clear hc1 hf1
    obtain ⟨hc2, hf2⟩ := bcellN HB2.out
    clear hb2
    go_wp2_with fail
    go_ret
    exact ⟨ret_bool E.out.symm, HW.out.trans (HB2.out.mono (by simp; omega))⟩
  have gb7 : ((p.files.length : Int) != (q.files.length : Int)) = false := by simp [g7]
  have hle7 : p.files.length ≤ q.files.length := by omega
  have hlm7 := FP.out.files
  have G7 := Lib.hid g7; clear g7
  by_cases g8 : p.scripts.length = q.scripts.length
  rotate_left
  · have E : Hid (eqPk p q = false) := eqPk_len (.inr (.inr g8))
    have gb8 : ((p.scripts.length : Int) != (q.scripts.length : Int)) = true := by simp; omega
    clear g8
    go_enter Tryz.func55, Tryz.ntmps55
    go_wp2_with fail
    refine (ref_SameTexts _ _ _ _ p.needs q.needs _ (by exact HP.out.needs) (by exact HQ.out.needs) FP.out.needs FQ.out.needs).mono ?_; rintro e w1 ⟨rfl, hb1⟩
    have HB1 := Lib.hid hb1
    obtain ⟨hc1, hf1⟩ := bcellN HB1.out
    clear hb1
    go_wp2_with fail
    refine (ref_SameTexts _ _ _ _ p.bars q.bars _ (by exact (HP.out.bars.below HB1.out)) (by exact (HQ.out.bars.below HB1.out)) FP.out.bars FQ.out.bars).mono ?_; rintro e w2 ⟨rfl, hb2⟩
    have HB2 := Lib.hid (bthen HB1.out hb2)
    clear hc1 hf1
    obtain ⟨hc2, hf2⟩ := bcellN HB2.out
    clear hb2
    go_wp2_with fail
    go_ret
    exact ⟨ret_bool E.out.symm, HW.out.trans (HB2.out.mono (by simp; omega))⟩
  have gb8 : ((p.scripts.length : Int) != (q.scripts.length : Int)) = false := by simp [g8]
  have hle8 : p.scripts.length ≤ q.scripts.length := by omega
  have hlm8 := FP.out.scripts
  have G8 := Lib.hid g8; clear g8
  have HS : Hid (eqB p.nm q.nm = true ∧ eqB p.ver q.ver = true ∧ eqB p.ar q.ar = true ∧ eqB p.sm q.sm = true ∧ eqL eqB p.needs q.needs = true ∧ eqL eqB p.bars q.bars = true) := ⟨h0, h1, h2, h3, h4, h5⟩
  go_enter Tryz.func55, Tryz.ntmps55
  go_wp2_with fail
  refine (ref_SameTexts _ _ _ _ p.needs q.needs _ (by exact HP.out.needs) (by exact HQ.out.needs) FP.out.needs FQ.out.needs).mono ?_; rintro e w1 ⟨rfl, hb1⟩
  have HB1 := Lib.hid hb1
  obtain ⟨hc1, hf1⟩ := bcellN HB1.out
  clear hb1
  go_wp2_with fail
  refine (ref_SameTexts _ _ _ _ p.bars q.bars _ (by exact (HP.out.bars.below HB1.out)) (by exact (HQ.out.bars.below HB1.out)) FP.out.bars FQ.out.bars).mono ?_; rintro e w2 ⟨rfl, hb2⟩
  have HB2 := Lib.hid (bthen HB1.out hb2)
  clear hc1 hf1
  obtain ⟨hc2, hf2⟩ := bcellN HB2.out
  clear hb2
  go_wp2_with fail
  go_loopw [5] (fun i wr => ∃ (k z : Nat), k ≤ p.gives.length ∧ i = .int .i64 k ∧ wr = w2.drewN z ∧ Hid (∀ (i : Nat) (x y : AtomM), i < k → p.gives[i]? = some x → q.gives[i]? = some y → eqAtom x y = true)) (fun i _ => p.gives.length - (intOf i).toNat)
  case atStart => exact ⟨0, 0, Nat.zero_le _, rfl, rfl, fun i x y h => absurd h (Nat.not_lt_zero _)⟩
  case round =>
    obtain ⟨k, z, hk, rfl, rfl, HK6⟩ := hrel
    by_cases hlt : k < p.gives.length
    · obtain ⟨x, hx⟩ : ∃ x, p.gives[k]? = some x := ⟨_, List.getElem?_eq_getElem hlt⟩
      have hlt2 : k < q.gives.length := by omega
      obtain ⟨y, hy⟩ : ∃ y, q.gives[k]? = some y := ⟨_, List.getElem?_eq_getElem hlt2⟩
      obtain ⟨b, off, hA, he⟩ := (HP.out.gives.below HB2.out).elem atom_len k x hx
      obtain ⟨b', off', hA', he'⟩ := (HQ.out.gives.below HB2.out).elem atom_len k y hy
      have e0 := he 0 _ rfl; have f0 := he' 0 _ rfl
      have e1 := he 1 _ rfl; have f1 := he' 1 _ rfl
      have e2 := he 2 _ rfl; have f2 := he' 2 _ rfl
      simp only [Nat.add_zero] at e0 f0
      clear he he'
      have hix := fun W => idx_of (T := 23) (E := 48) (sz := 3) (c := p.gc) Tryz.underlying23 rfl Tryz.sizeOf48 hA hlt W
      have hix' := fun W => idx_of (T := 23) (E := 48) (sz := 3) (c := q.gc) Tryz.underlying23 rfl Tryz.sizeOf48 hA' hlt2 W
      have bx := hc2 w.heap.size 6 (by simp; omega)
      have by_ := hc2 (w.heap.size + 1) 6 (by simp)
      clear hc2 hf2
      have HX := Lib.hid hx; have HY := Lib.hid hy
      clear hx hy hA hA'
      have hne := neq_Atom x y
      cases hxy : eqAtom x y
      · have E : Hid (eqPk p q = false) := by show _ = _; unfold eqPk; rw [eqL_bad eqAtom p.gives q.gives k x y HX.out HY.out hxy]; simp
        go_wp2_with fail
        go_quiet (fail)
        go_wp2_with fail
        go_ret
        exact ⟨ret_bool E.out.symm, below_drewN (below_drewN (HW.out.trans (HB2.out.mono (by simp; omega))) _) _⟩
      · go_wp2_with fail
        go_quiet (fail)
        go_wp2_with fail
        have FK : Hid (∀ (i : Nat) (x y : AtomM), i < k + 1 → p.gives[i]? = some x → q.gives[i]? = some y → eqAtom x y = true) := by
          intro i x' y' hi hx' hy'
          rcases Nat.lt_succ_iff_lt_or_eq.1 hi with h | h
          · exact HK6.out i x' y' h hx' hy'
          · subst h; rw [HX.out] at hx'; rw [HY.out] at hy'; injection hx' with hx'; injection hy' with hy'; subst hx' hy'; exact hxy
        go_roundw
        case rel => exact ⟨k + 1, _, by omega, by go_num, rfl, FK⟩
        case measure => simp [intOf]; omega
    · have Q6 : Hid (eqL eqAtom p.gives q.gives = true) := eqL_good eqAtom p.gives q.gives G6.out (fun i x y hx hy => HK6.out i x y (by have := (List.getElem?_eq_some_iff.1 hx).1; omega) hx hy)
      go_wp2_with fail
      go_loopw [6] (fun i wr => ∃ (k z : Nat), k ≤ p.files.length ∧ i = .int .i64 k ∧ wr = w2.drewN z ∧ Hid (∀ (i : Nat) (x y : FileM), i < k → p.files[i]? = some x → q.files[i]? = some y → eqFile x y = true)) (fun i _ => p.files.length - (intOf i).toNat)
      case atStart => exact ⟨0, _, Nat.zero_le _, rfl, rfl, fun i x y h => absurd h (Nat.not_lt_zero _)⟩
      case round =>
        obtain ⟨k, z, hk, rfl, rfl, HK7⟩ := hrel
        by_cases hlt : k < p.files.length
        · obtain ⟨x, hx⟩ : ∃ x, p.files[k]? = some x := ⟨_, List.getElem?_eq_getElem hlt⟩
          have hlt2 : k < q.files.length := by omega
          obtain ⟨y, hy⟩ : ∃ y, q.files[k]? = some y := ⟨_, List.getElem?_eq_getElem hlt2⟩
          obtain ⟨b, off, hA, he⟩ := (HP.out.files.below HB2.out).elem file_len k x hx
          obtain ⟨b', off', hA', he'⟩ := (HQ.out.files.below HB2.out).elem file_len k y hy
          have e0 := he 0 _ rfl; have f0 := he' 0 _ rfl
          have e1 := he 1 _ rfl; have f1 := he' 1 _ rfl
          have e2 := he 2 _ rfl; have f2 := he' 2 _ rfl
          have e3 := he 3 _ rfl; have f3 := he' 3 _ rfl
          have e4 := he 4 _ rfl; have f4 := he' 4 _ rfl
          have e5 := he 5 _ rfl; have f5 := he' 5 _ rfl
          have e6 := he 6 _ rfl; have f6 := he' 6 _ rfl
          have e7 := he 7 _ rfl; have f7 := he' 7 _ rfl
          simp only [Nat.add_zero] at e0 f0
          clear he he'
          have hix := fun W => idx_of (T := 24) (E := 46) (sz := 8) (c := p.fc) Tryz.underlying24 rfl Tryz.sizeOf46 hA hlt W
          have hix' := fun W => idx_of (T := 24) (E := 46) (sz := 8) (c := q.fc) Tryz.underlying24 rfl Tryz.sizeOf46 hA' hlt2 W
          have bx := hc2 w.heap.size 7 (by simp; omega)
          have by_ := hc2 (w.heap.size + 1) 7 (by simp)
          clear hc2 hf2
          have HX := Lib.hid hx; have HY := Lib.hid hy
          clear hx hy hA hA'
          have hne := neq_File x y
          cases hxy : eqFile x y
          · have E : Hid (eqPk p q = false) := by show _ = _; unfold eqPk; rw [eqL_bad eqFile p.files q.files k x y HX.out HY.out hxy]; simp
            go_wp2_with fail
            go_quiet (fail)
            go_wp2_with fail
            go_ret
            exact ⟨ret_bool E.out.symm, below_drewN (below_drewN (HW.out.trans (HB2.out.mono (by simp; omega))) _) _⟩
          · go_wp2_with fail
            go_quiet (fail)
            go_wp2_with fail
            have FK : Hid (∀ (i : Nat) (x y : FileM), i < k + 1 → p.files[i]? = some x → q.files[i]? = some y → eqFile x y = true) := by
              intro i x' y' hi hx' hy'
              rcases Nat.lt_succ_iff_lt_or_eq.1 hi with h | h
              · exact HK7.out i x' y' h hx' hy'
              · subst h; rw [HX.out] at hx'; rw [HY.out] at hy'; injection hx' with hx'; injection hy' with hy'; subst hx' hy'; exact hxy
            go_roundw
            case rel => exact ⟨k + 1, _, by omega, by go_num, rfl, FK⟩
            case measure => simp [intOf]; omega
        · have Q7 : Hid (eqL eqFile p.files q.files = true) := eqL_good eqFile p.files q.files G7.out (fun i x y hx hy => HK7.out i x y (by have := (List.getElem?_eq_some_iff.1 hx).1; omega) hx hy)
          go_wp2_with fail
          go_loopw [7] (fun i wr => ∃ (k z : Nat), k ≤ p.scripts.length ∧ i = .int .i64 k ∧ wr = w2.drewN z ∧ Hid (∀ (i : Nat) (x y : ScriptM), i < k → p.scripts[i]? = some x → q.scripts[i]? = some y → eqScript x y = true)) (fun i _ => p.scripts.length - (intOf i).toNat)
          case atStart => exact ⟨0, _, Nat.zero_le _, rfl, rfl, fun i x y h => absurd h (Nat.not_lt_zero _)⟩
          case round =>
            obtain ⟨k, z, hk, rfl, rfl, HK8⟩ := hrel
            by_cases hlt : k < p.scripts.length
            · obtain ⟨x, hx⟩ : ∃ x, p.scripts[k]? = some x := ⟨_, List.getElem?_eq_getElem hlt⟩
              have hlt2 : k < q.scripts.length := by omega
              obtain ⟨y, hy⟩ : ∃ y, q.scripts[k]? = some y := ⟨_, List.getElem?_eq_getElem hlt2⟩
              obtain ⟨b, off, hA, he⟩ := (HP.out.scripts.below HB2.out).elem script_len k x hx
              obtain ⟨b', off', hA', he'⟩ := (HQ.out.scripts.below HB2.out).elem script_len k y hy
              have e0 := he 0 _ rfl; have f0 := he' 0 _ rfl
              have e1 := he 1 _ rfl; have f1 := he' 1 _ rfl
              simp only [Nat.add_zero] at e0 f0
              clear he he'
              have hix := fun W => idx_of (T := 25) (E := 50) (sz := 2) (c := p.sc) Tryz.underlying25 rfl Tryz.sizeOf50 hA hlt W
              have hix' := fun W => idx_of (T := 25) (E := 50) (sz := 2) (c := q.sc) Tryz.underlying25 rfl Tryz.sizeOf50 hA' hlt2 W
              have bx := hc2 w.heap.size 8 (by simp; omega)
              have by_ := hc2 (w.heap.size + 1) 8 (by simp)
              clear hc2 hf2
              have HX := Lib.hid hx; have HY := Lib.hid hy
              clear hx hy hA hA'
              have hne := neq_Script x y
              cases hxy : eqScript x y
              · have E : Hid (eqPk p q = false) := by show _ = _; unfold eqPk; rw [eqL_bad eqScript p.scripts q.scripts k x y HX.out HY.out hxy]; simp
                go_wp2_with fail
                go_quiet (fail)
                go_wp2_with fail
                go_ret
                exact ⟨ret_bool E.out.symm, below_drewN (below_drewN (HW.out.trans (HB2.out.mono (by simp; omega))) _) _⟩
              · go_wp2_with fail
                go_quiet (fail)
                go_wp2_with fail
                have FK : Hid (∀ (i : Nat) (x y : ScriptM), i < k + 1 → p.scripts[i]? = some x → q.scripts[i]? = some y → eqScript x y = true) := by
                  intro i x' y' hi hx' hy'
                  rcases Nat.lt_succ_iff_lt_or_eq.1 hi with h | h
                  · exact HK8.out i x' y' h hx' hy'
                  · subst h; rw [HX.out] at hx'; rw [HY.out] at hy'; injection hx' with hx'; injection hy' with hy'; subst hx' hy'; exact hxy
                go_roundw
                case rel => exact ⟨k + 1, _, by omega, by go_num, rfl, FK⟩
                case measure => simp [intOf]; omega
            · have Q8 : Hid (eqL eqScript p.scripts q.scripts = true) := eqL_good eqScript p.scripts q.scripts G8.out (fun i x y hx hy => HK8.out i x y (by have := (List.getElem?_eq_some_iff.1 hx).1; omega) hx hy)
              go_wp2_with fail
              go_ret
              obtain ⟨s0, s1, s2, s3, s4, s5⟩ := HS.out
              exact ⟨ret_bool (eqPk_true s0 s1 s2 s3 s4 s5 Q6.out Q7.out Q8.out).symm, below_drewN (HW.out.trans (HB2.out.mono (by simp; omega))) _⟩
end Go.Proofs.YtdfdllbebfoggaaGreatDoor
