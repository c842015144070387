/- Contracts: databases held against each other, in the program and in the reference. -/
import Derived.Test.YtdfdllbebfoggaaGreatDoorMk7
import Derived.StillTailTactics
namespace Go.Proofs.YtdfdllbebfoggaaGreatDoor
open Go.RowKit

set_option maxRecDepth 100000 in
set_option maxHeartbeats 1000000 in
theorem ref_SameTexts (A B : Option Addr) (c d : Nat) (l m : List ByteArray) (w : World) (h1 : Rd w 1 A l.length (strCells l)) (h2 : Rd w 1 B m.length (strCells m)) (n1 : l.length ≤ 9223372036854775807) (n2 : m.length ≤ 9223372036854775807) :
    Calls Tryz.prog 26 #[.slice A l.length c, .slice B m.length d] w fun e w' => e = .returned (.bool (eqL eqB l m)) ∧ Below w.heap.size w w' := by
  have H1 := Lib.hid h1; clear h1
  have H2 := Lib.hid h2; clear h2
  by_cases hl : l.length = m.length
  · have hb : ((l.length : Int) != (m.length : Int)) = false := by simp [hl]
    have HL := Lib.hid hl
    have hle : l.length ≤ m.length := by omega
    clear hl
    go_enter Tryz.func26, Tryz.ntmps26
    go_wp2_with fail
    go_loopw [5] (fun i wr => ∃ (k q : Nat), k ≤ l.length ∧ i = .int .i64 k ∧ wr = w.drewN q ∧ Hid (∀ (i : Nat) (x y : ByteArray), i < k → l[i]? = some x → m[i]? = some y → eqB x y = true)) (fun i _ => l.length - (intOf i).toNat)
    case atStart => exact ⟨0, 0, Nat.zero_le _, rfl, rfl, fun i x y h => absurd h (Nat.not_lt_zero _)⟩
    case round =>
      obtain ⟨k, q, hk, rfl, rfl, HK⟩ := hrel
      by_cases hlt : k < l.length
      · obtain ⟨x, hx⟩ : ∃ x, l[k]? = some x := ⟨_, List.getElem?_eq_getElem hlt⟩
        have hlt2 : k < m.length := by omega
        obtain ⟨y, hy⟩ : ∃ y, m[k]? = some y := ⟨_, List.getElem?_eq_getElem hlt2⟩
        obtain ⟨b, off, hA, e0⟩ := H1.out.str k x hx
        obtain ⟨b', off', hA', f0⟩ := H2.out.str k y hy
        have hix := fun W => idx_of (T := 22) (E := 9) (sz := 1) (c := c) Tryz.underlying22 rfl Tryz.sizeOf9 hA hlt W
        have hix' := fun W => idx_of (T := 22) (E := 9) (sz := 1) (c := d) Tryz.underlying22 rfl Tryz.sizeOf9 hA' hlt2 W
        simp only [Nat.mul_one] at hix hix'
        have HX := Lib.hid hx; have HY := Lib.hid hy
        clear hx hy hA hA'
        cases hxy : eqB x y
        · have HXY := Lib.hid hxy; unfold eqB at hxy
          go_wp2_with fail
          go_quiet (fail)
          go_wp2_with fail
          go_ret
          exact ⟨ret_bool (eqL_bad eqB l m k x y HX.out HY.out HXY.out).symm, below_drewN (below_drewN (Below.refl _ _) _) _⟩
        · have HXY := Lib.hid hxy; obtain rfl := eqB_eq hxy
          clear hxy
          go_wp2_with fail
          go_quiet (fail)
          go_wp2_with fail
          have FK : Hid (∀ (i : Nat) (x y : ByteArray), i < k + 1 → l[i]? = some x → m[i]? = some y → eqB x y = true) := by
            intro i x' y' hi hx' hy'
            rcases Nat.lt_succ_iff_lt_or_eq.1 hi with h | h
            · exact HK.out i x' y' h hx' hy'
            · subst h; rw [HX.out] at hx'; rw [HY.out] at hy'; injection hx' with hx'; injection hy' with hy'; subst hx' hy'; exact HXY.out
          go_roundw
          case rel => exact ⟨k + 1, _, by omega, by go_num, rfl, FK⟩
          case measure => simp [intOf]; omega
      · go_wp2_with fail
        go_ret
        exact ⟨ret_bool (eqL_good eqB l m HL.out (fun i x y hx hy => HK.out i x y (by have := (List.getElem?_eq_some_iff.1 hx).1; omega) hx hy)).symm, below_drewN (Below.refl _ _) _⟩
  · have hb : ((l.length : Int) != (m.length : Int)) = true := by simp; omega
    have HL := Lib.hid hl; clear hl
    go_enter Tryz.func26, Tryz.ntmps26
    go_wp2_with fail
    go_ret
    exact ⟨ret_bool (eqL_length eqB l m HL.out).symm, Below.refl _ _⟩

set_option maxRecDepth 100000 in
set_option maxHeartbeats 2000000 in
theorem model_EqualFunc (A B : Option Addr) (c d : Nat) (l m : List PkL) (w : World) (h1 : DbOk w A l) (h2 : DbOk w B m) (n1 : l.length ≤ 9223372036854775807) (n2 : m.length ≤ 9223372036854775807) (f1 : ∀ p ∈ l, p.fits) (f2 : ∀ p ∈ m, p.fits) :
    Calls Tryz.prog 49 #[.slice A l.length c, .slice B m.length d, .func (.func 50) #[] #[]] w fun e w' => e = .returned (.bool (eqL eqPk l m)) ∧ Below w.heap.size w w' := by
  have H1 := Lib.hid h1; have H2 := Lib.hid h2; have F1 := Lib.hid f1; have F2 := Lib.hid f2
  clear h1 h2 f1 f2
  by_cases hl : l.length = m.length
  · have hb : ((l.length : Int) != (m.length : Int)) = false := by simp [hl]
    have HL := Lib.hid hl
    have hle : l.length ≤ m.length := by omega
    clear hl
    go_enter Tryz.func49, Tryz.ntmps49
    go_wp2_with fail
    go_loopw [17] (fun i wr => ∃ (k : Nat), k ≤ l.length ∧ i = .int .i64 k ∧ Hid (Below w.heap.size w wr) ∧ Hid (∀ (i : Nat) (x y : PkL), i < k → l[i]? = some x → m[i]? = some y → eqPk x y = true)) (fun i _ => l.length - (intOf i).toNat)
    case atStart => exact ⟨0, Nat.zero_le _, rfl, Below.refl _ _, fun i x y h => absurd h (Nat.not_lt_zero _)⟩
    case round =>
      obtain ⟨k, hk, rfl, HB, HK⟩ := hrel
      by_cases hlt : k < l.length
      · obtain ⟨x, hx⟩ : ∃ x, l[k]? = some x := ⟨_, List.getElem?_eq_getElem hlt⟩
        have hlt2 : k < m.length := by omega
        obtain ⟨y, hy⟩ : ∃ y, m[k]? = some y := ⟨_, List.getElem?_eq_getElem hlt2⟩
        obtain ⟨be, offe, hAe, hee⟩ := (H1.out.row.below HB.out).elem pk_len k x hx
        have e0 := hee 0 _ rfl
        have e1 := hee 1 _ rfl
        have e2 := hee 2 _ rfl
        have e3 := hee 3 _ rfl
        have e4 := hee 4 _ rfl
        have e5 := hee 5 _ rfl
        have e6 := hee 6 _ rfl
        have e7 := hee 7 _ rfl
        have e8 := hee 8 _ rfl
        simp only [Nat.add_zero] at e0
        clear hee
        obtain ⟨bf, offf, hAf, hef⟩ := (H2.out.row.below HB.out).elem pk_len k y hy
        have f0 := hef 0 _ rfl
        have f1 := hef 1 _ rfl
        have f2 := hef 2 _ rfl
        have f3 := hef 3 _ rfl
        have f4 := hef 4 _ rfl
        have f5 := hef 5 _ rfl
        have f6 := hef 6 _ rfl
        have f7 := hef 7 _ rfl
        have f8 := hef 8 _ rfl
        simp only [Nat.add_zero] at f0
        clear hef
        have hix := fun W => idx_of (T := 40) (E := 27) (sz := 9) (c := c) Tryz.underlying40 rfl Tryz.sizeOf27 hAe hlt W
        have hix' := fun W => idx_of (T := 40) (E := 27) (sz := 9) (c := d) Tryz.underlying40 rfl Tryz.sizeOf27 hAf hlt2 W
        have be : be < wr.heap.size := World.block_lt_of_cell? _ _ e0
        have bf : bf < wr.heap.size := World.block_lt_of_cell? _ _ f0
        have HX := Lib.hid hx; have HY := Lib.hid hy
        have MX := Lib.hid (List.mem_of_getElem? hx); have MY := Lib.hid (List.mem_of_getElem? hy)
        clear hx hy hAe hAf
        cases hxy : eqPk x y
        · have HXY := Lib.hid hxy; clear hxy
          go_wp2_with fail
          refine (model_Same1 x y _ (by exact ((H1.out.all x MX.out).below HB.out).below (((Below.refl _ _).alloc (Nat.le_refl _) _).alloc (by simp) _)) (by exact ((H2.out.all y MY.out).below HB.out).below (((Below.refl _ _).alloc (Nat.le_refl _) _).alloc (by simp) _)) (F1.out x MX.out) (F2.out y MY.out)).mono ?_; rintro e w1 ⟨rfl, hb1⟩
          rw [HXY.out]
          go_wp2_with fail
          go_ret
          exact ⟨ret_bool (eqL_bad eqPk l m k x y HX.out HY.out HXY.out).symm, bthen HB.out (bthen (((Below.refl _ _).alloc (Nat.le_refl _) _).alloc (by simp) _) hb1)⟩
        · have HXY := Lib.hid hxy; clear hxy
          go_wp2_with fail
          refine (model_Same1 x y _ (by exact ((H1.out.all x MX.out).below HB.out).below (((Below.refl _ _).alloc (Nat.le_refl _) _).alloc (by simp) _)) (by exact ((H2.out.all y MY.out).below HB.out).below (((Below.refl _ _).alloc (Nat.le_refl _) _).alloc (by simp) _)) (F1.out x MX.out) (F2.out y MY.out)).mono ?_; rintro e w1 ⟨rfl, hb1⟩
          rw [HXY.out]
          go_wp2_with fail
          have FK : Hid (∀ (i : Nat) (x y : PkL), i < k + 1 → l[i]? = some x → m[i]? = some y → eqPk x y = true) := by
            intro i x' y' hi hx' hy'
            rcases Nat.lt_succ_iff_lt_or_eq.1 hi with h | h
            · exact HK.out i x' y' h hx' hy'
            · subst h; rw [HX.out] at hx'; rw [HY.out] at hy'; injection hx' with hx'; injection hy' with hy'; subst hx' hy'; exact HXY.out
          go_roundw
          case rel => exact ⟨k + 1, by omega, by go_num, bthen HB.out (bthen (((Below.refl _ _).alloc (Nat.le_refl _) _).alloc (by simp) _) hb1), FK⟩
          case measure => simp [intOf]; omega
      · go_wp2_with fail
        go_ret
        exact ⟨ret_bool (eqL_good eqPk l m HL.out (fun i x y hx hy => HK.out i x y (by have := (List.getElem?_eq_some_iff.1 hx).1; omega) hx hy)).symm, HB.out⟩
  · have hb : ((l.length : Int) != (m.length : Int)) = true := by simp; omega
    have HL := Lib.hid hl; clear hl
    go_enter Tryz.func49, Tryz.ntmps49
    go_wp2_with fail
    go_ret
    exact ⟨ret_bool (eqL_length eqPk l m HL.out).symm, Below.refl _ _⟩


theorem model_Same (A B : Option Addr) (c d : Nat) (l m : List PkL) (w : World) (h1 : DbOk w A l) (h2 : DbOk w B m) (n1 : l.length ≤ 9223372036854775807) (n2 : m.length ≤ 9223372036854775807) (f1 : ∀ p ∈ l, p.fits) (f2 : ∀ p ∈ m, p.fits) :
    Calls Tryz.prog 22 #[.slice A l.length c, .slice B m.length d] w fun e w' => e = .returned (.bool (eqL eqPk l m)) ∧ Below w.heap.size w w' := by
  go_enter Tryz.func22, Tryz.ntmps22
  go_wp2_with fail
  refine (model_EqualFunc A B c d l m _ h1 h2 n1 n2 f1 f2).mono ?_; rintro e w1 ⟨rfl, hb1⟩
  go_wp2_with fail
  go_ret
  exact ⟨rfl, hb1⟩

end Go.Proofs.YtdfdllbebfoggaaGreatDoor
