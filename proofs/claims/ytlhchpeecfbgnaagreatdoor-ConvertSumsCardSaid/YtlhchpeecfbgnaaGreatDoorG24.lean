/- A part of the proof that the digests of any content are the three of it, and that an installed set is new memory. No condition. -/
import Derived.Lib.AppendZeros
import Derived.Lib.ItoaNum
import Derived.WalkSmall
import Derived.Test.YtlhchpeecfbgnaaGreatDoorG13
import Derived.Test.YtlhchpeecfbgnaaGreatDoorG17
import Derived.Test.YtlhchpeecfbgnaaGreatDoorG18
import Derived.Test.YtlhchpeecfbgnaaGreatDoorG19
import Derived.Test.YtlhchpeecfbgnaaGreatDoorG23
set_option maxRecDepth 100000
set_option maxHeartbeats 20000000
set_option linter.unusedVariables false
set_option linter.unusedSimpArgs false
namespace Go.Proofs.YtlhchpeecfbgnaaGreatDoor
section
open Go.RowKit
def wDb (l : List PkL) : Nat := (l.map fun p => 1 + wsum p).sum
theorem wDb_snoc (l : List PkL) (k : Nat) (x : PkL) (h : l[k]? = some x) : wDb (l.take (k + 1)) = wDb (l.take k) + 1 + wsum x := by
  obtain ⟨hk, hx⟩ := List.getElem?_eq_some_iff.1 h
  unfold wDb; rw [List.take_succ_eq_append_getElem hk, List.map_append, List.sum_append, hx]; simp; omega
def LightPost (l : List PkL) (count : Nat) (most : Int) (e : Ending) : Prop := ∃ b : Bool, e = .returned (.bool b) ∧ (b = true → l.length ≤ count ∧ (wDb l : Int) ≤ most)
theorem ref_Light (A : Option Addr) (c : Nat) (l : List PkL) (count : Nat) (hcnt : count ≤ 1000) (most : Int) (h0 : 0 ≤ most) (h1 : most ≤ 1000000) (w : World) (hd : DbOk w A l) (hf : ∀ p ∈ l, p.fits) (hl : l.length ≤ 9223372036854775807) :
    Calls Tryz.prog 5 #[.slice A l.length c, .int .i64 count, .int .i64 most] w fun e w' => LightPost l count most e ∧ Below w.heap.size w w' := by
  have HD := Lib.hid hd; clear hd
  have HF := Lib.hid hf; clear hf
  by_cases hc : l.length ≤ count
  · have hcb : decide (count < l.length) = false := by simp; omega
    go_enter Tryz.func5, Tryz.ntmps5
    go_upto_block 0 with (fail)
    go_cut [7] (fun s7 wx => ∃ m : Int, s7 = .int .i64 m ∧ 0 ≤ m ∧ m ≤ 7 * most + 7 ∧ Hid (m ≤ most → m = (wDb l : Int)) ∧ Hid (Below w.heap.size w wx))
    case first =>
      go_wp2_with fail
      go_loopw [7, 8] (fun n i wr => ∃ (k : Nat) (m : Int), k ≤ l.length ∧ i = .int .i64 k ∧ n = .int .i64 m ∧ 0 ≤ m ∧ m ≤ 7 * most + 7 ∧ Hid (m ≤ most → m = (wDb (l.take k) : Int)) ∧ Hid (Below w.heap.size w wr)) (fun _ i _ => l.length - (intOf i).toNat)
      case atStart => exact ⟨0, 0, Nat.zero_le _, rfl, rfl, by omega, by omega, (fun h => by simp [wDb]), Below.refl _ _⟩
      case round =>
        obtain ⟨k, m, hk, rfl, rfl, m0, m1, M2, BX⟩ := hrel
        by_cases hlt : k < l.length
        · by_cases hm : m ≤ most
          · obtain ⟨x, hx⟩ : ∃ x, l[k]? = some x := ⟨_, List.getElem?_eq_getElem hlt⟩
            have hxm : x ∈ l := List.mem_of_getElem? hx
            obtain ⟨b, off, hA, he⟩ := (HD.out.row.below BX.out).elem pk_len k x hx
            have e0 := he 0 _ rfl
            have e1 := he 1 _ rfl
            have e2 := he 2 _ rfl
            have e3 := he 3 _ rfl
            have e4 := he 4 _ rfl
            have e5 := he 5 _ rfl
            have e6 := he 6 _ rfl
            have e7 := he 7 _ rfl
            have e8 := he 8 _ rfl
            simp only [Nat.add_zero] at e0
            clear he
            have hix := fun W => idx_of (T := 23) (E := 43) (sz := 9) (c := c) Tryz.underlying23 rfl Tryz.sizeOf43 hA hlt W
            have HX := Lib.hid hx
            have HW := Lib.hid (wDb_snoc l k x hx)
            have HM := Lib.hid hxm
            clear hx hA hxm
            go_wp2_with fail
            refine (ref_Weight x most h0 h1 _ ((HD.out.all x HM.out).below BX.out) (HF.out x HM.out)).mono ?_
            rintro e w1 ⟨⟨q, rfl, q0, q1, q2⟩, hb1⟩
            have Q2 := Lib.hid q2; clear q2
            clear e0 e1 e2 e3 e4 e5 e6 e7 e8 hix
            go_wp2_with fail
            have F1 : Hid (m + 1 + q ≤ most → m + 1 + q = (wDb (l.take (k + 1)) : Int)) := by
              intro h; rw [HW.out]; have := M2.out hm; have := Q2.out (by omega); omega
            go_roundw
            case rel => exact ⟨k + 1, _, by omega, by go_num, rfl, by omega, by omega, F1, bthen BX.out hb1⟩
            case measure => simp [intOf]; omega
          · go_wp2_with fail
            go_meet
            exact ⟨m, rfl, m0, m1, (fun h => by omega), BX⟩
        · go_wp2_with fail
          go_meet
          exact ⟨m, rfl, m0, m1, (fun h => by rw [M2.out h, List.take_of_length_le (by omega)]), BX⟩
    case rest =>
      obtain ⟨m, rfl, m0, m1, M2, BX⟩ := hcut
      go_wp2_with fail
      go_ret
      exact ⟨⟨_, rfl, fun hb => ⟨hc, by have h := of_decide_eq_true hb; have := M2.out h; omega⟩⟩, BX.out⟩
  · go_enter Tryz.func5, Tryz.ntmps5
    go_wp2_with fail
    go_ret
    exact ⟨⟨false, rfl, fun h => by cases h⟩, Below.refl _ _⟩
theorem one_str (l : List ByteArray) : ∀ u ∈ strCells l, u.oneCell' = true := by
  intro u hu; simp only [strCells, List.mem_map] at hu; obtain ⟨x, _, rfl⟩ := hu; rfl
theorem one_flat {α : Type} {f : α → List Value} (hf : ∀ x, ∀ u ∈ f x, u.oneCell' = true) (l : List α) : ∀ u ∈ l.flatMap f, u.oneCell' = true := by
  intro u hu; simp only [List.mem_flatMap] at hu; obtain ⟨x, _, h⟩ := hu; exact hf x u h
theorem one_atom (x : AtomM) : ∀ u ∈ x.cells, u.oneCell' = true := by intro u hu; simp only [AtomM.cells, List.mem_cons, List.not_mem_nil, or_false] at hu; rcases hu with rfl | rfl | rfl <;> rfl
theorem one_file (x : FileM) : ∀ u ∈ x.cells, u.oneCell' = true := by intro u hu; simp only [FileM.cells, List.mem_cons, List.not_mem_nil, or_false] at hu; rcases hu with rfl | rfl | rfl | rfl | rfl | rfl | rfl | rfl <;> rfl
theorem one_script (x : ScriptM) : ∀ u ∈ x.cells, u.oneCell' = true := by intro u hu; simp only [ScriptM.cells, List.mem_cons, List.not_mem_nil, or_false] at hu; rcases hu with rfl | rfl <;> rfl
theorem one_pk (x : PkL) : ∀ u ∈ x.cells, u.oneCell' = true := by intro u hu; simp only [PkL.cells, List.mem_cons, List.not_mem_nil, or_false] at hu; rcases hu with rfl | rfl | rfl | rfl | rfl | rfl | rfl | rfl | rfl <;> rfl
structure PkL.few (p : PkL) : Prop where
  needs : p.needs.length ≤ 100000
  bars : p.bars.length ≤ 100000
  gives : p.gives.length ≤ 100000
  files : p.files.length ≤ 100000
  scripts : p.scripts.length ≤ 100000
def CopyPost (l : List PkL) (w : World) (e : Ending) (w' : World) : Prop :=
  ∃ (A : Option Addr) (c g0 : Nat) (l' : List PkL), e = .returned (.slice A l.length c) ∧ l'.length = l.length ∧ (∀ (i : Nat) (p q : PkL), l[i]? = some p → l'[i]? = some q → p.alike q) ∧ DbOwn w' w.heap.size g0 (.slice A l.length c) l' ∧ Below w.heap.size w w'
theorem model_Copy (A : Option Addr) (c : Nat) (l : List PkL) (w : World) (hd : DbOk w A l) (hl : l.length ≤ 100000) (hf : ∀ p ∈ l, p.few) :
    Calls Tryz.prog 22 #[.slice A l.length c] w (CopyPost l w) := by
  have HD := Lib.hid hd; clear hd
  have HF := Lib.hid hf; clear hf
  go_enter Tryz.func22, Tryz.ntmps22
  go_wp2_with fail
  refine (again_Package A l.length c _ _ HD.out.row (one_flat one_pk l) hl).mono ?_
  rintro e w1 ⟨v, rfl, hown, hb1⟩
  obtain ⟨A0, c0, rfl⟩ := owns_form hown
  have HO := Lib.hid hown; clear hown
  have HB := Lib.hid hb1; clear hb1
  by_cases hz : l = []
  · subst hz
    go_wp2_with fail
    refine wp_loop_rounds 1 ?_
    rw [rounds_succ]
    go_wp2_with fail
    go_ret
    exact ⟨A0, c0, 0, [], rfl, rfl, (fun i p q hp hq => by simp at hp), ⟨HO.out, (fun h => by simp at h), (fun q hq => by simp at hq)⟩, HB.out⟩
  · have hpos : 0 < l.length := List.length_pos_iff.2 hz
    clear hz
    obtain ⟨g0, cap, hv, hg, hg'⟩ := HO.out.form hpos
    obtain ⟨rfl, rfl⟩ : A0 = some ⟨g0, 0, none⟩ ∧ c0 = cap := by injection hv with h1 _ h2; exact ⟨h1, h2⟩
    clear hv
    go_wp2_with fail
    go_loopw [10] (fun i wr => ∃ (k : Nat) (qs : List PkL), k ≤ l.length ∧ i = .int .i64 k ∧ Hid (qs.length = k ∧ (∀ (i : Nat) (p q : PkL), l[i]? = some p → qs[i]? = some q → p.alike q) ∧ wr.ownsRow w.heap.size 43 9 (.slice (some ⟨g0, 0, none⟩) l.length c0) l.length ((qs ++ l.drop k).flatMap PkL.cells) ∧ (∀ q ∈ qs, PkOwn q wr (g0 + 1)) ∧ Below w.heap.size w wr)) (fun i _ => l.length - (intOf i).toNat)
    case atStart => exact ⟨0, [], Nat.zero_le _, rfl, rfl, (fun i p q _ hq => by simp at hq), (by simpa using HO.out), (fun q hq => by simp at hq), HB.out⟩
    case round =>
      obtain ⟨k, qs, hk, rfl, HR⟩ := hrel
      by_cases hlt : k < l.length
      · obtain ⟨p, hp⟩ : ∃ p, l[k]? = some p := ⟨_, List.getElem?_eq_getElem hlt⟩
        have hpm : p ∈ l := List.mem_of_getElem? hp
        obtain ⟨h1, h2, h3, h4, h5⟩ := HR.out
        obtain ⟨b, off, hA, he⟩ := (HD.out.row.below h5).elem pk_len k p hp
        have e0 := he 0 _ rfl
        have e1 := he 1 _ rfl
        have e2 := he 2 _ rfl
        have e3 := he 3 _ rfl
        have e4 := he 4 _ rfl
        have e5 := he 5 _ rfl
        have e6 := he 6 _ rfl
        have e7 := he 7 _ rfl
        have e8 := he 8 _ rfl
        simp only [Nat.add_zero] at e0
        have hix := fun W => idx_of (T := 23) (E := 43) (sz := 9) (c := c) Tryz.underlying23 rfl Tryz.sizeOf43 hA hlt W
        have hdrop : l.drop k = p :: l.drop (k + 1) := by rw [List.drop_eq_getElem_cons hlt]; congr 1; exact (List.getElem?_eq_some_iff.1 hp).2
        have hgw : g0 < wr.heap.size := (h3.lt g0 rfl).2
        have hkk : k * 9 + 9 ≤ l.length * 9 := by omega
        rw [hdrop] at h3
        have O := PkL.ok.below ((HD.out.all p hpm).below h5) ((Below.refl _ _).alloc (Nat.le_refl _) (.cells #[.string p.nm, .string p.ver, .string p.ar, .string p.sm, .slice p.na p.needs.length p.nc, .slice p.ba p.bars.length p.bc, .slice p.ga p.gives.length p.gc, .slice p.fa p.files.length p.fc, .slice p.sa p.scripts.length p.sc] 43))
        have few := HF.out p hpm
        have H1 := Lib.hid h1; have H2 := Lib.hid h2; have R0 := Lib.hid h3; have H4 := Lib.hid h4; have H5 := Lib.hid h5; have HDR := Lib.hid hdrop; have HP := Lib.hid hp; have OK := Lib.hid O; have FEW := Lib.hid few; have HPM := Lib.hid hpm
        clear h1 h2 h3 h4 h5 hdrop hp hA he O few hpm HR
        have hn1 : ¬ g0 = wr.heap.size := by omega
        have hn2 : ¬ wr.heap.size = g0 := by omega
        go_wp2_with fail
        refine (again_str p.na p.needs.length p.nc (strCells p.needs) _ (by exact OK.out.needs) (one_str _) FEW.out.needs).mono ?_
        rintro e w2 ⟨v1, rfl, o1, b1⟩
        obtain ⟨a1, c1, rfl⟩ := owns_form o1
        have R1 := Lib.hid (owns_below (R0.out.alloc _) b1)
        have G1 := Lib.hid (only_below (World.grownBy.refl (wr.alloc (.cells #[.string p.nm, .string p.ver, .string p.ar, .string p.sm, .slice p.na p.needs.length p.nc, .slice p.ba p.bars.length p.bc, .slice p.ga p.gives.length p.gc, .slice p.fa p.files.length p.fc, .slice p.sa p.scripts.length p.sc] 43)) (some g0)) b1)
        have O1 := Lib.hid o1; have B1 := Lib.hid b1; clear o1 b1
        have kb : ∀ j : Nat, w2.cell? ⟨wr.heap.size, j, none⟩ = (wr.alloc (.cells #[.string p.nm, .string p.ver, .string p.ar, .string p.sm, .slice p.na p.needs.length p.nc, .slice p.ba p.bars.length p.bc, .slice p.ga p.gives.length p.gc, .slice p.fa p.files.length p.fc, .slice p.sa p.scripts.length p.sc] 43)).cell? ⟨wr.heap.size, j, none⟩ := fun j => World.cell?_of_block (G1.out.block wr.heap.size (by simp) (by intro h; injection h with h; omega))
        have x1 : w2.cell? ⟨wr.heap.size, 5, none⟩ = some _ := (kb 5).trans (by simp; rfl)
        clear kb
        have y1 : w2.cell? ⟨g0, k * 9 + 4, none⟩ = some (.slice p.na p.needs.length p.nc) := by
          rw [R1.out.cellAt (k * 9 + 4) (by omega)]
          exact xs_at0 qs (l.drop (k + 1)) p k H1.out
        have z1 := R1.out.frozenAt (k * 9 + 4)
        have RS1 := Lib.hid (R1.out.stored (k * 9 + 4) (.slice a1 p.needs.length c1)).1
        have GS1 := Lib.hid (only_setCell G1.out (p := ⟨g0, k * 9 + 4, none⟩) (.inl rfl) (.slice a1 p.needs.length c1))
        have OKb1 : Hid (p.ok (w2.setCell ⟨g0, k * 9 + 4, none⟩ (.slice a1 p.needs.length c1))) := ok_far (HD.out.all p HPM.out) H5.out ((World.grownBy.refl wr (some g0) |> fun h => only_alloc h _) |> fun h => grown_thru h GS1.out) (by have := H5.out.size; omega)
        go_wp2_with fail
        refine (again_str p.ba p.bars.length p.bc (strCells p.bars) _ (by exact (OKb1.out.bars)) (one_str _) FEW.out.bars).mono ?_
        rintro e w3 ⟨v2, rfl, o2, b2⟩
        obtain ⟨a2, c2, rfl⟩ := owns_form o2
        have R2 := Lib.hid (owns_below RS1.out b2)
        have G2 := Lib.hid (only_below GS1.out b2)
        have O2 := Lib.hid o2; have B2 := Lib.hid b2; clear o2 b2
        have kb : ∀ j : Nat, w3.cell? ⟨wr.heap.size, j, none⟩ = (wr.alloc (.cells #[.string p.nm, .string p.ver, .string p.ar, .string p.sm, .slice p.na p.needs.length p.nc, .slice p.ba p.bars.length p.bc, .slice p.ga p.gives.length p.gc, .slice p.fa p.files.length p.fc, .slice p.sa p.scripts.length p.sc] 43)).cell? ⟨wr.heap.size, j, none⟩ := fun j => World.cell?_of_block (G2.out.block wr.heap.size (by simp) (by intro h; injection h with h; omega))
        have x2 : w3.cell? ⟨wr.heap.size, 6, none⟩ = some _ := (kb 6).trans (by simp; rfl)
        clear kb
        have y2 : w3.cell? ⟨g0, k * 9 + 5, none⟩ = some (.slice p.ba p.bars.length p.bc) := by
          rw [R2.out.cellAt (k * 9 + 5) (by omega)]
          exact xs_at1 qs (l.drop (k + 1)) p k H1.out (.slice a1 p.needs.length c1)
        have z2 := R2.out.frozenAt (k * 9 + 5)
        have RS2 := Lib.hid (R2.out.stored (k * 9 + 5) (.slice a2 p.bars.length c2)).1
        have GS2 := Lib.hid (only_setCell G2.out (p := ⟨g0, k * 9 + 5, none⟩) (.inl rfl) (.slice a2 p.bars.length c2))
        have OKb2 : Hid (p.ok (w3.setCell ⟨g0, k * 9 + 5, none⟩ (.slice a2 p.bars.length c2))) := ok_far (HD.out.all p HPM.out) H5.out ((World.grownBy.refl wr (some g0) |> fun h => only_alloc h _) |> fun h => grown_thru h GS2.out) (by have := H5.out.size; omega)
        clear x1
        go_wp2_with fail
        refine (again_Atom p.ga p.gives.length p.gc (p.gives.flatMap AtomM.cells) _ (by exact (OKb2.out.gives)) (one_flat one_atom _) FEW.out.gives).mono ?_
        rintro e w4 ⟨v3, rfl, o3, b3⟩
        obtain ⟨a3, c3, rfl⟩ := owns_form o3
        have R3 := Lib.hid (owns_below RS2.out b3)
        have G3 := Lib.hid (only_below GS2.out b3)
        have O3 := Lib.hid o3; have B3 := Lib.hid b3; clear o3 b3
        have kb : ∀ j : Nat, w4.cell? ⟨wr.heap.size, j, none⟩ = (wr.alloc (.cells #[.string p.nm, .string p.ver, .string p.ar, .string p.sm, .slice p.na p.needs.length p.nc, .slice p.ba p.bars.length p.bc, .slice p.ga p.gives.length p.gc, .slice p.fa p.files.length p.fc, .slice p.sa p.scripts.length p.sc] 43)).cell? ⟨wr.heap.size, j, none⟩ := fun j => World.cell?_of_block (G3.out.block wr.heap.size (by simp) (by intro h; injection h with h; omega))
        have x3 : w4.cell? ⟨wr.heap.size, 7, none⟩ = some _ := (kb 7).trans (by simp; rfl)
        clear kb
        have y3 : w4.cell? ⟨g0, k * 9 + 6, none⟩ = some (.slice p.ga p.gives.length p.gc) := by
          rw [R3.out.cellAt (k * 9 + 6) (by omega)]
          exact xs_at2 qs (l.drop (k + 1)) p k H1.out (.slice a1 p.needs.length c1) (.slice a2 p.bars.length c2)
        have z3 := R3.out.frozenAt (k * 9 + 6)
        have RS3 := Lib.hid (R3.out.stored (k * 9 + 6) (.slice a3 p.gives.length c3)).1
        have GS3 := Lib.hid (only_setCell G3.out (p := ⟨g0, k * 9 + 6, none⟩) (.inl rfl) (.slice a3 p.gives.length c3))
        have OKb3 : Hid (p.ok (w4.setCell ⟨g0, k * 9 + 6, none⟩ (.slice a3 p.gives.length c3))) := ok_far (HD.out.all p HPM.out) H5.out ((World.grownBy.refl wr (some g0) |> fun h => only_alloc h _) |> fun h => grown_thru h GS3.out) (by have := H5.out.size; omega)
        clear x2
        go_wp2_with fail
        refine (again_File p.fa p.files.length p.fc (p.files.flatMap FileM.cells) _ (by exact (OKb3.out.files)) (one_flat one_file _) FEW.out.files).mono ?_
        rintro e w5 ⟨v4, rfl, o4, b4⟩
        obtain ⟨a4, c4, rfl⟩ := owns_form o4
        have R4 := Lib.hid (owns_below RS3.out b4)
        have G4 := Lib.hid (only_below GS3.out b4)
        have O4 := Lib.hid o4; have B4 := Lib.hid b4; clear o4 b4
        have kb : ∀ j : Nat, w5.cell? ⟨wr.heap.size, j, none⟩ = (wr.alloc (.cells #[.string p.nm, .string p.ver, .string p.ar, .string p.sm, .slice p.na p.needs.length p.nc, .slice p.ba p.bars.length p.bc, .slice p.ga p.gives.length p.gc, .slice p.fa p.files.length p.fc, .slice p.sa p.scripts.length p.sc] 43)).cell? ⟨wr.heap.size, j, none⟩ := fun j => World.cell?_of_block (G4.out.block wr.heap.size (by simp) (by intro h; injection h with h; omega))
        have x4 : w5.cell? ⟨wr.heap.size, 8, none⟩ = some _ := (kb 8).trans (by simp; rfl)
        clear kb
        have y4 : w5.cell? ⟨g0, k * 9 + 7, none⟩ = some (.slice p.fa p.files.length p.fc) := by
          rw [R4.out.cellAt (k * 9 + 7) (by omega)]
          exact xs_at3 qs (l.drop (k + 1)) p k H1.out (.slice a1 p.needs.length c1) (.slice a2 p.bars.length c2) (.slice a3 p.gives.length c3)
        have z4 := R4.out.frozenAt (k * 9 + 7)
        have RS4 := Lib.hid (R4.out.stored (k * 9 + 7) (.slice a4 p.files.length c4)).1
        have GS4 := Lib.hid (only_setCell G4.out (p := ⟨g0, k * 9 + 7, none⟩) (.inl rfl) (.slice a4 p.files.length c4))
        have OKb4 : Hid (p.ok (w5.setCell ⟨g0, k * 9 + 7, none⟩ (.slice a4 p.files.length c4))) := ok_far (HD.out.all p HPM.out) H5.out ((World.grownBy.refl wr (some g0) |> fun h => only_alloc h _) |> fun h => grown_thru h GS4.out) (by have := H5.out.size; omega)
        clear x3
        go_wp2_with fail
        refine (again_Script p.sa p.scripts.length p.sc (p.scripts.flatMap ScriptM.cells) _ (by exact (OKb4.out.scripts)) (one_flat one_script _) FEW.out.scripts).mono ?_
        rintro e w6 ⟨v5, rfl, o5, b5⟩
        obtain ⟨a5, c5, rfl⟩ := owns_form o5
        have R5 := Lib.hid (owns_below RS4.out b5)
        have G5 := Lib.hid (only_below GS4.out b5)
        have O5 := Lib.hid o5; have B5 := Lib.hid b5; clear o5 b5
        have kb : ∀ j : Nat, w6.cell? ⟨wr.heap.size, j, none⟩ = (wr.alloc (.cells #[.string p.nm, .string p.ver, .string p.ar, .string p.sm, .slice p.na p.needs.length p.nc, .slice p.ba p.bars.length p.bc, .slice p.ga p.gives.length p.gc, .slice p.fa p.files.length p.fc, .slice p.sa p.scripts.length p.sc] 43)).cell? ⟨wr.heap.size, j, none⟩ := fun j => World.cell?_of_block (G5.out.block wr.heap.size (by simp) (by intro h; injection h with h; omega))
        clear kb
        have y5 : w6.cell? ⟨g0, k * 9 + 8, none⟩ = some (.slice p.sa p.scripts.length p.sc) := by
          rw [R5.out.cellAt (k * 9 + 8) (by omega)]
          exact xs_at4 qs (l.drop (k + 1)) p k H1.out (.slice a1 p.needs.length c1) (.slice a2 p.bars.length c2) (.slice a3 p.gives.length c3) (.slice a4 p.files.length c4)
        have z5 := R5.out.frozenAt (k * 9 + 8)
        have RS5 := Lib.hid (R5.out.stored (k * 9 + 8) (.slice a5 p.scripts.length c5)).1
        have GS5 := Lib.hid (only_setCell G5.out (p := ⟨g0, k * 9 + 8, none⟩) (.inl rfl) (.slice a5 p.scripts.length c5))
        clear x4
        go_wp2_with fail
        have D5 := only_setCell (World.grownBy.refl w6 (some g0)) (p := ⟨g0, k * 9 + 8, none⟩) (.inl rfl) (.slice a5 p.scripts.length c5)
        have D4 := grown_thru (only_below (only_setCell (World.grownBy.refl w5 (some g0)) (p := ⟨g0, k * 9 + 7, none⟩) (.inl rfl) (.slice a4 p.files.length c4)) B5.out) D5
        have D3 := grown_thru (only_below (only_setCell (World.grownBy.refl w4 (some g0)) (p := ⟨g0, k * 9 + 6, none⟩) (.inl rfl) (.slice a3 p.gives.length c3)) B4.out) D4
        have D2 := grown_thru (only_below (only_setCell (World.grownBy.refl w3 (some g0)) (p := ⟨g0, k * 9 + 5, none⟩) (.inl rfl) (.slice a2 p.bars.length c2)) B3.out) D3
        have D1 := grown_thru (only_below (only_setCell (World.grownBy.refl w2 (some g0)) (p := ⟨g0, k * 9 + 4, none⟩) (.inl rfl) (.slice a1 p.needs.length c1)) B2.out) D2
        have GE := grown_thru (only_alloc (World.grownBy.refl wr (some g0)) _) GS5.out
        have sz1 := G1.out.size; have sz2 := G2.out.size; have sz3 := G3.out.size; have sz4 := G4.out.size
        have hq : PkOwn { p with na := a1, nc := c1, ba := a2, bc := c2, ga := a3, gc := c3, fa := a4, fc := c4, sa := a5, sc := c5 } _ (g0 + 1) := ⟨owns_kept (owns_base O1.out (by simp; omega)) (Nat.lt_succ_self _) D1, owns_kept (owns_base O2.out (by simp at *; omega)) (Nat.lt_succ_self _) D2, owns_kept (owns_base O3.out (by simp at *; omega)) (Nat.lt_succ_self _) D3, owns_kept (owns_base O4.out (by simp at *; omega)) (Nat.lt_succ_self _) D4, owns_kept (owns_base O5.out (by simp at *; omega)) (Nat.lt_succ_self _) D5⟩
        have F1 : (qs ++ [({ p with na := a1, nc := c1, ba := a2, bc := c2, ga := a3, gc := c3, fa := a4, fc := c4, sa := a5, sc := c5 } : PkL)]).length = k + 1 := by rw [List.length_append, H1.out]; rfl
        have F2 := alike_snoc (q := { p with na := a1, nc := c1, ba := a2, bc := c2, ga := a3, gc := c3, fa := a4, fc := c4, sa := a5, sc := c5 }) H1.out H2.out HP.out ⟨rfl, rfl, rfl, rfl, rfl, rfl, rfl, rfl, rfl⟩
        have F3 := RS5.out
        rw [xs_final qs (l.drop (k + 1)) p k H1.out a1 a2 a3 a4 a5 c1 c2 c3 c4 c5] at F3
        have F4 := below_grown H5.out GE hg
        have F5 : ∀ q ∈ qs ++ [({ p with na := a1, nc := c1, ba := a2, bc := c2, ga := a3, gc := c3, fa := a4, fc := c4, sa := a5, sc := c5 } : PkL)], PkOwn q _ (g0 + 1) := fun q hqm => (List.mem_append.1 hqm).elim (fun h => (H4.out q h).kept (Nat.lt_succ_self _) GE) (fun h => by rw [List.mem_singleton.1 h]; exact hq)
        have K1 := Lib.hid F1; have K2 := Lib.hid F2; have K3 := Lib.hid F3; have K4 := Lib.hid F4; have K5 := Lib.hid F5
        clear F1 F2 F3 F4 F5 hq D1 D2 D3 D4 D5 GE sz1 sz2 sz3 sz4
        go_roundw
        case rel => exact ⟨k + 1, _, by omega, by go_num, K1.out, K2.out, K3.out, K5.out, K4.out⟩
        case measure => simp [intOf]; omega
      · go_wp2_with fail
        go_ret
        obtain ⟨h1, h2, h3, h4, h5⟩ := HR.out
        have hkl : k = l.length := by omega
        exact ⟨_, _, g0, qs, rfl, by omega, h2, ⟨by rw [List.drop_of_length_le (by omega), List.append_nil] at h3; rw [h1, hkl]; exact h3, fun _ => rfl, h4⟩, h5⟩
end
def psplit : List UInt8 → List (List UInt8)
  | [] => [[]]
  | c :: r => if c = 47 then [] :: psplit r else ((c :: (psplit r).headD []) :: (psplit r).tail)
def partB (p : List UInt8) : Bool := !(decide (p = []) || decide (p = [46]) || decide (p = [46, 46]))
def pathB (l : List UInt8) : Bool := decide (1 ≤ l.length) && decide (l.length ≤ 200) && !l.contains 0 && (psplit l).all partB
def parentL (l : List UInt8) : Option (List UInt8) := if pathB l then (lastL 47 l).map (l.take ·) else none
section
open Go.RowKit
def parS (s : ByteArray) : ByteArray := ⟨((parentL (bl s)).getD []).toArray⟩
def parB (s : ByteArray) : Bool := (parentL (bl s)).isSome
end
structure CoreM where
  ep : Nat
  nums : List Nat
  lt : List UInt8
  pre : List UInt8
  pnum : Nat
  rev : Nat
def presL : List (List UInt8) := [[97, 108, 112, 104, 97], [98, 101, 116, 97], [112, 114, 101], [114, 99]]
def sgn (fmt : Int) : UInt8 := if fmt = 3 then 95 else 126
def dashL (fmt : Int) : List UInt8 := if fmt = 3 then [45, 114] else [45]
def epT (fmt : Int) (c : CoreM) : List UInt8 := if fmt = 3 ∨ c.ep = 0 then [] else decL c.ep ++ [58]
def numT (c : CoreM) : List UInt8 := joinD 46 (c.nums.map decL)
def preT (fmt : Int) (c : CoreM) : List UInt8 := if c.pre = [] then [] else sgn fmt :: (c.pre ++ decL c.pnum)
def bodyT (fmt : Int) (c : CoreM) : List UInt8 := numT c ++ (c.lt ++ preT fmt c)
def coreT (fmt : Int) (c : CoreM) : List UInt8 := epT fmt c ++ (bodyT fmt c ++ (dashL fmt ++ decL c.rev))
structure CoreM.ok (c : CoreM) : Prop where
  nums : c.nums ≠ []
  each : ∀ n ∈ c.nums, n ≤ 999999999
  ep : c.ep ≤ 999999999
  pnum : c.pnum ≤ 999999999
  rev : c.rev ≤ 999999999
  lt : c.lt = [] ∨ ∃ b, c.lt = [b] ∧ smlB b = true
  pre : (c.pre = [] ∧ c.pnum = 0) ∨ c.pre ∈ presL
  short : (coreT 1 c).length ≤ 64
def begB : List UInt8 → List UInt8 → Bool
  | _, [] => true
  | [], _ :: _ => false
  | a :: l, b :: w => a == b && begB l w
def lastS (l : List UInt8) : List UInt8 := match l.getLast? with
  | some b => if smlB b = true then [b] else []
  | none => []
def headL (l : List UInt8) : List UInt8 := if lastS l = [] then l else l.dropLast
def pick (tail : List UInt8) (a : List UInt8 × Nat) (w : List UInt8) : List UInt8 × Nat := if begB tail w = true then (w, (undecN (tail.drop w.length)).toNat) else a
def candP (fmt : Int) (x : List UInt8 × List UInt8 × List UInt8) : CoreM where
  ep := if x.1 = [] then 0 else (undecN x.1).toNat
  nums := (gsplit 46 (headL (Lib.cut x.2.1 [sgn fmt]).1)).map fun d => (undecN d).toNat
  lt := lastS (Lib.cut x.2.1 [sgn fmt]).1
  pre := (presL.foldl (pick (Lib.cut x.2.1 [sgn fmt]).2.1) ([], 0)).1
  pnum := (presL.foldl (pick (Lib.cut x.2.1 [sgn fmt]).2.1) ([], 0)).2
  rev := (undecN x.2.2).toNat
section
open Go.RowKit
theorem vmap_small (c : UInt8) (w : World) :
    Calls Tryz.prog 113 #[.int .u8 c.toNat] w fun e w' => e = .returned (.bool (smlB c)) ∧ w = w' := by
  go_enter Tryz.func113, Tryz.ntmps113
  go_wp2
  all_goals (go_ret; refine ⟨ret_bool ?_, rfl⟩; rw [Bool.eq_iff_iff]; simp [smlB]; omega)
def noneB (n : Int) : Bool := !decide (isF n)
theorem vmap_none (n : Int) (w : World) :
    Calls Tryz.prog 73 #[.int .i64 n] w fun e w' => e = .returned (.bool (noneB n)) ∧ w = w' := by
  go_enter Tryz.func73, Tryz.ntmps73
  go_wp2
  all_goals (go_ret; refine ⟨ret_bool ?_, rfl⟩; rw [Bool.eq_iff_iff]; simp [noneB, isF]; omega)
def sgnS (fmt : Int) : ByteArray := ⟨#[sgn fmt]⟩
def dashS (fmt : Int) : ByteArray := ⟨(dashL fmt).toArray⟩
theorem vmap_signs (fmt : Int) (w : World) :
    Calls Tryz.prog 110 #[.int .i64 fmt] w fun e w' => e = .returned (.tuple #[.string (sgnS fmt), .string (dashS fmt)]) ∧ w = w' := by
  by_cases h : fmt = 3
  · subst h
    go_enter Tryz.func110, Tryz.ntmps110
    go_wp2
    go_ret2
    exact ⟨rfl, rfl⟩
  · have q : (fmt == 3) = false := by simpa using h
    have E : Hid (sgnS fmt = ⟨#[126]⟩ ∧ dashS fmt = ⟨#[45]⟩) := by
      show _ ∧ _; unfold sgnS dashS sgn dashL; rw [if_neg h, if_neg h]; exact ⟨rfl, rfl⟩
    go_enter Tryz.func110, Tryz.ntmps110
    go_wp2
    go_ret2
    exact ⟨by rw [E.out.1, E.out.2]; rfl, rfl⟩
theorem decDigits_decL (n : Nat) : Lib.decDigits n = decL n := by
  induction n using Nat.strongRecOn with
  | ind n ih =>
    by_cases h : n < 10
    · rw [decL_small h, Lib.decDigits, dif_pos h]
    · rw [decL_big h, Lib.decDigits, dif_neg h, ih (n / 10) (by omega)]
def decS (n : Nat) : ByteArray := ⟨(decL n).toArray⟩
theorem bl_decS (n : Nat) : bl (decS n) = decL n := bl_mk _
theorem decL_len : ∀ (k n : Nat), n < 10 ^ (k + 1) → (decL n).length ≤ k + 1
  | 0, n, h => by rw [decL_small (by simpa using h)]; simp
  | k + 1, n, h => by
    by_cases h2 : n < 10
    · rw [decL_small h2]; simp
    · rw [decL_big h2, List.length_append, List.length_singleton]
      have := decL_len k (n / 10) (by rw [Nat.div_lt_iff_lt_mul (by omega)]; rw [Nat.pow_succ] at h; exact h)
      omega
theorem decS_len {n : Nat} (h : n ≤ 4611686018427387903) : (decS n).size ≤ 19 := by
  have := decL_len 18 n (by omega)
  have h2 := bl_length (decS n)
  rw [bl_decS] at h2; omega
theorem indexByte_at (c : UInt8) : ∀ (l : List UInt8), c ∈ l → ∃ k : Nat, Lib.indexByte l c = k ∧ c ∉ l.take k ∧ l[k]? = some c
  | [], h => by simp at h
  | b :: r, h => by
    by_cases hb : b = c
    · subst hb; exact ⟨0, by simp [Lib.indexByte], by simp, by simp⟩
    · have hr : c ∈ r := by rcases List.mem_cons.1 h with h | h; exact absurd h.symm hb; exact h
      obtain ⟨k, h1, h2, h3⟩ := indexByte_at c r hr
      refine ⟨k + 1, ?_, ?_, by simpa using h3⟩
      · have : (b == c) = false := by simp [hb]
        simp only [Lib.indexByte, this, h1]
        rw [if_neg (by simp), if_neg (by simp; try omega)]; rfl
      · rw [List.take_succ_cons]; intro hm; rcases List.mem_cons.1 hm with hm | hm; exact hb hm.symm; exact h2 hm
theorem splitK_gsplit (c : UInt8) : ∀ (n : Nat) (l : List UInt8), l.count c = n → Lib.splitK [c] 0 n l = gsplit c l
  | 0, l, h => by
    rw [gsplit_no c l (List.count_eq_zero.1 h)]; rfl
  | n + 1, l, h => by
    have hm : c ∈ l := List.count_pos_iff.1 (by omega)
    unfold Lib.splitK
    rw [Lib.index_one]
    obtain ⟨k, hk, hn, hg⟩ := indexByte_at c l hm
    have hkl : k < l.length := (List.getElem?_eq_some_iff.1 hg).1
    have hd : l = l.take k ++ c :: l.drop (k + 1) := by
      have hc : l[k] = c := (List.getElem?_eq_some_iff.1 hg).2
      conv => lhs; rw [← List.take_append_drop k l, List.drop_eq_getElem_cons hkl, hc]
    have hgs : gsplit c l = l.take k :: gsplit c (l.drop (k + 1)) := by
      conv => lhs; rw [hd]
      exact gsplit_hit c _ _ hn
    rw [hk, if_neg (by simp; try omega), hgs]
    have e : ((k : Int)).toNat = k := by omega
    rw [e]
    congr 1
    simp only [List.length_singleton]
    refine splitK_gsplit c n (l.drop (k + 1)) ?_
    rw [hd, List.count_append, List.count_eq_zero.2 hn, List.count_cons_self] at h
    simp at h ⊢
    omega
def gsplitS (c : UInt8) (s : ByteArray) : List ByteArray := (gsplit c (bl s)).map fun p => (⟨p.toArray⟩ : ByteArray)
theorem splitB_gsplit (c : UInt8) (s : ByteArray) : Lib.splitB ⟨#[c]⟩ 0 (Lib.countB s ⟨#[c]⟩) s = gsplitS c s := by
  have h := Lib.splitB_data ⟨#[c]⟩ 0 (Lib.countB s ⟨#[c]⟩) s
  have h2 : Lib.countB s ⟨#[c]⟩ = (bl s).count c := by
    show Lib.count _ _ = _
    exact Lib.count_one c (bl s)
  have h3 : (Lib.splitB ⟨#[c]⟩ 0 (Lib.countB s ⟨#[c]⟩) s).map bl = gsplit c (bl s) := by
    refine Eq.trans h ?_
    rw [h2]; exact splitK_gsplit c _ (bl s) rfl
  unfold gsplitS
  rw [← h3, map_baOf_bl]
theorem Split_at (c : UInt8) (s : ByteArray) (w : World) (hG : Gl w) (hs : s.size ≤ 4294967280) :
    Calls Tryz.prog 114 #[.string s, .string ⟨#[c]⟩] w fun e w' => e = .returned (.slice (some ⟨w.heap.size, 0, none⟩) (gsplitS c s).length (gsplitS c s).length) ∧ Rd w' 1 (some ⟨w.heap.size, 0, none⟩) (gsplitS c s).length (strCells (gsplitS c s)) ∧ Below w.heap.size w w' := by
  obtain ⟨m, hm⟩ := hG.ml
  refine (Tryz.strings_Split s ⟨#[c]⟩ m w (by omega) hm (by simp [ByteArray.size])).mono fun e w' ⟨he, hw⟩ => ?_
  have hl : (gsplitS c s).length = Lib.countB s ⟨#[c]⟩ + 1 := by
    rw [← splitB_gsplit]; exact Lib.splitB_all ⟨#[c]⟩ (by simp [ByteArray.size]) 0 _ s rfl
  rw [splitB_gsplit] at hw
  rw [hl, hw]
  refine ⟨he, ⟨by simp [strCells, hl], fun _ => ⟨_, 0, rfl, fun j u hu => ?_⟩⟩, (Below.refl _ _).alloc (Nat.le_refl _) _⟩
  simpa [strCells] using hu
theorem gsplit_len (c : UInt8) : ∀ (l : List UInt8), (gsplit c l).length ≤ l.length + 1
  | [] => by simp [gsplit]
  | a :: r => by
    have := gsplit_len c r
    unfold gsplit
    split
    · simp; omega
    · simp; omega
theorem gsplit_mem (c : UInt8) : ∀ (l p : List UInt8), p ∈ gsplit c l → p.length ≤ l.length
  | [], p, h => by simp [gsplit] at h; simp [h]
  | a :: r, p, h => by
    unfold gsplit at h
    split at h
    · rcases List.mem_cons.1 h with rfl | h
      · simp
      · have := gsplit_mem c r p h; simp; omega
    · cases hr : gsplit c r with
      | nil => exact absurd hr (gsplit_ne c r)
      | cons q qs =>
        rw [hr] at h
        simp only [List.headD_cons, List.tail_cons] at h
        rcases List.mem_cons.1 h with rfl | h
        · have := gsplit_mem c r q (by rw [hr]; simp); simp; omega
        · have := gsplit_mem c r p (by rw [hr]; exact List.mem_cons_of_mem _ h); simp; omega
theorem undecN_nat (l : List UInt8) : undecN l = ((undecN l).toNat : Int) ∧ (undecN l).toNat ≤ 4611686018427387903 := by
  unfold undecN bigN
  split
  · rename_i h
    have h2 := (decVal_le l l.length (by unfold decB at h; simp only [Bool.and_eq_true] at h; exact h.2)).1
    rw [List.take_of_length_le (Nat.le_refl _)] at h2
    split
    · constructor <;> omega
    · simp
  · simp
def undecK (l : List UInt8) : Nat := (undecN l).toNat
theorem Undec_nat (s : ByteArray) (w : World) (hs : s.size ≤ 9223372036854775807) :
    Calls Tryz.prog 84 #[.string s] w fun e w' => e = .returned (.tuple #[.int .i64 (undecK (bl s)), .int .i64 (undecE (bl s))]) ∧ w = w' :=
  (codec_Undec s w hs).mono fun e w' ⟨he, hw⟩ => ⟨by rw [he]; unfold undecV undecK; rw [← (undecN_nat (bl s)).1], hw⟩
theorem undecK_le (l : List UInt8) : undecK l ≤ 4611686018427387903 := (undecN_nat l).2
theorem dmap_isFormat (n : Int) (w : World) :
    Calls Tryz.prog 76 #[.int .i64 n] w fun e w' => e = .returned (.bool (decide (isF n))) ∧ w = w' := by
  go_enter Tryz.func76, Tryz.ntmps76
  go_wp2
  all_goals (go_ret; refine ⟨ret_bool ?_, rfl⟩; rw [Bool.eq_iff_iff]; simp [isF]; omega)
theorem neq_atom_same (x : AtomM) (w : World) : (binOp .neq 32 (.agg #[.string x.nm, .int .i64 x.op, .string x.ver]) (.agg #[.string x.nm, .int .i64 x.op, .string x.ver])).run Tryz.prog w = .ok (.bool false) w := by
  go_simp
theorem r17_SameAtoms (A B : Option Addr) (c d : Nat) (l : List AtomM) (w : World) (h1 : Rd w 3 A l.length (l.flatMap AtomM.cells)) (h2 : Rd w 3 B l.length (l.flatMap AtomM.cells)) (hl : l.length ≤ 1000000) :
    Calls Tryz.prog 18 #[.slice A l.length c, .slice B l.length d] w fun e w' => e = .returned (.bool true) ∧ Below w.heap.size w w' := by
  have H1 := Lib.hid h1; have H2 := Lib.hid h2
  clear h1 h2
  have q : ((l.length : Int) != (l.length : Int)) = false := by simp
  go_enter Tryz.func18, Tryz.ntmps18
  go_wp2_with fail
  go_loopw [5] (fun i wr => ∃ k : Nat, k ≤ l.length ∧ i = .int .i64 k ∧ Hid (Below w.heap.size w wr)) (fun i _ => l.length - (intOf i).toNat)
  case atStart => exact ⟨0, Nat.zero_le _, rfl, Below.refl _ _⟩
  case round =>
    obtain ⟨k, hk, rfl, HB⟩ := hrel
    by_cases hlt : k < l.length
    · obtain ⟨x, hx⟩ : ∃ x, l[k]? = some x := ⟨_, List.getElem?_eq_getElem hlt⟩
      obtain ⟨b1, o1, hA1, he1⟩ := (H1.out.below HB.out).elem atom_len k x hx
      obtain ⟨b2, o2, hA2, he2⟩ := (H2.out.below HB.out).elem atom_len k x hx
      have e0 := he1 0 _ rfl
      have e1 := he1 1 _ rfl
      have e2 := he1 2 _ rfl
      have f0 := he2 0 _ rfl
      have f1 := he2 1 _ rfl
      have f2 := he2 2 _ rfl
      simp only [Nat.add_zero] at e0 f0
      have hix := fun W => idx_of (T := 28) (E := 32) (sz := 3) (c := c) Tryz.underlying28 rfl Tryz.sizeOf32 hA1 hlt W
      have hiy := fun W => idx_of (T := 28) (E := 32) (sz := 3) (c := d) Tryz.underlying28 rfl Tryz.sizeOf32 hA2 hlt W
      have nq := fun W => neq_atom_same x W
      clear hx hA1 hA2 he1 he2
      go_wp2_with fail
      go_quiet (fail)
      go_wp2_with fail
      go_roundw
      case rel => exact ⟨k + 1, by omega, by go_num, below_drewN HB.out _⟩
      case measure => simp [intOf]; omega
    · go_wp2_with fail
      go_ret
      exact ⟨rfl, HB.out⟩
theorem row_byte (w : World) (base : Nat) (hb : base ≤ w.heap.size) (x : Value) : (w.alloc (.cells #[x] 5)).ownsRow base 5 1 (.slice (some ⟨w.heap.size, 0, none⟩) 1 1) 1 [x] :=
  ⟨rfl, .inr ⟨w.heap.size, 1, #[x], rfl, hb, heap_alloc_new w _, Nat.le_refl _, by unfold maxLen; omega, rfl, rfl⟩⟩
theorem r01_Be (x k : Nat) (w : World) (hx : x < 18446744073709551616) (hk : 1 ≤ k) (hk8 : k ≤ 8) :
    Calls Tryz.prog 33 #[.int .u64 x, .int .i64 k] w fun e w' => ∃ v, e = .returned v ∧ w'.ownsRow w.heap.size 5 1 v k (Lib.byteCells (beL x k)) ∧ Below w.heap.size w w' := by
  obtain ⟨i0, hi0, hz0, hz1, hz2⟩ := info_parts info_u8b
  have d1 : decide ((k : Int) < 1) = false := decide_eq_false (by omega)
  have d2 : decide ((8 : Int) < (k : Int)) = false := decide_eq_false (by omega)
  go_enter Tryz.func33, Tryz.ntmps33
  go_wp2_with fail
  go_loopw [6, 0, 5] (fun s6 s0 s5 wr => ∃ (i y : Nat) (Ao : Option Addr) (co : Nat), i ≤ k ∧ s6 = .int .i64 i ∧ s0 = .int .u64 y ∧ y < 18446744073709551616 ∧ s5 = .slice Ao i co ∧ Hid (y = x / 256 ^ i) ∧ Hid (wr.ownsRow w.heap.size 5 1 (.slice Ao i co) i (Lib.byteCells (beL x i))) ∧ Hid (Below w.heap.size w wr)) (fun s6 _ _ _ => k - (intOf s6).toNat)
  case atStart => exact ⟨0, x, none, 0, by omega, rfl, rfl, hx, rfl, by simp [Hid], World.ownsRow_nil _ _ _ _, Below.refl _ _⟩
  case round =>
    obtain ⟨i, y, Ao, co, hi, rfl, rfl, hy, rfl, HY, HO, HL⟩ := hrel
    by_cases hlt : i < k
    · have hbs := HL.out.size
      obtain ⟨d, hd⟩ : ∃ d, dg x i = d := ⟨_, rfl⟩
      have hdv : (y : Int) % 256 = (d.toNat : Int) := by
        rw [← hd, HY.out]
        unfold dg
        simp
      have hy2 : (y : Int) / 256 = ((y / 256 : Nat) : Int) := by omega
      obtain ⟨y2, hy2'⟩ : ∃ y2, y / 256 = y2 := ⟨_, rfl⟩
      rw [hy2'] at hy2
      have HY2 : Hid (y2 = x / 256 ^ (i + 1)) := by
        show _ = _
        rw [← hy2', HY.out, Nat.div_div_eq_div_mul, ← Nat.pow_succ]
      have hy2l : y2 < 18446744073709551616 := by omega
      have HN : Hid (Lib.byteCells (beL x (i + 1)) = [.int .u8 d.toNat] ++ Lib.byteCells (beL x i)) := by show _ = _; rw [beL_succ, hd]; rfl
      have RL := Lib.hid (((owns_rd HO.out).below ((Below.refl _ _).alloc (Nat.le_refl _) (.cells #[.int .u8 d.toNat] 5))).reads (by decide))
      clear hd hy2'
      go_wp2_with (
        at_builtin
        refine wpList_append_any _ rfl _ _ 22 rfl w.heap.size 5 i0 _ 1 1 Tryz.underlying22 hi0 hz0 hz1 hz2 rfl (by omega) (.slice (some ⟨wr.heap.size, 0, none⟩) 1 1) 1 [.int .u8 d.toNat] rfl (row_byte wr w.heap.size hbs _) _ Ao i co (Lib.byteCells (beL x i)) rfl RL.out (fun u hu => by obtain ⟨x, _, rfl⟩ := List.mem_map.1 hu; rfl) (by simp only [maxLen]; omega) (by omega) (by first | omega | (simp; omega)) ?_
        intro v1 w6 hown1 hg1 hat1
        obtain ⟨A1, c1, rfl⟩ := owns_form hown1)
      have O6 : Hid (w6.ownsRow w.heap.size 5 1 (.slice A1 (i + 1) c1) (i + 1) (Lib.byteCells (beL x (i + 1)))) := by
        have h2 := hown1
        rw [Nat.add_comm 1 i] at h2
        show World.ownsRow _ _ _ _ _ _ _
        rw [HN.out]
        exact h2
      have L6 : Hid (Below w.heap.size w w6) := (HL.out.alloc hbs _).grown hg1 (by simp; omega) (fun q hq => by have : wr.heap.size = q := Option.some.inj hq; omega)
      rw [Nat.add_comm 1 i]
      clear hown1 hg1 hat1 RL
      go_wp2_with fail
      go_roundw
      case rel => exact ⟨i + 1, y2, A1, c1, by omega, by go_num, by go_num, hy2l, rfl, HY2, O6, L6⟩
      case measure => simp [intOf]; omega
    · obtain rfl : i = k := by omega
      go_wp2_with fail
      go_ret
      exact ⟨_, rfl, HO.out, HL.out⟩
theorem below_then2 {w a b : World} {n : Nat} (h : Below w.heap.size w a) (k : Below (a.drewN n).heap.size (a.drewN n) b) : Below w.heap.size w b :=
  h.trans ⟨k.os, k.tape, k.output, k.size, fun i hi => k.block i (Nat.lt_of_lt_of_le hi h.size)⟩
theorem r02_md5 (ba oa ca bb ob cb : Nat) (a b c d : B32) (ws : List B32) (w : World) (hG : GlT w) (hl : ws.length = 16) (hs : Rd w 1 (some ⟨ba, oa, none⟩) 4 [vw a, vw b, vw c, vw d]) (hw : Rd w 1 (some ⟨bb, ob, none⟩) 16 (ws.map vw)) :
    Calls Tryz.prog 30 #[.slice (some ⟨ba, oa, none⟩) 4 ca, .slice (some ⟨bb, ob, none⟩) 16 cb] w fun e w' => ∃ g, e = .returned (.slice (some ⟨g, 0, none⟩) 4 4) ∧ w.heap.size ≤ g ∧
      (∀ s, md5Run ws ⟨a, b, c, d⟩ 64 = s → Rd w' 1 (some ⟨g, 0, none⟩) 4 [vw (a + s.a), vw (b + s.b), vw (c + s.c), vw (d + s.d)]) ∧ Below w.heap.size w w' := by
  obtain ⟨_, _, hA, hca⟩ := hs.2 (by decide)
  obtain ⟨rfl, rfl⟩ : ba = _ ∧ oa = _ := by injection hA with hA; injection hA with h1 h2; exact ⟨h1, h2⟩
  obtain ⟨_, _, hB, hcb⟩ := hw.2 (by decide)
  obtain ⟨rfl, rfl⟩ : bb = _ ∧ ob = _ := by injection hB with hB; injection hB with h1 h2; exact ⟨h1, h2⟩
  have c0 := hca 0 _ rfl
  have c1 := hca 1 _ rfl
  have c2 := hca 2 _ rfl
  have c3 := hca 3 _ rfl
  simp only [Nat.add_zero] at c0
  have HC : Hid (∀ j v, [vw a, vw b, vw c, vw d][j]? = some v → w.cell? ⟨ba, oa + j, none⟩ = some v) := hca
  have HX : Hid (∀ j, j < 16 → w.cell? ⟨bb, ob + j, none⟩ = some (vw (ws.getD j 0))) := fun j hj => hcb j _ (by rw [List.getElem?_map, List.getElem?_eq_getElem (by omega), List.getD_eq_getElem?_getD, List.getElem?_eq_getElem (by omega)]; rfl)
  have HG := Lib.hid hG
  have HL := Lib.hid hl
  clear hs hw hA hB hca hcb hG hl
  unfold vw at c0 c1 c2 c3
  go_enter Tryz.func30, Tryz.ntmps30
  go_wp2_with fail
  go_quiet (fail)
  clear c0 c1 c2 c3
  go_wp2_with fail
  go_loopw [9, 5, 6, 7, 8, 12] (fun i sa sb sc sd _ wr => ∃ (k : Nat) (ya yb yc yd : B32), k ≤ 64 ∧ i = .int .i64 k ∧ sa = .int .u32 (nv ya) ∧ sb = .int .u32 (nv yb) ∧ sc = .int .u32 (nv yc) ∧ sd = .int .u32 (nv yd) ∧ Hid (md5Run ws ⟨a, b, c, d⟩ k = ⟨ya, yb, yc, yd⟩) ∧ Hid (Below w.heap.size w wr)) (fun i _ _ _ _ _ _ => 64 - (intOf i).toNat)
  case atStart => exact ⟨0, a, b, c, d, by omega, rfl, rfl, rfl, rfl, rfl, rfl, below_drewN (Below.refl _ _) _⟩
  case round =>
    obtain ⟨k, ya, yb, yc, yd, hk, rfl, rfl, rfl, rfl, rfl, HS, HB⟩ := hrel
    by_cases hlt : k < 64
    · have t5 := (HG.out.below HB.out).t5 k hlt
      have hr := md5Tu_ok k hlt
      obtain ⟨q, hq⟩ : ∃ q, k / 16 = q := ⟨_, rfl⟩
      have hgl := md5G_lt k hlt
      rw [hq] at hgl
      obtain ⟨gk, hgk⟩ : ∃ gk, md5G q k = gk := ⟨_, rfl⟩
      rw [hgk] at hgl
      have xg := (HB.out.cell (p := ⟨bb, ob + gk, none⟩) (World.block_lt_of_cell? _ _ (HX.out gk hgl))).trans (HX.out gk hgl)
      have xgz := World.block_lt_of_cell? _ _ xg
      have t5z := World.block_lt_of_cell? _ _ t5
      have hgi : (gk : Int) < 16 := by omega
      obtain ⟨tur, htu⟩ : ∃ t, md5Tu k = t := ⟨_, rfl⟩
      rw [htu] at hr
      obtain ⟨tk, htk⟩ : ∃ t, md5T k = t := ⟨_, rfl⟩
      rw [htk] at t5
      obtain ⟨xk, hxk⟩ : ∃ t, ws.getD gk 0 = t := ⟨_, rfl⟩
      rw [hxk] at xg
      have hq4 : q < 4 := by omega
      have HQ := Lib.hid hq; have HTU := Lib.hid htu; have HTK := Lib.hid htk; have HXK := Lib.hid hxk; have HRR := Lib.hid hr; have HGK := Lib.hid hgk
      have hk16 : 16 * q ≤ k ∧ k < 16 * q + 16 := by omega
      unfold vw at xg
      clear hq htu htk hxk hr hgk
      rcases (show q = 0 ∨ q = 1 ∨ q = 2 ∨ q = 3 by omega) with rfl | rfl | rfl | rfl
      · obtain ⟨t1, h1, H1⟩ := w_and yb yc
        have l1 : (k : Int) < 16 := by omega
        obtain ⟨t2, h2, H2⟩ := w_not yb
        obtain ⟨t3, h3, H3⟩ := w_and t2 yd
        obtain ⟨f, h4, H4⟩ := w_or t1 t3
        have HF : Hid (f = md5F 0 yb yc yd) := by show _ = _; rw [H4.out, H3.out, H2.out, H1.out]; rfl
        obtain rfl : k = gk := HGK.out
        obtain ⟨s1, g1, _, S1⟩ := w_ad ya f
        obtain ⟨s2, g2, _, S2⟩ := w_ad s1 tk
        obtain ⟨s3, g3, _, S3⟩ := w_ad s2 xk
        obtain ⟨s4, g4, _, S4⟩ := w_ad yb (rl tur s3)
        have HS3 : Hid (s3 = ya + f + tk + xk) := by show _ = _; rw [S3.out, S2.out, S1.out]
        have HNX : Hid (md5Run ws ⟨a, b, c, d⟩ (k + 1) = ⟨yd, s4, yb, yc⟩) := by show _ = _; rw [S4.out]; exact md5_next HS.out HQ.out HTU.out HTK.out (HGK.out ▸ HXK.out) HF.out HS3.out
        go_upto_region 16 with (fail)
        go_region_held3 (fun w' => w'.cell? ⟨0, k, none⟩ = some (.int .u32 (nv tk)) ∧ w'.cell? ⟨bb, ob + k, none⟩ = some (.int .u32 (nv xk)))
          (first | exact ⟨t5, xg⟩ | exact ⟨(hb5.cell (p := ⟨_, _, none⟩) t5z).trans t5, (hb5.cell (p := ⟨_, _, none⟩) xgz).trans xg⟩ | go_keep)
          (first
            | (go_at_call 61; refine (r02_turn k hlt _).mono ?_; rintro e w5 ⟨rfl, hb5⟩; rw [HTU.out])
            | (go_at_call 60; refine (r02_left s3 tur HRR.out.2 HRR.out.1 _).mono ?_; rintro e w' ⟨rfl, rfl⟩))
        all_goals
          have B5 : Hid (Below w.heap.size w w') := below_then2 HB.out hb5
          clear hb5
          go_wp2_with fail
          go_roundw
          case rel => exact ⟨k + 1, yd, s4, yb, yc, by omega, by go_num, rfl, rfl, rfl, rfl, HNX, B5⟩
          case measure => simp [intOf]; omega
      · obtain ⟨t1, h1, H1⟩ := w_and yd yb
        have l1 : decide ((k : Int) < 16) = false := decide_eq_false (by omega)
        have l2 : (k : Int) < 32 := by omega
        obtain ⟨t2, h2, H2⟩ := w_not yd
        obtain ⟨t3, h3, H3⟩ := w_and t2 yc
        obtain ⟨f, h4, H4⟩ := w_or t1 t3
        have HF : Hid (f = md5F 1 yb yc yd) := by show _ = _; rw [H4.out, H3.out, H2.out, H1.out]; rfl
        have eg : (5 * (k : Int) + 1) % 16 = (gk : Int) := by have : (5 * k + 1) % 16 = gk := HGK.out; omega
        obtain ⟨s1, g1, _, S1⟩ := w_ad ya f
        obtain ⟨s2, g2, _, S2⟩ := w_ad s1 tk
        obtain ⟨s3, g3, _, S3⟩ := w_ad s2 xk
        obtain ⟨s4, g4, _, S4⟩ := w_ad yb (rl tur s3)
        have HS3 : Hid (s3 = ya + f + tk + xk) := by show _ = _; rw [S3.out, S2.out, S1.out]
        have HNX : Hid (md5Run ws ⟨a, b, c, d⟩ (k + 1) = ⟨yd, s4, yb, yc⟩) := by show _ = _; rw [S4.out]; exact md5_next HS.out HQ.out HTU.out HTK.out (HGK.out ▸ HXK.out) HF.out HS3.out
        go_upto_region 16 with (fail)
        go_region_held3 (fun w' => w'.cell? ⟨0, k, none⟩ = some (.int .u32 (nv tk)) ∧ w'.cell? ⟨bb, ob + gk, none⟩ = some (.int .u32 (nv xk)))
          (first | exact ⟨t5, xg⟩ | exact ⟨(hb5.cell (p := ⟨_, _, none⟩) t5z).trans t5, (hb5.cell (p := ⟨_, _, none⟩) xgz).trans xg⟩ | go_keep)
          (first
            | (go_at_call 61; refine (r02_turn k hlt _).mono ?_; rintro e w5 ⟨rfl, hb5⟩; rw [HTU.out])
            | (go_at_call 60; refine (r02_left s3 tur HRR.out.2 HRR.out.1 _).mono ?_; rintro e w' ⟨rfl, rfl⟩))
        all_goals
          have B5 : Hid (Below w.heap.size w w') := below_then2 HB.out hb5
          clear hb5
          go_wp2_with fail
          go_roundw
          case rel => exact ⟨k + 1, yd, s4, yb, yc, by omega, by go_num, rfl, rfl, rfl, rfl, HNX, B5⟩
          case measure => simp [intOf]; omega
      · obtain ⟨t1, h1, H1⟩ := w_xor yb yc
        have l1 : decide ((k : Int) < 16) = false := decide_eq_false (by omega)
        have l2 : decide ((k : Int) < 32) = false := decide_eq_false (by omega)
        have l3 : (k : Int) < 48 := by omega
        obtain ⟨f, h2, H2⟩ := w_xor t1 yd
        have HF : Hid (f = md5F 2 yb yc yd) := by show _ = _; rw [H2.out, H1.out]; rfl
        have eg : (3 * (k : Int) + 5) % 16 = (gk : Int) := by have : (3 * k + 5) % 16 = gk := HGK.out; omega
        obtain ⟨s1, g1, _, S1⟩ := w_ad ya f
        obtain ⟨s2, g2, _, S2⟩ := w_ad s1 tk
        obtain ⟨s3, g3, _, S3⟩ := w_ad s2 xk
        obtain ⟨s4, g4, _, S4⟩ := w_ad yb (rl tur s3)
        have HS3 : Hid (s3 = ya + f + tk + xk) := by show _ = _; rw [S3.out, S2.out, S1.out]
        have HNX : Hid (md5Run ws ⟨a, b, c, d⟩ (k + 1) = ⟨yd, s4, yb, yc⟩) := by show _ = _; rw [S4.out]; exact md5_next HS.out HQ.out HTU.out HTK.out (HGK.out ▸ HXK.out) HF.out HS3.out
        go_upto_region 16 with (fail)
        go_region_held3 (fun w' => w'.cell? ⟨0, k, none⟩ = some (.int .u32 (nv tk)) ∧ w'.cell? ⟨bb, ob + gk, none⟩ = some (.int .u32 (nv xk)))
          (first | exact ⟨t5, xg⟩ | exact ⟨(hb5.cell (p := ⟨_, _, none⟩) t5z).trans t5, (hb5.cell (p := ⟨_, _, none⟩) xgz).trans xg⟩ | go_keep)
          (first
            | (go_at_call 61; refine (r02_turn k hlt _).mono ?_; rintro e w5 ⟨rfl, hb5⟩; rw [HTU.out])
            | (go_at_call 60; refine (r02_left s3 tur HRR.out.2 HRR.out.1 _).mono ?_; rintro e w' ⟨rfl, rfl⟩))
        all_goals
          have B5 : Hid (Below w.heap.size w w') := below_then2 HB.out hb5
          clear hb5
          go_wp2_with fail
          go_roundw
          case rel => exact ⟨k + 1, yd, s4, yb, yc, by omega, by go_num, rfl, rfl, rfl, rfl, HNX, B5⟩
          case measure => simp [intOf]; omega
      · obtain ⟨t1, h1, H1⟩ := w_not yd
        have l1 : decide ((k : Int) < 16) = false := decide_eq_false (by omega)
        have l2 : decide ((k : Int) < 32) = false := decide_eq_false (by omega)
        have l3 : decide ((k : Int) < 48) = false := decide_eq_false (by omega)
        obtain ⟨t2, h2, H2⟩ := w_or yb t1
        obtain ⟨f, h3, H3⟩ := w_xor yc t2
        have HF : Hid (f = md5F 3 yb yc yd) := by show _ = _; rw [H3.out, H2.out, H1.out]; rfl
        have eg : (7 * (k : Int)) % 16 = (gk : Int) := by have : 7 * k % 16 = gk := HGK.out; omega
        obtain ⟨s1, g1, _, S1⟩ := w_ad ya f
        obtain ⟨s2, g2, _, S2⟩ := w_ad s1 tk
        obtain ⟨s3, g3, _, S3⟩ := w_ad s2 xk
        obtain ⟨s4, g4, _, S4⟩ := w_ad yb (rl tur s3)
        have HS3 : Hid (s3 = ya + f + tk + xk) := by show _ = _; rw [S3.out, S2.out, S1.out]
        have HNX : Hid (md5Run ws ⟨a, b, c, d⟩ (k + 1) = ⟨yd, s4, yb, yc⟩) := by show _ = _; rw [S4.out]; exact md5_next HS.out HQ.out HTU.out HTK.out (HGK.out ▸ HXK.out) HF.out HS3.out
        go_upto_region 16 with (fail)
        go_region_held3 (fun w' => w'.cell? ⟨0, k, none⟩ = some (.int .u32 (nv tk)) ∧ w'.cell? ⟨bb, ob + gk, none⟩ = some (.int .u32 (nv xk)))
          (first | exact ⟨t5, xg⟩ | exact ⟨(hb5.cell (p := ⟨_, _, none⟩) t5z).trans t5, (hb5.cell (p := ⟨_, _, none⟩) xgz).trans xg⟩ | go_keep)
          (first
            | (go_at_call 61; refine (r02_turn k hlt _).mono ?_; rintro e w5 ⟨rfl, hb5⟩; rw [HTU.out])
            | (go_at_call 60; refine (r02_left s3 tur HRR.out.2 HRR.out.1 _).mono ?_; rintro e w' ⟨rfl, rfl⟩))
        all_goals
          have B5 : Hid (Below w.heap.size w w') := below_then2 HB.out hb5
          clear hb5
          go_wp2_with fail
          go_roundw
          case rel => exact ⟨k + 1, yd, s4, yb, yc, by omega, by go_num, rfl, rfl, rfl, rfl, HNX, B5⟩
          case measure => simp [intOf]; omega
    · have HK : Hid (k = 64) := by show _ = _; omega
      have key : ∀ j v, [vw a, vw b, vw c, vw d][j]? = some v → wr.cell? ⟨ba, oa + j, none⟩ = some v := fun j v hj => (HB.out.cell (p := ⟨ba, oa + j, none⟩) (World.block_lt_of_cell? _ _ (HC.out j v hj))).trans (HC.out j v hj)
      have r0 := key 0 _ rfl
      have r1 := key 1 _ rfl
      have r2 := key 2 _ rfl
      have r3 := key 3 _ rfl
      simp only [Nat.add_zero] at r0
      obtain ⟨z0, h0, _, Z0⟩ := w_ad a ya
      obtain ⟨z1, h1, _, Z1⟩ := w_ad b yb
      obtain ⟨z2, h2, _, Z2⟩ := w_ad c yc
      obtain ⟨z3, h3, _, Z3⟩ := w_ad d yd
      have RD : Hid (Rd ((wr.alloc (.cells #[vw z0, vw z1, vw z2, vw z3] 76)).drew) 1 (some ⟨wr.heap.size, 0, none⟩) 4 [vw z0, vw z1, vw z2, vw z3]) := ⟨rfl, fun _ => ⟨_, 0, rfl, fun j u hu => by rw [Nat.zero_add]; exact (Blk.new wr [vw z0, vw z1, vw z2, vw z3] 76).cell j u hu⟩⟩
      have BN : Hid (Below w.heap.size w ((wr.alloc (.cells #[vw z0, vw z1, vw z2, vw z3] 76)).drew)) := below_drewN (HB.out.alloc HB.out.size _) 1
      have HE : Hid (∀ s, md5Run ws ⟨a, b, c, d⟩ 64 = s → [vw z0, vw z1, vw z2, vw z3] = [vw (a + s.a), vw (b + s.b), vw (c + s.c), vw (d + s.d)]) := by
        show ∀ _, _
        intro s hs
        have := HS.out
        rw [HK.out, hs] at this
        rw [this, Z0.out, Z1.out, Z2.out, Z3.out]
      unfold vw at r0 r1 r2 r3
      clear key
      go_wp2_with fail
      go_region
      all_goals
        go_wp2_with fail
        go_ret
        exact ⟨_, rfl, HB.out.size, fun s hs => HE.out s hs ▸ RD.out, BN.out⟩
def restB (fmt : Int) (f : FileM) : Bool := decide (0 ≤ f.mode ∧ f.mode ≤ 4095) && ownB fmt f.owner && ownB fmt f.group && (if f.kind = 3 then decide (f.mode = 511) && plainB (bl f.link) && decide (f.link.size ≤ 200) else decide (f.link.size = 0)) && (if f.kind = 1 then sgB fmt f.sum && (!f.conf || decide (fmt ≠ 3)) else decide (f.sum.size = 0) && !f.conf)
end
section
open Go.RowKit Go.Maps
def orderB (prev : Option FileM) (f : FileM) : Bool := match prev with
  | none => true
  | some g => decide (bl g.path < bl f.path)
def parBad (pre : List FileM) (f : FileM) : Bool := parB f.path && pre.any (fun g => decide (g.path = parS f.path) && decide (g.kind ≠ 2))
def fErr (fmt : Int) (pre : List FileM) (f : FileM) : Int :=
  if (pathB (bl f.path) && plainB (bl f.path)) = false then 10 else if orderB pre.getLast? f = false then 15 else if ¬ (f.kind = 1 ∨ f.kind = 2 ∨ f.kind = 3) then 9
  else if restB fmt f = false then 1 else if parBad pre f = true then 9 else 0
def filesE (fmt : Int) : List FileM → List FileM → Option (ByteArray × Int)
  | _, [] => none
  | pre, f :: r => if fErr fmt pre f = 0 then filesE fmt (pre ++ [f]) r else some (f.path, fErr fmt pre f)
def filesAns (fmt : Int) (fs : List FileM) : ByteArray × Int := if 512 < fs.length then (⟨#[102, 105, 108, 101, 115]⟩, 4) else (filesE fmt [] fs).getD (⟨#[]⟩, 0)
structure KInv (pre : List FileM) (g : ByteArray → Option Value) : Prop where
  sorted : (fpaths pre).Pairwise (fun s t => bl s < bl t)
  kind : ∀ x ∈ pre, g x.path = some (.int .i64 x.kind)
  mem : ∀ s, g s ≠ none → s ∈ fpaths pre
theorem KInv.nil : KInv [] (fun _ => none) := ⟨by simp [fpaths], by simp, by simp⟩
theorem KInv.less {pre : List FileM} {g : ByteArray → Option Value} (h : KInv pre g) {f : FileM} (ho : orderB pre.getLast? f = true) : ∀ x ∈ pre, bl x.path < bl f.path := by
  intro x hx
  cases hl : pre.getLast? with
  | none => rw [List.getLast?_eq_none_iff] at hl; subst hl; simp at hx
  | some y =>
    rw [hl] at ho
    have hyf : bl y.path < bl f.path := of_decide_eq_true ho
    obtain ⟨ys, rfl⟩ := List.getLast?_eq_some_iff.1 hl
    rcases List.mem_append.1 hx with hx | hx
    · have hs := h.sorted
      rw [show fpaths (ys ++ [y]) = fpaths ys ++ [y.path] by simp [fpaths], List.pairwise_append] at hs
      exact lt_tr (hs.2.2 x.path (List.mem_map.2 ⟨x, hx, rfl⟩) y.path (by simp)) hyf
    · rw [List.mem_singleton.1 hx]; exact hyf
theorem KInv.put {pre : List FileM} {g : ByteArray → Option Value} (h : KInv pre g) {f : FileM} (ho : orderB pre.getLast? f = true) : KInv (pre ++ [f]) (fun x => if x = f.path then some (.int .i64 f.kind) else g x) := by
  have hl := h.less ho
  refine ⟨?_, fun x hx => ?_, fun s hs => ?_⟩
  · rw [show fpaths (pre ++ [f]) = fpaths pre ++ [f.path] by simp [fpaths], List.pairwise_append]
    refine ⟨h.sorted, by simp, fun a ha b hb => ?_⟩
    obtain ⟨x, hx, rfl⟩ := List.mem_map.1 ha
    rw [List.mem_singleton.1 hb]; exact hl x hx
  · rcases List.mem_append.1 hx with hx | hx
    · have hne : x.path ≠ f.path := fun e => by have := hl x hx; rw [e] at this; exact lt_irr _ this
      simp only [if_neg hne]; exact h.kind x hx
    · rw [List.mem_singleton.1 hx]; simp
  · by_cases e : s = f.path
    · subst e; simp [fpaths]
    · simp only [if_neg e] at hs
      have := h.mem s hs
      simp only [fpaths, List.map_append, List.mem_append] at this ⊢
      exact .inl this
def shV (x : FileM) : Value := .agg #[.int .i64 x.kind, .int .i64 x.mode, .string x.owner, .string x.group, .string x.link]
def alikeB (x y : FileM) : Bool := (x.kind == y.kind) && ((x.mode == y.mode) && ((x.owner.toList == y.owner.toList) && ((x.group.toList == y.group.toList) && (x.link.toList == y.link.toList))))
theorem alikeB_iff (a b : FileM) : alikeB a b = true ↔ shV a = shV b := by
  unfold alikeB shV
  simp only [Bool.and_eq_true, beq_bl, beq_iff_eq, decide_eq_true_iff]
  constructor
  · rintro ⟨h1, h2, h3, h4, h5⟩; rw [h1, h2, h3, h4, h5]
  · intro h
    injection h with h
    have h := congrArg Array.toList h
    simp only [List.cons.injEq, and_true] at h
    obtain ⟨h1, h2, h3, h4, h5⟩ := h
    injection h1 with _ h1; injection h2 with _ h2; injection h3 with h3; injection h4 with h4; injection h5 with h5
    exact ⟨h1, h2, h3, h4, h5⟩
def findF (fs : List FileM) (s : ByteArray) : Option FileM := fs.find? fun y => decide (y.path = s)
theorem findF_some {fs : List FileM} {s : ByteArray} {y : FileM} (h : findF fs s = some y) : y ∈ fs ∧ y.path = s :=
  by unfold findF at h; exact ⟨List.mem_of_find?_eq_some h, by simpa using List.find?_some h⟩
theorem findF_none {fs : List FileM} {s : ByteArray} (h : findF fs s = none) : ∀ y ∈ fs, y.path ≠ s := by
  intro y hy he
  unfold findF at h
  have := List.find?_eq_none.1 h y hy
  exact this (decide_eq_true he)
def clash (q : PkL) (x : FileM) : Bool := match findF q.files x.path with
  | none => false
  | some y => !alikeB y x
def conf (pre : List PkL) (x : FileM) : Bool := pre.any fun q => clash q x
def ordL (pre : List PkL) (p : PkL) : Bool := match pre.getLast? with | none => true | some q => decide (bl q.nm < bl p.nm)
def pkE (ans : ByteArray × Int) (pre : List PkL) (p : PkL) : ByteArray × ByteArray × Int :=
  if ans.2 ≠ 0 then (p.nm, ans.1, ans.2)
  else if ordL pre p = false then (p.nm, ⟨#[110, 97, 109, 101]⟩, 15)
  else match p.files.find? (conf pre) with
    | some f => (p.nm, f.path, 8)
    | none => (⟨#[]⟩, ⟨#[]⟩, 0)
def dbE (ans : PkL → ByteArray × Int) : List PkL → List PkL → ByteArray × ByteArray × Int
  | _, [] => (⟨#[]⟩, ⟨#[]⟩, 0)
  | pre, p :: r => if (pkE (ans p) pre p).2.2 = 0 then dbE ans (pre ++ [p]) r else pkE (ans p) pre p
theorem dbE_next {ans : PkL → ByteArray × Int} {l : List PkL} {k : Nat} {p : PkL} (h : l[k]? = some p) (h0 : dbE ans [] l = dbE ans (l.take k) (l.drop k)) (he : (pkE (ans p) (l.take k) p).2.2 = 0) : dbE ans [] l = dbE ans (l.take (k + 1)) (l.drop (k + 1)) := by
  obtain ⟨hk, hf⟩ := List.getElem?_eq_some_iff.1 h
  rw [h0, List.drop_eq_getElem_cons hk, hf, dbE, if_pos he, List.take_succ_eq_append_getElem hk, hf]
theorem dbE_bad {ans : PkL → ByteArray × Int} {l : List PkL} {k : Nat} {p : PkL} (h : l[k]? = some p) (h0 : dbE ans [] l = dbE ans (l.take k) (l.drop k)) (he : (pkE (ans p) (l.take k) p).2.2 ≠ 0) : dbE ans [] l = pkE (ans p) (l.take k) p := by
  obtain ⟨hk, hf⟩ := List.getElem?_eq_some_iff.1 h
  rw [h0, List.drop_eq_getElem_cons hk, hf, dbE, if_neg he]
theorem dbE_end {ans : PkL → ByteArray × Int} {l : List PkL} {k : Nat} (hk : l.length ≤ k) (h0 : dbE ans [] l = dbE ans (l.take k) (l.drop k)) : dbE ans [] l = (⟨#[]⟩, ⟨#[]⟩, 0) := by
  rw [h0, List.drop_of_length_le hk]; rfl
def ordP (l : List PkL) (k : Nat) (p : PkL) : Bool := ordL (l.take k) p
theorem ordP_zero (l : List PkL) (p : PkL) : ordP l 0 p = true := by unfold ordP ordL; simp
theorem ordP_succ {l : List PkL} {k : Nat} {q : PkL} (p : PkL) (h : l[k]? = some q) : ordP l (k + 1) p = decide (bl q.nm < bl p.nm) := by
  obtain ⟨hk, hf⟩ := List.getElem?_eq_some_iff.1 h
  unfold ordP ordL
  rw [List.take_succ_eq_append_getElem hk]
  simp [hf]
theorem pkE_ans {ans : ByteArray × Int} {pre : List PkL} {p : PkL} (h : ans.2 ≠ 0) : pkE ans pre p = (p.nm, ans.1, ans.2) := by unfold pkE; rw [if_pos h]
theorem pkE_ord {ans : ByteArray × Int} {l : List PkL} {k : Nat} {p : PkL} (h : ans.2 = 0) (ho : ordP l k p = false) : pkE ans (l.take k) p = (p.nm, ⟨#[110, 97, 109, 101]⟩, 15) := by
  unfold pkE; unfold ordP at ho; rw [if_neg (by simpa using h), if_pos ho]
theorem pkE_conf {ans : ByteArray × Int} {l : List PkL} {k m : Nat} {p : PkL} {x : FileM} (h : ans.2 = 0) (ho : ordP l k p = true) (hx : p.files[m]? = some x) (hn : ∀ y ∈ p.files.take m, conf (l.take k) y = false) (hc : conf (l.take k) x = true) : pkE ans (l.take k) p = (p.nm, x.path, 8) := by
  unfold pkE; unfold ordP at ho; rw [if_neg (by simpa using h), ho, if_neg (by simp)]
  have : p.files.find? (conf (l.take k)) = some x := by
    obtain ⟨hm, hx⟩ := List.getElem?_eq_some_iff.1 hx
    rw [← List.take_append_drop m p.files, List.find?_append, List.find?_eq_none.2 (fun y hy => by rw [hn y hy]; simp), List.drop_eq_getElem_cons hm, hx]
    simp [hc]
  rw [this]
theorem pkE_fine {ans : ByteArray × Int} {l : List PkL} {k : Nat} {p : PkL} (h : ans.2 = 0) (ho : ordP l k p = true) (hn : ∀ y ∈ p.files, conf (l.take k) y = false) : pkE ans (l.take k) p = (⟨#[]⟩, ⟨#[]⟩, 0) := by
  unfold pkE; unfold ordP at ho; rw [if_neg (by simpa using h), ho, if_neg (by simp), List.find?_eq_none.2 (fun y hy => by rw [hn y hy]; simp)]
def dbW (ans : PkL → ByteArray × Int) (fo : Bool) (l : List PkL) : ByteArray × ByteArray × Int :=
  if fo = false then (⟨#[]⟩, ⟨#[102, 111, 114, 109, 97, 116]⟩, 9) else if 128 < l.length then (⟨#[]⟩, ⟨#[112, 97, 99, 107, 97, 103, 101, 115]⟩, 4) else dbE ans [] l
def dbV (r : ByteArray × ByteArray × Int) : Value := .agg #[.string r.1, .string r.2.1, .int .i64 r.2.2]
structure CInv (L : List FileM) (f : ByteArray → Option Value) : Prop where
  dom : ∀ s, f s = none → ∀ y ∈ L, y.path ≠ s
  mem : ∀ s v, f s = some v → (∃ y ∈ L, y.path = s) ∧ ∀ y ∈ L, y.path = s → shV y = v
theorem CInv.nil : CInv [] (fun _ => none) := ⟨by simp, by simp⟩
theorem CInv.put {L : List FileM} {f : ByteArray → Option Value} (h : CInv L f) (x : FileM) (hx : f x.path = none ∨ f x.path = some (shV x)) : CInv (L ++ [x]) (fun s => if s = x.path then some (shV x) else f s) := by
  refine ⟨fun s hs y hy he => ?_, fun s v hv => ?_⟩
  · by_cases e : s = x.path
    · simp only [if_pos e] at hs; cases hs
    · simp only [if_neg e] at hs
      rcases List.mem_append.1 hy with hy | hy
      · exact h.dom s hs y hy he
      · rw [List.mem_singleton.1 hy] at he; exact e he.symm
  · by_cases e : s = x.path
    · simp only [if_pos e] at hv
      injection hv with hv
      subst hv; subst e
      refine ⟨⟨x, by simp, rfl⟩, fun y hy he => ?_⟩
      rcases List.mem_append.1 hy with hy | hy
      · rcases hx with hx | hx
        · exact absurd he (h.dom _ hx y hy)
        · exact (h.mem _ _ hx).2 y hy he
      · rw [List.mem_singleton.1 hy]
    · simp only [if_neg e] at hv
      obtain ⟨⟨y, hy, he⟩, h2⟩ := h.mem s v hv
      refine ⟨⟨y, by simp [hy], he⟩, fun z hz hze => ?_⟩
      rcases List.mem_append.1 hz with hz | hz
      · exact h2 z hz hze
      · rw [List.mem_singleton.1 hz] at hze; exact absurd hze.symm e
def came (l : List PkL) (k : Nat) (fs : List FileM) : List FileM := (l.take k).flatMap PkL.files ++ fs
theorem CInv.fresh {l : List PkL} {k : Nat} {fs : List FileM} {f : ByteArray → Option Value} (h : CInv (came l k fs) f) {x : FileM} (hx : f x.path = none) : conf (l.take k) x = false := by
  unfold conf
  rw [List.any_eq_false]
  intro q hq hc
  unfold clash at hc
  cases e : findF q.files x.path with
  | none => rw [e] at hc; cases hc
  | some y =>
    obtain ⟨hy, hp⟩ := findF_some e
    exact h.dom _ hx y (List.mem_append_left _ (List.mem_flatMap.2 ⟨q, hq, hy⟩)) hp
theorem CInv.same {l : List PkL} {k : Nat} {fs : List FileM} {f : ByteArray → Option Value} (h : CInv (came l k fs) f) {x : FileM} (hx : f x.path = some (shV x)) : conf (l.take k) x = false := by
  unfold conf
  rw [List.any_eq_false]
  intro q hq hc
  unfold clash at hc
  cases e : findF q.files x.path with
  | none => rw [e] at hc; cases hc
  | some y =>
    rw [e] at hc
    obtain ⟨hy, hp⟩ := findF_some e
    have := (h.mem _ _ hx).2 y (List.mem_append_left _ (List.mem_flatMap.2 ⟨q, hq, hy⟩)) hp
    have h2 := (alikeB_iff y x).2 this
    simp [h2] at hc
theorem CInv.other {l : List PkL} {k : Nat} {fs : List FileM} {f : ByteArray → Option Value} (h : CInv (came l k fs) f) {x : FileM} {v : Value} (hx : f x.path = some v) (hne : v ≠ shV x) (hf : ∀ y ∈ fs, y.path ≠ x.path) : conf (l.take k) x = true := by
  obtain ⟨⟨y, hy, hp⟩, h2⟩ := h.mem _ _ hx
  rcases List.mem_append.1 hy with hy | hy
  · obtain ⟨q, hq, hyq⟩ := List.mem_flatMap.1 hy
    unfold conf
    rw [List.any_eq_true]
    refine ⟨q, hq, ?_⟩
    unfold clash
    cases e : findF q.files x.path with
    | none => exact absurd hp (findF_none e y hyq)
    | some z =>
      obtain ⟨hz, hzp⟩ := findF_some e
      have h3 := h2 z (List.mem_append_left _ (List.mem_flatMap.2 ⟨q, hq, hz⟩)) hzp
      show (!alikeB z x) = true
      cases ha : alikeB z x with
      | false => rfl
      | true => exact absurd (h3.symm.trans ((alikeB_iff z x).1 ha)) hne
  · exact absurd hp (hf y hy)
theorem came_next {l : List PkL} {k : Nat} {p : PkL} (h : l[k]? = some p) : came l (k + 1) [] = came l k p.files := by
  obtain ⟨hk, hx⟩ := List.getElem?_eq_some_iff.1 h
  unfold came; rw [List.take_succ_eq_append_getElem hk, hx]; simp
theorem came_snoc (l : List PkL) (k : Nat) {fs : List FileM} {m : Nat} {x : FileM} (h : fs[m]? = some x) : came l k (fs.take (m + 1)) = came l k (fs.take m) ++ [x] := by
  obtain ⟨hk, hx⟩ := List.getElem?_eq_some_iff.1 h
  unfold came; rw [List.take_succ_eq_append_getElem hk, hx]; simp
theorem came_length (l : List PkL) (k : Nat) (p : PkL) (m : Nat) (h : l[k]? = some p) : (came l k (p.files.take m)).length ≤ wDb l := by
  have key : ∀ (L : List PkL), (L.flatMap PkL.files).length ≤ wDb L := by
    intro L
    induction L with
    | nil => simp [wDb]
    | cons a r ih =>
      have h3 : a.files.length ≤ wFiles a.files := by
        unfold wFiles
        generalize a.files = fs
        induction fs with
        | nil => simp
        | cons a r ih => simp at *; omega
      unfold wDb at ih ⊢
      rw [List.flatMap_cons, List.length_append, List.map_cons, List.sum_cons]
      have hw : wsum a = wTexts a + wStrs a.needs + wStrs a.bars + wAtoms a.gives + wFiles a.files + wScripts a.scripts := rfl
      omega
  have h1 := key (l.take (k + 1))
  have h2 : (came l k (p.files.take m)).length ≤ ((l.take (k + 1)).flatMap PkL.files).length := by
    have e := came_next h
    have e2 : came l (k + 1) [] = (l.take (k + 1)).flatMap PkL.files := by unfold came; simp
    rw [← e2, e]
    unfold came
    rw [List.length_append, List.length_append, List.length_take]; omega
  have h3 : wDb (l.take (k + 1)) ≤ wDb l := by
    have e : wDb l = wDb (l.take (k + 1)) + wDb (l.drop (k + 1)) := by
      unfold wDb; rw [← List.sum_append, ← List.map_append, List.take_append_drop]
    omega
  omega
theorem filesE_fine {fmt : Int} {fs : List FileM} (h : (filesAns fmt fs).2 = 0) : (fpaths fs).Pairwise (fun s t => bl s < bl t) := by
  unfold filesAns at h
  split at h
  · simp at h
  · have key : ∀ (r pre : List FileM), (∃ g, KInv pre g) → ((filesE fmt pre r).getD (⟨#[]⟩, 0)).2 = 0 → (fpaths (pre ++ r)).Pairwise (fun s t => bl s < bl t) := by
      intro r
      induction r with
      | nil => rintro pre ⟨g, hg⟩ _; simpa using hg.sorted
      | cons a r ih =>
        rintro pre ⟨g, hg⟩ h
        rw [filesE] at h
        by_cases he : fErr fmt pre a = 0
        · rw [if_pos he] at h
          have ho : orderB pre.getLast? a = true := by
            unfold fErr at he
            cases e1 : (pathB (bl a.path) && plainB (bl a.path)) with
            | false => rw [e1] at he; simp at he
            | true =>
              cases e2 : orderB pre.getLast? a with
              | false => rw [e1, e2] at he; simp at he
              | true => rfl
          have := ih (pre ++ [a]) ⟨_, hg.put ho⟩ h
          simpa using this
        · rw [if_neg he] at h; exact absurd h he
    have := key fs [] ⟨_, KInv.nil⟩ h
    simpa using this
theorem sorted_ne {fs : List FileM} (h : (fpaths fs).Pairwise (fun s t => bl s < bl t)) {m : Nat} {x : FileM} (hx : fs[m]? = some x) : ∀ y ∈ fs.take m, y.path ≠ x.path := by
  intro y hy he
  obtain ⟨hm, hx⟩ := List.getElem?_eq_some_iff.1 hx
  have e : fpaths fs = fpaths (fs.take m) ++ fpaths (fs.drop m) := by unfold fpaths; rw [← List.map_append, List.take_append_drop]
  rw [e, List.pairwise_append] at h
  have := h.2.2 y.path (List.mem_map.2 ⟨y, hy, rfl⟩) x.path (by rw [List.drop_eq_getElem_cons hm, hx]; simp [fpaths])
  rw [he] at this; exact lt_irr _ this
theorem leq_bl (s t : ByteArray) : (Op.bytesLess s.toList t.toList || s.toList == t.toList) = !decide (bl t < bl s) := by
  rw [bytesLess_dec, beq_bl, bl_toList, bl_toList]
  by_cases h : bl t < bl s
  · rw [decide_eq_true h]
    have h1 : ¬ bl s < bl t := fun h' => lt_irr _ (lt_tr h h')
    have h2 : s ≠ t := fun e => by rw [e] at h; exact lt_irr _ h
    simp [h1, h2]
  · rw [decide_eq_false h]
    by_cases e : s = t
    · simp [e]
    · have : bl s < bl t := lt_of_not h (fun h' => e (bl_inj h').symm)
      simp [this]
end
section
open Go.RowKit Go.Deep
open Go.RowKit
open Go.RowKit Go.Maps
def ckV (nm : ByteArray) (r : ByteArray × Int) : Value := if r.2 = 0 then refV ⟨#[]⟩ ⟨#[]⟩ 0 else refV nm r.1 r.2
theorem ckV_zero (nm what : ByteArray) : ckV nm (what, 0) = .agg #[.string ⟨#[]⟩, .string ⟨#[]⟩, .int .i64 0] := rfl
theorem ckV_else (nm what : ByteArray) {c : Int} (h : c ≠ 0) : ckV nm (what, c) = .agg #[.string nm, .string what, .int .i64 c] := by unfold ckV; rw [if_neg h]; rfl
structure RC (w wr : World) : Prop where
  bel : Below w.heap.size w wr
  res : Blk wr w.heap.size [.string ⟨#[]⟩, .string ⟨#[]⟩, .int .i64 0]
theorem RC.step {w wr w' : World} (h : RC w wr) (hb : Below wr.heap.size wr w') : RC w w' := ⟨bthen h.bel hb, h.res.below hb⟩
theorem RC.alloc {w wr : World} (h : RC w wr) (o : Obj) : RC w (wr.alloc o) := h.step ((Below.refl _ _).alloc (Nat.le_refl _) o)
theorem RC.start (w : World) : RC w (w.alloc (.cells #[.string ⟨#[]⟩, .string ⟨#[]⟩, .int .i64 0] 49)) :=
  ⟨(Below.refl _ _).alloc (Nat.le_refl _) _, Blk.new w [.string ⟨#[]⟩, .string ⟨#[]⟩, .int .i64 0] _⟩
theorem RC.done {w wr : World} (h : RC w wr) (a b c : Value) : Below w.heap.size w (((wr.setCell ⟨w.heap.size, 0, none⟩ a).setCell ⟨w.heap.size, 1, none⟩ b).setCell ⟨w.heap.size, 2, none⟩ c) :=
  below_set (below_set (below_set h.bel (Nat.le_refl _) _) (Nat.le_refl _) _) (Nat.le_refl _) _
theorem nine {w : World} {b o : Nat} {p : PkL} (h : ∀ (j : Nat) (u : Value), p.cells[j]? = some u → w.cell? ⟨b, o + j, none⟩ = some u) :
    w.cell? ⟨b, o, none⟩ = some (.string p.nm) ∧ w.cell? ⟨b, o + 1, none⟩ = some (.string p.ver) ∧ w.cell? ⟨b, o + 2, none⟩ = some (.string p.ar) ∧ w.cell? ⟨b, o + 3, none⟩ = some (.string p.sm) ∧ w.cell? ⟨b, o + 4, none⟩ = some (.slice p.na p.needs.length p.nc) ∧ w.cell? ⟨b, o + 5, none⟩ = some (.slice p.ba p.bars.length p.bc) ∧ w.cell? ⟨b, o + 6, none⟩ = some (.slice p.ga p.gives.length p.gc) ∧ w.cell? ⟨b, o + 7, none⟩ = some (.slice p.fa p.files.length p.fc) ∧ w.cell? ⟨b, o + 8, none⟩ = some (.slice p.sa p.scripts.length p.sc) :=
  ⟨h 0 _ rfl, h 1 _ rfl, h 2 _ rfl, h 3 _ rfl, h 4 _ rfl, h 5 _ rfl, h 6 _ rfl, h 7 _ rfl, h 8 _ rfl⟩
def At8 (w : World) (b o : Nat) (x : FileM) : Prop :=
  w.cell? ⟨b, o, none⟩ = some (.string x.path) ∧ w.cell? ⟨b, o + 1, none⟩ = some (.int .i64 x.kind) ∧ w.cell? ⟨b, o + 2, none⟩ = some (.int .i64 x.mode) ∧ w.cell? ⟨b, o + 3, none⟩ = some (.string x.owner) ∧ w.cell? ⟨b, o + 4, none⟩ = some (.string x.group) ∧ w.cell? ⟨b, o + 5, none⟩ = some (.string x.link) ∧ w.cell? ⟨b, o + 6, none⟩ = some (.string x.sum) ∧ w.cell? ⟨b, o + 7, none⟩ = some (.bool x.conf)
theorem eight {w : World} {b o : Nat} {x : FileM} (h : ∀ (j : Nat) (u : Value), x.cells[j]? = some u → w.cell? ⟨b, o + j, none⟩ = some u) : At8 w b o x :=
  ⟨h 0 _ rfl, h 1 _ rfl, h 2 _ rfl, h 3 _ rfl, h 4 _ rfl, h 5 _ rfl, h 6 _ rfl, h 7 _ rfl⟩
theorem RC.six {w wr : World} (h : RC w wr) : wr.cell? ⟨w.heap.size, 0, none⟩ = some (.string ⟨#[]⟩) ∧ wr.cell? ⟨w.heap.size, 1, none⟩ = some (.string ⟨#[]⟩) ∧ wr.cell? ⟨w.heap.size, 2, none⟩ = some (.int .i64 0) ∧ wr.frozen? ⟨w.heap.size, 0, none⟩ = false ∧ wr.frozen? ⟨w.heap.size, 1, none⟩ = false ∧ wr.frozen? ⟨w.heap.size, 2, none⟩ = false :=
  ⟨h.res.cell 0 _ rfl, h.res.cell 1 _ rfl, h.res.cell 2 _ rfl, h.res.free 0 (by simp), h.res.free 1 (by simp), h.res.free 2 (by simp)⟩
theorem dbW_form {ans : PkL → ByteArray × Int} {fo : Bool} {l : List PkL} (h : fo = false) : dbV (dbW ans fo l) = .agg #[.string ⟨#[]⟩, .string ⟨#[102, 111, 114, 109, 97, 116]⟩, .int .i64 9] := by unfold dbW; rw [if_pos h]; rfl
theorem dbW_large {ans : PkL → ByteArray × Int} {fo : Bool} {l : List PkL} (h : fo = true) (hl : 128 < l.length) : dbV (dbW ans fo l) = .agg #[.string ⟨#[]⟩, .string ⟨#[112, 97, 99, 107, 97, 103, 101, 115]⟩, .int .i64 4] := by unfold dbW; rw [if_neg (by rw [h]; simp), if_pos hl]; rfl
theorem dbW_else {ans : PkL → ByteArray × Int} {fo : Bool} {l : List PkL} (h : fo = true) (hl : ¬ 128 < l.length) : dbW ans fo l = dbE ans [] l := by unfold dbW; rw [if_neg (by rw [h]; simp), if_neg hl]
theorem neq_shared (x y : FileM) (w : World) : (binOp .neq 87 (.agg #[.int .i64 x.kind, .int .i64 x.mode, .string x.owner, .string x.group, .string x.link]) (.agg #[.int .i64 y.kind, .int .i64 y.mode, .string y.owner, .string y.group, .string y.link])).run Tryz.prog w = .ok (.bool (!alikeB x y)) w := by
  go_simp
  unfold alikeB
  (repeat' split) <;> simp_all
theorem zero_shared (w : World) : (zeroValue 87).run Tryz.prog w = .ok (.agg #[.int .i64 0, .int .i64 0, .string ⟨#[]⟩, .string ⟨#[]⟩, .string ⟨#[]⟩]) w := by kernel_rfl
structure MC (w wr : World) (L : List FileM) (f : ByteArray → Option Value) : Prop where
  rc : RC w wr
  map : MapIs wr (w.heap.size + 1) L.length f
  inv : CInv L f
  sz : w.heap.size + 2 ≤ wr.heap.size
theorem MC.step {w wr w' : World} {L : List FileM} {f : ByteArray → Option Value} (h : MC w wr L f) (hb : Below wr.heap.size wr w') : MC w w' L f := ⟨h.rc.step hb, h.map.below hb, h.inv, Nat.le_trans h.sz hb.size⟩
theorem MC.start (w : World) : MC w ((w.alloc (.cells #[.string ⟨#[]⟩, .string ⟨#[]⟩, .int .i64 0] 49)).alloc (.map #[] 0)) [] (fun _ => none) :=
  ⟨(RC.start w).alloc _, by have := MapIs.made (w.alloc (.cells #[.string ⟨#[]⟩, .string ⟨#[]⟩, .int .i64 0] 49)); simpa using this, CInv.nil, by simp⟩
theorem Blk.grownC {wr w' : World} {b c : Nat} {vs : List Value} (h : Blk wr c vs) (hg : wr.grownBy w' (some b)) (hne : c ≠ b) : Blk w' c vs := by
  have hk : w'.heap[c]? = wr.heap[c]? := hg.block c h.sz (by intro e; injection e with e; exact hne e)
  refine ⟨Nat.lt_of_lt_of_le h.sz hg.size, fun j u hu => ?_, fun j hj => ?_⟩
  · exact (World.cell?_of_block (a := ⟨c, j, none⟩) hk).trans (h.cell j u hu)
  · exact (World.frozen?_of_block (a := ⟨c, j, none⟩) hk).trans (h.free j hj)
theorem MC.put {w wr w' : World} {L : List FileM} {f : ByteArray → Option Value} {x : FileM} (h : MC w wr L f) (hx : f x.path = none ∨ f x.path = some (shV x)) (hm : MapIs w' (w.heap.size + 1) (L.length + 1) (fun s => if s = x.path then some (shV x) else f s)) (hg : wr.grownBy w' (some (w.heap.size + 1))) : MC w w' (L ++ [x]) (fun s => if s = x.path then some (shV x) else f s) :=
  ⟨⟨h.rc.bel.grown hg h.rc.bel.size (fun j hj => by injection hj with hj; omega), h.rc.res.grownC hg (by omega)⟩, by rw [List.length_append]; exact hm, h.inv.put x hx, Nat.le_trans h.sz hg.size⟩
theorem MC.look {w wr : World} {L : List FileM} {f : ByteArray → Option Value} (h : MC w wr L f) (s : ByteArray) (hs : s.size ≤ maxLen) :
    ∃ (z : FileM) (b : Bool), (Instr.lookup 84 (.map (some (w.heap.size + 1))) (.string s) true).run Tryz.prog wr = .ok (.tuple #[.agg #[.int .i64 z.kind, .int .i64 z.mode, .string z.owner, .string z.group, .string z.link], .bool b]) wr ∧ (b = false → f s = none) ∧ (b = true → f s = some (shV z)) := by
  have hl := h.map.look_ok Tryz.underlying84 zero_shared s hs
  cases hf : f s with
  | none =>
    rw [hf] at hl
    exact ⟨⟨⟨#[]⟩, 0, 0, ⟨#[]⟩, ⟨#[]⟩, ⟨#[]⟩, ⟨#[]⟩, false⟩, false, hl, fun _ => rfl, (fun h => by cases h)⟩
  | some v =>
    rw [hf] at hl
    obtain ⟨⟨y, hy, hp⟩, h2⟩ := h.inv.mem s v hf
    have hv := h2 y hy hp
    subst hv
    exact ⟨y, true, hl, (fun h => by cases h), fun _ => rfl⟩
theorem mc_res {tmps : Array Value} {w w2 : World} (h : RC w w2) (ht : tmps[4]? = some (.pointer (some ⟨w.heap.size, 0, none⟩))) (a b : ByteArray) (c : Int) :
    (results Tryz.f20 tmps).run Tryz.prog (((w2.setCell ⟨w.heap.size, 0, none⟩ (.string a)).setCell ⟨w.heap.size, 1, none⟩ (.string b)).setCell ⟨w.heap.size, 2, none⟩ (.int .i64 c)) =
      .ok (.agg #[.string a, .string b, .int .i64 c]) (((w2.setCell ⟨w.heap.size, 0, none⟩ (.string a)).setCell ⟨w.heap.size, 1, none⟩ (.string b)).setCell ⟨w.heap.size, 2, none⟩ (.int .i64 c)) := by
  obtain ⟨r0, r1, r2, fr0, fr1, fr2⟩ := h.six
  simp [results, Tryz.results20, ht, go_sem, r0, r1, r2]
theorem model_Check_of (fmt : Int) (F : PkL → ByteArray × Int) (A : Option Addr) (c : Nat) (l : List PkL) (w : World) (hG : Gl w) (hd : DbOk w A l) (hl : l.length ≤ 100000) (hwd : wDb l ≤ 100000) (hs : ∀ p ∈ l, p.files.length ≤ 1000000 ∧ ∀ x ∈ p.files, x.path.size ≤ 1000000) (hC : ∀ p ∈ l, ∀ W, Gl W → p.ok W → Calls Tryz.prog 36 #[.int .i64 fmt, p.val] W fun e w' => e = .returned (ckV p.nm (F p)) ∧ Below W.heap.size W w') (hFZ : ∀ p ∈ l, (F p).2 = 0 → (filesAns fmt p.files).2 = 0) :
    Calls Tryz.prog 20 #[.int .i64 fmt, .slice A l.length c] w fun e w' => e = .returned (dbV (dbW F (fmtB fmt) l)) ∧ Below w.heap.size w w' := by
  have HG := Lib.hid hG; have HD := Lib.hid hd; have HS := Lib.hid hs; have HCP := Lib.hid hC; have HFZ := Lib.hid hFZ; have HWD := Lib.hid hwd
  clear hG hd hs hwd hC hFZ
  have R0 := Lib.hid (RC.start w)
  obtain ⟨W0, hW0⟩ : ∃ W0, w.alloc (.cells #[.string ⟨#[]⟩, .string ⟨#[]⟩, .int .i64 0] 49) = W0 := ⟨_, rfl⟩
  have R0' : Hid (RC w W0) := by show RC w W0; rw [← hW0]; exact R0.out
  have M0 : Hid (MC w (W0.alloc (.map #[] 0)) [] (fun _ => none)) := by show MC _ _ _ _; rw [← hW0]; exact MC.start w
  have Z0 : Hid (W0.heap.size = w.heap.size + 1) := by show _ = _; rw [← hW0]; simp
  have hI := fun W => model_isFormat fmt W
  cases hfm : fmtB fmt with
  | false =>
    have E : Hid (dbV (dbW F false l) = _) := dbW_form rfl
    obtain ⟨r0, r1, r2, fr0, fr1, fr2⟩ := R0'.out.six
    rw [hfm] at hI
    clear hfm R0
    go_enter Tryz.func20, Tryz.ntmps20
    go_wp2_with fail
    refine (hI _).mono ?_; rintro e w' ⟨rfl, rfl⟩
    go_wp2_with fail
    exact bodyPost_ret (mc_res R0'.out rfl _ _ _) rfl ⟨by rw [E.out], R0'.out.done _ _ _⟩
  | true =>
  rw [hfm] at hI
  clear hfm R0
  by_cases h128 : 128 < l.length
  · have d8 : decide ((128 : Int) < l.length) = true := decide_eq_true (by omega)
    have d8n : decide (128 < l.length) = true := decide_eq_true h128
    have E : Hid (dbV (dbW F true l) = _) := dbW_large rfl h128
    obtain ⟨r0, r1, r2, fr0, fr1, fr2⟩ := R0'.out.six
    clear h128
    go_enter Tryz.func20, Tryz.ntmps20
    go_wp2_with fail
    refine (hI _).mono ?_; rintro e w' ⟨rfl, rfl⟩
    go_wp2_with fail
    exact bodyPost_ret (mc_res R0'.out rfl _ _ _) rfl ⟨by rw [E.out], R0'.out.done _ _ _⟩
  have d8 : decide ((128 : Int) < l.length) = false := decide_eq_false (by omega)
  have d8n : decide (128 < l.length) = false := decide_eq_false h128
  have E0 : Hid (dbW F true l = dbE F [] l) := dbW_else rfl h128
  clear h128 R0'
  rw [E0.out]
  have hmm := @run_makeMap Tryz.prog
  go_enter Tryz.func20, Tryz.ntmps20
  go_wp2_with fail
  refine (hI _).mono ?_; rintro e w' ⟨rfl, rfl⟩
  go_wp2_with fail
  clear hmm hW0 d8 d8n hI
  rw [Z0.out]
  go_loopw [25] (fun i wr => ∃ (k : Nat) (f : ByteArray → Option Value), k ≤ l.length ∧ i = .int .i64 k ∧ Hid (dbE F [] l = dbE F (l.take k) (l.drop k)) ∧ Hid (MC w wr (came l k []) f)) (fun i _ => l.length - (intOf i).toNat)
  case atStart => exact ⟨0, _, Nat.zero_le _, rfl, rfl, Lib.hid (by simpa [came] using M0.out)⟩
  case round =>
    clear M0 Z0
    obtain ⟨k, f, hk, rfl, HE, HR⟩ := hrel
    by_cases hlt : k < l.length
    · obtain ⟨p, hp⟩ : ∃ p, l[k]? = some p := ⟨_, List.getElem?_eq_getElem hlt⟩
      have hpm : p ∈ l := List.mem_of_getElem? hp
      have HP := Lib.hid hp; have HPM := Lib.hid hpm
      clear hp hpm
      obtain ⟨b, off, hA, he⟩ := (HD.out.row.below HR.out.rc.bel).elem pk_len k p HP.out
      obtain ⟨e0, e1, e2, e3, e4, e5, e6, e7, e8⟩ := nine he
      have hix := fun W => idx_of (T := 23) (E := 43) (sz := 9) (c := c) Tryz.underlying23 rfl Tryz.sizeOf43 hA hlt W
      have HA := Lib.hid hA
      clear hA he
      have Ra := Lib.hid (HR.out.step ((Below.refl _ _).alloc (Nat.le_refl _) (.cells #[.string p.nm, .string p.ver, .string p.ar, .string p.sm, .slice p.na p.needs.length p.nc, .slice p.ba p.bars.length p.bc, .slice p.ga p.gives.length p.gc, .slice p.fa p.files.length p.fc, .slice p.sa p.scripts.length p.sc] 43)))
      have Ka := Lib.hid (Blk.new wr p.cells 43)
      obtain ⟨W1, hW1⟩ : ∃ W1, wr.alloc (.cells #[.string p.nm, .string p.ver, .string p.ar, .string p.sm, .slice p.na p.needs.length p.nc, .slice p.ba p.bars.length p.bc, .slice p.ga p.gives.length p.gc, .slice p.fa p.files.length p.fc, .slice p.sa p.scripts.length p.sc] 43) = W1 := ⟨_, rfl⟩
      have Rb : Hid (MC w W1 (came l k []) f) := by show MC _ W1 _ _; rw [← hW1]; exact Ra.out
      have Kb : Hid (Blk W1 wr.heap.size p.cells) := by show Blk W1 _ _; rw [← hW1]; exact Ka.out
      have k0 := Kb.out.cell 0 _ rfl
      have k1 := Kb.out.cell 1 _ rfl
      have k2 := Kb.out.cell 2 _ rfl
      have k3 := Kb.out.cell 3 _ rfl
      have k4 := Kb.out.cell 4 _ rfl
      have k5 := Kb.out.cell 5 _ rfl
      have k6 := Kb.out.cell 6 _ rfl
      have k7 := Kb.out.cell 7 _ rfl
      have k8 := Kb.out.cell 8 _ rfl
      clear Ra Ka
      have HC := Lib.hid fun (W : World) (g : Gl W) (h : p.ok W) => HCP.out p HPM.out W g h
      obtain ⟨⟨what, code⟩, hr⟩ : ∃ r, F p = r := ⟨_, rfl⟩
      have HQ := Lib.hid hr; clear hr
      rw [HQ.out] at HC
      by_cases hc : ¬ code = 0
      · rw [ckV_else _ _ hc] at HC
        have q1 : (code != 0) = true := by simp [hc]
        have E : Hid (dbE F [] l = (p.nm, what, code)) := by
          have h1 := pkE_ans (pre := l.take k) (p := p) (ans := (what, code)) hc
          show _ = _
          rw [dbE_bad HP.out HE.out (by rw [HQ.out, h1]; exact hc), HQ.out, h1]
        clear hc
        go_wp2_with fail
        refine (HC.out W1 (HG.out.below Rb.out.rc.bel) ((HD.out.all p HPM.out).below Rb.out.rc.bel)).mono ?_; rintro e w1 ⟨rfl, hb1⟩
        have R1 := Lib.hid ((Rb.out.step hb1).rc.alloc (.cells #[.string p.nm, .string what, .int .i64 code] 49))
        have K1 := Lib.hid (Blk.new w1 [.string p.nm, .string what, .int .i64 code] 49)
        clear hb1 e0 e1 e2 e3 e4 e5 e6 e7 e8 hix k0 k1 k2 k3 k4 k5 k6 k7 k8 hW1
        obtain ⟨W2, hW2⟩ : ∃ W2, w1.alloc (.cells #[.string p.nm, .string what, .int .i64 code] 49) = W2 := ⟨_, rfl⟩
        have R1' : Hid (RC w W2) := by show RC w W2; rw [← hW2]; exact R1.out
        have K1' : Hid (Blk W2 w1.heap.size [.string p.nm, .string what, .int .i64 code]) := by show Blk W2 _ _; rw [← hW2]; exact K1.out
        have k0 := K1'.out.cell 0 _ rfl
        have k1 := K1'.out.cell 1 _ rfl
        have k2 := K1'.out.cell 2 _ rfl
        obtain ⟨r0, r1, r2, fr0, fr1, fr2⟩ := R1'.out.six
        clear R1 K1
        go_wp2_with fail
        exact bodyPost_ret (mc_res R1'.out rfl _ _ _) rfl ⟨by rw [E.out]; rfl, R1'.out.done _ _ _⟩
      obtain rfl : code = 0 := Decidable.not_not.1 hc
      clear hc
      rw [ckV_zero] at HC
      have A0 : Hid ((F p).2 = 0) := by show _ = _; rw [HQ.out]
      go_wp2_with fail
      clear hW1
      refine (HC.out W1 (HG.out.below Rb.out.rc.bel) ((HD.out.all p HPM.out).below Rb.out.rc.bel)).mono ?_; rintro e w1 ⟨rfl, hb1⟩
      have R1 := Lib.hid ((Rb.out.step hb1).step ((Below.refl _ _).alloc (Nat.le_refl _) (.cells #[.string ⟨#[]⟩, .string ⟨#[]⟩, .int .i64 0] 49)))
      have K1 := Lib.hid ((Kb.out.below hb1).alloc (.cells #[.string ⟨#[]⟩, .string ⟨#[]⟩, .int .i64 0] 49))
      have HPB : Hid (w.heap.size + 2 ≤ wr.heap.size) := HR.out.sz
      clear hb1 e0 e1 e2 e3 e4 e5 e6 e7 e8 k0 k1 k2 k3 k4 k5 k6 k7 k8 HC hix Rb Kb HR
      generalize wr.heap.size = pb at *
      go_upto_region 12 with (fail)
      obtain ⟨W2, hW2⟩ : ∃ W2, w1.alloc (.cells #[.string ⟨#[]⟩, .string ⟨#[]⟩, .int .i64 0] 49) = W2 := ⟨_, rfl⟩
      have R1' : Hid (MC w W2 (came l k []) f) := by show MC _ W2 _ _; rw [← hW2]; exact R1.out
      have K1' : Hid (Blk W2 pb p.cells) := by show Blk W2 _ _; rw [← hW2]; exact K1.out
      rw [hW2]
      clear R1 K1 hW2
      go_cut [49] (fun s49 wx => ∃ bb : Bool, s49 = .bool bb ∧ Hid (bb = !ordP l k p) ∧ Hid (MC w wx (came l k []) f) ∧ Hid (Blk wx pb p.cells))
      case first =>
        by_cases k0 : k = 0
        · have k0' : decide (0 < (k : Int)) = false := decide_eq_false (by omega)
          have k0n : decide (0 < k) = false := decide_eq_false (by omega)
          have OB : Hid (false = !ordP l k p) := by show _ = _; rw [k0, ordP_zero]; rfl
          clear k0
          go_quiet (fail)
          go_wp2_with fail
          go_meet
          exact ⟨false, rfl, OB, R1'.out.step (below_drewN (Below.refl _ _) _), K1'.out.drewN _⟩
        · have k0' : decide (0 < (k : Int)) = true := decide_eq_true (by omega)
          have k0n : decide (0 < k) = true := decide_eq_true (by omega)
          have kpos : 0 < k := by omega
          obtain ⟨q, hq⟩ : ∃ q, l[k - 1]? = some q := ⟨_, List.getElem?_eq_getElem (by omega)⟩
          obtain ⟨b2, off2, hA2, he2⟩ := (HD.out.row.below R1'.out.rc.bel).elem pk_len (k - 1) q hq
          have n0 := K1'.out.cell 0 _ rfl
          have p0 := he2 0 _ rfl
          simp only [Nat.add_zero] at p0
          have hixp := fun W => idx_int (T := 23) (E := 43) (sz := 9) (c := c) (i := (k : Int) - 1) Tryz.underlying23 rfl Tryz.sizeOf43 (by omega) hA2 (show k - 1 < l.length by omega) W
          have OB : Hid ((Op.bytesLess p.nm.toList q.nm.toList || p.nm.toList == q.nm.toList) = !ordP l k p) := by
            show _ = _
            have := ordP_succ (l := l) (k := k - 1) p hq
            rw [show k - 1 + 1 = k by omega] at this
            rw [this]; exact leq_bl p.nm q.nm
          have iw : IntKind.i64.wrap ((k : Int) - 1) = (k : Int) - 1 := IntWalk.i64_in _ (by omega)
          clear hq he2 hA2 k0
          go_quiet (fail)
          go_wp2_with fail
          go_meet
          exact ⟨_, rfl, OB, R1'.out.step (below_drewN (Below.refl _ _) _), K1'.out.drewN _⟩
      case rest =>
      clear R1' K1'
      obtain ⟨bb, rfl, HOB, HR2, HK2⟩ := hcut
      cases bb
      case true =>
        have HO : Hid (ordP l k p = false) := by have := HOB.out; show _ = _; revert this; cases ordP l k p <;> simp
        have E : Hid (dbE F [] l = (p.nm, ⟨#[110, 97, 109, 101]⟩, 15)) := by
          have h1 := pkE_ord (ans := F p) A0.out HO.out
          show _ = _
          rw [dbE_bad HP.out HE.out (by rw [h1]; simp), h1]
        have n0 := HK2.out.cell 0 _ rfl
        obtain ⟨r0, r1, r2, fr0, fr1, fr2⟩ := HR2.out.rc.six
        go_wp2_with fail
        exact bodyPost_ret (mc_res HR2.out.rc rfl _ _ _) rfl ⟨by rw [E.out]; rfl, HR2.out.rc.done _ _ _⟩
      have HO : Hid (ordP l k p = true) := by have := HOB.out; show _ = _; revert this; cases ordP l k p <;> simp
      clear HOB
      have SRT : Hid ((fpaths p.files).Pairwise (fun s t => bl s < bl t)) := filesE_fine (fmt := fmt) (HFZ.out p HPM.out A0.out)
      have fl := (HS.out p HPM.out).1
      have n7 := HK2.out.cell 7 _ rfl
      go_wp2_with fail
      clear n7
      go_loopw [56] (fun i wr => ∃ (m : Nat) (f : ByteArray → Option Value), m ≤ p.files.length ∧ i = .int .i64 m ∧ Hid (∀ y ∈ p.files.take m, conf (l.take k) y = false) ∧ Hid (MC w wr (came l k (p.files.take m)) f) ∧ Hid (Blk wr pb p.cells)) (fun i _ => p.files.length - (intOf i).toNat)
      case atStart => exact ⟨0, f, Nat.zero_le _, rfl, by simp [Hid], HR2, HK2⟩
      case round =>
        clear HR2 HK2
        obtain ⟨m, f, hm, rfl, HN, HR, HK⟩ := hrel
        by_cases hml : m < p.files.length
        · obtain ⟨x, hx⟩ : ∃ x, p.files[m]? = some x := ⟨_, List.getElem?_eq_getElem hml⟩
          have HXS : Hid (x.path.size ≤ maxLen) := by
            have := ((HS.out p HPM.out).2 x (List.mem_of_getElem? hx))
            show _ ≤ _; unfold maxLen; omega
          obtain ⟨b', off', hA', he'⟩ := ((HD.out.all p HPM.out).below HR.out.rc.bel).files.elem file_len m x hx
          obtain ⟨f0, f1, f2, f3, f4, f5, f6, f7⟩ := eight he'
          have hix' := fun W => idx_of (T := 40) (E := 67) (sz := 8) (c := p.fc) Tryz.underlying40 rfl Tryz.sizeOf67 hA' hml W
          have HX := Lib.hid hx
          clear hx hA' he'
          obtain ⟨W3, hW3⟩ : ∃ W3, wr.alloc (.cells #[.string x.path, .int .i64 x.kind, .int .i64 x.mode, .string x.owner, .string x.group, .string x.link, .string x.sum, .bool x.conf] 67) = W3 := ⟨_, rfl⟩
          have B3 : Hid (Below wr.heap.size wr W3) := by rw [← hW3]; exact (Below.refl _ _).alloc (Nat.le_refl _) _
          have K3 : Hid (Blk W3 wr.heap.size x.cells) := by rw [← hW3]; exact Blk.new wr x.cells _
          obtain ⟨W4, hW4⟩ : ∃ W4, W3.alloc (.cells #[.int .i64 x.kind, .int .i64 x.mode, .string x.owner, .string x.group, .string x.link] 87) = W4 := ⟨_, rfl⟩
          have B4 : Hid (Below W3.heap.size W3 W4) := by rw [← hW4]; exact (Below.refl _ _).alloc (Nat.le_refl _) _
          have S4 : Hid (Blk W4 W3.heap.size [.int .i64 x.kind, .int .i64 x.mode, .string x.owner, .string x.group, .string x.link]) := by rw [← hW4]; exact Blk.new W3 [.int .i64 x.kind, .int .i64 x.mode, .string x.owner, .string x.group, .string x.link] _
          have M4 := Lib.hid ((HR.out.step B3.out).step B4.out)
          have P4 := Lib.hid ((HK.out.below B3.out).below B4.out)
          have X4 := Lib.hid (K3.out.below B4.out)
          obtain ⟨z, there, hlk, hz1, hz2⟩ := M4.out.look x.path HXS.out
          have HZ1 := Lib.hid hz1; have HZ2 := Lib.hid hz2
          clear hz1 hz2
          have g0 := K3.out.cell 0 _ rfl
          have g1 := K3.out.cell 1 _ rfl
          have g2 := K3.out.cell 2 _ rfl
          have g3 := K3.out.cell 3 _ rfl
          have g4 := K3.out.cell 4 _ rfl
          have g5 := K3.out.cell 5 _ rfl
          have v0 := X4.out.cell 0 _ rfl
          obtain ⟨W5, hW5⟩ : ∃ W5, W4.alloc (.cells #[.int .i64 z.kind, .int .i64 z.mode, .string z.owner, .string z.group, .string z.link] 87) = W5 := ⟨_, rfl⟩
          have B5 : Hid (Below W4.heap.size W4 W5) := by rw [← hW5]; exact (Below.refl _ _).alloc (Nat.le_refl _) _
          have Z5 : Hid (Blk W5 W4.heap.size [.int .i64 z.kind, .int .i64 z.mode, .string z.owner, .string z.group, .string z.link]) := by rw [← hW5]; exact Blk.new W4 [.int .i64 z.kind, .int .i64 z.mode, .string z.owner, .string z.group, .string z.link] _
          go_upto_region 19 with (fail)
          have M5 := Lib.hid (M4.out.step B5.out)
          have P5 := Lib.hid (P4.out.below B5.out)
          have X5 := Lib.hid (X4.out.below B5.out)
          have S5 := Lib.hid (S4.out.below B5.out)
          have HXB : Hid (w.heap.size + 2 ≤ wr.heap.size ∧ pb < wr.heap.size) := ⟨HR.out.sz, HK.out.sz⟩
          clear f0 f1 f2 f3 f4 f5 f6 f7 g0 g1 g2 g3 g4 g5 v0 hix' hlk hW3 hW4 hW5 M4 P4 X4 S4 B3 B4 B5 K3 HR HK
          generalize wr.heap.size = xb at *
          generalize W3.heap.size = sb at *
          generalize W4.heap.size = zb at *
          go_cut [83] (fun s83 wx => ∃ bb : Bool, s83 = .bool bb ∧ Hid (bb = conf (l.take k) x) ∧ Hid (bb = false → f x.path = none ∨ f x.path = some (shV x)) ∧ wx = W5)
          case first =>
            have nq := fun W => neq_shared z x W
            have u0 := Z5.out.cell 0 _ rfl
            have u1 := Z5.out.cell 1 _ rfl
            have u2 := Z5.out.cell 2 _ rfl
            have u3 := Z5.out.cell 3 _ rfl
            have u4 := Z5.out.cell 4 _ rfl
            have v0 := S5.out.cell 0 _ rfl
            have v1 := S5.out.cell 1 _ rfl
            have v2 := S5.out.cell 2 _ rfl
            have v3 := S5.out.cell 3 _ rfl
            have v4 := S5.out.cell 4 _ rfl
            cases there
            · have C0 : Hid (false = conf (l.take k) x) := (M5.out.inv.fresh (HZ1.out (by trivial))).symm
              go_wp2_with fail
              go_meet
              exact ⟨false, rfl, C0, fun _ => .inl (HZ1.out (by trivial)), rfl⟩
            · cases hzx : alikeB z x
              · have C0 : Hid (true = conf (l.take k) x) := (M5.out.inv.other (HZ2.out (by trivial)) (fun e => by rw [(alikeB_iff z x).2 e] at hzx; cases hzx) (sorted_ne SRT.out HX.out)).symm
                rw [hzx] at nq
                clear hzx
                go_wp2_with fail
                go_meet
                exact ⟨true, rfl, C0, (fun h => by cases h), rfl⟩
              · have C1 : Hid (f x.path = some (shV x)) := by show _ = _; rw [HZ2.out (by trivial), (alikeB_iff z x).1 hzx]
                have C0 : Hid (false = conf (l.take k) x) := (M5.out.inv.same C1.out).symm
                rw [hzx] at nq
                clear hzx
                go_wp2_with fail
                go_meet
                exact ⟨false, rfl, C0, fun _ => .inr C1.out, rfl⟩
          case rest =>
          obtain ⟨bb, rfl, HCF, HFX, rfl⟩ := hcut
          have x0 := X5.out.cell 0 _ rfl
          cases bb
          case true =>
            have E : Hid (dbE F [] l = (p.nm, x.path, 8)) := by
              have h1 := pkE_conf (ans := F p) A0.out HO.out HX.out HN.out HCF.out.symm
              show _ = _
              rw [dbE_bad HP.out HE.out (by rw [h1]; simp), h1]
            have n0 := P5.out.cell 0 _ rfl
            obtain ⟨r0, r1, r2, fr0, fr1, fr2⟩ := M5.out.rc.six
            go_wp2_with fail
            exact bodyPost_ret (mc_res M5.out.rc rfl _ _ _) rfl ⟨by rw [E.out]; rfl, M5.out.rc.done _ _ _⟩
          have v0 := S5.out.cell 0 _ rfl
          have v1 := S5.out.cell 1 _ rfl
          have v2 := S5.out.cell 2 _ rfl
          have v3 := S5.out.cell 3 _ rfl
          have v4 := S5.out.cell 4 _ rfl
          have hcl := came_length l k p m HP.out
          have HWL : Hid (wDb l ≤ 100000) := HWD
          obtain ⟨w6, hrun6, hm6, hg6⟩ := M5.out.map.put Tryz.underlying84 (by have := HWL.out; unfold maxLen; omega) x.path HXS.out (shV x)
          have M6 := Lib.hid (M5.out.put (HFX.out rfl) hm6 hg6)
          have P6 := Lib.hid (P5.out.grownC hg6 (by have := HPB.out; omega))
          unfold shV at hrun6
          clear hm6 hg6 hcl
          go_wp2_with fail
          clear hrun6 v0 v1 v2 v3 v4 x0
          go_roundw
          case rel => exact ⟨m + 1, _, by omega, by go_num, Lib.hid (fun z hz => by
            obtain ⟨hk', hf'⟩ := List.getElem?_eq_some_iff.1 HX.out
            rw [List.take_succ_eq_append_getElem hk', hf'] at hz
            rcases List.mem_append.1 hz with hz | hz
            · exact HN.out z hz
            · rw [List.mem_singleton.1 hz]; exact HCF.out.symm), Lib.hid (by rw [came_snoc l k HX.out]; exact M6.out), P6⟩
          case measure => simp [intOf]; omega
        · have F : Hid ((pkE (F p) (l.take k) p).2.2 = 0) := by
            show _ = _
            rw [pkE_fine A0.out HO.out (fun y hy => HN.out y (by rw [List.take_of_length_le (by omega)]; exact hy))]
          have CN : Hid (came l (k + 1) [] = came l k (p.files.take m)) := by show _ = _; rw [came_next HP.out, List.take_of_length_le (by omega)]
          go_wp2_with fail
          go_roundw
          case rel => exact ⟨k + 1, f, by omega, by go_num, Lib.hid (dbE_next HP.out HE.out F.out), Lib.hid (by rw [CN.out]; exact HR.out)⟩
          case measure => simp [intOf]; omega
    · have E := Lib.hid (dbE_end (ans := F) (l := l) (k := k) (by omega) HE.out)
      obtain ⟨r0, r1, r2, fr0, fr1, fr2⟩ := HR.out.rc.six
      go_wp2_with fail
      exact bodyPost_ret (mc_res HR.out.rc rfl _ _ _) rfl ⟨by rw [E.out]; rfl, HR.out.rc.done _ _ _⟩
end
section
open Go.RowKit
theorem info_depC : (Tryz.prog.info? 136).map (fun i => (i.zero, i.size, i.bytes)) = some (some (.agg #[.bool false, .slice none 0 0]), 2, 32) := by kernel_rfl
theorem convert_isFormat (n : Int) (hn : n = 1 ∨ n = 2 ∨ n = 3) (w : World) :
    Calls Tryz.prog 19 #[.int .i64 n] w fun e w' => e = .returned (.bool true) ∧ w' = w := by
  rcases hn with rfl | rfl | rfl <;>
  · go_enter Tryz.func19, Tryz.ntmps19
    go_wp2
    go_ret
    exact ⟨rfl, rfl⟩
theorem dmap_From_nil (n : Int) (hn : n = 1 ∨ n = 2 ∨ n = 3) (A : Option Addr) (c : Nat) (bar : Bool) (w : World) :
    Calls Tryz.prog 46 #[.int .i64 n, .slice A 0 c, .bool bar] w fun e w' => e = .returned (.tuple #[.slice none 0 0, .int .i64 0]) ∧ w' = w := by
  go_enter Tryz.func46, Tryz.ntmps46
  go_wp2_with fail
  refine (dmap_isFormat n w).mono ?_; rintro e w' ⟨rfl, rfl⟩
  rw [decide_eq_true (show isF n from hn)]
  go_wp2_with fail
  refine wp_loop_rounds 1 ?_
  rw [rounds_succ]
  go_wp2_with fail
  go_ret2
  exact ⟨rfl, rfl⟩
theorem dmap_Check_nil (A : Option Addr) (c : Nat) (w : World) :
    Calls Tryz.prog 79 #[.slice A 0 c] w fun e w' => e = .returned (.int .i64 0) ∧ w' = w := by
  go_enter Tryz.func79, Tryz.ntmps79
  go_wp2_with fail
  refine wp_loop_rounds 1 ?_
  rw [rounds_succ]
  go_wp2_with fail
  refine wp_loop_rounds 1 ?_
  rw [rounds_succ]
  go_wp2_with fail
  go_ret
  exact ⟨rfl, rfl⟩
theorem dmap_toRpm_nil (A : Option Addr) (c : Nat) (w : World) :
    Calls Tryz.prog 81 #[.slice A 0 c] w fun e w' => e = .returned (.tuple #[.slice none 0 0, .slice none 0 0, .int .i64 0]) ∧ w' = w := by
  go_enter Tryz.func81, Tryz.ntmps81
  go_wp2_with fail
  refine wp_loop_rounds 1 ?_
  rw [rounds_succ]
  go_wp2_with fail
  go_ret3
  exact ⟨rfl, rfl⟩
theorem dmap_toApk_nil (A : Option Addr) (c : Nat) (w : World) :
    Calls Tryz.prog 82 #[.slice A 0 c] w fun e w' => e = .returned (.tuple #[.slice none 0 0, .int .i64 0]) ∧ w' = w := by
  go_enter Tryz.func82, Tryz.ntmps82
  go_wp2_with fail
  go_ret2
  exact ⟨rfl, rfl⟩
theorem dmap_To_nil (n : Int) (hn : n = 2 ∨ n = 3) (A : Option Addr) (c : Nat) (w : World) :
    Calls Tryz.prog 47 #[.int .i64 n, .slice A 0 c] w fun e w' => e = .returned (.tuple #[.slice none 0 0, .slice none 0 0, .int .i64 0]) ∧ Below w.heap.size w w' := by
  obtain ⟨i0, hi0, hz0, hz1, hz2⟩ := info_parts info_depC
  rcases hn with rfl | rfl
  all_goals
    go_enter Tryz.func47, Tryz.ntmps47
    go_wp2_with fail
    refine (dmap_isFormat _ w).mono ?_; rintro e w' ⟨rfl, rfl⟩
    rw [decide_eq_true (by unfold isF; decide)]
    go_wp2_with fail
    refine (dmap_Check_nil A c w).mono ?_; rintro e w' ⟨rfl, rfl⟩
    go_wp2_with (
      refine wpList_make_own _ rfl _ _ 101 rfl w'.heap.size 136 i0 _ 2 Tryz.underlying101 hi0 hz0 hz1 .i64 .i64 0 0 rfl rfl rfl (by rw [hz2]; omega) (by simp only [maxLen]; omega) (by omega) ?_
      intro w1 hr1 hg1)
    have L1 := Lib.hid ((Below.refl w'.heap.size w').grown hg1 (Nat.le_refl _) (by simp))
    clear hr1 hg1
    refine wp_loop_rounds 1 ?_
    rw [rounds_succ]
    go_wp2_with fail
    first
      | (refine (dmap_toRpm_nil _ _ _).mono ?_; rintro e w' ⟨rfl, rfl⟩)
      | (refine (dmap_toApk_nil _ _ _).mono ?_; rintro e w' ⟨rfl, rfl⟩)
    go_wp2_with fail
    go_ret3
    exact ⟨rfl, L1.out⟩
theorem index_none (A : Option Addr) (c : Nat) (f : Value) (w : World) :
    Calls Tryz.prog 85 #[.slice A 0 c, f] w fun e w' => e = .returned (.int .i64 (-1)) ∧ w' = w := by
  go_enter Tryz.func85, Tryz.ntmps85
  go_wp2_with fail
  refine wp_loop_rounds 1 ?_
  rw [rounds_succ]
  go_wp2_with fail
  go_ret
  exact ⟨rfl, rfl⟩
theorem contains_none (A : Option Addr) (c : Nat) (f : Value) (w : World) :
    Calls Tryz.prog 52 #[.slice A 0 c, f] w fun e w' => e = .returned (.bool false) ∧ w' = w := by
  go_enter Tryz.func52, Tryz.ntmps52
  go_wp2_with fail
  refine (index_none A c f w).mono ?_; rintro e w' ⟨rfl, rfl⟩
  go_wp2_with fail
  go_ret
  exact ⟨rfl, rfl⟩
theorem learn_nil (a : Addr) (c : Nat) (A : Option Addr) (w : World) :
    Calls Tryz.prog 21 #[.pointer (some a), .slice A 0 c] w fun e w' => e = .returned (.tuple #[]) ∧ w' = w := by
  go_enter Tryz.func21, Tryz.ntmps21
  go_wp2_with fail
  refine wp_loop_rounds 1 ?_
  rw [rounds_succ]
  go_wp2_with fail
  go_end0
  exact ⟨rfl, rfl⟩
theorem owns_cell {w : World} {base : Nat} {e : TypeId} {size n c : Nat} {A : Option Addr} {xs : List Value} (h : w.ownsRow base e size (.slice A n c) n xs) (hn : 0 < n) :
    ∃ g, A = some ⟨g, 0, none⟩ ∧ base ≤ g ∧ g < w.heap.size ∧ (∀ j, j < n * size → ∃ v, w.cell? ⟨g, j, none⟩ = some v) ∧ ∀ j, w.frozen? ⟨g, j, none⟩ = false := by
  obtain ⟨g, cap, hv, hb, hlt⟩ := h.form hn
  obtain ⟨rfl, rfl⟩ : A = some ⟨g, 0, none⟩ ∧ c = cap := by injection hv with h1 _ h2; exact ⟨h1, h2⟩
  refine ⟨g, rfl, hb, hlt, fun j hj => ?_, fun j => h.frozenAt j⟩
  have hl : j < xs.length := by rw [h.1]; exact hj
  exact ⟨xs[j], by rw [h.cellAt j hj, List.getElem?_eq_getElem hl]⟩
theorem owns_out {w0 wr : World} {base hi : Nat} {e : TypeId} {size n : Nat} {v : Value} {xs : List Value} (h : w0.ownsRow base e size v n xs) (hb : hi ≤ base) (ho : ∀ i : Nat, hi ≤ i → wr.heap[i]? = w0.heap[i]?) : wr.ownsRow base e size v n xs := by
  refine ⟨h.1, ?_⟩
  rcases h.2 with h0 | ⟨g, cap, cur, hv, hg, hh, r⟩
  · exact .inl h0
  · exact .inr ⟨g, cap, cur, hv, hg, (ho g (by omega)).trans hh, r⟩
theorem len_wStrs (l : List ByteArray) : l.length ≤ wStrs l := by
  unfold wStrs; induction l with | nil => simp | cons a r ih => simp at *; omega
theorem len_wAtoms (l : List AtomM) : l.length ≤ wAtoms l := by
  unfold wAtoms; induction l with | nil => simp | cons a r ih => simp at *; omega
theorem len_wFiles (l : List FileM) : l.length ≤ wFiles l := by
  unfold wFiles; induction l with | nil => simp | cons a r ih => simp at *; omega
theorem len_wScripts (l : List ScriptM) : l.length ≤ wScripts l := by
  unfold wScripts; induction l with | nil => simp | cons a r ih => simp at *; omega
theorem wDb_mem : ∀ (l : List PkL) (p : PkL), p ∈ l → wsum p ≤ wDb l
  | [], p, h => by simp at h
  | a :: r, p, h => by
    unfold wDb; simp
    rcases List.mem_cons.1 h with rfl | h
    · omega
    · have := wDb_mem r p h; unfold wDb at this; omega
theorem few_of_light {l : List PkL} (h : wDb l ≤ 100000) (p : PkL) (hp : p ∈ l) : p.few := by
  have h1 := wDb_mem l p hp
  have a1 := len_wStrs p.needs; have a2 := len_wStrs p.bars; have a3 := len_wAtoms p.gives; have a4 := len_wFiles p.files; have a5 := len_wScripts p.scripts
  unfold wsum at h1
  exact ⟨by omega, by omega, by omega, by omega, by omega⟩
end
section
open Go.ChangeShapes Go.WideShapes Go.Deep Go.RowKit
section
variable {H : Type} {enc : TypeId × Value → H} {w : World} {spare : Nat → Bool}
theorem byte_of_wf {x : Int} (h : (Lit.int .u8 x).wf = true) : ∃ c : UInt8, x = (c.toNat : Int) := by
  have hb : 0 ≤ x ∧ x < 256 := by
    have h2 : (0 : Int) ≤ x ∧ x ≤ 255 := by
      unfold Lit.wf at h
      rw [Bool.and_eq_true, decide_eq_true_eq, decide_eq_true_eq] at h
      rw [show IntKind.u8.min = 0 by kernel_rfl, show IntKind.u8.max = 255 by kernel_rfl] at h
      exact h
    omega
  refine ⟨UInt8.ofNat x.toNat, ?_⟩
  have : x.toNat < 256 := by omega
  simp
  omega
theorem open_bytes {fuel : Nat} {v : Value} {d : DataW H × List MemPlace} (h : DataW.trod enc Tryz.prog w 0 spare true fuel 22 [v] = some d) :
    ∃ (A : Option Addr) (n c : Nat) (l : List UInt8), v = .slice A n c ∧ Rd w 1 A n (l.map vb) ∧ n ≤ c ∧ c ≤ 9223372036854775807 := by
  rcases open_slice Tryz.underlying22 h with ⟨hcs, _⟩ | ⟨a, len, cap, m, n, D, Pl, hcs, _, hl, hm, hmm, _, hi⟩
  · injection hcs with hcs _
    exact ⟨none, 0, 0, [], hcs, Rd.nil _ _ _, Nat.zero_le _, Nat.zero_le _⟩
  · injection hcs with hcs _
    have hlen : len ≤ m := by rw [hmm]; split <;> omega
    have key : ∀ i, i < len → ∃ x : UInt8, w.cell? ⟨a.block, a.off + i, none⟩ = some (vb x) ∧ a.add i = ⟨a.block, a.off + i, none⟩ := by
      intro i hi'
      obtain ⟨cs', hc, ht'⟩ := hi i (by omega)
      rw [show Tryz.prog.cellsOf 5 = 1 by kernel_rfl] at hc
      obtain ⟨_, hcl, hat⟩ := World.cells?_some hc
      obtain ⟨s, hs, _, hsz⟩ := DataW.trod_int Tryz.underlying5 ht'
      have h0 := hat 0 (by omega)
      rw [hs, Nat.mul_one] at h0
      have h1 : w.cell? (a.add i) = some (.int .u8 s) := by
        have e : (a.add i).add 0 = a.add i := by simp [Addr.add]
        rw [e] at h0; simpa using h0
      have h2 := addr_flat h1
      obtain ⟨x, rfl⟩ := byte_of_wf hsz
      exact ⟨x, by rw [← h2]; exact h1, h2⟩
    obtain ⟨l, hll, hlq⟩ := list_of len key
    refine ⟨some a, len, cap, l, hcs, ⟨by simp [hll], fun hn => ?_⟩, hl, by unfold maxLen at hm; omega⟩
    · refine ⟨a.block, a.off, ?_, fun j u hu => ?_⟩
      · have h2 := (hlq 0 _ (List.getElem?_eq_getElem (by rw [hll]; exact hn))).2
        simp only [Addr.add, if_pos, Nat.add_zero] at h2
        rw [← h2]
      · simp only [List.getElem?_map, Option.map_eq_some_iff] at hu
        obtain ⟨x, hx, rfl⟩ := hu
        exact (hlq j x hx).1
end
end
end Go.Proofs.YtlhchpeecfbgnaaGreatDoor
