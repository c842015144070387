/- Contract: a copy of a database, in new memory: the walk. -/
import Derived.Test.YtdfdllbebfoggaaGreatDoorMk4
namespace Go.Proofs.YtdfdllbebfoggaaGreatDoor
open Go.RowKit

theorem one_str (l : List ByteArray) : ∀ u ∈ strCells l, u.oneCell' = true := by
  intro u hu; simp only [strCells, List.mem_map] at hu; obtain ⟨x, _, rfl⟩ := hu; rfl
theorem one_flat {α : Type} {f : α → List Value} (hf : ∀ x, ∀ u ∈ f x, u.oneCell' = true) (l : List α) : ∀ u ∈ l.flatMap f, u.oneCell' = true := by
  intro u hu; simp only [List.mem_flatMap] at hu; obtain ⟨x, _, h⟩ := hu; exact hf x u h
theorem one_atom (x : AtomM) : ∀ u ∈ x.cells, u.oneCell' = true := by intro u hu; simp only [AtomM.cells, List.mem_cons, List.not_mem_nil, or_false] at hu; rcases hu with rfl | rfl | rfl <;> rfl
theorem one_file (x : FileM) : ∀ u ∈ x.cells, u.oneCell' = true := by intro u hu; simp only [FileM.cells, List.mem_cons, List.not_mem_nil, or_false] at hu; rcases hu with rfl | rfl | rfl | rfl | rfl | rfl | rfl | rfl <;> rfl
theorem one_script (x : ScriptM) : ∀ u ∈ x.cells, u.oneCell' = true := by intro u hu; simp only [ScriptM.cells, List.mem_cons, List.not_mem_nil, or_false] at hu; rcases hu with rfl | rfl <;> rfl
theorem one_pk (x : PkL) : ∀ u ∈ x.cells, u.oneCell' = true := by intro u hu; simp only [PkL.cells, List.mem_cons, List.not_mem_nil, or_false] at hu; rcases hu with rfl | rfl | rfl | rfl | rfl | rfl | rfl | rfl | rfl <;> rfl

/-- Few packages, with short lists. -/
structure PkL.few (p : PkL) : Prop where
  needs : p.needs.length ≤ 100000
  bars : p.bars.length ≤ 100000
  gives : p.gives.length ≤ 100000
  files : p.files.length ≤ 100000
  scripts : p.scripts.length ≤ 100000

/-- What Copy answers. -/
def CopyPost (l : List PkL) (w : World) (e : Ending) (w' : World) : Prop :=
  ∃ (A : Option Addr) (c g0 : Nat) (l' : List PkL), e = .returned (.slice A l.length c) ∧ l'.length = l.length ∧ (∀ (i : Nat) (p q : PkL), l[i]? = some p → l'[i]? = some q → p.alike q) ∧ DbOwn w' w.heap.size g0 (.slice A l.length c) l' ∧ Below w.heap.size w w'

set_option maxRecDepth 100000 in
set_option maxHeartbeats 4000000 in
theorem model_Copy (A : Option Addr) (c : Nat) (l : List PkL) (w : World) (hd : DbOk w A l) (hl : l.length ≤ 100000) (hf : ∀ p ∈ l, p.few) :
    Calls Tryz.prog 21 #[.slice A l.length c] w (CopyPost l w) := by
  have HD := Lib.hid hd; clear hd
  have HF := Lib.hid hf; clear hf
  go_enter Tryz.func21, Tryz.ntmps21
  go_wp2_with fail
  refine (again_Package A l.length c _ _ HD.out.row (one_flat one_pk l) hl).mono ?_
  rintro e w1 ⟨v, rfl, hown, hb1⟩
  obtain ⟨A0, c0, rfl⟩ := owns_form hown
  have HO := Lib.hid hown; clear hown
  have HB := Lib.hid hb1; clear hb1
  by_cases hz : l = []
  · subst hz
    go_wp2_with fail
    refine wp_loop_rounds 1 ?_
    rw [rounds_succ]
    go_wp2_with fail
    go_ret
    exact ⟨A0, c0, 0, [], rfl, rfl, (fun i p q hp hq => by simp at hp), ⟨HO.out, (fun h => by simp at h), (fun q hq => by simp at hq)⟩, HB.out⟩
  · have hpos : 0 < l.length := List.length_pos_iff.2 hz
    clear hz
    obtain ⟨g0, cap, hv, hg, hg'⟩ := HO.out.form hpos
    obtain ⟨rfl, rfl⟩ : A0 = some ⟨g0, 0, none⟩ ∧ c0 = cap := by injection hv with h1 _ h2; exact ⟨h1, h2⟩
    clear hv
    go_wp2_with fail
    go_loopw [10] (fun i wr => ∃ (k : Nat) (qs : List PkL), k ≤ l.length ∧ i = .int .i64 k ∧ Hid (qs.length = k ∧ (∀ (i : Nat) (p q : PkL), l[i]? = some p → qs[i]? = some q → p.alike q) ∧ wr.ownsRow w.heap.size 27 9 (.slice (some ⟨g0, 0, none⟩) l.length c0) l.length ((qs ++ l.drop k).flatMap PkL.cells) ∧ (∀ q ∈ qs, PkOwn q wr (g0 + 1)) ∧ Below w.heap.size w wr)) (fun i _ => l.length - (intOf i).toNat)
    case atStart => exact ⟨0, [], Nat.zero_le _, rfl, rfl, (fun i p q _ hq => by simp at hq), (by simpa using HO.out), (fun q hq => by simp at hq), HB.out⟩
    case round =>
      obtain ⟨k, qs, hk, rfl, HR⟩ := hrel
      by_cases hlt : k < l.length
      · obtain ⟨p, hp⟩ : ∃ p, l[k]? = some p := ⟨_, List.getElem?_eq_getElem hlt⟩
        have hpm : p ∈ l := List.mem_of_getElem? hp
        obtain ⟨h1, h2, h3, h4, h5⟩ := HR.out
        obtain ⟨b, off, hA, he⟩ := (HD.out.row.below h5).elem pk_len k p hp
        have e0 := he 0 _ rfl
        have e1 := he 1 _ rfl
        have e2 := he 2 _ rfl
        have e3 := he 3 _ rfl
        have e4 := he 4 _ rfl
        have e5 := he 5 _ rfl
        have e6 := he 6 _ rfl
        have e7 := he 7 _ rfl
        have e8 := he 8 _ rfl
        simp only [Nat.add_zero] at e0
        have hix := fun W => idx_of (T := 40) (E := 27) (sz := 9) (c := c) Tryz.underlying40 rfl Tryz.sizeOf27 hA hlt W
        have hdrop : l.drop k = p :: l.drop (k + 1) := by rw [List.drop_eq_getElem_cons hlt]; congr 1; exact (List.getElem?_eq_some_iff.1 hp).2
        have hgw : g0 < wr.heap.size := (h3.lt g0 rfl).2
        have hkk : k * 9 + 9 ≤ l.length * 9 := by omega
        rw [hdrop] at h3
        have O := PkL.ok.below ((HD.out.all p hpm).below h5) ((Below.refl _ _).alloc (Nat.le_refl _) (.cells #[.string p.nm, .string p.ver, .string p.ar, .string p.sm, .slice p.na p.needs.length p.nc, .slice p.ba p.bars.length p.bc, .slice p.ga p.gives.length p.gc, .slice p.fa p.files.length p.fc, .slice p.sa p.scripts.length p.sc] 27))
        have few := HF.out p hpm
        have H1 := Lib.hid h1; have H2 := Lib.hid h2; have R0 := Lib.hid h3; have H4 := Lib.hid h4; have H5 := Lib.hid h5; have HDR := Lib.hid hdrop; have HP := Lib.hid hp; have OK := Lib.hid O; have FEW := Lib.hid few; have HPM := Lib.hid hpm
        clear h1 h2 h3 h4 h5 hdrop hp hA he O few hpm HR
        have hn1 : ¬ g0 = wr.heap.size := by omega
        have hn2 : ¬ wr.heap.size = g0 := by omega
        go_wp2_with fail
        refine (again_str p.na p.needs.length p.nc (strCells p.needs) _ (by exact OK.out.needs) (one_str _) FEW.out.needs).mono ?_
        rintro e w2 ⟨v1, rfl, o1, b1⟩
        obtain ⟨a1, c1, rfl⟩ := owns_form o1
        have R1 := Lib.hid (owns_below (R0.out.alloc _) b1)
        have G1 := Lib.hid (only_below (World.grownBy.refl (wr.alloc (.cells #[.string p.nm, .string p.ver, .string p.ar, .string p.sm, .slice p.na p.needs.length p.nc, .slice p.ba p.bars.length p.bc, .slice p.ga p.gives.length p.gc, .slice p.fa p.files.length p.fc, .slice p.sa p.scripts.length p.sc] 27)) (some g0)) b1)
        have O1 := Lib.hid o1; have B1 := Lib.hid b1; clear o1 b1
        have kb : ∀ j : Nat, w2.cell? ⟨wr.heap.size, j, none⟩ = (wr.alloc (.cells #[.string p.nm, .string p.ver, .string p.ar, .string p.sm, .slice p.na p.needs.length p.nc, .slice p.ba p.bars.length p.bc, .slice p.ga p.gives.length p.gc, .slice p.fa p.files.length p.fc, .slice p.sa p.scripts.length p.sc] 27)).cell? ⟨wr.heap.size, j, none⟩ := fun j => World.cell?_of_block (G1.out.block wr.heap.size (by simp) (by intro h; injection h with h; omega))
        have x1 : w2.cell? ⟨wr.heap.size, 5, none⟩ = some _ := (kb 5).trans (by simp; rfl)
        clear kb
        have y1 : w2.cell? ⟨g0, k * 9 + 4, none⟩ = some (.slice p.na p.needs.length p.nc) := by
          rw [R1.out.cellAt (k * 9 + 4) (by omega)]
          exact xs_at0 qs (l.drop (k + 1)) p k H1.out 
        have z1 := R1.out.frozenAt (k * 9 + 4)
        have RS1 := Lib.hid (R1.out.stored (k * 9 + 4) (.slice a1 p.needs.length c1)).1
        have GS1 := Lib.hid (only_setCell G1.out (p := ⟨g0, k * 9 + 4, none⟩) (.inl rfl) (.slice a1 p.needs.length c1))
        have OKb1 : Hid (p.ok (w2.setCell ⟨g0, k * 9 + 4, none⟩ (.slice a1 p.needs.length c1))) := ok_far (HD.out.all p HPM.out) H5.out ((World.grownBy.refl wr (some g0) |> fun h => only_alloc h _) |> fun h => grown_thru h GS1.out) (by have := H5.out.size; omega)
        go_wp2_with fail
        refine (again_str p.ba p.bars.length p.bc (strCells p.bars) _ (by exact (OKb1.out.bars)) (one_str _) FEW.out.bars).mono ?_
        rintro e w3 ⟨v2, rfl, o2, b2⟩
        obtain ⟨a2, c2, rfl⟩ := owns_form o2
        have R2 := Lib.hid (owns_below RS1.out b2)
        have G2 := Lib.hid (only_below GS1.out b2)
        have O2 := Lib.hid o2; have B2 := Lib.hid b2; clear o2 b2
        have kb : ∀ j : Nat, w3.cell? ⟨wr.heap.size, j, none⟩ = (wr.alloc (.cells #[.string p.nm, .string p.ver, .string p.ar, .string p.sm, .slice p.na p.needs.length p.nc, .slice p.ba p.bars.length p.bc, .slice p.ga p.gives.length p.gc, .slice p.fa p.files.length p.fc, .slice p.sa p.scripts.length p.sc] 27)).cell? ⟨wr.heap.size, j, none⟩ := fun j => World.cell?_of_block (G2.out.block wr.heap.size (by simp) (by intro h; injection h with h; omega))
        have x2 : w3.cell? ⟨wr.heap.size, 6, none⟩ = some _ := (kb 6).trans (by simp; rfl)
        clear kb
        have y2 : w3.cell? ⟨g0, k * 9 + 5, none⟩ = some (.slice p.ba p.bars.length p.bc) := by
          rw [R2.out.cellAt (k * 9 + 5) (by omega)]
          exact xs_at1 qs (l.drop (k + 1)) p k H1.out (.slice a1 p.needs.length c1)
        have z2 := R2.out.frozenAt (k * 9 + 5)
        have RS2 := Lib.hid (R2.out.stored (k * 9 + 5) (.slice a2 p.bars.length c2)).1
        have GS2 := Lib.hid (only_setCell G2.out (p := ⟨g0, k * 9 + 5, none⟩) (.inl rfl) (.slice a2 p.bars.length c2))
        have OKb2 : Hid (p.ok (w3.setCell ⟨g0, k * 9 + 5, none⟩ (.slice a2 p.bars.length c2))) := ok_far (HD.out.all p HPM.out) H5.out ((World.grownBy.refl wr (some g0) |> fun h => only_alloc h _) |> fun h => grown_thru h GS2.out) (by have := H5.out.size; omega)
        clear x1
        go_wp2_with fail
        refine (again_Atom p.ga p.gives.length p.gc (p.gives.flatMap AtomM.cells) _ (by exact (OKb2.out.gives)) (one_flat one_atom _) FEW.out.gives).mono ?_
        rintro e w4 ⟨v3, rfl, o3, b3⟩
        obtain ⟨a3, c3, rfl⟩ := owns_form o3
        have R3 := Lib.hid (owns_below RS2.out b3)
        have G3 := Lib.hid (only_below GS2.out b3)
        have O3 := Lib.hid o3; have B3 := Lib.hid b3; clear o3 b3
        have kb : ∀ j : Nat, w4.cell? ⟨wr.heap.size, j, none⟩ = (wr.alloc (.cells #[.string p.nm, .string p.ver, .string p.ar, .string p.sm, .slice p.na p.needs.length p.nc, .slice p.ba p.bars.length p.bc, .slice p.ga p.gives.length p.gc, .slice p.fa p.files.length p.fc, .slice p.sa p.scripts.length p.sc] 27)).cell? ⟨wr.heap.size, j, none⟩ := fun j => World.cell?_of_block (G3.out.block wr.heap.size (by simp) (by intro h; injection h with h; omega))
        have x3 : w4.cell? ⟨wr.heap.size, 7, none⟩ = some _ := (kb 7).trans (by simp; rfl)
        clear kb
        have y3 : w4.cell? ⟨g0, k * 9 + 6, none⟩ = some (.slice p.ga p.gives.length p.gc) := by
          rw [R3.out.cellAt (k * 9 + 6) (by omega)]
          exact xs_at2 qs (l.drop (k + 1)) p k H1.out (.slice a1 p.needs.length c1) (.slice a2 p.bars.length c2)
        have z3 := R3.out.frozenAt (k * 9 + 6)
        have RS3 := Lib.hid (R3.out.stored (k * 9 + 6) (.slice a3 p.gives.length c3)).1
        have GS3 := Lib.hid (only_setCell G3.out (p := ⟨g0, k * 9 + 6, none⟩) (.inl rfl) (.slice a3 p.gives.length c3))
        have OKb3 : Hid (p.ok (w4.setCell ⟨g0, k * 9 + 6, none⟩ (.slice a3 p.gives.length c3))) := ok_far (HD.out.all p HPM.out) H5.out ((World.grownBy.refl wr (some g0) |> fun h => only_alloc h _) |> fun h => grown_thru h GS3.out) (by have := H5.out.size; omega)
        clear x2
        go_wp2_with fail
        refine (again_File p.fa p.files.length p.fc (p.files.flatMap FileM.cells) _ (by exact (OKb3.out.files)) (one_flat one_file _) FEW.out.files).mono ?_
        rintro e w5 ⟨v4, rfl, o4, b4⟩
        obtain ⟨a4, c4, rfl⟩ := owns_form o4
        have R4 := Lib.hid (owns_below RS3.out b4)
        have G4 := Lib.hid (only_below GS3.out b4)
        have O4 := Lib.hid o4; have B4 := Lib.hid b4; clear o4 b4
        have kb : ∀ j : Nat, w5.cell? ⟨wr.heap.size, j, none⟩ = (wr.alloc (.cells #[.string p.nm, .string p.ver, .string p.ar, .string p.sm, .slice p.na p.needs.length p.nc, .slice p.ba p.bars.length p.bc, .slice p.ga p.gives.length p.gc, .slice p.fa p.files.length p.fc, .slice p.sa p.scripts.length p.sc] 27)).cell? ⟨wr.heap.size, j, none⟩ := fun j => World.cell?_of_block (G4.out.block wr.heap.size (by simp) (by intro h; injection h with h; omega))
        have x4 : w5.cell? ⟨wr.heap.size, 8, none⟩ = some _ := (kb 8).trans (by simp; rfl)
        clear kb
        have y4 : w5.cell? ⟨g0, k * 9 + 7, none⟩ = some (.slice p.fa p.files.length p.fc) := by
          rw [R4.out.cellAt (k * 9 + 7) (by omega)]
          exact xs_at3 qs (l.drop (k + 1)) p k H1.out (.slice a1 p.needs.length c1) (.slice a2 p.bars.length c2) (.slice a3 p.gives.length c3)
        have z4 := R4.out.frozenAt (k * 9 + 7)
        have RS4 := Lib.hid (R4.out.stored (k * 9 + 7) (.slice a4 p.files.length c4)).1
        have GS4 := Lib.hid (only_setCell G4.out (p := ⟨g0, k * 9 + 7, none⟩) (.inl rfl) (.slice a4 p.files.length c4))
        have OKb4 : Hid (p.ok (w5.setCell ⟨g0, k * 9 + 7, none⟩ (.slice a4 p.files.length c4))) := ok_far (HD.out.all p HPM.out) H5.out ((World.grownBy.refl wr (some g0) |> fun h => only_alloc h _) |> fun h => grown_thru h GS4.out) (by have := H5.out.size; omega)
        clear x3
        go_wp2_with fail
        refine (again_Script p.sa p.scripts.length p.sc (p.scripts.flatMap ScriptM.cells) _ (by exact (OKb4.out.scripts)) (one_flat one_script _) FEW.out.scripts).mono ?_
        rintro e w6 ⟨v5, rfl, o5, b5⟩
        obtain ⟨a5, c5, rfl⟩ := owns_form o5
        have R5 := Lib.hid (owns_below RS4.out b5)
        have G5 := Lib.hid (only_below GS4.out b5)
        have O5 := Lib.hid o5; have B5 := Lib.hid b5; clear o5 b5
        have kb : ∀ j : Nat, w6.cell? ⟨wr.heap.size, j, none⟩ = (wr.alloc (.cells #[.string p.nm, .string p.ver, .string p.ar, .string p.sm, .slice p.na p.needs.length p.nc, .slice p.ba p.bars.length p.bc, .slice p.ga p.gives.length p.gc, .slice p.fa p.files.length p.fc, .slice p.sa p.scripts.length p.sc] 27)).cell? ⟨wr.heap.size, j, none⟩ := fun j => World.cell?_of_block (G5.out.block wr.heap.size (by simp) (by intro h; injection h with h; omega))
        clear kb
        have y5 : w6.cell? ⟨g0, k * 9 + 8, none⟩ = some (.slice p.sa p.scripts.length p.sc) := by
          rw [R5.out.cellAt (k * 9 + 8) (by omega)]
          exact xs_at4 qs (l.drop (k + 1)) p k H1.out (.slice a1 p.needs.length c1) (.slice a2 p.bars.length c2) (.slice a3 p.gives.length c3) (.slice a4 p.files.length c4)
        have z5 := R5.out.frozenAt (k * 9 + 8)
        have RS5 := Lib.hid (R5.out.stored (k * 9 + 8) (.slice a5 p.scripts.length c5)).1
        have GS5 := Lib.hid (only_setCell G5.out (p := ⟨g0, k * 9 + 8, none⟩) (.inl rfl) (.slice a5 p.scripts.length c5))
        clear x4
        go_wp2_with fail
        have D5 := only_setCell (World.grownBy.refl w6 (some g0)) (p := ⟨g0, k * 9 + 8, none⟩) (.inl rfl) (.slice a5 p.scripts.length c5)
        have D4 := grown_thru (only_below (only_setCell (World.grownBy.refl w5 (some g0)) (p := ⟨g0, k * 9 + 7, none⟩) (.inl rfl) (.slice a4 p.files.length c4)) B5.out) D5
        have D3 := grown_thru (only_below (only_setCell (World.grownBy.refl w4 (some g0)) (p := ⟨g0, k * 9 + 6, none⟩) (.inl rfl) (.slice a3 p.gives.length c3)) B4.out) D4
        have D2 := grown_thru (only_below (only_setCell (World.grownBy.refl w3 (some g0)) (p := ⟨g0, k * 9 + 5, none⟩) (.inl rfl) (.slice a2 p.bars.length c2)) B3.out) D3
        have D1 := grown_thru (only_below (only_setCell (World.grownBy.refl w2 (some g0)) (p := ⟨g0, k * 9 + 4, none⟩) (.inl rfl) (.slice a1 p.needs.length c1)) B2.out) D2
        have GE := grown_thru (only_alloc (World.grownBy.refl wr (some g0)) _) GS5.out
        have sz1 := G1.out.size; have sz2 := G2.out.size; have sz3 := G3.out.size; have sz4 := G4.out.size
        have hq : PkOwn { p with na := a1, nc := c1, ba := a2, bc := c2, ga := a3, gc := c3, fa := a4, fc := c4, sa := a5, sc := c5 } _ (g0 + 1) := ⟨owns_kept (owns_base O1.out (by simp; omega)) (Nat.lt_succ_self _) D1, owns_kept (owns_base O2.out (by simp at *; omega)) (Nat.lt_succ_self _) D2, owns_kept (owns_base O3.out (by simp at *; omega)) (Nat.lt_succ_self _) D3, owns_kept (owns_base O4.out (by simp at *; omega)) (Nat.lt_succ_self _) D4, owns_kept (owns_base O5.out (by simp at *; omega)) (Nat.lt_succ_self _) D5⟩
        have F1 : (qs ++ [({ p with na := a1, nc := c1, ba := a2, bc := c2, ga := a3, gc := c3, fa := a4, fc := c4, sa := a5, sc := c5 } : PkL)]).length = k + 1 := by rw [List.length_append, H1.out]; rfl
        have F2 := alike_snoc (q := { p with na := a1, nc := c1, ba := a2, bc := c2, ga := a3, gc := c3, fa := a4, fc := c4, sa := a5, sc := c5 }) H1.out H2.out HP.out ⟨rfl, rfl, rfl, rfl, rfl, rfl, rfl, rfl, rfl⟩
        have F3 := RS5.out
        rw [xs_final qs (l.drop (k + 1)) p k H1.out a1 a2 a3 a4 a5 c1 c2 c3 c4 c5] at F3
        have F4 := below_grown H5.out GE hg
        have F5 : ∀ q ∈ qs ++ [({ p with na := a1, nc := c1, ba := a2, bc := c2, ga := a3, gc := c3, fa := a4, fc := c4, sa := a5, sc := c5 } : PkL)], PkOwn q _ (g0 + 1) := fun q hqm => (List.mem_append.1 hqm).elim (fun h => (H4.out q h).kept (Nat.lt_succ_self _) GE) (fun h => by rw [List.mem_singleton.1 h]; exact hq)
        have K1 := Lib.hid F1; have K2 := Lib.hid F2; have K3 := Lib.hid F3; have K4 := Lib.hid F4; have K5 := Lib.hid F5
        clear F1 F2 F3 F4 F5 hq D1 D2 D3 D4 D5 GE sz1 sz2 sz3 sz4
        go_roundw
        case rel => exact ⟨k + 1, _, by omega, by go_num, K1.out, K2.out, K3.out, K5.out, K4.out⟩
        case measure => simp [intOf]; omega
      · go_wp2_with fail
        go_ret
        obtain ⟨h1, h2, h3, h4, h5⟩ := HR.out
        have hkl : k = l.length := by omega
        exact ⟨_, _, g0, qs, rfl, by omega, h2, ⟨by rw [List.drop_of_length_le (by omega), List.append_nil] at h3; rw [h1, hkl]; exact h3, fun _ => rfl, h4⟩, h5⟩
end Go.Proofs.YtdfdllbebfoggaaGreatDoor
