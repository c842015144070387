/- A part of the proof of a law on which findings a policy admits. No condition. -/
import Derived.Test.YtfgidaaipmbibaaGreatDoorF06
import Derived.Test.YtfgidaaipmbibaaGreatDoorF10
set_option maxRecDepth 100000
set_option maxHeartbeats 20000000
set_option linter.unusedVariables false
set_option linter.unusedSimpArgs false
namespace Go.Proofs.YtfgidaaipmbibaaGreatDoor
section
open Go.ChangeShapes Go.WideShapes Go.ChangeAt Go.RowKit
theorem cells_of_strs {H : Type} {enc : TypeId × Value → H} {P : Program} {w : World} {base : Nat} {sp : Nat → Bool} {held : Bool} {fuel : Nat} {t e : TypeId} {n : Nat} {cs : List Value} {zs : List (List UInt8)} {p : List MemPlace}
    (ht : P.underlying t = some (.array n e)) (he : P.underlying e = some .string) (hce : P.cellsOf e = 1) (hct : P.cellsOf t = n)
    (h : DataW.trod enc P w base sp held fuel t cs = some (.agg (zs.map fun z => .lit (.string z)), p)) : cs = zs.map fun z => Value.string ⟨z.toArray⟩ := by
  cases fuel with
  | zero => simp [DataW.trod] at h
  | succ fuel =>
    simp only [DataW.trod, ht, hce, hct, Nat.mul_one] at h
    split at h
    · rename_i hl
      obtain ⟨xs, hm, hx⟩ := Option.map_eq_some_iff.1 h
      have hxs : xs.map (·.1) = zs.map fun z => (DataW.lit (.string z) : DataW H) := by
        have := congrArg Prod.fst hx
        simpa using this
      have hxl : xs.length = n := by simpa using Lib.mapM_length hm
      have hzl : zs.length = n := by
        have := congrArg List.length hxs
        simp at this
        omega
      apply List.ext_getElem?
      intro i
      by_cases hi : i < n
      · obtain ⟨b, hb, hf⟩ := Lib.mapM_at hm i i (by simp [hi])
        obtain ⟨z, hc, rfl, _⟩ := DataW.trod_string he hf
        have h1 : cs[i]? = some (.string z) := by
          have := congrArg (·[0]?) hc
          simpa [List.getElem?_take, List.getElem?_drop] using this
        have h2 : (xs.map (·.1))[i]? = some (DataW.lit (.string z.data.toList) : DataW H) := by simp [hb]
        rw [hxs] at h2
        simp only [List.getElem?_map, Option.map_eq_some_iff, DataW.lit.injEq, Lit.string.injEq] at h2
        obtain ⟨z', hz', rfl⟩ := h2
        simp [h1, hz']
      · rw [List.getElem?_eq_none (by omega), List.getElem?_eq_none (by simp; omega)]
    · cases h
theorem laid_cut {P : Program} {w : World} {n : String} {d : DataW Unit} {r : List (String × DataW Unit)} {ps : List MemPlace} (h : DataW.LaidVars P w ((n, d) :: r) ps) :
    (∃ g t cs fuel p, P.globalNamed n = some g ∧ (P.globals[g]?).map (·.type) = some t ∧ w.var? P n = some cs ∧ DataW.trod (fun _ => ()) P w 0 (fun _ => true) false fuel t cs.toList = some (d, p)) ∧ ∃ q, DataW.LaidVars P w r q := by
  obtain ⟨g, t, cs, fuel, p, q, h1, h2, h3, h4, h5, _⟩ := h
  exact ⟨⟨g, t, cs, fuel, p, h1, h2, h3, h4⟩, q, h5⟩
theorem strs_cell {P : Program} {w : World} {name : String} {zs : List (List UInt8)} {g0 : Nat} {t0 e : TypeId} {n : Nat}
    (hg : P.globalNamed name = some g0) (hty : (P.globals[g0]?).map (·.type) = some t0) (ht : P.underlying t0 = some (.array n e)) (he : P.underlying e = some .string) (hce : P.cellsOf e = 1) (hct : P.cellsOf t0 = n)
    (h : ∃ g t cs fuel p, P.globalNamed name = some g ∧ (P.globals[g]?).map (·.type) = some t ∧ w.var? P name = some cs ∧ DataW.trod (fun _ => ()) P w 0 (fun _ => true) false fuel t cs.toList = some (.agg (zs.map fun z => .lit (.string z)), p))
    (i : Nat) (z : List UInt8) (hi : zs[i]? = some z) : w.cell? ⟨g0, i, none⟩ = some (.string ⟨z.toArray⟩) := by
  obtain ⟨g', t', cs, fuel, p, hg', ht', hvar, hd⟩ := h
  obtain rfl := Option.some.inj (hg.symm.trans hg')
  obtain rfl := Option.some.inj (hty.symm.trans ht')
  have hc := cells_of_strs ht he hce hct hd
  rw [World.var?_cell hg hvar i, ← Array.getElem?_toList, hc]
  simp [hi]
theorem gl_of_laid {W : World} (h : laidMetH Tryz.prog laidAllL W) (hsh : W.ShapedOpen Tryz.prog) : Gl W := by
  obtain ⟨ps, h0, _⟩ := data_of_laid h
  obtain ⟨_, q1, h1⟩ := laid_cut h0
  obtain ⟨_, q2, h2⟩ := laid_cut h1
  obtain ⟨_, q3, h3⟩ := laid_cut h2
  obtain ⟨_, q4, h4⟩ := laid_cut h3
  obtain ⟨c1, q5, h5⟩ := laid_cut h4
  obtain ⟨c2, q6, h6⟩ := laid_cut h5
  obtain ⟨c3, q7, h7⟩ := laid_cut h6
  obtain ⟨c4, q8, h8⟩ := laid_cut h7
  obtain ⟨c5, q9, h9⟩ := laid_cut h8
  refine ⟨Tryz.laysM145.s1_3 W hsh, ?_, ?_, ?_, ?_, ?_⟩
  · intro i hi
    have e := strs_cell (zs := [[97, 108, 112, 104, 97], [98, 101, 116, 97], [112, 114, 101], [114, 99], [99, 118, 115], [115, 118, 110], [103, 105, 116], [104, 103], [112]]) (g0 := 5) (t0 := 248) (e := 9) (n := 9) (by kernel_rfl) (by kernel_rfl) Tryz.underlying248 Tryz.underlying9 (by kernel_rfl) (by kernel_rfl) c1
    rcases (by omega : i = 0 ∨ i = 1 ∨ i = 2 ∨ i = 3 ∨ i = 4 ∨ i = 5 ∨ i = 6 ∨ i = 7 ∨ i = 8) with rfl | rfl | rfl | rfl | rfl | rfl | rfl | rfl | rfl
    all_goals exact e _ _ rfl
  · intro i hi
    have e := strs_cell (zs := [[], [60, 60], [60, 61], [61], [62, 61], [62, 62]]) (g0 := 6) (t0 := 252) (e := 9) (n := 6) (by kernel_rfl) (by kernel_rfl) Tryz.underlying252 Tryz.underlying9 (by kernel_rfl) (by kernel_rfl) c3
    rcases (by omega : i = 0 ∨ i = 1 ∨ i = 2 ∨ i = 3 ∨ i = 4 ∨ i = 5) with rfl | rfl | rfl | rfl | rfl | rfl
    all_goals exact e _ _ rfl
  · intro i hi
    have e := strs_cell (zs := [[], [60], [60, 61], [61], [62, 61], [62]]) (g0 := 7) (t0 := 252) (e := 9) (n := 6) (by kernel_rfl) (by kernel_rfl) Tryz.underlying252 Tryz.underlying9 (by kernel_rfl) (by kernel_rfl) c4
    rcases (by omega : i = 0 ∨ i = 1 ∨ i = 2 ∨ i = 3 ∨ i = 4 ∨ i = 5) with rfl | rfl | rfl | rfl | rfl | rfl
    all_goals exact e _ _ rfl
  · intro i hi
    have e := strs_cell (zs := [[97, 110, 100], [111, 114], [105, 102], [117, 110, 108, 101, 115, 115], [119, 105, 116, 104], [119, 105, 116, 104, 111, 117, 116]]) (g0 := 9) (t0 := 252) (e := 9) (n := 6) (by kernel_rfl) (by kernel_rfl) Tryz.underlying252 Tryz.underlying9 (by kernel_rfl) (by kernel_rfl) c5
    rcases (by omega : i = 0 ∨ i = 1 ∨ i = 2 ∨ i = 3 ∨ i = 4 ∨ i = 5) with rfl | rfl | rfl | rfl | rfl | rfl
    all_goals exact e _ _ rfl
  · intro i hi
    have e := strs_cell (zs := [[], [60], [60, 61], [61], [62, 61], [62], [126]]) (g0 := 1) (t0 := 234) (e := 9) (n := 7) (by kernel_rfl) (by kernel_rfl) Tryz.underlying234 Tryz.underlying9 (by kernel_rfl) (by kernel_rfl) c2
    rcases (by omega : i = 0 ∨ i = 1 ∨ i = 2 ∨ i = 3 ∨ i = 4 ∨ i = 5 ∨ i = 6) with rfl | rfl | rfl | rfl | rfl | rfl | rfl
    all_goals exact e _ _ rfl
end
end Go.Proofs.YtfgidaaipmbibaaGreatDoor
