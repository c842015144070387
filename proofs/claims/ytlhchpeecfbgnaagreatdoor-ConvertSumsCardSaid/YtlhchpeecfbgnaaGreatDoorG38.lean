/- A part of the proof that the digests of any content are the three of it, and that an installed set is new memory. No condition. -/
import Derived.Test.YtlhchpeecfbgnaaGreatDoorG37
set_option maxRecDepth 100000
set_option maxHeartbeats 20000000
set_option linter.unusedVariables false
set_option linter.unusedSimpArgs false
namespace Go.Proofs.YtlhchpeecfbgnaaGreatDoor
section
open Go.RowKit
def prtVal (r : List UInt8 × Int) : Value := .tuple #[.string ⟨r.1.toArray⟩, .int .i64 r.2]
theorem prt_no {fmt : Int} {c : CoreM} (h : printB fmt c = false) : prtVal (prtV fmt c) = .tuple #[.string ⟨#[]⟩, .int .i64 11] := by unfold prtV; rw [if_neg (by rw [h]; simp)]; rfl
theorem prt_yes {fmt : Int} {c : CoreM} (h : printB fmt c = true) : prtVal (prtV fmt c) = .tuple #[.string ⟨(coreT fmt c).toArray⟩, .int .i64 0] := by unfold prtV; rw [if_pos h]; rfl
theorem print_bad {fmt : Int} {c : CoreM} (h : coreB c = false) : printB fmt c = false := by unfold printB; rw [h]; rfl
theorem print_two {fmt : Int} {c : CoreM} (h : coreB c = true) (hf : fmt = 1 ∨ fmt = 2) : printB fmt c = true := by
  have hs := ((coreB_iff c).1 h).short
  unfold printB
  rw [h, decide_eq_false (by rintro ⟨e, _⟩; omega)]
  rcases hf with rfl | rfl
  · rw [decide_eq_true hs]; rfl
  · rw [coreT12, decide_eq_true hs]; rfl
theorem vmap_Print (fmt : Int) (hfm : isF fmt) (c : CoreL) (w : World) (hG : GlP w) (hc : c.ok w) (hf : c.few) :
    Calls Tryz.prog 75 #[.int .i64 fmt, c.val] w fun e w' => e = .returned (prtVal (prtV fmt c.plain)) ∧ Below w.heap.size w w' := by
  have HG := Lib.hid hG; have HC := Lib.hid hc; have HF := Lib.hid hf
  clear hG hc hf
  have hnone : noneB fmt = false := by unfold noneB; rw [decide_eq_true hfm]; rfl
  have HNN := Lib.hid fun W => vmap_none fmt W
  rw [hnone] at HNN
  have HFM := Lib.hid hfm
  clear hnone hfm
  obtain ⟨W0, hW0⟩ : ∃ W0, w.alloc (.cells #[.int .i64 c.ep, .slice c.na c.nums.length c.nc, .string c.lt, .string c.pre, .int .i64 c.pnum, .int .i64 c.rev] 130) = W0 := ⟨_, rfl⟩
  have R0 : Hid (CoS w W0 c) := by show CoS _ _ _; rw [← hW0]; exact ⟨(Below.refl _ _).alloc (Nat.le_refl _) _, Blk.new w c.cells _⟩
  have k0 := R0.out.box.cell 0 _ rfl
  have k1 := R0.out.box.cell 1 _ rfl
  have k2 := R0.out.box.cell 2 _ rfl
  have k3 := R0.out.box.cell 3 _ rfl
  have k4 := R0.out.box.cell 4 _ rfl
  have k5 := R0.out.box.cell 5 _ rfl
  unfold CoreL.val
  go_enter Tryz.func75, Tryz.ntmps75
  go_wp2_with fail
  clear hW0
  refine (HNN.out _).mono ?_; rintro e w' ⟨rfl, rfl⟩
  go_wp2_with fail
  refine (vmap_Check c _ (HG.out.below R0.out.bel) (Rd.below HC.out R0.out.bel) HF.out).mono ?_; rintro e w1 ⟨rfl, hb1⟩
  have R1 := Lib.hid (R0.out.step hb1)
  clear hb1 k0 k1 k2 k3 k4 k5 R0
  unfold chkE
  cases hcb : coreB c.plain
  · have E := Lib.hid (prt_no (print_bad (fmt := fmt) hcb))
    clear hcb
    simp only [Bool.false_eq_true, if_false]
    go_wp2_with fail
    go_ret2
    exact ⟨by rw [E.out]; rfl, R1.out.bel⟩
  have HCB := Lib.hid hcb
  clear hcb
  simp only [if_true]
  have k0 := R1.out.box.cell 0 _ rfl
  have k1 := R1.out.box.cell 1 _ rfl
  have k2 := R1.out.box.cell 2 _ rfl
  have k3 := R1.out.box.cell 3 _ rfl
  have k4 := R1.out.box.cell 4 _ rfl
  have k5 := R1.out.box.cell 5 _ rfl
  go_wp2_with fail
  refine (vmap_text fmt c _ (HG.out.below R1.out.bel) (Rd.below HC.out R1.out.bel) HF.out).mono ?_; rintro e w2 ⟨rfl, hb2⟩
  have R2 := Lib.hid (R1.out.step hb2)
  clear hb2 k0 k1 k2 k3 k4 k5 R1
  obtain ⟨T, hT⟩ : ∃ T : ByteArray, (⟨(coreT fmt c.plain).toArray⟩ : ByteArray) = T := ⟨_, rfl⟩
  have hTs : Hid ((coreT fmt c.plain).length = T.size) := by show _ = _; rw [← hT]; simp [ByteArray.size]
  have HT := Lib.hid hT
  rw [hT]
  clear hT
  have k0 := R2.out.box.cell 0 _ rfl
  by_cases h3 : fmt = 3
  · have q3 : (fmt == 3) = true := by rw [h3]; rfl
    have H3 := Lib.hid h3
    clear h3
    by_cases he : c.ep = 0
    · have qe : ((c.ep : Int) != 0) = false := by rw [he]; rfl
      have HE := Lib.hid he
      clear he
      by_cases h64 : 64 < T.size
      · have d1 : decide ((64 : Int) < (T.size : Int)) = true := decide_eq_true (by omega)
        have d2 : decide (64 < T.size) = true := decide_eq_true h64
        have E := Lib.hid (prt_no (fmt := fmt) (c := c.plain) (by unfold printB; rw [HCB.out, decide_eq_false (p := (coreT fmt c.plain).length ≤ 64) (by rw [hTs.out]; omega)]; simp))
        clear h64
        go_wp2_with fail
        go_ret2
        exact ⟨by rw [E.out]; rfl, R2.out.bel⟩
      · have d1 : decide ((64 : Int) < (T.size : Int)) = false := decide_eq_false (by omega)
        have d2 : decide (64 < T.size) = false := decide_eq_false h64
        have E := Lib.hid (prt_yes (fmt := fmt) (c := c.plain) (by unfold printB; rw [HCB.out, decide_eq_true (p := (coreT fmt c.plain).length ≤ 64) (by rw [hTs.out]; omega), decide_eq_false (p := fmt = 3 ∧ c.plain.ep ≠ 0) (by rintro ⟨_, h⟩; exact h HE.out)]; rfl))
        clear h64
        go_wp2_with fail
        go_ret2
        exact ⟨by rw [E.out, HT.out]; rfl, R2.out.bel⟩
    · have qe : ((c.ep : Int) != 0) = true := by simp [bne]; omega
      have E := Lib.hid (prt_no (fmt := fmt) (c := c.plain) (by unfold printB; rw [HCB.out, decide_eq_true (p := fmt = 3 ∧ c.plain.ep ≠ 0) ⟨H3.out, he⟩]; rfl))
      clear he
      go_wp2_with fail
      go_ret2
      exact ⟨by rw [E.out]; rfl, R2.out.bel⟩
  · have q3 : (fmt == 3) = false := by simpa using h3
    have E := Lib.hid (prt_yes (print_two (fmt := fmt) (c := c.plain) HCB.out (by have := HFM.out; unfold isF at this; omega)))
    clear h3
    go_wp2_with fail
    go_ret2
    exact ⟨by rw [E.out, HT.out]; rfl, R2.out.bel⟩
end
end Go.Proofs.YtlhchpeecfbgnaaGreatDoor
