/- Contracts: two packages, two databases held against each other. -/
import Derived.Test.YtdfdllbebfoggaaGreatDoorMk6
import Derived.Test.YtdfdllbebfoggaaGreatDoorMd2
namespace Go.Proofs.YtdfdllbebfoggaaGreatDoor
open Go.RowKit

def eqPk (p q : PkL) : Bool := eqB p.nm q.nm && eqB p.ver q.ver && eqB p.ar q.ar && eqB p.sm q.sm && eqL eqB p.needs q.needs && eqL eqB p.bars q.bars && eqL eqAtom p.gives q.gives && eqL eqFile p.files q.files && eqL eqScript p.scripts q.scripts

theorem eqPk_true {p q : PkL} (h0 : eqB p.nm q.nm = true) (h1 : eqB p.ver q.ver = true) (h2 : eqB p.ar q.ar = true) (h3 : eqB p.sm q.sm = true) (h4 : eqL eqB p.needs q.needs = true) (h5 : eqL eqB p.bars q.bars = true) (h6 : eqL eqAtom p.gives q.gives = true) (h7 : eqL eqFile p.files q.files = true) (h8 : eqL eqScript p.scripts q.scripts = true) : eqPk p q = true := by
  simp [eqPk, h0, h1, h2, h3, h4, h5, h6, h7, h8]

set_option maxRecDepth 100000 in
set_option maxHeartbeats 2000000 in
theorem model_Same1 (p q : PkL) (w : World) (hp : p.ok w) (hq : q.ok w) (fp : p.fits) (fq : q.fits) :
    Calls Tryz.prog 50 #[p.val, q.val] w fun e w' => e = .returned (.bool (eqPk p q)) ∧ Below w.heap.size w w' := by
  have HW : Hid (Below w.heap.size w ((w.alloc (.cells #[.string p.nm, .string p.ver, .string p.ar, .string p.sm, .slice p.na p.needs.length p.nc, .slice p.ba p.bars.length p.bc, .slice p.ga p.gives.length p.gc, .slice p.fa p.files.length p.fc, .slice p.sa p.scripts.length p.sc] 27)).alloc (.cells #[.string q.nm, .string q.ver, .string q.ar, .string q.sm, .slice q.na q.needs.length q.nc, .slice q.ba q.bars.length q.bc, .slice q.ga q.gives.length q.gc, .slice q.fa q.files.length q.fc, .slice q.sa q.scripts.length q.sc] 27))) := ((Below.refl _ _).alloc (Nat.le_refl _) _).alloc (by simp) _
  have HP := Lib.hid (hp.below HW.out)
  have HQ := Lib.hid (hq.below HW.out)
  have FP := Lib.hid fp; have FQ := Lib.hid fq
  clear hp hq fp fq
  unfold PkL.val
  cases h0 : (p.nm.toList == q.nm.toList)
  · have E : Hid (eqPk p q = false) := by show _ = _; simp [eqPk, eqB, h0]
    go_enter Tryz.func50, Tryz.ntmps50
    go_wp2_with fail
    go_ret
    exact ⟨ret_bool E.out.symm, HW.out⟩
  cases h1 : (p.ver.toList == q.ver.toList)
  · have E : Hid (eqPk p q = false) := by show _ = _; simp [eqPk, eqB, h1]
    go_enter Tryz.func50, Tryz.ntmps50
    go_wp2_with fail
    go_ret
    exact ⟨ret_bool E.out.symm, HW.out⟩
  cases h2 : (p.ar.toList == q.ar.toList)
  · have E : Hid (eqPk p q = false) := by show _ = _; simp [eqPk, eqB, h2]
    go_enter Tryz.func50, Tryz.ntmps50
    go_wp2_with fail
    go_ret
    exact ⟨ret_bool E.out.symm, HW.out⟩
  cases h3 : (p.sm.toList == q.sm.toList)
  · have E : Hid (eqPk p q = false) := by show _ = _; simp [eqPk, eqB, h3]
    go_enter Tryz.func50, Tryz.ntmps50
    go_wp2_with fail
    go_ret
    exact ⟨ret_bool E.out.symm, HW.out⟩
  cases h4 : eqL eqB p.needs q.needs
  · have E : Hid (eqPk p q = false) := by show _ = _; simp [eqPk, h4]
    go_enter Tryz.func50, Tryz.ntmps50
    go_wp2_with fail
    refine (Equal_Str _ _ _ _ p.needs q.needs _ (by exact HP.out.needs) (by exact HQ.out.needs) FP.out.needs FQ.out.needs).mono ?_; rintro e w1 ⟨rfl, hb1⟩
    have HB1 := Lib.hid hb1
    obtain ⟨hc1, hf1⟩ := bcellN HB1.out
    clear hb1
    go_wp2_with fail
    go_ret
    exact ⟨ret_bool E.out.symm, HW.out.trans (HB1.out.mono (by simp; omega))⟩
  cases h5 : eqL eqB p.bars q.bars
  · have E : Hid (eqPk p q = false) := by show _ = _; simp [eqPk, h5]
    go_enter Tryz.func50, Tryz.ntmps50
    go_wp2_with fail
    refine (Equal_Str _ _ _ _ p.needs q.needs _ (by exact HP.out.needs) (by exact HQ.out.needs) FP.out.needs FQ.out.needs).mono ?_; rintro e w1 ⟨rfl, hb1⟩
    have HB1 := Lib.hid hb1
    obtain ⟨hc1, hf1⟩ := bcellN HB1.out
    clear hb1
    go_wp2_with fail
    refine (Equal_Str _ _ _ _ p.bars q.bars _ (by exact (HP.out.bars.below HB1.out)) (by exact (HQ.out.bars.below HB1.out)) FP.out.bars FQ.out.bars).mono ?_; rintro e w2 ⟨rfl, hb2⟩
    have HB2 := Lib.hid (bthen HB1.out hb2)
    clear hc1 hf1
    obtain ⟨hc2, hf2⟩ := bcellN HB2.out
    clear hb2
    go_wp2_with fail
    go_ret
    exact ⟨ret_bool E.out.symm, HW.out.trans (HB2.out.mono (by simp; omega))⟩
  cases h6 : eqL eqAtom p.gives q.gives
  · have E : Hid (eqPk p q = false) := by show _ = _; simp [eqPk, h6]
    go_enter Tryz.func50, Tryz.ntmps50
    go_wp2_with fail
    refine (Equal_Str _ _ _ _ p.needs q.needs _ (by exact HP.out.needs) (by exact HQ.out.needs) FP.out.needs FQ.out.needs).mono ?_; rintro e w1 ⟨rfl, hb1⟩
    have HB1 := Lib.hid hb1
    obtain ⟨hc1, hf1⟩ := bcellN HB1.out
    clear hb1
    go_wp2_with fail
    refine (Equal_Str _ _ _ _ p.bars q.bars _ (by exact (HP.out.bars.below HB1.out)) (by exact (HQ.out.bars.below HB1.out)) FP.out.bars FQ.out.bars).mono ?_; rintro e w2 ⟨rfl, hb2⟩
    have HB2 := Lib.hid (bthen HB1.out hb2)
    clear hc1 hf1
    obtain ⟨hc2, hf2⟩ := bcellN HB2.out
    clear hb2
    go_wp2_with fail
    refine (Equal_Atom _ _ _ _ p.gives q.gives _ (by exact (HP.out.gives.below HB2.out)) (by exact (HQ.out.gives.below HB2.out)) FP.out.gives FQ.out.gives).mono ?_; rintro e w3 ⟨rfl, hb3⟩
    have HB3 := Lib.hid (bthen HB2.out hb3)
    clear hc2 hf2
    obtain ⟨hc3, hf3⟩ := bcellN HB3.out
    clear hb3
    go_wp2_with fail
    go_ret
    exact ⟨ret_bool E.out.symm, HW.out.trans (HB3.out.mono (by simp; omega))⟩
  cases h7 : eqL eqFile p.files q.files
  · have E : Hid (eqPk p q = false) := by show _ = _; simp [eqPk, h7]
    go_enter Tryz.func50, Tryz.ntmps50
    go_wp2_with fail
    refine (Equal_Str _ _ _ _ p.needs q.needs _ (by exact HP.out.needs) (by exact HQ.out.needs) FP.out.needs FQ.out.needs).mono ?_; rintro e w1 ⟨rfl, hb1⟩
    have HB1 := Lib.hid hb1
    obtain ⟨hc1, hf1⟩ := bcellN HB1.out
    clear hb1
    go_wp2_with fail
    refine (Equal_Str _ _ _ _ p.bars q.bars _ (by exact (HP.out.bars.below HB1.out)) (by exact (HQ.out.bars.below HB1.out)) FP.out.bars FQ.out.bars).mono ?_; rintro e w2 ⟨rfl, hb2⟩
    have HB2 := Lib.hid (bthen HB1.out hb2)
    clear hc1 hf1
    obtain ⟨hc2, hf2⟩ := bcellN HB2.out
    clear hb2
    go_wp2_with fail
    refine (Equal_Atom _ _ _ _ p.gives q.gives _ (by exact (HP.out.gives.below HB2.out)) (by exact (HQ.out.gives.below HB2.out)) FP.out.gives FQ.out.gives).mono ?_; rintro e w3 ⟨rfl, hb3⟩
    have HB3 := Lib.hid (bthen HB2.out hb3)
    clear hc2 hf2
    obtain ⟨hc3, hf3⟩ := bcellN HB3.out
    clear hb3
    go_wp2_with fail
    refine (Equal_File _ _ _ _ p.files q.files _ (by exact (HP.out.files.below HB3.out)) (by exact (HQ.out.files.below HB3.out)) FP.out.files FQ.out.files).mono ?_; rintro e w4 ⟨rfl, hb4⟩
    have HB4 := Lib.hid (bthen HB3.out hb4)
    clear hc3 hf3
    obtain ⟨hc4, hf4⟩ := bcellN HB4.out
    clear hb4
    go_wp2_with fail
    go_ret
    exact ⟨ret_bool E.out.symm, HW.out.trans (HB4.out.mono (by simp; omega))⟩
  cases h8 : eqL eqScript p.scripts q.scripts
  · have E : Hid (eqPk p q = false) := by show _ = _; simp [eqPk, h8]
    go_enter Tryz.func50, Tryz.ntmps50
    go_wp2_with fail
    refine (Equal_Str _ _ _ _ p.needs q.needs _ (by exact HP.out.needs) (by exact HQ.out.needs) FP.out.needs FQ.out.needs).mono ?_; rintro e w1 ⟨rfl, hb1⟩
    have HB1 := Lib.hid hb1
    obtain ⟨hc1, hf1⟩ := bcellN HB1.out
    clear hb1
    go_wp2_with fail
    refine (Equal_Str _ _ _ _ p.bars q.bars _ (by exact (HP.out.bars.below HB1.out)) (by exact (HQ.out.bars.below HB1.out)) FP.out.bars FQ.out.bars).mono ?_; rintro e w2 ⟨rfl, hb2⟩
    have HB2 := Lib.hid (bthen HB1.out hb2)
    clear hc1 hf1
    obtain ⟨hc2, hf2⟩ := bcellN HB2.out
    clear hb2
    go_wp2_with fail
    refine (Equal_Atom _ _ _ _ p.gives q.gives _ (by exact (HP.out.gives.below HB2.out)) (by exact (HQ.out.gives.below HB2.out)) FP.out.gives FQ.out.gives).mono ?_; rintro e w3 ⟨rfl, hb3⟩
    have HB3 := Lib.hid (bthen HB2.out hb3)
    clear hc2 hf2
    obtain ⟨hc3, hf3⟩ := bcellN HB3.out
    clear hb3
    go_wp2_with fail
    refine (Equal_File _ _ _ _ p.files q.files _ (by exact (HP.out.files.below HB3.out)) (by exact (HQ.out.files.below HB3.out)) FP.out.files FQ.out.files).mono ?_; rintro e w4 ⟨rfl, hb4⟩
    have HB4 := Lib.hid (bthen HB3.out hb4)
    clear hc3 hf3
    obtain ⟨hc4, hf4⟩ := bcellN HB4.out
    clear hb4
    go_wp2_with fail
    refine (Equal_Script _ _ _ _ p.scripts q.scripts _ (by exact (HP.out.scripts.below HB4.out)) (by exact (HQ.out.scripts.below HB4.out)) FP.out.scripts FQ.out.scripts).mono ?_; rintro e w5 ⟨rfl, hb5⟩
    have HB5 := Lib.hid (bthen HB4.out hb5)
    clear hc4 hf4
    obtain ⟨hc5, hf5⟩ := bcellN HB5.out
    clear hb5
    go_wp2_with fail
    go_ret
    exact ⟨ret_bool E.out.symm, HW.out.trans (HB5.out.mono (by simp; omega))⟩
  have E : Hid (eqPk p q = true) := eqPk_true (by exact h0) (by exact h1) (by exact h2) (by exact h3) h4 h5 h6 h7 h8
  go_enter Tryz.func50, Tryz.ntmps50
  go_wp2_with fail
  refine (Equal_Str _ _ _ _ p.needs q.needs _ (by exact HP.out.needs) (by exact HQ.out.needs) FP.out.needs FQ.out.needs).mono ?_; rintro e w1 ⟨rfl, hb1⟩
  have HB1 := Lib.hid hb1
  obtain ⟨hc1, hf1⟩ := bcellN HB1.out
  clear hb1
  go_wp2_with fail
  refine (Equal_Str _ _ _ _ p.bars q.bars _ (by exact (HP.out.bars.below HB1.out)) (by exact (HQ.out.bars.below HB1.out)) FP.out.bars FQ.out.bars).mono ?_; rintro e w2 ⟨rfl, hb2⟩
  have HB2 := Lib.hid (bthen HB1.out hb2)
  clear hc1 hf1
  obtain ⟨hc2, hf2⟩ := bcellN HB2.out
  clear hb2
  go_wp2_with fail
  refine (Equal_Atom _ _ _ _ p.gives q.gives _ (by exact (HP.out.gives.below HB2.out)) (by exact (HQ.out.gives.below HB2.out)) FP.out.gives FQ.out.gives).mono ?_; rintro e w3 ⟨rfl, hb3⟩
  have HB3 := Lib.hid (bthen HB2.out hb3)
  clear hc2 hf2
  obtain ⟨hc3, hf3⟩ := bcellN HB3.out
  clear hb3
  go_wp2_with fail
  refine (Equal_File _ _ _ _ p.files q.files _ (by exact (HP.out.files.below HB3.out)) (by exact (HQ.out.files.below HB3.out)) FP.out.files FQ.out.files).mono ?_; rintro e w4 ⟨rfl, hb4⟩
  have HB4 := Lib.hid (bthen HB3.out hb4)
  clear hc3 hf3
  obtain ⟨hc4, hf4⟩ := bcellN HB4.out
  clear hb4
  go_wp2_with fail
  refine (Equal_Script _ _ _ _ p.scripts q.scripts _ (by exact (HP.out.scripts.below HB4.out)) (by exact (HQ.out.scripts.below HB4.out)) FP.out.scripts FQ.out.scripts).mono ?_; rintro e w5 ⟨rfl, hb5⟩
  have HB5 := Lib.hid (bthen HB4.out hb5)
  clear hc4 hf4
  obtain ⟨hc5, hf5⟩ := bcellN HB5.out
  clear hb5
  go_wp2_with fail
  go_ret
  exact ⟨ret_bool E.out.symm, HW.out.trans (HB5.out.mono (by simp; omega))⟩
end Go.Proofs.YtdfdllbebfoggaaGreatDoor
