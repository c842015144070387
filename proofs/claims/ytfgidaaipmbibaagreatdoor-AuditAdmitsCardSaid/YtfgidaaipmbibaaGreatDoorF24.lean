/- A part of the proof of a law on which findings a policy admits. No condition. -/
import Derived.Test.YtfgidaaipmbibaaGreatDoorF09
import Derived.Test.YtfgidaaipmbibaaGreatDoorF23
set_option maxRecDepth 100000
set_option maxHeartbeats 20000000
set_option linter.unusedVariables false
set_option linter.unusedSimpArgs false
namespace Go.Proofs.YtfgidaaipmbibaaGreatDoor
section
open Go.RowKit
def FileM.val (f : FileM) : Value := .agg #[.string f.path, .int .i64 f.kind, .int .i64 f.mode, .string f.owner, .string f.group, .string f.link, .string f.sum, .bool f.conf]
def restB (fmt : Int) (f : FileM) : Bool := decide (0 ≤ f.mode ∧ f.mode ≤ 4095) && ownB fmt f.owner && ownB fmt f.group && (if f.kind = 3 then decide (f.mode = 511) && plainB (bl f.link) && decide (f.link.size ≤ 200) else decide (f.link.size = 0)) && (if f.kind = 1 then sgB fmt f.sum && (!f.conf || decide (fmt ≠ 3)) else decide (f.sum.size = 0) && !f.conf)
theorem model_restRight (fmt : Int) (hfmt : fmt = 1 ∨ fmt = 2 ∨ fmt = 3) (f : FileM) (w : World) (ho : f.owner.size ≤ 9223372036854775807) (hg : f.group.size ≤ 9223372036854775807) (hl : f.link.size ≤ 9223372036854775807) (hsm : f.sum.size ≤ 9223372036854775807) :
    Calls Tryz.prog 72 #[.int .i64 fmt, f.val] w fun e w' => e = .returned (.bool (restB fmt f)) ∧ Below w.heap.size w w' := by
  have HW : Hid (Below w.heap.size w (w.alloc (.cells #[.string f.path, .int .i64 f.kind, .int .i64 f.mode, .string f.owner, .string f.group, .string f.link, .string f.sum, .bool f.conf] 27))) := (Below.refl _ _).alloc (Nat.le_refl _) _
  unfold FileM.val
  by_cases hm0 : f.mode < 0
  · skip
    have E : Hid (restB fmt f = false) := by show _ = _; unfold restB; rw [decide_eq_false (by omega)]; rfl
    go_enter Tryz.func72, Tryz.ntmps72
    go_wp2_with fail
    go_ret
    exact ⟨ret_bool (by rw [E.out]), HW.out⟩
  by_cases hm1 : 4095 < f.mode
  · skip
    have E : Hid (restB fmt f = false) := by show _ = _; unfold restB; rw [decide_eq_false (by omega)]; rfl
    go_enter Tryz.func72, Tryz.ntmps72
    go_wp2_with fail
    go_ret
    exact ⟨ret_bool (by rw [E.out]), HW.out⟩
  have RM : Hid (decide (0 ≤ f.mode ∧ f.mode ≤ 4095) = true) := decide_eq_true (by omega)
  go_enter Tryz.func72, Tryz.ntmps72
  go_wp2_with fail
  refine (model_ownerRight fmt f.owner _ ho).mono ?_; rintro e w' ⟨rfl, rfl⟩
  cases g1 : ownB fmt f.owner
  · skip
    have E : Hid (restB fmt f = false) := by show _ = _; unfold restB; rw [g1]; simp
    clear g1
    go_wp2_with fail
    go_ret
    exact ⟨ret_bool (by rw [E.out]), HW.out⟩
  have G1 := Lib.hid g1; clear g1
  go_wp2_with fail
  refine (model_ownerRight fmt f.group _ hg).mono ?_; rintro e w' ⟨rfl, rfl⟩
  cases g2 : ownB fmt f.group
  · skip
    have E : Hid (restB fmt f = false) := by show _ = _; unfold restB; rw [g2]; simp
    clear g2
    go_wp2_with fail
    go_ret
    exact ⟨ret_bool (by rw [E.out]), HW.out⟩
  have G2 := Lib.hid g2; clear g2
  have HWX := HW.out
  by_cases k3 : f.kind = 3
  · have k3' : (f.kind == 3) = true := by simpa using k3
    have k1' : (f.kind == 1) = false := by simp; omega
    by_cases m5 : f.mode = 511
    · have m5' : (f.mode != 511) = false := by simpa [bne] using m5
      have M5 : Hid (decide (f.mode = 511) = true) := decide_eq_true m5
      have K3 := Lib.hid k3; clear k3 m5
      go_wp2_with fail
      refine (model_Plain f.link _ hl).mono ?_; rintro e w' ⟨rfl, rfl⟩
      cases g3 : plainB (bl f.link)
      · skip
        have E : Hid (restB fmt f = false) := by show _ = _; unfold restB; rw [if_pos K3.out, g3]; simp
        clear g3
        go_wp2_with fail
        go_ret
        exact ⟨ret_bool (by rw [E.out]), HWX⟩
      have G3 := Lib.hid g3; clear g3
      by_cases l2 : 200 < f.link.size
      · skip
        have E : Hid (restB fmt f = false) := by show _ = _; unfold restB; rw [if_pos K3.out, decide_eq_false (show ¬ f.link.size ≤ 200 by omega)]; simp
        go_wp2_with fail
        go_ret
        exact ⟨ret_bool (by rw [E.out]), HWX⟩
      have L2 : Hid (decide (f.link.size ≤ 200) = true) := decide_eq_true (by omega)
      have RL : Hid ((if f.kind = 3 then decide (f.mode = 511) && plainB (bl f.link) && decide (f.link.size ≤ 200) else decide (f.link.size = 0)) = true) := by show _ = _; rw [if_pos K3.out, M5.out, G3.out, L2.out]; rfl
      have KN : HidN (f.kind = 1) := ⟨by have := K3.out; omega⟩
      by_cases s0 : f.sum.size = 0
      · have se : f.sum.toList = [] := by rw [bl_toList, bl_nil _ s0]
        have se2 : f.sum.toList.isEmpty = true := by rw [se]; rfl
        cases hcf : f.conf
        · skip
          have E : Hid (restB fmt f = true) := by show _ = _; unfold restB; rw [RM.out, G1.out, G2.out, RL.out, if_neg KN.out, decide_eq_true s0, hcf]; rfl
          simp only [hcf] at *
          go_wp2_with fail
          go_ret
          exact ⟨ret_bool (by rw [E.out]), HWX⟩
        · skip
          have E : Hid (restB fmt f = false) := by show _ = _; unfold restB; rw [if_neg KN.out, hcf]; simp
          simp only [hcf] at *
          go_wp2_with fail
          go_ret
          exact ⟨ret_bool (by rw [E.out]), HWX⟩
      · have se2 : f.sum.toList.isEmpty = false := by rw [bl_toList, bl_isEmpty]; exact decide_eq_false s0
        have se : ¬ f.sum.toList = [] := by intro h; rw [h] at se2; simp at se2
        have E : Hid (restB fmt f = false) := by show _ = _; unfold restB; rw [if_neg KN.out, decide_eq_false s0]; simp
        clear s0
        go_wp2_with fail
        go_ret
        exact ⟨ret_bool (by rw [E.out]), HWX⟩
    · have m5' : (f.mode != 511) = true := by simpa [bne] using m5
      have E : Hid (restB fmt f = false) := by show _ = _; unfold restB; rw [if_pos k3, decide_eq_false m5]; simp
      clear k3 m5
      go_wp2_with fail
      go_ret
      exact ⟨ret_bool (by rw [E.out]), HWX⟩
  · have k3' : (f.kind == 3) = false := by simpa using k3
    by_cases l0 : f.link.size = 0
    · have le : f.link.toList = [] := by rw [bl_toList, bl_nil _ l0]
      have le2 : f.link.toList.isEmpty = true := by rw [le]; rfl
      have RL : Hid ((if f.kind = 3 then decide (f.mode = 511) && plainB (bl f.link) && decide (f.link.size ≤ 200) else decide (f.link.size = 0)) = true) := by show _ = _; rw [if_neg k3, decide_eq_true l0]
      by_cases k1 : f.kind = 1
      · have k1' : (f.kind == 1) = true := by simpa using k1
        have K1 := Lib.hid k1; clear k1 k3 l0
        go_wp2_with fail
        refine (model_sumRight fmt hfmt f.sum _ hsm).mono ?_; rintro e w3 ⟨rfl, hb3⟩
        have X3 : Hid (Bx w w3 f.cells) := (Bx.start w f.cells _).step hb3
        have x7 := X3.out.cell 7 _ rfl
        clear hb3
        have HWZ := X3.out.bel
        cases g4 : sgB fmt f.sum
        · skip
          have E : Hid (restB fmt f = false) := by show _ = _; unfold restB; rw [if_pos K1.out, g4]; simp
          clear g4
          go_wp2_with fail
          go_ret
          exact ⟨ret_bool (by rw [E.out]), HWZ⟩
        have G4 := Lib.hid g4; clear g4
        cases hcf : f.conf
        · skip
          have E : Hid (restB fmt f = true) := by show _ = _; unfold restB; rw [RM.out, G1.out, G2.out, RL.out, if_pos K1.out, G4.out, hcf]; rfl
          simp only [hcf] at *
          go_wp2_with fail
          go_ret
          exact ⟨ret_bool (by rw [E.out]), HWZ⟩
        by_cases f3 : fmt = 3
        · have f3' : (fmt == 3) = true := by simpa using f3
          have f3n : (fmt != 3) = false := by simpa [bne] using f3
          have E : Hid (restB fmt f = false) := by show _ = _; unfold restB; rw [if_pos K1.out, hcf, decide_eq_false (show ¬ fmt ≠ 3 from fun h => h f3)]; simp
          clear f3
          simp only [hcf] at *
          go_wp2_with fail
          go_ret
          exact ⟨ret_bool (by rw [E.out]), HWZ⟩
        · have f3' : (fmt == 3) = false := by simpa using f3
          have f3n : (fmt != 3) = true := by simpa [bne] using f3
          have E : Hid (restB fmt f = true) := by show _ = _; unfold restB; rw [RM.out, G1.out, G2.out, RL.out, if_pos K1.out, G4.out, hcf, decide_eq_true (show fmt ≠ 3 from f3)]; rfl
          clear f3
          simp only [hcf] at *
          go_wp2_with fail
          go_ret
          exact ⟨ret_bool (by rw [E.out]), HWZ⟩
      · have k1' : (f.kind == 1) = false := by simpa using k1
        have KN : HidN (f.kind = 1) := ⟨k1⟩
        clear k1 k3 l0
        by_cases s0 : f.sum.size = 0
        · have se : f.sum.toList = [] := by rw [bl_toList, bl_nil _ s0]
          have se2 : f.sum.toList.isEmpty = true := by rw [se]; rfl
          cases hcf : f.conf
          · skip
            have E : Hid (restB fmt f = true) := by show _ = _; unfold restB; rw [RM.out, G1.out, G2.out, RL.out, if_neg KN.out, decide_eq_true s0, hcf]; rfl
            simp only [hcf] at *
            go_wp2_with fail
            go_ret
            exact ⟨ret_bool (by rw [E.out]), HWX⟩
          · skip
            have E : Hid (restB fmt f = false) := by show _ = _; unfold restB; rw [if_neg KN.out, hcf]; simp
            simp only [hcf] at *
            go_wp2_with fail
            go_ret
            exact ⟨ret_bool (by rw [E.out]), HWX⟩
        · have se2 : f.sum.toList.isEmpty = false := by rw [bl_toList, bl_isEmpty]; exact decide_eq_false s0
          have se : ¬ f.sum.toList = [] := by intro h; rw [h] at se2; simp at se2
          have E : Hid (restB fmt f = false) := by show _ = _; unfold restB; rw [if_neg KN.out, decide_eq_false s0]; simp
          clear s0
          go_wp2_with fail
          go_ret
          exact ⟨ret_bool (by rw [E.out]), HWX⟩
    · have le2 : f.link.toList.isEmpty = false := by rw [bl_toList, bl_isEmpty]; exact decide_eq_false l0
      have le : ¬ f.link.toList = [] := by intro h; rw [h] at le2; simp at le2
      have E : Hid (restB fmt f = false) := by show _ = _; unfold restB; rw [if_neg k3, decide_eq_false l0]; simp
      clear k3 l0
      go_wp2_with fail
      go_ret
      exact ⟨ret_bool (by rw [E.out]), HWX⟩
end
end Go.Proofs.YtfgidaaipmbibaaGreatDoor
