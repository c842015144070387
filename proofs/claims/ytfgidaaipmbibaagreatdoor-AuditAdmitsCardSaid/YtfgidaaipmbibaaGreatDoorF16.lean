/- A part of the proof of a law on which findings a policy admits. No condition. -/
import Derived.Test.YtfgidaaipmbibaaGreatDoorF15
set_option maxRecDepth 100000
set_option maxHeartbeats 20000000
set_option linter.unusedVariables false
set_option linter.unusedSimpArgs false
namespace Go.Proofs.YtfgidaaipmbibaaGreatDoor
section
open Go.RowKit
def sumB (l : List UInt8) : Bool := decide (1 ≤ l.length) && decide (l.length ≤ 100) && wthB 32 l && l.head? != some 32 && l.getLast? != some 32
theorem head_bl (s : ByteArray) (h : 0 < s.size) : (bl s).head? = some s[0] := by rw [bl_cons s h]; rfl
theorem last_bl (s : ByteArray) (h : 0 < s.size) : (bl s).getLast? = some (s[s.size - 1]) := by
  rw [List.getLast?_eq_getElem?, bl_length, bl_get? s (s.size - 1) (by omega)]
theorem neq32 (a : UInt8) : (((a.toNat : Nat) : Int) != 32) = (some a != some 32) := by
  rw [Bool.eq_iff_iff]; simp [← UInt8.toNat_inj]; omega
theorem model_summaryRight (s : ByteArray) (w : World) (hs : s.size ≤ 9223372036854775807) :
    Calls Tryz.prog 45 #[.string s] w fun e w' => e = .returned (.bool (sumB (bl s))) ∧ w = w' := by
  have HB := Lib.hid (bl_length s)
  by_cases h1 : 1 ≤ s.size
  · by_cases h2 : s.size ≤ 100
    · have hh := Lib.hid (head_bl s (by omega))
      have hl := Lib.hid (last_bl s (by omega))
      cases hw : wthB 32 (bl s)
      · go_enter Tryz.func45, Tryz.ntmps45
        go_wp2_with (go_at_call 65; refine (model_within _ 32 _ hs).mono ?_; rintro e w' ⟨rfl, rfl⟩)
        go_ret
        exact ⟨ret_bool (by unfold sumB; rw [hw]; simp), rfl⟩
      · go_enter Tryz.func45, Tryz.ntmps45
        go_wp2_with (go_at_call 65; refine (model_within _ 32 _ hs).mono ?_; rintro e w' ⟨rfl, rfl⟩)
        all_goals go_ret
        all_goals (refine ⟨ret_bool ?_, rfl⟩; unfold sumB; rw [hw, HB.out, decide_eq_true h1, decide_eq_true h2, hh.out, hl.out])
        · rw [← neq32, ← neq32]; simp [‹_ = (32 : Int)›]
        · rw [← neq32, ← neq32]; simp
    · go_enter Tryz.func45, Tryz.ntmps45
      go_wp2_with fail
      go_ret
      exact ⟨ret_bool (by unfold sumB; rw [HB.out, decide_eq_false h2]; simp), rfl⟩
  · go_enter Tryz.func45, Tryz.ntmps45
    go_wp2_with fail
    go_ret
    exact ⟨ret_bool (by unfold sumB; rw [HB.out, decide_eq_false h1]; simp), rfl⟩
theorem model_textsRight_nil (n : Int) (b : Bool) (w : World) :
    Calls Tryz.prog 46 #[.int .i64 n, .slice none 0 0, .bool b] w fun e w' => e = .returned (.bool true) ∧ w = w' := by
  go_enter Tryz.func46, Tryz.ntmps46
  go_wp2_with fail
  all_goals (refine wp_loop_rounds 1 ?_; rw [rounds_succ]; go_wp2_with fail)
  all_goals (go_ret; exact ⟨rfl, rfl⟩)
theorem model_givesRight_nil (n : Int) (w : World) :
    Calls Tryz.prog 47 #[.int .i64 n, .slice none 0 0] w fun e w' => e = .returned (.bool true) ∧ w = w' := by
  go_enter Tryz.func47, Tryz.ntmps47
  go_wp2_with fail
  all_goals (refine wp_loop_rounds 1 ?_; rw [rounds_succ]; go_wp2_with fail)
  all_goals (go_ret; exact ⟨rfl, rfl⟩)
theorem model_checkScripts_nil (n : Int) (w : World) :
    Calls Tryz.prog 49 #[.int .i64 n, .slice none 0 0] w fun e w' => e = .returned (.int .i64 0) ∧ w = w' := by
  go_enter Tryz.func49, Tryz.ntmps49
  go_wp2_with fail
  refine wp_loop_rounds 1 ?_; rw [rounds_succ]; go_wp2_with fail
  refine wp_loop_rounds 1 ?_; rw [rounds_succ]; go_wp2_with fail
  go_ret
  exact ⟨rfl, rfl⟩
def verCode (r : Option (List UInt8 × List UInt8 × List UInt8)) : Int := if r.isSome then 0 else 3
theorem version_Check_dpkg (s : ByteArray) (w : World) (hG : Gl w) (hs : s.size ≤ 64) :
    Calls Tryz.prog 42 #[.int .i64 1, .string s] w fun e w' => e = .returned (.int .i64 (verCode (splitD (bl s)))) ∧ Below w.heap.size w w' := by
  have HG := Lib.hid hG; clear hG
  go_enter Tryz.func42, Tryz.ntmps42
  go_wp2_with fail
  refine (version_Split_dpkg s _ HG.out hs).mono ?_
  rintro e w1 ⟨ep, pr, rv, c, rfl, hr, hb1⟩
  have HR := Lib.hid hr; clear hr
  go_wp2_with fail
  go_ret
  refine ⟨ret_int ?_, hb1⟩
  have hr := HR.out
  cases h : splitD (bl s) with
  | none => rw [h] at hr; exact hr.1
  | some x => obtain ⟨a, b, d⟩ := x; rw [h] at hr; exact hr.1
end
end Go.Proofs.YtfgidaaipmbibaaGreatDoor
