/- A part of the proof of a law on which findings a policy admits. No condition. -/
import Derived.Test.YtfgidaaipmbibaaGreatDoorF46
import Derived.Test.YtfgidaaipmbibaaGreatDoorF47
set_option maxRecDepth 100000
set_option maxHeartbeats 20000000
set_option linter.unusedVariables false
set_option linter.unusedSimpArgs false
namespace Go.Proofs.YtfgidaaipmbibaaGreatDoor
section
open Go.RowKit Go.Maps Go.Shelf
theorem law_AuditAdmits (P A : Option Addr) (pc c : Nat) (ps : List Int) (l : List (ByteArray × Int)) (w : World) (hG : Gl w) (hp : Rd w 1 P ps.length (intC ps)) (hr : Rd w 2 A l.length (l.flatMap finC)) (hpl : ps.length ≤ 9223372036854775807) (hl : l.length ≤ 9223372036854775807) :
    Calls Tryz.prog 3 #[.slice P ps.length pc, .slice A l.length c] w fun e w' => e = .returned (.bool true) ∧ Below w.heap.size w w' := by
  have HP := Lib.hid hp; have HR := Lib.hid hr
  have HAW := Lib.hid (law30_awake w hG)
  clear hp hr hG
  by_cases h1 : 100 < ps.length
  · have d1 : decide ((100 : Int) < ps.length) = true := decide_eq_true (by omega)
    have d1n : decide (100 < ps.length) = true := decide_eq_true h1
    clear h1
    go_enter Tryz.func3, Tryz.ntmps3
    go_wp2_with fail
    refine HAW.out.mono ?_; rintro e w1 ⟨rfl, hb1⟩
    go_wp2_with fail
    go_ret
    exact ⟨rfl, hb1⟩
  have d1 : decide ((100 : Int) < ps.length) = false := decide_eq_false (by omega)
  have d1n : decide (100 < ps.length) = false := decide_eq_false h1
  by_cases h2 : 100 < l.length
  · have d2 : decide ((100 : Int) < l.length) = true := decide_eq_true (by omega)
    have d2n : decide (100 < l.length) = true := decide_eq_true h2
    clear h1 h2
    go_enter Tryz.func3, Tryz.ntmps3
    go_wp2_with fail
    refine HAW.out.mono ?_; rintro e w1 ⟨rfl, hb1⟩
    go_wp2_with fail
    go_ret
    exact ⟨rfl, hb1⟩
  have d2 : decide ((100 : Int) < l.length) = false := decide_eq_false (by omega)
  have d2n : decide (100 < l.length) = false := decide_eq_false h2
  have HL1 : Hid (ps.length ≤ 1000000) := by show _ ≤ _; omega
  have HL2 : Hid (l.length ≤ 1000000) := by show _ ≤ _; omega
  clear h1 h2 hpl hl
  go_enter Tryz.func3, Tryz.ntmps3
  go_wp2_with fail
  refine HAW.out.mono ?_; rintro e w1 ⟨rfl, hb1⟩
  have L1 := Lib.hid hb1
  clear hb1 HAW
  go_wp2_with fail
  refine (audit_Admits P A pc c ps l w1 (HP.out.below L1.out) (HR.out.below L1.out) HL1.out HL2.out).mono ?_; rintro e w2 ⟨rfl, hb2⟩
  have L2 := Lib.hid (bthen L1.out hb2)
  clear hb2
  go_wp2_with fail
  refine (r30_Admits P A pc c ps l w2 (HP.out.below L2.out) (HR.out.below L2.out) HL1.out HL2.out).mono ?_; rintro e w3 ⟨rfl, hb3⟩
  have L3 := Lib.hid (bthen L2.out hb3)
  clear hb3
  go_wp2_with fail
  go_ret
  exact ⟨ret_bool (by simp), L3.out⟩
end
end Go.Proofs.YtfgidaaipmbibaaGreatDoor
