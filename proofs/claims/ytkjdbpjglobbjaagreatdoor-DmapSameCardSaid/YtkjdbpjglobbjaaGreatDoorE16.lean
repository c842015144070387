/- A part of the proof of a law on dependencies in three formats. No condition. -/
import Derived.Test.YtkjdbpjglobbjaaGreatDoorE13
set_option maxRecDepth 100000
set_option maxHeartbeats 20000000
set_option linter.unusedVariables false
set_option linter.unusedSimpArgs false
namespace Go.Proofs.YtkjdbpjglobbjaaGreatDoor
section
open Go.RowKit
theorem ue {a b:Int}{s:BA}:(trans a b s).1.length≤64:=by
 unfold trans
 repeat' split
 all_goals first | (simp;done) | skip
 unfold qi
 split
 ·rename_i h;unfold ct at h;simp only[Bool.and_eq_true,decide_eq_true_eq] at h;exact h.2.2
 ·simp
end
end Go.Proofs.YtkjdbpjglobbjaaGreatDoor
