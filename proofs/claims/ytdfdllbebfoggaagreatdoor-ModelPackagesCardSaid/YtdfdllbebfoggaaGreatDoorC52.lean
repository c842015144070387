/- A part of the proof that ModelPackages holds. No condition. -/
import Derived.Test.YtdfdllbebfoggaaGreatDoorCards
import Derived.Test.YtdfdllbebfoggaaGreatDoorTie
import Derived.Deep.DeepHandedRow
import Derived.Deep.DeepWitnessRowRef
import Derived.LaidHandle
import Derived.Lay
import Derived.Lib.LaidTab
import Derived.OpenShut
import Derived.Test.YtdfdllbebfoggaaGreatDoorC00
set_option maxRecDepth 100000
set_option maxHeartbeats 20000000
set_option linter.unusedVariables false
set_option linter.unusedSimpArgs false
namespace Go.Proofs.YtdfdllbebfoggaaGreatDoor.modelPackages
theorem and_tt {a b:Bool}(h:a=true)(k:b=true):(a&&b)=true:=by rw[h,k];rfl
theorem closed:joinedFacts Tryz.pinned.checked.prog 3 Tryz.f3 (OpenSpec.ofChange Rows.modelPackagesSpec).bare Rows.modelPackagesRow=true:=by
 unfold joinedFacts
 repeat' (with_reducible refine and_tt ?_ ?_)
 all_goals (as_aux_lemma=>kernel_rfl)
end Go.Proofs.YtdfdllbebfoggaaGreatDoor.modelPackages
