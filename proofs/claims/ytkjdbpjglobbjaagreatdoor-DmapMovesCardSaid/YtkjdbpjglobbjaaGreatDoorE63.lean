/- A part of the proof of a law on dependencies in three formats. No condition. -/
import Derived.Deep.RegionHeld3
import Derived.LaidEqlPtr
import Derived.Laws.IdiomStrings
import Derived.Laws.StructEq
import Derived.Lib.AppendZeros
import Derived.Lib.ItoaNum
import Derived.MapKept
import Derived.Test.YtkjdbpjglobbjaaGreatDoorE00
set_option maxRecDepth 100000
set_option maxHeartbeats 20000000
set_option linter.unusedVariables false
set_option linter.unusedSimpArgs false
namespace Go.Proofs.YtkjdbpjglobbjaaGreatDoor.dmapMoves
theorem and_tt {a b:Bool}(h:a=true)(k:b=true):(a&&b)=true:=by rw[h,k];rfl
theorem closed:joinedFacts Tryz.pinned.checked.prog 4 Tryz.f4 (OpenSpec.ofChange Rows.dmapMovesSpec).bare Rows.dmapMovesRow=true:=by
 unfold joinedFacts
 repeat' (with_reducible refine and_tt ?_ ?_)
 all_goals (as_aux_lemma=>kernel_rfl)
end Go.Proofs.YtkjdbpjglobbjaaGreatDoor.dmapMoves
