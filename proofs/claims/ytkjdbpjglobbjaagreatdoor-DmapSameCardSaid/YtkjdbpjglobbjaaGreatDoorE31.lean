/- A part of the proof of a law on dependencies in three formats. No condition. -/
import Derived.Test.YtkjdbpjglobbjaaGreatDoorE19
import Derived.Test.YtkjdbpjglobbjaaGreatDoorE30
set_option maxRecDepth 100000
set_option maxHeartbeats 20000000
set_option linter.unusedVariables false
set_option linter.unusedSimpArgs false
namespace Go.Proofs.YtkjdbpjglobbjaaGreatDoor
section
open Go.RowKit
def rM (fmt:Int)(l:List ba):List ba:=if fmt=3 then l else dM false l++dM true l
end
end Go.Proofs.YtkjdbpjglobbjaaGreatDoor
