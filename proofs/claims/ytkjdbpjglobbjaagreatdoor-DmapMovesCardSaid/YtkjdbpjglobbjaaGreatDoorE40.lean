/- A part of the proof of a law on dependencies in three formats. No condition. -/
import Derived.Test.YtkjdbpjglobbjaaGreatDoorE35
import Derived.Test.YtkjdbpjglobbjaaGreatDoorE39
set_option maxRecDepth 100000
set_option maxHeartbeats 20000000
set_option linter.unusedVariables false
set_option linter.unusedSimpArgs false
namespace Go.Proofs.YtkjdbpjglobbjaaGreatDoor
section
open Go.RowKit Go.Deep
theorem GX {α β:Type}{f:α→β}{l m:List α}(h:l.map f=m.map f){k:Nat}{x:α}(hx:l[k]?=some x):∃ y,m[k]?=some y∧f y=f x:=by
 have:(m.map f)[k]?=some (f x):=by rw[←h,List.getElem?_map,hx];rfl
 rw[List.getElem?_map,Option.map_eq_some_iff] at this
 exact this
theorem KG {α β:Type}{f:α→β}{l m:List α}(h:l.map f=m.map f):l.length=m.length:=by have:=congrArg List.length h;simpa using this
end
end Go.Proofs.YtkjdbpjglobbjaaGreatDoor
