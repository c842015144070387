/- A part of the proof of a law on dependencies in three formats. No condition. -/
import Derived.Test.YtkjdbpjglobbjaaGreatDoorE13
set_option maxRecDepth 100000
set_option maxHeartbeats 20000000
set_option linter.unusedVariables false
set_option linter.unusedSimpArgs false
namespace Go.Proofs.YtkjdbpjglobbjaaGreatDoor
theorem lX {p:UInt8→Bool}{l r:LU}(h:l.all p=true)(hr:∀ c,r.head?=some c→p c=false):au p (l++r)=l.length:=by
 unfold au
 induction l with
 | nil=>
  cases r with
  | nil=>rfl
  | cons a t=>rw[List.nil_append,List.takeWhile_cons_of_neg (by rw[hr a rfl];simp)]
 | cons a t ih=>
  rw[List.all_cons,Bool.and_eq_true] at h
  rw[List.cons_append,List.takeWhile_cons_of_pos h.1,List.length_cons,ih h.2,List.length_cons]
end Go.Proofs.YtkjdbpjglobbjaaGreatDoor
