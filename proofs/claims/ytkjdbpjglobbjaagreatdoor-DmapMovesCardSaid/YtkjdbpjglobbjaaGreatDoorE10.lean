/- A part of the proof of a law on dependencies in three formats. No condition. -/
import Derived.Test.YtkjdbpjglobbjaaGreatDoorE06
import Derived.Test.YtkjdbpjglobbjaaGreatDoorE07
set_option maxRecDepth 100000
set_option maxHeartbeats 20000000
set_option linter.unusedVariables false
set_option linter.unusedSimpArgs false
namespace Go.Proofs.YtkjdbpjglobbjaaGreatDoor
section
open Go.RowKit
def nt (r:Option (LU×LU×LU))(w:World)(e:Ending)(w':World):Prop:=
 ∃ (ep pr rv:BA) (ok:Bool),e=.returned (.agg #[.string ep,.string pr,.string rv,.bool ok])∧(match r with | some (a,b,d)=>ok=true∧bl ep=a∧bl pr=b∧bl rv=d | none=>ok=false)∧Below w.heap.size w w'
theorem EU {c:UInt8}{l:LU}(h:aE c l=false)(t:LU):l≠c::t:=by
 intro e;subst e;simp[aE] at h
theorem Ay {c:UInt8}{s:BA}(h:aE c (bl s)=true):0<s.size:=by
 have:=congrArg List.length (lT h)
 rw[af] at this;simp at this;omega
theorem Rl (s:BA)(c:UInt8)(w:World)(hs:s.size≤9223372036854775807):
  Calls Tryz.prog 200 #[.string s,.int .u8 c.toNat] w fun e w'=>e=.returned (.bool (aE c (bl s)))∧w=w':=by
 by_cases h0:0<s.size
 ·have hc:=dZ s h0
  have E:Hid (aE c (bl s)=((s[0].toNat:Int)==(c.toNat:Int))):=by
   show _=_
   rw[hc]
   show(s[0]==c)=_
   rw[bI]
   simp only[beq_iff_eq]
   constructor
   ·intro h;rw[h]
   ·intro h;exact UInt8.toNat_inj.1 (by omega)
  clear hc
  go_enter Tryz.func200,Tryz.ntmps200
  go_wp2_with fail
  go_ret
  exact⟨by rw[E.out];rfl,rfl⟩
 ·have E:Hid (aE c (bl s)=false):=by show _=_;rw[bj s (by omega)];rfl
  go_enter Tryz.func200,Tryz.ntmps200
  go_wp2_with fail
  go_ret
  exact⟨by rw[E.out];rfl,rfl⟩
theorem fE (s:BA)(c:UInt8)(b:Bool)(w:World)(hs:s.size≤9223372036854775807)(h:Hid (aE c (bl s)=b)):
  Calls Tryz.prog 200 #[.string s,.int .u8 c.toNat] w fun e w'=>e=.returned (.bool b)∧w=w':=by rw[←h.out];exact Rl s c w hs
def ow:List Value:=(List.range 9).map (fun j=>.string (ci j))
theorem Ls (w:World):
  Calls Tryz.prog 202 #[] w fun e w'=>∃ t,e=.returned (.slice (some ⟨w.heap.size,0,none⟩) 9 9)∧w'=w.alloc (.cells ow.toArray t):=by
 go_enter Tryz.func202,Tryz.ntmps202
 go_wp2_with fail
 go_ret
 exact⟨_,rfl,rfl⟩
theorem wm (s:BA)(n:Nat)(w:World)(hs:s.size≤9223372036854775807)(h:Hid (au cD (bl s)=n)):
  Calls Tryz.prog 201 #[.string s] w fun e w'=>e=.returned (.int .i64 n)∧w=w':=by rw[←h.out];exact EJ s w hs
theorem zA (l:LU)(h:dt (l.take (au cD l))≠none):au be l=au cD l:=by
 obtain⟨k,hk⟩:=Option.ne_none_iff_exists'.1 h
 have hall:(l.take (au cD l)).all be=true:=by
  have key:∀ x:LU,dt x=some k→x.all be=true:=by
   intro x hx
   have hm:x∈pX:=by
    have g:∀ (L:List (LU))(j:Nat),oY L x=some j→x∈L:=by
     intro L
     induction L with
     | nil=>intro j hj;simp[oY] at hj
     | cons a r ih=>
      intro j hj
      unfold oY at hj
      split at hj
      ·rename_i e;simp[e]
      ·obtain⟨i,hi,_⟩:=Option.map_eq_some_iff.1 hj
       exact List.mem_cons_of_mem _ (ih i hi)
    exact g pX k hx
   have ha:∀ y∈pX,y.all be=true:=by decide
   exact ha x hm
  exact key _ hk
 revert hall
 clear h hk
 induction l with
 | nil=>intro _;rfl
 | cons a r ih=>
  intro hall
  by_cases hl:cD a=true
  ·have e1:au cD (a::r)=au cD r+1:=by simp[au,hl]
   rw[e1,List.take_succ_cons,List.all_cons,Bool.and_eq_true] at hall
   have e2:au be (a::r)=au be r+1:=by simp[au,hall.1]
   rw[e1,e2,ih hall.2]
  ·have hs:be a=false:=by
    cases h:be a
    ·rfl
    ·exact absurd (by simp[cD,h]) hl
   simp[au,hl,hs]
end
end Go.Proofs.YtkjdbpjglobbjaaGreatDoor
