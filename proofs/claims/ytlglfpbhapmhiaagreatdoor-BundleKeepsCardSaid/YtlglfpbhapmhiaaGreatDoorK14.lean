/- A part of the proof. -/
import Derived.Test.YtlglfpbhapmhiaaGreatDoorK07
import Derived.Test.YtlglfpbhapmhiaaGreatDoorK11
import Derived.Test.YtlglfpbhapmhiaaGreatDoorK13
set_option maxRecDepth 100000
set_option maxHeartbeats 20000000
set_option linter.unusedVariables false
set_option linter.unusedSimpArgs false
namespace Go.Proofs.YtlglfpbhapmhiaaGreatDoor
section
open Go.RowKit
def oI (l:LU):Option (LU×LU×LU):=(rj l).map fun x=>([],x.2.1,x.2.2)
def vY (fmt:Int)(l:LU):Option (LU×LU×LU):=if fmt=1 then gW l else if fmt=2 then gZ l else oI l
theorem nM (s:BA)(w:World)(hG:Gl w)(hs:s.size≤64):
  Calls Tryz.prog 82 #[.int .i64 3,.string s] w (nu (oI (bl s)) w):=by
 have HG:=ae hG;clear hG
 go_enter Tryz.func82,Tryz.ntmps82
 go_wp2_with fail
 refine(rp s _ HG.out hs).mono ?_
 rintro e w1 ⟨hb1,hm⟩
 cases ha:rj (bl s) with
 | none=>
  rw[ha] at hm
  obtain⟨A,n,c,p,q,rfl⟩:=hm
  have HR:Hid (oI (bl s)=none):=by show _=_;unfold oI;rw[ha];rfl
  clear ha
  go_wp2_with fail
  refine bodyPost_ret (aF rfl _ _ _) rfl ?_
  exact⟨⟨#[]⟩,⟨#[]⟩,⟨#[]⟩,3,rfl,by rw[HR.out];exact⟨rfl,rfl,rfl,rfl⟩,hb1⟩
 | some x=>
  obtain⟨ps,p,q⟩:=x
  rw[ha] at hm
  obtain⟨A,c,rfl,_⟩:=hm
  have HR:Hid (oI (bl s)=some ([],p,q)):=by show _=_;unfold oI;rw[ha];rfl
  clear ha
  go_wp2_with fail
  refine bodyPost_ret (aF rfl _ _ _) rfl ?_
  exact⟨⟨#[]⟩,⟨p.toArray⟩,⟨q.toArray⟩,0,rfl,by rw[HR.out];exact⟨rfl,rfl,io p,io q⟩,hb1⟩
theorem nN (fmt:Int)(hf:fmt=1∨fmt=2∨fmt=3)(s:BA)(w:World)(hG:Gl w)(hs:s.size≤64):
  Calls Tryz.prog 82 #[.int .i64 fmt,.string s] w (nu (vY fmt (bl s)) w):=by
 rcases hf with rfl | rfl | rfl
 ·exact mG s w hG hs
 ·exact nI s w hG hs
 ·exact nM s w hG hs
def cJ (fmt:Int)(s:BA):Int:=if ¬ (fmt=1∨fmt=2∨fmt=3) then 9 else if 64<s.size then 4 else Ch (vY fmt (bl s))
theorem nO (fmt:Int)(s:BA)(w:World)(hs:s.size≤9223372036854775807)(h:¬ (fmt=1∨fmt=2∨fmt=3)∨64<s.size):
  Calls Tryz.prog 82 #[.int .i64 fmt,.string s] w fun e w'=>e=.returned (.tuple #[.string ⟨#[]⟩,.string ⟨#[]⟩,.string ⟨#[]⟩,.int .i64 (cJ fmt s)])∧w=w':=by
 by_cases hf:fmt=1∨fmt=2∨fmt=3
 ·have h64:64<s.size:=h.resolve_left (fun hn=>hn hf)
  have E:Hid (cJ fmt s=4):=by show _=_;unfold cJ;rw[if_neg (fun hn=>hn hf),if_pos h64]
  clear h
  rcases hf with rfl | rfl | rfl
  all_goals
   go_enter Tryz.func82,Tryz.ntmps82
   go_wp2_with fail
   refine bodyPost_ret (aF rfl _ _ _) rfl ?_
   exact⟨by rw[E.out];rfl,rfl⟩
 ·have E:Hid (cJ fmt s=9):=by show _=_;unfold cJ;rw[if_pos hf]
  have q1:(fmt != 1)=true:=by simp[bne];omega
  have q2:(fmt != 2)=true:=by simp[bne];omega
  have q3:(fmt != 3)=true:=by simp[bne];omega
  clear h hf
  go_enter Tryz.func82,Tryz.ntmps82
  go_wp2_with fail
  refine bodyPost_ret (aF rfl _ _ _) rfl ?_
  exact⟨by rw[E.out];rfl,rfl⟩
theorem aU (fmt:Int)(s:BA)(w:World)(hG:Gl w)(hs:s.size≤9223372036854775807):
  Calls Tryz.prog 43 #[.int .i64 fmt,.string s] w fun e w'=>e=.returned (.int .i64 (cJ fmt s))∧Below w.heap.size w w':=by
 have HG:=ae hG;clear hG
 by_cases h:¬ (fmt=1∨fmt=2∨fmt=3)∨64<s.size
 ·have HH:=ae h;clear h
  go_enter Tryz.func43,Tryz.ntmps43
  go_wp2_with fail
  refine(nO fmt s _ hs HH.out).mono ?_
  rintro e w1 ⟨rfl,rfl⟩
  go_wp2_with fail
  go_ret
  exact⟨rfl,bR⟩
 ·have hf:fmt=1∨fmt=2∨fmt=3:=Classical.byContradiction fun hn=>h (.inl hn)
  have h64:¬ 64<s.size:=fun hn=>h (.inr hn)
  have E:Hid (cJ fmt s=Ch (vY fmt (bl s))):=by show _=_;unfold cJ;rw[if_neg (fun hn=>hn hf),if_neg h64]
  have HF:=ae hf
  clear h hf
  go_enter Tryz.func43,Tryz.ntmps43
  go_wp2_with fail
  refine(nN fmt HF.out s _ HG.out (by omega)).mono ?_
  rintro e w1 ⟨ep,pr,rv,c,rfl,hr,hb1⟩
  have HR:=ae hr;clear hr
  go_wp2_with fail
  go_ret
  refine⟨aE ?_,hb1⟩
  rw[E.out]
  have hr:=HR.out
  cases h:vY fmt (bl s) with
  | none=>rw[h] at hr;exact hr.1
  | some x=>obtain⟨a,b,d⟩:=x;rw[h] at hr;exact hr.1
end
end Go.Proofs.YtlglfpbhapmhiaaGreatDoor
