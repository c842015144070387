/- A part of the proof of a law on dependencies in three formats. No condition. -/
import Derived.Test.YtkjdbpjglobbjaaGreatDoorE36
import Derived.Test.YtkjdbpjglobbjaaGreatDoorE50
set_option maxRecDepth 100000
set_option maxHeartbeats 20000000
set_option linter.unusedVariables false
set_option linter.unusedSimpArgs false
namespace Go.Proofs.YtkjdbpjglobbjaaGreatDoor
section
open Go.RowKit
def qK (x:aB):Prop:=x.nm.size≤300∧x.ver.size≤300∧x.gives.length≤30∧nU x.gives
theorem KE {l:List aB}(h0:l.length≤30)(h:∀ x∈l,qK x):xF l:=
 ⟨by omega,fun x hx=>by have:=(h x hx).1;omega,fun x hx=>by have:=(h x hx).2.1;omega,fun x hx=>by have:=(h x hx).2.2.1;omega,fun x hx g hg=>by have:=((h x hx).2.2.2 g hg).1;omega,fun x hx g hg=>by have:=((h x hx).2.2.2 g hg).2;omega⟩
theorem sr (A:Option Addr)(c:Nat)(l:List aB)(w:World)(hs:kF w A l)(ho:∀ x∈l,x.fits)(hl:l.length≤9223372036854775807):
  Calls Tryz.prog 11 #[.slice A l.length c] w (tM (l.length≤30∧∀ x∈l,qK x) w):=by
 have HS:=ae hs;have HO:=ae ho
 clear hs ho
 by_cases hc:30<l.length
 ·have d1:decide ((30:Int)<l.length)=true:=dT (by omega)
  go_enter Tryz.func11,Tryz.ntmps11
  go_wp2_with fail
  go_ret
  exact iV bR
 have hle:l.length≤30:=by omega
 have d1:decide ((30:Int)<l.length)=false:=dF (by omega)
 go_enter Tryz.func11,Tryz.ntmps11
 go_wp2_with fail
 go_loopw [3] (fun i wr=>∃ k:Nat,k≤l.length∧i=.int .i64 k∧Hid (∀ y∈l.take k,qK y)∧Hid (Below w.heap.size w wr)) (fun i _=>l.length-(intOf i).toNat)
 case atStart=>exact⟨0,z0,rfl,by intro g hg;simp at hg,bR⟩
 case round=>
  obtain⟨k,hk,rfl,HT,HB⟩:=hrel
  by_cases hlt:k<l.length
  ·obtain⟨x,hx⟩:∃ x,l[k]?=some x:=⟨_,gG hlt⟩
   obtain⟨b,off,hA,he⟩:=(HS.out.row.below HB.out).elem lQ k x hx
   have e0:=he 0 _ rfl
   have e1:=he 1 _ rfl
   have e2:=he 2 _ rfl
   simp only[Nat.add_zero] at e0
   have hix:=fun W=>aH (T:=36) (E:=48) (sz:=3) (c:=c) Tryz.underlying36 rfl Tryz.sizeOf48 hA hlt W
   obtain⟨z1,z2,z3,z4⟩:=HO.out x (gM hx)
   have SH:=ae (BR x.ga x.gc x.gives 30 wr ((HS.out.all x (gM hx)).below HB.out) z4 z3 (by omega))
   have HX:=ae hx
   clear hx hA he z4 z3
   by_cases h1:300<x.nm.size
   ·have q1:decide ((300:Int)<x.nm.size)=true:=dT (by omega)
    go_wp2_with fail
    go_ret
    exact iV HB.out
   have q1:decide ((300:Int)<x.nm.size)=false:=dF (by omega)
   by_cases h2:300<x.ver.size
   ·have q2:decide ((300:Int)<x.ver.size)=true:=dT (by omega)
    go_wp2_with fail
    go_ret
    exact iV HB.out
   have q2:decide ((300:Int)<x.ver.size)=false:=dF (by omega)
   go_wp2_with fail
   refine SH.out.mono ?_;rintro e w1 ⟨bb,rfl,hp,hb1⟩
   have B1:=ae (ah HB.out hb1)
   have HP:=ae hp
   clear hb1 hp e0 e1 e2 hix
   cases bb
   ·go_wp2_with fail
    go_ret
    exact iV B1.out
   have HN:Hid (∀ y∈l.take (k+1),qK y):=yO HT.out HX.out (by have:=HP.out rfl;exact⟨by omega,by omega,this.1,this.2⟩)
   go_wp2_with fail
   go_roundw
   case rel=>exact⟨k+1,by omega,by go_num,HN,B1⟩
   case measure=>simp[intOf];omega
  ·have HN:Hid (∀ y∈l,qK y):=by have:=HT.out;rwa [tL (by omega)] at this
   go_wp2_with fail
   go_ret
   exact nV ⟨hle,HN.out⟩ HB.out
end
end Go.Proofs.YtkjdbpjglobbjaaGreatDoor
