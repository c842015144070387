/- A part of the proof of a law on dependencies in three formats. No condition. -/
import Derived.Test.YtkjdbpjglobbjaaGreatDoorE50
import Derived.Test.YtkjdbpjglobbjaaGreatDoorE58
set_option maxRecDepth 100000
set_option maxHeartbeats 20000000
set_option linter.unusedVariables false
set_option linter.unusedSimpArgs false
namespace Go.Proofs.YtkjdbpjglobbjaaGreatDoor
section
open Go.RowKit
def yP (d:aq):Prop:=d.alts.length≤80∧nU d.alts
theorem Qy {l:List aq}(h0:l.length≤80)(h:∀ x∈l,yP x):oR l:=
 ⟨by omega,fun x hx=>by have:=(h x hx).1;omega,fun x hx g hg=>by have:=((h x hx).2 g hg).1;omega,fun x hx g hg=>by have:=((h x hx).2 g hg).2;omega⟩
theorem Ad (A:Option Addr)(c:Nat)(l:List aq)(w:World)(hs:eW w A l)(ho:∀ x∈l,x.fits)(hl:l.length≤9223372036854775807):
  Calls Tryz.prog 7 #[.slice A l.length c] w (tM (l.length≤80∧∀ x∈l,yP x) w):=by
 have HS:=ae hs;have HO:=ae ho
 clear hs ho
 by_cases hc:80<l.length
 ·have d1:decide ((80:Int)<l.length)=true:=dT (by omega)
  go_enter Tryz.func7,Tryz.ntmps7
  go_wp2_with fail
  go_ret
  exact iV bR
 have hle:l.length≤80:=by omega
 have d1:decide ((80:Int)<l.length)=false:=dF (by omega)
 go_enter Tryz.func7,Tryz.ntmps7
 go_wp2_with fail
 go_loopw [3] (fun i wr=>∃ k:Nat,k≤l.length∧i=.int .i64 k∧Hid (∀ y∈l.take k,yP y)∧Hid (Below w.heap.size w wr)) (fun i _=>l.length-(intOf i).toNat)
 case atStart=>exact⟨0,z0,rfl,by intro g hg;simp at hg,bR⟩
 case round=>
  obtain⟨k,hk,rfl,HT,HB⟩:=hrel
  by_cases hlt:k<l.length
  ·obtain⟨x,hx⟩:∃ x,l[k]?=some x:=⟨_,gG hlt⟩
   obtain⟨b,off,hA,he⟩:=(HS.out.row.below HB.out).elem fI k x hx
   have e1:=he 1 _ rfl
   have hix:=fun W=>aH (T:=22) (E:=33) (sz:=2) (c:=c) Tryz.underlying22 rfl Tryz.sizeOf33 hA hlt W
   obtain⟨z3,z4⟩:=HO.out x (gM hx)
   have SH:=ae (BR x.aa x.ac x.alts 80 wr ((HS.out.all x (gM hx)).below HB.out) z4 z3 (by omega))
   have HX:=ae hx
   clear hx hA he z4 z3
   go_wp2_with fail
   refine SH.out.mono ?_;rintro e w1 ⟨bb,rfl,hp,hb1⟩
   have B1:=ae (ah HB.out hb1)
   have HP:=ae hp
   clear hb1 hp e1 hix
   cases bb
   ·go_wp2_with fail
    go_ret
    exact iV B1.out
   have HN:Hid (∀ y∈l.take (k+1),yP y):=yO HT.out HX.out (HP.out rfl)
   go_wp2_with fail
   go_roundw
   case rel=>exact⟨k+1,by omega,by go_num,HN,B1⟩
   case measure=>simp[intOf];omega
  ·have HN:Hid (∀ y∈l,yP y):=by have:=HT.out;rwa [tL (by omega)] at this
   go_wp2_with fail
   go_ret
   exact nV ⟨hle,HN.out⟩ HB.out
end
end Go.Proofs.YtkjdbpjglobbjaaGreatDoor
