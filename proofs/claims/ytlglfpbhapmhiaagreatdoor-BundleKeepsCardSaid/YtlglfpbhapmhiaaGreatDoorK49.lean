/- A part of the proof. -/
import Derived.Test.YtlglfpbhapmhiaaGreatDoorK47
set_option maxRecDepth 100000
set_option maxHeartbeats 20000000
set_option linter.unusedVariables false
set_option linter.unusedSimpArgs false
namespace Go.Proofs.YtlglfpbhapmhiaaGreatDoor
section
open Go.ChangeShapes Go.WideShapes Go.Deep Go.RowKit
section
variable {H : Type} {enc : TypeId × Value → H} {w : World} {spare : Nat → Bool}
def KR (w:World)(x:am):Prop:=x.fits∧Rd w 1 x.da x.data.length (x.data.map vb)∧x.data.length≤x.dc∧x.dc≤9223372036854775807
theorem FN {fuel:Nat}{v:Value}{d:DataW H×List MemPlace}(h:DataW.trod enc Tryz.prog w 0 spare true fuel 28 [v]=some d):
  ∃ (A:OA) (c:Nat) (l:List am),v=.slice A l.length c∧Rd w 10 A l.length (l.flatMap am.cells)∧(∀ x∈l,KR w x)∧l.length≤9223372036854775807∧l.length≤c:=by
 refine lS Tryz.underlying28 Tryz.underlying35 (by kernel_rfl) (by kernel_rfl) (by decide) am.cells (KR w) (fun _=>rfl) (fun n vs hv=>?_) h
 obtain⟨y0,h0⟩:=hv 0 _ rfl
 obtain⟨y1,h1⟩:=hv 1 _ rfl
 obtain⟨y2,h2⟩:=hv 2 _ rfl
 obtain⟨y3,h3⟩:=hv 3 _ rfl
 obtain⟨y4,h4⟩:=hv 4 _ rfl
 obtain⟨y5,h5⟩:=hv 5 _ rfl
 obtain⟨y6,h6⟩:=hv 6 _ rfl
 obtain⟨y7,h7⟩:=hv 7 _ rfl
 obtain⟨y8,h8⟩:=hv 8 _ rfl
 obtain⟨y9,h9⟩:=hv 9 _ rfl
 obtain⟨s0,e0,z0⟩:=cK h0
 obtain⟨s1,e1,z1⟩:=gd h1
 obtain⟨s2,e2,z2⟩:=gd h2
 obtain⟨s3,e3,z3⟩:=gd h3
 obtain⟨s4,e4,z4⟩:=gd h4
 obtain⟨s5,e5,z5⟩:=cK h5
 obtain⟨s6,e6,z6⟩:=cK h6
 obtain⟨s7,e7,z7⟩:=gd h7
 obtain⟨s8,e8,z8⟩:=cK h8
 obtain⟨A,m,c,l,e9,hr,hmc,hc⟩:=Cd h9
 have hm:m=l.length:=by have:=hr.1;simpa using this.symm
 subst hm
 refine⟨⟨s0,s1,s2,s3,s4,s5,s6,s7,s8,A,c,l⟩,⟨⟨z0,z5,z6,z8,by show l.length≤_;omega⟩,hr,hmc,hc⟩,fun j hj=>?_⟩
 have hj':j<10:=hj
 rcases(by omega:j=0∨j=1∨j=2∨j=3∨j=4∨j=5∨j=6∨j=7∨j=8∨j=9) with rfl | rfl | rfl | rfl | rfl | rfl | rfl | rfl | rfl | rfl
 ·rw[e0];rfl
 ·rw[e1];rfl
 ·rw[e2];rfl
 ·rw[e3];rfl
 ·rw[e4];rfl
 ·rw[e5];rfl
 ·rw[e6];rfl
 ·rw[e7];rfl
 ·rw[e8];rfl
 ·rw[e9];rfl
theorem xi {n:Nat}{cs:LV}{y:DataW H×List MemPlace}(h:DataW.trod enc Tryz.prog w 0 spare true n 30 cs=some y):∃ b:dt,cs=b.cells∧b.ok w∧b.fits∧b.caps:=by
 have hC:Tryz.prog.cellsOf 30=11:=by kernel_rfl
 have hP:Tryz.prog.cellsOf 27=9:=by kernel_rfl
 have hS:Tryz.prog.cellsOf 22=1:=by kernel_rfl
 have hE:Tryz.prog.cellsOf 28=1:=by kernel_rfl
 obtain⟨xs,n1,_,_,hl,hxl,hf⟩:=DataW.trod_struct Tryz.underlying30 h
 rw[hC] at hl
 match cs,hl with
 | [c0,c1,c2,c3,c4,c5,c6,c7,c8,c9,c10],_=>
  have h0:DataW.trod enc Tryz.prog w 0 spare true n1 27 (([c0,c1,c2,c3,c4,c5,c6,c7,c8,c9,c10].drop 0).take (Tryz.prog.cellsOf 27))=xs[0]?:=hf 0 _ rfl
  have h1:DataW.trod enc Tryz.prog w 0 spare true n1 22 (([c0,c1,c2,c3,c4,c5,c6,c7,c8,c9,c10].drop 9).take (Tryz.prog.cellsOf 22))=xs[1]?:=hf 1 _ rfl
  have h2:DataW.trod enc Tryz.prog w 0 spare true n1 28 (([c0,c1,c2,c3,c4,c5,c6,c7,c8,c9,c10].drop 10).take (Tryz.prog.cellsOf 28))=xs[2]?:=hf 2 _ rfl
  have hx3:xs.length=3:=hxl
  rw[hP,gG (by omega)] at h0
  rw[hS,gG (by omega)] at h1
  rw[hE,gG (by omega)] at h2
  obtain⟨ca,cc,conf,e9,hcr,hcz,hcl,_⟩:=pj Tryz.underlying22 Tryz.underlying9 (by kernel_rfl) (v:=c9) h1
  obtain⟨ea,ec,ents,e10,her,heo,hel,_⟩:=FN (v:=c10) h2
  have h0':DataW.trod enc Tryz.prog w 0 spare true n1 27 [c0,c1,c2,c3,c4,c5,c6,c7,c8]=some xs[0]:=h0
  obtain⟨zs,n2,_,_,_,hzl,hz⟩:=DataW.trod_struct Tryz.underlying27 h0'
  have hz9:zs.length=9:=hzl
  have key:∀ (j:Nat)(t:TypeId),j<9→DataW.trod enc Tryz.prog w 0 spare true n2 t ((([c0,c1,c2,c3,c4,c5,c6,c7,c8]:LV).drop j).take 1)=zs[j]?→∃ y,DataW.trod enc Tryz.prog w 0 spare true n2 t [([c0,c1,c2,c3,c4,c5,c6,c7,c8]:LV).getD j .nilIface]=some y:=by
   intro j t hj h1
   refine⟨zs[j]'(by omega),?_⟩
   rw[gG (by omega)] at h1
   rcases(by omega:j=0∨j=1∨j=2∨j=3∨j=4∨j=5∨j=6∨j=7∨j=8) with rfl | rfl | rfl | rfl | rfl | rfl | rfl | rfl | rfl<;>exact h1
  obtain⟨pk,⟨g1,g2,_⟩,g3⟩:=Ks (enc:=enc) (w:=w) (spare:=spare) n2 (fun j=>([c0,c1,c2,c3,c4,c5,c6,c7,c8]:LV).getD j .nilIface) (fun j t ht=>by
   have hj:j<9:=by simpa using(gS ht).1
   refine key j t hj ?_
   rcases(by omega:j=0∨j=1∨j=2∨j=3∨j=4∨j=5∨j=6∨j=7∨j=8) with rfl | rfl | rfl | rfl | rfl | rfl | rfl | rfl | rfl
   ·have ht:=Option.some.inj ht;subst ht;exact hz 0 _ rfl
   ·have ht:=Option.some.inj ht;subst ht;exact hz 1 _ rfl
   ·have ht:=Option.some.inj ht;subst ht;exact hz 2 _ rfl
   ·have ht:=Option.some.inj ht;subst ht;exact hz 3 _ rfl
   ·have ht:=Option.some.inj ht;subst ht;exact hz 4 _ rfl
   ·have ht:=Option.some.inj ht;subst ht;exact hz 5 _ rfl
   ·have ht:=Option.some.inj ht;subst ht;exact hz 6 _ rfl
   ·have ht:=Option.some.inj ht;subst ht;exact hz 7 _ rfl
   ·have ht:=Option.some.inj ht;subst ht;exact hz 8 _ rfl)
  refine⟨⟨pk,ca,cc,conf,ea,ec,ents⟩,?_,⟨g1,hcr,⟨her,fun x hx=>(heo x hx).2.1⟩⟩,⟨g2,hcl,hcz,hel,fun x hx=>(heo x hx).1⟩,fun x hx=>(heo x hx).2.2⟩
  have k0:pk.cells[0]?=some c0:=g3 0 (by decide)
  have k1:pk.cells[1]?=some c1:=g3 1 (by decide)
  have k2:pk.cells[2]?=some c2:=g3 2 (by decide)
  have k3:pk.cells[3]?=some c3:=g3 3 (by decide)
  have k4:pk.cells[4]?=some c4:=g3 4 (by decide)
  have k5:pk.cells[5]?=some c5:=g3 5 (by decide)
  have k6:pk.cells[6]?=some c6:=g3 6 (by decide)
  have k7:pk.cells[7]?=some c7:=g3 7 (by decide)
  have k8:pk.cells[8]?=some c8:=g3 8 (by decide)
  have k0:=Option.some.inj k0
  have k1:=Option.some.inj k1
  have k2:=Option.some.inj k2
  have k3:=Option.some.inj k3
  have k4:=Option.some.inj k4
  have k5:=Option.some.inj k5
  have k6:=Option.some.inj k6
  have k7:=Option.some.inj k7
  have k8:=Option.some.inj k8
  rw[e9,e10,←k0,←k1,←k2,←k3,←k4,←k5,←k6,←k7,←k8]
  rfl
theorem zE {r:Reach}{base:Nat}{v:Value}{d:DataW H}{p:List MemPlace}(hv:Value.okWide Tryz.prog w r base 30 v)
  (h:DataW.Trod enc Tryz.prog w 0 spare true 30 v d p):∃ b:dt,v=b.val∧b.ok w∧b.fits∧b.caps:=by
 obtain⟨cs,rfl,hcs⟩:=okWide_struct Tryz.underlying30 hv
 obtain⟨fuel,hf⟩:=h
 have hf':DataW.trod enc Tryz.prog w 0 spare true fuel 30 cs.toList=some (d,p):=hf
 obtain⟨b,hb,h1,h2,h3⟩:=xi hf'
 refine⟨b,?_,h1,h2,h3⟩
 have e2:cs=b.cells.toArray:=by rw[←hb]
 rw[e2];rfl
end
end
end Go.Proofs.YtlglfpbhapmhiaaGreatDoor
