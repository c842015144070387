/- A part of the proof. -/
import Derived.Test.YtlglfpbhapmhiaaGreatDoorL41
set_option maxRecDepth 100000
set_option maxHeartbeats 20000000
set_option linter.unusedVariables false
set_option linter.unusedSimpArgs false
namespace Go.Proofs.YtlglfpbhapmhiaaGreatDoor
variable{fmt:Int}{conf:List BA}{d:Nat}
section
open Go.RowKit
def cW (fmt:Int)(conf:List BA)(l:List ag)(x:ag):av:=
 ⟨x.path,if x.kind=4 then 1 else x.kind,x.mode,x.owner,x.group,if x.kind=3 then x.link else ⟨#[]⟩,if iq x=true then At fmt (fN l (cJ l x)) else ⟨#[]⟩,yL conf x.path⟩
theorem wl:∀ {l:List av}{s:BA}{k:av},iB l s=some k->k∈l/\k.path=s
 | [],_,_,h=>by cases h
 | x::r,s,k,h=>by
  unfold iB at h;cases hr:iB r s with
  | some k'=>
   rw[hr] at h;injection h with h;subst h;obtain⟨a,b⟩:=wl hr;exact⟨List.mem_cons_of_mem _ a,b⟩
  | none=>
   rw[hr] at h;simp only at h;split at h
   ·rename_i hp;injection h with h;subst h;exact⟨List.mem_cons_self ..,hp⟩
   ·cases h
theorem yS:∀ {l:List av}{x:av},x∈l->(∀ y∈l,y.path=x.path->y=x)->iB l x.path=some x
 | [],x,h,_=>by simp at h
 | y::r,x,h,hu=>by
  unfold iB;cases hr:iB r x.path with
  | some k=>
   obtain⟨a,b⟩:=wl hr;rw[hu k (List.mem_cons_of_mem _ a) b]
  | none=>
   rcases List.mem_cons.1 h with rfl | h
   ·simp
   ·rw[yS h (fun y hy=>hu y (List.mem_cons_of_mem _ hy))] at hr;cases hr
theorem Du {l:List ag}(h:dn l){x:ag}{f:ag}(hd:l[d]?=some f)(hk:f.kind=1)(hp:f.path=grp x):cJ l x=d:=by
 unfold cJ;rw[Dr h hd hk hp l.length (gS hd).1];rfl
theorem fQ {l:List ag}(h:dn l){x:ag}{f:ag}(hd:l[d]?=some f)(hk:f.kind=1)(hp:f.path=grp x):fN l (cJ l x)=f.data:=by
 rw[Du h hd hk hp];unfold fN;rw[hd];rfl
theorem kQ (fmt:Int)(conf:List BA)(l:List ag)(x:ag):(cW fmt conf l x).path=x.path:=rfl
theorem AC {l:List ag}(h:dn l):∀ k,k<=l.length->bz fmt conf (l.take k)=(l.take k).map (cW fmt conf l):=by
 intro k
 induction k with
 | zero=>intro _;rfl
 | succ k ih=>
  intro hk;have hx:l[k]?=some l[k]:=gG (by omega);rw[tS (by omega),qq,ih (by omega),List.map_append];congr 1;show[_]=[_];congr 1;generalize hxe:l[k]=x at hx;unfold jz;by_cases h1:x.kind=1
  ·have hg:iq x=true:=cQ.2 (.inl h1);have hd:=fQ h hx h1 (x:=x) (by unfold grp;rw[if_neg (by omega)]);unfold cW;simp[h1,hg,hd]
  by_cases h4:x.kind=4
  ·have hg:iq x=true:=cQ.2 (.inr h4);obtain⟨i,f,hi,hf,hp,hk1,_⟩:=h.hard k x hx h4;have hfm:cW fmt conf l f∈(l.take k).map (cW fmt conf l):=List.mem_map.2 ⟨f,lP hf hi,rfl⟩;have hla:=yS hfm (fun y hy e=>by
    obtain⟨z,hz,rfl⟩:=List.mem_map.1 hy;obtain⟨j,hj,hjz⟩:=jj hz;have:=h.nd j i z f hjz hf e;subst this;rw[hjz] at hf;injection hf with hf;rw[hf])
   rw[kQ,hp] at hla;have hd:=fQ h hf hk1 (x:=x) (by unfold grp;rw[if_pos h4];exact hp);have hdf:=fQ h hf hk1 (x:=f) (by unfold grp;rw[if_neg (by omega)]);have hgf:iq f=true:=cQ.2 (.inl hk1);rw[hla];simp[h4,hg,hd,cW,hgf,hdf]
  ·have hg:iq x=false:=by
    cases e:iq x with
    | false=>rfl
    | true=>rcases cQ.1 e with e | e<;>contradiction
   unfold cW;simp[h1,h4,hg]
theorem kR {l:List ag}(h:dn l):bz fmt conf l=l.map (cW fmt conf l):=by
 have:=AC (fmt:=fmt) (conf:=conf) h l.length lr
 rwa [List.take_length] at this
theorem Gx {l m:List ag}(h:dn l)(c:rz l m){i:Nat}{x y:ag}(hx:l[i]?=some x)(hy:y∈m)(hs:(db l i x).same y):cW fmt conf m y=cW fmt conf l x:=by
 have hm:=gM hx;have hfm:=rA h c;have hp:y.path=x.path:=by rw[<-hs.path,dB]
 obtain⟨a1,a2,a3,a4,a5,a6⟩:=nx l i x;have hmo:y.mode=x.mode:=by rw[<-hs.mode,a1]
 have how:y.owner=x.owner:=by rw[<-hs.owner,a4]
 have hgr:y.group=x.group:=by rw[<-hs.group,a5]
 cases hg:iq x with
 | false=>
  have e:=jP (l:=l) (i:=i) hg;rw[e] at hs;have hgy:iq y=false:=by unfold iq at hg |-;rw[<-hs.kind];exact hg
  unfold cW;rw[hp,hmo,how,hgr,hg,hgy,<-hs.kind,<-hs.link];simp
 | true=>
  obtain⟨d,f,hd,fk,fp,_⟩:=lR h hm hg;have hdx:=fQ h hd fk fp;obtain⟨f0,hf0,gf0,pf0,_⟩:=kD hm hg;obtain⟨w,hw,ht⟩:=c.forth (bH l x) f0 hf0;have hff:bH l f0=bH l x:=by unfold bH;rw[pf0]
  have hda:cJ l f0=cJ l x:=by unfold cJ;rw[pf0]
  have hwk:w.kind=1:=by rw[<-ht.kind];unfold db;rw[if_pos gf0,if_pos hff.symm]
  have hwd:w.data=fN l (cJ l x):=by rw[<-ht.data];unfold db;rw[if_pos gf0,if_pos hff.symm,hda]
  have hwp:w.path=f0.path:=by rw[<-ht.path,dB]
  obtain⟨j,hj⟩:=List.getElem?_of_mem hw;have hy14:y.kind=1\/y.kind=4:=by rw[<-hs.kind];exact Hz (cQ.1 hg)
  have hgy:iq y=true:=cQ.2 hy14;have hgp:grp y=f0.path:=by
   by_cases e:i=bH l x
   ·have hk1:y.kind=1:=by rw[<-hs.kind];unfold db;rw[if_pos hg,if_pos e]
    unfold grp;rw[if_neg (by omega),hp];rw[<-e,hx] at hf0;injection hf0 with hf0;rw[hf0]
   ·have hk4:y.kind=4:=by rw[<-hs.kind];unfold db;rw[if_pos hg,if_neg e]
    unfold grp;rw[if_pos hk4,<-hs.link];unfold db;rw[if_pos hg,if_neg e];show du l (bH l x)=_;unfold du;rw[hf0];rfl
  have hdy:=fQ hfm hj hwk (x:=y) (hwp.trans hgp.symm);have hk3:¬ y.kind=3:=by rcases hy14 with e | e<;>omega
  have hx3:¬ x.kind=3:=by rcases cQ.1 hg with e | e<;>omega
  have e1:(if y.kind=4 then 1 else y.kind)=1:=by rcases hy14 with e | e<;>simp[e]
  have e2:(if x.kind=4 then 1 else x.kind)=1:=by rcases cQ.1 hg with e | e<;>simp[e]
  unfold cW;rw[hp,hmo,how,hgr,e1,e2,if_neg hk3,if_neg hx3,if_pos hgy,if_pos hg,hdy,hwd]
end
end Go.Proofs.YtlglfpbhapmhiaaGreatDoor
