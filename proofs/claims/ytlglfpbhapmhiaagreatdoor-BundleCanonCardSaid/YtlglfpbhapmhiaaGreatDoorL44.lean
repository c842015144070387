/- A part of the proof. -/
import Derived.Test.YtlglfpbhapmhiaaGreatDoorL43
set_option maxRecDepth 100000
set_option maxHeartbeats 20000000
set_option linter.unusedVariables false
set_option linter.unusedSimpArgs false
namespace Go.Proofs.YtlglfpbhapmhiaaGreatDoor
variable{s:BA}{i:Nat}
section
open Go.RowKit
def dd (l:List ag)(x:ag):BA:=du l (bH l x)
def jF (s:List ag)(i:Nat)(t:BA):Bool:=jm ((s.take i).map ag.path) t
def ob (l:List ag)(x:ag):ag:=
 if x.path=dd l x then { x with kind:=1,link:=⟨#[]⟩,data:=fN l (cJ l x) } else { x with kind:=4,link:=dd l x,data:=[] }
def nV (l s:List ag)(i:Nat)(x:ag):ag:=if iq x=true/\jF s i (dd l x)=true then ob l x else x
theorem wm (l s:List ag)(i:Nat)(x:ag):(nV l s i x).path=x.path:=by unfold nV ob;split;split;all_goals rfl
structure qw (l s:List ag) (i:Nat) (out:List ag):Prop where
 len:out.length=s.length
 st:∀ (j:Nat)(x y:ag),s[j]?=some x->out[j]?=some y->(nV l s i x).same y
structure NP (l s:List ag):Prop where
 perm:s.Perm l
 ord:s.Pairwise (fun x y=>¬ bl y.path<bl x.path)
theorem yT {l:List ag}(h:dn l){x y:ag}(hx:x∈l)(hy:y∈l)(e:x.path=y.path):x=y:=by
 obtain⟨i,hi⟩:=List.getElem?_of_mem hx;obtain⟨j,hj⟩:=List.getElem?_of_mem hy;have:=h.nd i j x y hi hj e;subst this;rw[hi] at hj;injection hj
theorem AD {l:List ag}{x:ag}(hx:x∈l)(hg:iq x=true):∃ y∈l,y.path=dd l x/\iq y=true/\grp y=grp x/\∀ z∈l,iq z=true->grp z=grp x->¬ bl z.path<bl (dd l x):=by
 obtain⟨y,a,b,c,d⟩:=kD hx hg;have e:dd l x=y.path:=by unfold dd du;rw[a];rfl
 exact⟨y,gM a,e.symm,b,c,by rw[e];exact d⟩
theorem nz {l:List ag}{x y:ag}(h:grp x=grp y):dd l x=dd l y:=by unfold dd bH;rw[h]
theorem wn {l:List ag}(h:dn l){x y:ag}(hx:x∈l)(hy:y∈l)(hg:iq y=true)(e:dd l y=x.path):iq x=true/\grp x=grp y/\dd l x=x.path:=by
 obtain⟨z,a,b,c,d,_⟩:=AD hy hg;have hz:z=x:=yT h a hx (b.trans e);subst hz;exact⟨c,d,(nz d).trans e⟩
theorem PQ {l:List ag}(h:dn l){x:ag}(hx:l[i]?=some x)(hg:iq x=true):ob l x=db l i x:=by
 obtain⟨y,a,b,c,d⟩:=kD (gM hx) hg;have e:dd l x=y.path:=by unfold dd du;rw[a];rfl
 unfold ob db;rw[if_pos hg];by_cases hi:i=bH l x
 ·have hy:x=y:=by rw[<-hi,hx] at a;injection a
  rw[if_pos hi,if_pos (by rw[e,hy])]
 ·rw[if_neg hi,if_neg (fun e2=>hi (h.nd i _ x y hx a (e2.trans e)))];rfl
theorem PT (h:s.size=0):s=⟨#[]⟩:=by apply dC;exact List.eq_nil_of_length_eq_zero (by rw[ah];exact h)
theorem NQ {l:List ag}(h:dn l){x z:ag}(hx:x∈l)(hz:z∈l)(hk:x.kind=1)(hl:dd l x=x.path)(hg:iq z=true)(hgr:grp z=grp x):z.same (ob l z):=by
 have gx:grp x=x.path:=by unfold grp;rw[if_neg (by omega)]
 have lz:dd l z=x.path:=(nz hgr).trans hl;have gz:=fO.1 (h.err z hz);unfold ob;rw[lz];split
 ·rename_i e;have hzx:=yT h hz hx e;subst hzx;obtain⟨d,hd⟩:=List.getElem?_of_mem hx;have hda:fN l (cJ l z)=z.data:=fQ h hd hk gx.symm;exact⟨rfl,hk,rfl,rfl,rfl,rfl,rfl,rfl,PT (gz.nol (by omega) (by omega)),hda.symm⟩
 ·rename_i e;have hz4:z.kind=4:=by
   rcases cQ.1 hg with k | k
   ·exfalso;have:grp z=z.path:=by unfold grp;rw[if_neg (by omega)]
    exact e (this.symm.trans (hgr.trans gx))
   ·exact k
  have hzl:z.link=x.path:=by have:grp z=z.link:=by unfold grp;rw[if_pos hz4]
                             exact this.symm.trans (hgr.trans gx)
  exact⟨rfl,hz4,rfl,rfl,rfl,rfl,rfl,rfl,hzl,List.eq_nil_of_length_eq_zero (gz.nod (by omega))⟩
theorem ag.same.trans' {x y z:ag}(h:x.same y)(k:y.same z):x.same z:=
 ⟨h.path.trans k.path,h.kind.trans k.kind,h.mode.trans k.mode,h.uid.trans k.uid,h.gid.trans k.gid,h.owner.trans k.owner,h.group.trans k.group,h.mtime.trans k.mtime,h.link.trans k.link,h.data.trans k.data⟩
theorem ag.same.symm' {x y:ag}(h:x.same y):y.same x:=
 ⟨h.path.symm,h.kind.symm,h.mode.symm,h.uid.symm,h.gid.symm,h.owner.symm,h.group.symm,h.mtime.symm,h.link.symm,h.data.symm⟩
section
variable {l s out : List ag} {i : Nat} {x y : ag}
theorem NP.nd (h:dn l)(hs:NP l s):∀ (i j:Nat)(x y:ag),s[i]?=some x->s[j]?=some y->x.path=y.path->i=j:=by
 refine sh ?_;rw[(hs.perm.map ag.path).nodup_iff];exact fP h.nd
theorem NP.le (hs:NP l s){j:Nat}{x y:ag}(hx:s[i]?=some x)(hy:s[j]?=some y)(hij:i<j):¬ bl y.path<bl x.path:=by
 obtain⟨hi,ei⟩:=gS hx;obtain⟨hj,ej⟩:=gS hy;have:=List.pairwise_iff_getElem.1 hs.ord i j hi hj hij;rw[ei,ej] at this;exact this
theorem nW {t:BA}:jF s i t=true↔∃ (k:Nat)(z:ag),k<i/\s[k]?=some z/\z.path=t:=by
 unfold jF;rw[jU,List.mem_map];constructor
 ·rintro⟨z,hz,e⟩;obtain⟨k,hk,hz⟩:=jj hz;exact⟨k,z,hk,hz,e⟩
 ·rintro⟨k,z,hk,hz,e⟩;exact⟨z,lP hz hk,e⟩
theorem rF (h:dn l)(hs:NP l s)(hx:s[i]?=some x):jF s i x.path=false:=by
 cases e:jF s i x.path with
 | false=>rfl
 | true=>
  obtain⟨k,z,hk,hz,hp⟩:=nW.1 e;have:=hs.nd h k i z x hz hx hp;omega
theorem fR (hx:s[i]?=some x)(t:BA):jF s (i+1) t=(jF s i t||decide (x.path=t)):=by
 unfold jF;obtain⟨hi,e⟩:=gS hx;rw[tS hi,List.map_append,mH,e];simp[jm]
theorem Dv (h:dn l)(hs:NP l s)(hr:qw l s i out)(hx:s[i]?=some x)(hk:x.kind=1->dd l x=x.path->True)(hn:x.kind=4->dd l x≠x.path):qw l s (i+1) out:=by
 refine⟨hr.len,fun j z u hz hu=>?_⟩;have hzl:=hs.perm.mem_iff.1 (gM hz);have hxl:=hs.perm.mem_iff.1 (gM hx);have hsame:=hr.st j z u hz hu;by_cases hc:iq z=true/\jF s (i+1) (dd l z)=true
 case neg=>
  have:nV l s i z=nV l s (i+1) z:=by
   unfold nV;rw[if_neg hc,if_neg (fun c=>hc ⟨c.1,by rw[fR hx,c.2,Bool.true_or]⟩)]
  rw[<-this];exact hsame
 obtain⟨hg,hd⟩:=hc;rw[fR hx] at hd;cases hd0:jF s i (dd l z) with
 | true=>
  have:nV l s i z=nV l s (i+1) z:=by
   unfold nV;rw[if_pos ⟨hg,hd0⟩,if_pos ⟨hg,by rw[fR hx,hd0,Bool.true_or]⟩]
  rw[<-this];exact hsame
 | false=>
  rw[hd0,Bool.false_or,decide_eq_true_eq] at hd;obtain⟨gx,gr,lx⟩:=wn h hxl hzl hg hd.symm;have h1:x.kind=1:=by
   rcases cQ.1 gx with k | k
   ·exact k
   ·exact absurd lx (hn k)
  have e0:nV l s i z=z:=by unfold nV;rw[if_neg (fun c=>by rw[hd0] at c;exact absurd c.2 (by simp))]
  have e1:nV l s (i+1) z=ob l z:=by unfold nV;rw[if_pos ⟨hg,by rw[fR hx,hd];simp⟩]
  rw[e0] at hsame;rw[e1];exact(NQ h hxl hzl h1 lx hg gr.symm).symm'.trans' hsame
theorem KJ (hr:qw l s i out):out.map ag.path=s.map ag.path:=by
 apply List.ext_getElem
 ·simp[hr.len]
 ·intro k h1 h2;have hk:k<out.length:=by simpa using h1
  have hk2:k<s.length:=by simpa using h2
  simp only[List.getElem_map];have:=(hr.st k _ _ (gG hk2) (gG hk)).path;rw[wm] at this;exact this.symm
theorem NS (h:dn l)(hs:NP l s)(hr:qw l s i out):(out.map ag.path).Nodup:=by
 rw[KJ hr,(hs.perm.map ag.path).nodup_iff];exact fP h.nd
theorem PU (h:dn l)(hs:NP l s)(hr:qw l s i out)(hx:s[i]?=some x)(hy:out[i]?=some y)(hk:y.kind=4):
  (dd l x≠x.path/\∃ (f:Nat)(u:ag),f<i/\out[f]?=some u/\u.path=y.link) \/
  (dd l x=x.path/\x.same y/\∃ (f:Nat)(g u:ag),i<f/\s[f]?=some g/\out[f]?=some u/\g.same u/\g.kind=1/\g.path=x.link/\grp g=grp x):=by
 have hxl:=hs.perm.mem_iff.1 (gM hx);have hsame:=hr.st i x y hx hy;by_cases hc:iq x=true/\jF s i (dd l x)=true
 ·left;obtain⟨hg,hd⟩:=hc;obtain⟨k,z,hki,hz,hp⟩:=nW.1 hd;have hne:dd l x≠x.path:=fun e=>by
   have hz2:=rF h hs hx;rw[<-e,hd] at hz2;cases hz2
  have e:nV l s i x=ob l x:=by unfold nV;rw[if_pos ⟨hg,hd⟩]
  rw[e] at hsame;have hlk:y.link=dd l x:=by
   rw[<-hsame.link];unfold ob;rw[if_neg (fun e=>hne e.symm)]
  have hkl:k<out.length:=by have:=(gS hy).1;omega
  have hsm:=hr.st k z _ hz (gG hkl);refine⟨hne,k,_,hki,gG hkl,?_⟩;rw[<-hsm.path,wm,hp,hlk]
 ·right;have e:nV l s i x=x:=by unfold nV;rw[if_neg hc]
  rw[e] at hsame;have h4:x.kind=4:=hsame.kind.trans hk;have hg:iq x=true:=cQ.2 (.inr h4);have hnd:¬ jF s i (dd l x)=true:=fun d=>hc ⟨hg,d⟩;obtain⟨m,ml,mp,mg,mgr,mle⟩:=AD hxl hg;obtain⟨p,hp⟩:=List.getElem?_of_mem (hs.perm.mem_iff.2 ml);have hpi:i<=p:=by
   rcases Nat.lt_or_ge p i with k | k
   ·exact absurd (nW.2 ⟨p,m,k,hp,mp⟩) hnd
   ·exact k
  have hlx:dd l x=x.path:=by
   rcases Nat.lt_or_ge i p with k | k
   ·have h1:=hs.le hx hp k;have h2:=mle x hxl hg rfl;rw[mp] at h1;exact dC (List.le_antisymm (List.not_lt.1 h2) (List.not_lt.1 h1))
   ·have:p=i:=by omega
    subst this;rw[hx] at hp;injection hp with hp;rw[<-mp,hp]
  obtain⟨d,g,hd,gk,gp,_⟩:=lR h hxl hg;have gl:=gM hd
  have ggr:grp g=grp x:=by have:grp g=g.path:=by unfold grp;rw[if_neg (by omega)]
                           rw[this,gp]
  have gQ:iq g=true:=cQ.2 (.inl gk);obtain⟨f,hf⟩:=List.getElem?_of_mem (hs.perm.mem_iff.2 gl);have hxlk:grp x=x.link:=by unfold grp;rw[if_pos h4]
  have hgx:g.path≠x.path:=by rw[gp,hxlk];exact((fO.1 (h.err x hxl)).hard h4).2
  have hfi:i<f:=by
   rcases Nat.lt_trichotomy f i with k | k | k
   ·exfalso;have h1:=hs.le hf hx k;have h2:=mle g gl gQ ggr;rw[hlx] at h2;exact hgx (dC (List.le_antisymm (List.not_lt.1 h1) (List.not_lt.1 h2)))
   ·subst k;rw[hx] at hf;injection hf with hf;exact absurd (by rw[hf]) hgx
   ·exact k
  have hfl:f<out.length:=by rw[hr.len];exact(gS hf).1
  have hsm:=hr.st f g _ hf (gG hfl);have eg:nV l s i g=g:=by unfold nV;rw[if_neg (fun c=>hnd (by rw[<-nz ggr];exact c.2))]
  rw[eg] at hsm;exact⟨hlx,hsame,f,g,_,hfi,hf,gG hfl,hsm,gk,by rw[gp,hxlk],ggr⟩
def jL (y u:ag):ag:={ y with kind:=1,link:=⟨#[]⟩,da:=u.da,dc:=u.dc,data:=u.data }
def po (y u:ag):ag:={ u with kind:=4,link:=y.path,da:=none,dc:=0,data:=[] }
def my (old new:BA)(f:Nat)(k:Nat)(v:ag):ag:=if k≠f/\v.kind=4/\v.link=old then { v with link:=new } else v
theorem NU (h:dn l)(hs:NP l s)(hr:qw l s i out)(hx:s[i]?=some x)(hy:out[i]?=some y)(hsame:x.same y)(hl:dd l x=x.path){f:Nat}{g u:ag}(hif:i<f)(hf:s[f]?=some g)(hu:out[f]?=some u)(hgu:g.same u)(gk:g.kind=1)(gp:g.path=x.link)(ggr:grp g=grp x)
  (h4:x.kind=4){out':List ag}(hlen:out'.length=out.length)
  (ho:∀ (k:Nat)(v v':ag),out[k]?=some v->out'[k]?=some v'->v'=if k=i then jL y u else if k=f then po y u else my y.link y.path f k v):qw l s (i+1) out':=by
 have hxl:=hs.perm.mem_iff.1 (gM hx);have hgl:=hs.perm.mem_iff.1 (gM hf);have hxG:iq x=true:=cQ.2 (.inr h4);have gQ:iq g=true:=cQ.2 (.inl gk);refine⟨hlen.trans hr.len,fun j z v' hz hv'=>?_⟩;have hzl:=hs.perm.mem_iff.1 (gM hz);have hjo:j<out.length:=by rw[<-hlen];exact(gS hv').1
 have hv:=gG hjo;have hsm:=hr.st j z _ hz hv;have hvv:=ho j _ v' hv hv';have gxx:grp x=x.link:=by unfold grp;rw[if_pos h4]
 obtain⟨d,hd⟩:=List.getElem?_of_mem hgl;have hdat:fN l (cJ l x)=g.data:=fQ h hd gk (by rw[gp,gxx]);by_cases hji:j=i
 ·subst hji;rw[hx] at hz;injection hz with hz;subst hz;rw[if_pos rfl] at hvv;have e:nV l s (j+1) x=ob l x:=by
   unfold nV;rw[if_pos ⟨hxG,by rw[fR hx,hl];simp⟩]
  rw[e,hvv];unfold ob jL;rw[if_pos hl.symm,hdat];exact⟨hsame.path,rfl,hsame.mode,hsame.uid,hsame.gid,hsame.owner,hsame.group,hsame.mtime,rfl,hgu.data⟩
 rw[if_neg hji] at hvv;by_cases hjf:j=f
 ·subst hjf;rw[hf] at hz;injection hz with hz;subst hz;rw[if_pos rfl] at hvv;have lg:dd l g=x.path:=(nz ggr).trans hl;have e:nV l s (i+1) g=ob l g:=by
   unfold nV;rw[if_pos ⟨gQ,by rw[fR hx,lg];simp⟩]
  rw[e,hvv];unfold ob po;rw[if_neg (fun e=>hji (hs.nd h j i g x hf hx (e.trans lg))),lg];exact⟨hgu.path,rfl,hgu.mode,hgu.uid,hgu.gid,hgu.owner,hgu.group,hgu.mtime,hsame.path,rfl⟩
 rw[if_neg hjf] at hvv;rw[hvv];unfold my;by_cases hzg:iq z=true/\grp z=grp x
 ·obtain⟨zG,zg⟩:=hzg;have lz:dd l z=x.path:=(nz zg).trans hl;have hnd:jF s i (dd l z)=false:=by rw[lz];exact rF h hs hx
  have e0:nV l s i z=z:=by unfold nV;rw[if_neg (fun c=>by rw[hnd] at c;exact absurd c.2 (by simp))]
  have e1:nV l s (i+1) z=ob l z:=by unfold nV;rw[if_pos ⟨zG,by rw[fR hx,lz];simp⟩]
  rw[e0] at hsm;have z4:z.kind=4:=by
   rcases cQ.1 zG with k | k
   ·exfalso;have e:grp z=z.path:=by unfold grp;rw[if_neg (by omega)]
    exact hjf (hs.nd h j f z g hz hf (by rw[<-e,zg,gxx,gp]))
   ·exact k
  have zl:z.link=x.link:=by have e:grp z=z.link:=by unfold grp;rw[if_pos z4]
                            rw[<-e,zg,gxx]
  rw[if_pos ⟨hjf,hsm.kind.symm.trans z4,by rw[<-hsm.link,zl,hsame.link]⟩,e1];unfold ob;rw[if_neg (fun e=>hji (hs.nd h j i z x hz hx (e.trans lz))),lz];have zd:z.data=[]:=List.eq_nil_of_length_eq_zero ((fO.1 (h.err z hzl)).nod (by omega));exact⟨hsm.path,z4.symm.trans hsm.kind,hsm.mode,hsm.uid,hsm.gid,hsm.owner,hsm.group,hsm.mtime,hsame.path,zd.symm.trans hsm.data⟩
 ·have e:nV l s (i+1) z=nV l s i z:=by
   unfold nV;by_cases hG:iq z=true
   ·have hne:¬ x.path=dd l z:=fun e=>hzg ⟨hG,(wn h hxl hzl hG e.symm).2.1.symm⟩;rw[fR hx,dF hne,Bool.or_false]
   ·rw[if_neg (fun c=>hG c.1),if_neg (fun c=>hG c.1)]
  rw[e];rw[if_neg]
  ·exact hsm
  rintro⟨_,k4,kl⟩;rw[<-hsm.kind] at k4;rw[<-hsm.link,<-hsame.link,<-gp] at kl;unfold nV at k4 kl;by_cases hc:iq z=true/\jF s i (dd l z)=true
  ·rw[if_pos hc] at k4 kl;unfold ob at k4 kl;split at k4
   ·cases k4
   ·rename_i hne;rw[if_neg hne] at kl;have kl:dd l z=g.path:=kl;exact hzg ⟨hc.1,(wn h hgl hzl hc.1 kl).2.1.symm.trans ggr⟩
  ·rw[if_neg hc] at k4 kl;have e4:grp z=z.link:=by unfold grp;rw[if_pos k4]
   exact hzg ⟨cQ.2 (.inr k4),by rw[e4,kl,gp,gxx]⟩
theorem PV (h:dn l)(hs:NP l s)(hi:s.length<=i)(hr:qw l s i out):rz l out:=by
 have key:∀ (j:Nat)(x y:ag),s[j]?=some x->out[j]?=some y->∀ k,l[k]?=some x->(db l k x).same y:=by
  intro j x y hx hy k hk;have hxl:=gM hk;have:=hr.st j x y hx hy;unfold nV at this;cases hg:iq x with
  | false=>rw[if_neg (fun c=>by rw[hg] at c;exact absurd c.1 (by simp))] at this;rw[jP hg];exact this
  | true=>
   obtain⟨m,ml,mp,_⟩:=AD hxl hg;obtain⟨p,hp⟩:=List.getElem?_of_mem (hs.perm.mem_iff.2 ml);have hp':=(gS hp).1;rw[if_pos ⟨hg,nW.2 ⟨p,m,by omega,hp,mp⟩⟩,PQ h hk hg] at this;exact this
 refine⟨fun y hy=>?_,fun k x hk=>?_,NS h hs hr,?_⟩
 ·obtain⟨j,hj⟩:=List.getElem?_of_mem hy;have hjs:j<s.length:=by rw[<-hr.len];exact(gS hj).1
  obtain⟨k,hk⟩:=List.getElem?_of_mem (hs.perm.mem_iff.1 (List.getElem_mem hjs));exact⟨k,_,hk,key j _ y (gG hjs) hj k hk⟩
 ·obtain⟨j,hj⟩:=List.getElem?_of_mem (hs.perm.mem_iff.2 (gM hk));have hjo:j<out.length:=by rw[hr.len];exact(gS hj).1
  exact⟨out[j],List.getElem_mem hjo,key j x _ hj (gG hjo) k hk⟩
 ·rw[List.pairwise_iff_getElem];intro a b ha hb hab;have ha':a<s.length:=by rw[<-hr.len];exact ha
  have hb':b<s.length:=by rw[<-hr.len];exact hb
  have p1:=(hr.st a _ _ (gG ha') (gG ha)).path;have p2:=(hr.st b _ _ (gG hb') (gG hb)).path;rw[wm] at p1 p2;rw[<-p1,<-p2];exact List.pairwise_iff_getElem.1 hs.ord a b ha' hb' hab
theorem NV (l s:List ag):qw l s 0 s:=⟨rfl,fun j x y hx hy=>by
 rw[hx] at hy;injection hy with hy;subst hy;unfold nV jF;rw[if_neg (fun c=>by have:=c.2;simp[jm] at this)];exact ag.same.rfl' x⟩
end
theorem Gy {l qs:List ag}{k:Nat}{x:ag}(hi:l[i]?=some x)(hp:qs.Perm (l.take i))(ho:qs.Pairwise (fun x y=>¬ bl y.path<bl x.path))(h1:∀ (j:Nat)(z:ag),j<k->qs[j]?=some z->bl z.path<bl x.path)(h2:∀ z,qs[k]?=some z->¬ bl z.path<bl x.path):
  (qs.take k++x::qs.drop k).Perm (l.take (i+1))/\(qs.take k++x::qs.drop k).Pairwise (fun x y=>¬ bl y.path<bl x.path):=by
 constructor
 ·obtain⟨hil,e⟩:=gS hi;rw[tS hil,e];refine List.perm_middle.trans ?_;rw[List.take_append_drop];exact(List.Perm.cons x hp).trans (List.perm_append_singleton x _).symm
 ·rw[List.pairwise_append,List.pairwise_cons];have hd:∀ z∈qs.drop k,¬ bl z.path<bl x.path:=by
   intro z hz;obtain⟨j,hj⟩:=List.getElem?_of_mem hz;rw[List.getElem?_drop] at hj;obtain⟨hj',ej⟩:=gS hj;have hk:k<qs.length:=by omega
   have hb:=h2 _ (gG hk);rcases Nat.eq_zero_or_pos j with h0 | h0
   ·subst h0;have:qs[k]?=some z:=hj;exact h2 z this
   ·have hc:=List.pairwise_iff_getElem.1 ho k (k+j) hk hj' (by omega);rw[ej] at hc;intro hlt;exact absurd (List.lt_of_le_of_lt (List.not_lt.1 hc) hlt) hb
  have ht:∀ z∈qs.take k,bl z.path<bl x.path:=by
   intro z hz;obtain⟨j,hj,ej⟩:=jj hz;exact h1 j z hj ej
  refine⟨ho.sublist (List.take_sublist ..),⟨fun z hz=>hd z hz,ho.sublist (List.drop_sublist ..)⟩,fun a ha b hb=>?_⟩;rcases List.mem_cons.1 hb with e | hb
  ·rw[e];intro hlt;exact List.lt_irrefl _ (List.lt_trans hlt (ht a ha))
  ·intro hlt;exact absurd (List.lt_trans hlt (ht a ha)) (hd b hb)
theorem PX {l m q:List ag}(h:dn l)(c:rz l m)(d:rz l q):m.length=q.length/\∀ (i:Nat)(x y:ag),m[i]?=some x->q[i]?=some y->x.same y:=by
 have mem:∀ {m:List ag},rz l m->∀ p,p∈m.map ag.path↔p∈l.map ag.path:=by
  intro m c p;rw[List.mem_map,List.mem_map];constructor
  ·rintro⟨y,hy,e⟩;obtain⟨i,x,hx,hs⟩:=c.back y hy;exact⟨x,gM hx,by rw[<-e,<-hs.path,dB]⟩
  ·rintro⟨x,hx,e⟩;obtain⟨i,hi⟩:=List.getElem?_of_mem hx;obtain⟨y,hy,hs⟩:=c.forth i x hi;exact⟨y,hy,by rw[<-e,<-hs.path,dB]⟩
 have hp:(m.map ag.path).Perm (q.map ag.path):=(List.perm_ext_iff_of_nodup c.nd d.nd).2 fun p=>(mem c p).trans (mem d p).symm;have e:m.map ag.path=q.map ag.path:=by
  refine ny (f:=fun s=>s) hp ?_ ?_ (by rw[List.map_id'];exact c.nd)
  ·rw[List.pairwise_map];exact c.ord
  ·rw[List.pairwise_map];exact d.ord
 refine⟨by have:=congrArg List.length e;simpa using this,fun i x y hx hy=>?_⟩;have hxy:x.path=y.path:=by
  have:=congrArg (fun t:List BA=>t[i]?) e;simp only[List.getElem?_map,hx,hy,Option.map_some] at this;injection this
 obtain⟨i1,x1,hx1,s1⟩:=c.back x (gM hx);obtain⟨i2,x2,hx2,s2⟩:=d.back y (gM hy);have h12:i1=i2:=h.nd i1 i2 x1 x2 hx1 hx2 (by
  have a:=s1.path;have b:=s2.path;rw[dB] at a b;rw[a,b,hxy])
 subst h12;rw[hx1] at hx2;injection hx2 with hx2;subst hx2;exact s1.symm'.trans' s2
theorem Ia {l:List ag}:∀ {f:Nat}{u:ag}(k:Int),(l.map ag.path).Nodup->l[f]?=some u->u.path=s->iU l s k=k+f:=by
 induction l with
 | nil=>intro f u k _ h;simp at h
 | cons x r ih=>
  intro f u k hn hf hp;rw[List.map_cons,List.nodup_cons] at hn;unfold iU;cases f with
  | zero=>
   simp at hf;rw[hf,if_pos hp];simp
  | succ f=>
   have hf:r[f]?=some u:=by simpa using hf
   rw[if_neg (fun e=>hn.1 (by rw[e,<-hp];exact List.mem_map.2 ⟨u,gM hf,rfl⟩)),ih (k+1) hn.2 hf hp];omega
theorem KK {l:List ag}:∀ (k:Int),(∀ x∈l,x.path≠s)->iU l s k=-1:=by
 induction l with
 | nil=>intro k _;rfl
 | cons x r ih=>
  intro k h;unfold iU;rw[if_neg (h x (List.mem_cons_self ..)),ih _ fun y hy=>h y (List.mem_cons_of_mem _ hy)]
end
end Go.Proofs.YtlglfpbhapmhiaaGreatDoor
