/- A part of the proof. -/
import Derived.Test.YtlglfpbhapmhiaaGreatDoorL40
set_option maxRecDepth 100000
set_option maxHeartbeats 20000000
set_option linter.unusedVariables false
set_option linter.unusedSimpArgs false
namespace Go.Proofs.YtlglfpbhapmhiaaGreatDoor
variable{fmt:Int}{i:Nat}
section
open Go.RowKit
theorem si {p q:bK}(h:p.alike q):il fmt q=il fmt p:=by
 unfold il;rw[h.nm,h.ver,h.ar,h.sm,h.needs,h.bars,h.gives,h.files,h.scripts]
theorem mx {fmt:Int}:∀ {l:List ag},(fB fmt l).2=0↔∀ x∈l,li fmt x=0
 | []=>by simp[fB]
 | x::r=>by
  unfold fB;by_cases h:li fmt x=0
  ·rw[if_pos h,mx];simp[h]
  ·rw[if_neg h];simp[h]
theorem AA {x y:ag}(h1:x.owner=y.owner)(h2:x.group=y.group)(h3:x.uid=y.uid)(h4:x.gid=y.gid)(h5:x.mtime=y.mtime)(h6:¬ y.kind=3)(h:cP fmt x=true):cP fmt y=true:=by
 unfold cP at h |-;rw[h1,h2,h3,h4,h5] at h;simp only[Bool.and_eq_true,decide_eq_true_eq] at h |-;refine⟨h.1,h.2.1,h.2.2.1,h.2.2.2.1,h.2.2.2.2.1,?_⟩;simp[h6]
theorem qv {x:ag}:li fmt x=0↔fY (bl x.path)=true/\cP fmt x=true:=by
 unfold li;cases fY (bl x.path)<;>cases cP fmt x<;>simp
theorem KG {x y:ag}(hs:x.same y):li fmt y=li fmt x:=by
 unfold li cP;rw[hs.path,hs.owner,hs.group,hs.uid,hs.gid,hs.mtime,hs.kind,hs.mode,hs.link]
theorem NM {l:List ag}{x:ag}(h:li fmt x=0):li fmt (db l i x)=0:=by
 cases hg:iq x with
 | false=>rw[jP hg];exact h
 | true=>
  obtain⟨a,b⟩:=qv.1 h;refine qv.2 ⟨by rw[dB];exact a,?_⟩;obtain⟨a1,a2,a3,a4,a5,a6⟩:=nx l i x;refine AA a4.symm a5.symm a2.symm a3.symm a6.symm ?_ b;unfold db;rw[if_pos hg];split
  ·show ¬ (1:Int)=3;omega
  ·show ¬ (4:Int)=3;omega
theorem rD:∀ {l:List ag}{s:BA}{k:Int},lj l s=some k->∃ x∈l,x.path=s/\x.kind=k
 | [],_,_,h=>by cases h
 | x::r,s,k,h=>by
  unfold lj at h;cases hr:lj r s with
  | some k'=>
   rw[hr] at h;injection h with h;subst h;obtain⟨y,hy,a,b⟩:=rD hr;exact⟨y,List.mem_cons_of_mem _ hy,a,b⟩
  | none=>
   rw[hr] at h;simp only at h;split at h
   ·rename_i hp;injection h with h;exact⟨x,List.mem_cons_self ..,hp,h⟩
   ·cases h
theorem wk:∀ {l:List ag}{x:ag},(l.map ag.path).Nodup->x∈l->lj l x.path=some x.kind
 | [],x,_,h=>by simp at h
 | y::r,x,hn,h=>by
  rw[List.map_cons,List.nodup_cons] at hn;unfold lj;rcases List.mem_cons.1 h with rfl | h
  ·cases hr:lj r x.path with
   | none=>simp
   | some k=>
    obtain⟨z,hz,hp,_⟩:=rD hr;exact absurd (List.mem_map.2 ⟨z,hz,hp⟩) hn.1
  ·rw[wk hn.2 h]
theorem Hz {l:List ag}{x:ag}(h:x.kind=1\/x.kind=4):(db l i x).kind=1\/(db l i x).kind=4:=by
 unfold db;rw[if_pos (cQ.2 h)];split
 ·exact .inl rfl
 ·exact .inr rfl
theorem KH {l m:List ag}(c:rz l m){p:Option BA}{s:BA}(h:vP l p s=true):vP m p s=true:=by
 unfold vP at h |-;rw[Bool.and_eq_true] at h |-;refine⟨h.1,?_⟩;have h2:=h.2;rw[Bool.or_eq_true,decide_eq_true_eq,decide_eq_true_eq] at h2;cases hk:lj l s with
 | none=>rw[hk] at h2;simp at h2
 | some k=>
  rw[hk] at h2;obtain⟨x,hx,hp,hxk⟩:=rD hk;obtain⟨i,hi⟩:=List.getElem?_of_mem hx;obtain⟨y,hy,hs⟩:=c.forth i x hi;have hyp:y.path=s:=by rw[<-hs.path,dB,hp]
  have hyk:y.kind=1\/y.kind=4:=by rw[<-hs.kind];exact Hz (by rw[hxk];simpa using h2)
  rw[<-hyp,wk c.nd hy];rcases hyk with e | e<;>simp[e]
theorem yR {l m:List ag}(c:rz l m):∀ {conf:List BA}{p:Option BA},kA l p conf=true->kA m p conf=true
 | [],_,_=>rfl
 | s::r,p,h=>by
  unfold kA at h |-;rw[Bool.and_eq_true] at h |-;exact⟨KH c h.1,yR c h.2⟩
theorem PN {b c:dH}(h:(mA fmt b).2=0)(hp:b.pk.alike c.pk)(hc:c.conf=b.conf)(hl:c.ents.length=b.ents.length)(hm:rz b.ents c.ents):(mA fmt c).2=0:=by
 obtain⟨h1,h2,h3,h4,h5,h6⟩:=nU h;have hca:(nF b.ents).2=(fX [] b.ents).2:=by unfold nF;rw[if_neg (by omega)]
 have hfair:=Au (hca ▸ h4);have hf:c.pk.files=[]:=by rw[<-hp.files];exact h1
 unfold mA;rw[if_neg (by rw[hf];simp),if_neg (by rw[si hp,h2];simp),if_neg (by omega),if_neg (by
  have:(nF c.ents).2=(fX [] c.ents).2:=by unfold nF;rw[if_neg (by omega)]
  rw[this,Pk (rA hfair hm)];simp),if_neg (by rw[mx.2 (fun y hy=>by
   obtain⟨i,x,hx,hs⟩:=hm.back y hy;rw[KG hs];exact NM (mx.1 h5 x (gM hx)))];simp),if_neg]
 rw[hc];unfold tD at h6 |-;split at h6
 ·rename_i e;rw[if_pos e];simpa using h6
 ·rename_i e;rw[if_neg e,yR hm h6];simp
end
end Go.Proofs.YtlglfpbhapmhiaaGreatDoor
