/- A part of the proof. -/
import Derived.Test.YtlglfpbhapmhiaaGreatDoorL42
set_option maxRecDepth 100000
set_option maxHeartbeats 20000000
set_option linter.unusedVariables false
set_option linter.unusedSimpArgs false
namespace Go.Proofs.YtlglfpbhapmhiaaGreatDoor
section
open Go.RowKit
theorem ny {α:Type}{f:α->BA}:∀ {l m:List α},l.Perm m->l.Pairwise (fun x y=>¬ bl (f y)<bl (f x))->m.Pairwise (fun x y=>¬ bl (f y)<bl (f x))->(l.map f).Nodup->l=m
 | [],m,h,_,_,_=>(List.nil_perm.1 h).symm
 | x::r,[],h,_,_,_=>by have:=h.length_eq;simp at this
 | x::r,y::s,h,h1,h2,h3=>by
  have hxy:x=y:=by
   have hx:x∈y::s:=h.mem_iff.1 (List.mem_cons_self ..);have hy:y∈x::r:=h.mem_iff.2 (List.mem_cons_self ..);rcases List.mem_cons.1 hx with e | hx
   ·exact e
   rcases List.mem_cons.1 hy with e | hy
   ·exact e.symm
   have a:=(List.pairwise_cons.1 h2).1 x hx;have b:=(List.pairwise_cons.1 h1).1 y hy;have e:f x=f y:=dC (List.le_antisymm (List.not_lt.1 b) (List.not_lt.1 a));rw[List.map_cons,List.nodup_cons] at h3;exact absurd (List.mem_map.2 ⟨y,hy,e.symm⟩) h3.1
  subst hxy;rw[ny (List.perm_cons x |>.1 h) (List.pairwise_cons.1 h1).2 (List.pairwise_cons.1 h2).2 (List.nodup_cons.1 (by rw[<-List.map_cons];exact h3)).2]
theorem KI {fmt:Int}{conf:List BA}{l m0 m:List ag}{p q:List av}(h:dn l)(hl:m0.length=l.length)(hs:∀ (i:Nat)(x y:ag),l[i]?=some x->m0[i]?=some y->(db l i x).same y)(hp:m.Perm m0)(ho:m.Pairwise (fun x y=>¬ bl y.path<bl x.path))
  (h1:p.Perm (bz fmt conf l))(h2:p.Pairwise (fun x y=>¬ bl y.path<bl x.path))(h3:q.Perm (bz fmt conf m))(h4:q.Pairwise (fun x y=>¬ bl y.path<bl x.path)):p=q:=by
 have c:=Az h hl hs hp ho;rw[kR h] at h1;rw[kR (rA h c)] at h3;have e:m0.map (cW fmt conf m)=l.map (cW fmt conf l):=by
  apply List.ext_getElem
  ·simp[hl]
  ·intro i a b;have hil:i<l.length:=by simpa using b
   have him:i<m0.length:=by simpa using a
   simp only[List.getElem_map];exact Gx h c (gG hil) (hp.mem_iff.2 (List.getElem_mem him)) (hs i _ _ (gG hil) (gG him))
 have h5:q.Perm (l.map (cW fmt conf l)):=by rw[<-e];exact h3.trans (hp.map _)
 refine ny (f:=av.path) (h1.trans h5.symm) h2 h4 ?_;rw[(h1.map av.path).nodup_iff,List.map_map];exact fP h.nd
end
end Go.Proofs.YtlglfpbhapmhiaaGreatDoor
