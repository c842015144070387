/- A part of the proof. -/
import Derived.Test.YtkmjcombhjombaaGreatDoorK11
import Derived.Test.YtkmjcombhjombaaGreatDoorK25
set_option maxRecDepth 100000
set_option maxHeartbeats 20000000
set_option linter.unusedVariables false
set_option linter.unusedSimpArgs false
namespace Go.Proofs.YtkmjcombhjombaaGreatDoor
variable{nm s:BA}{f g:BA->Option Value}{ps:List (BA×BA)}{a:List (BA×List BA)}{T:List BA}{b i k n:Nat}{w w' wr:World}
theorem we:∀ (l m:List BA),l.Pairwise (fun s t=>bl s<bl t)->m.Pairwise (fun s t=>bl s<bl t)->(∀ s,s∈l↔s∈m)->l=m
 | [],[],_,_,_=>rfl
 | [],b::m,_,_,h=>absurd ((h b).2 (by simp)) (by simp)
 | a::l,[],_,_,h=>absurd ((h a).1 (by simp)) (by simp)
 | a::l,b::m,h1,h2,h=>by
  rw[List.pairwise_cons] at h1 h2;have z:a=b:=by
   rcases List.mem_cons.1 ((h a).1 (by simp)) with rfl | H
   ·rfl
   rcases List.mem_cons.1 ((h b).2 (by simp)) with F | F
   ·exact F.symm
   exact absurd (VJ (h1.1 b F) (h2.1 a H)) (uJ _)
  subst z;congr 1;refine we l m h1.2 h2.2 fun s=>⟨fun y=>?_,fun y=>?_⟩
  ·rcases List.mem_cons.1 ((h s).1 (List.mem_cons_of_mem _ y)) with rfl | D
   ·exact absurd (h1.1 s y) (uJ _)
   ·exact D
  ·rcases List.mem_cons.1 ((h s).2 (List.mem_cons_of_mem _ y)) with rfl | D
   ·exact absurd (h2.1 s y) (uJ _)
   ·exact D
def wg (ps:List (BA×BA))(s:BA):List BA:=(ps.filter (fun p=>decide (p.1=s))).map (·.2)
theorem Lg (ps:List (BA×BA))(s t nm:BA):wg (ps++[(t,nm)]) s=if t=s then wg ps s++[nm] else wg ps s:=by
 unfold wg;by_cases h:t=s<;>simp[h]
theorem VK (h:s ∉ ps.map (·.1)):wg ps s=[]:=by
 unfold wg;rw[List.map_eq_nil_iff,List.filter_eq_nil_iff];intro p y z;exact h (List.mem_map.2 ⟨p,y,by simpa using z⟩)
theorem VL (h:s∈ps.map (·.1)):wg ps s≠[]:=by
 obtain⟨p,z,rfl⟩:=List.mem_map.1 h;unfold wg;intro y;rw[List.map_eq_nil_iff,List.filter_eq_nil_iff] at y;exact y p z (by simp)
theorem Dk (ps:List (BA×BA))(s:BA):(wg ps s).length<=ps.length:=by
 unfold wg;rw[List.length_map];exact List.length_filter_le _ _
structure Own (ps:List (BA×BA)) (out:List (BA×List BA)):Prop where
 sorted:(out.map (·.1)).Pairwise (fun s t=>bl s<bl t)
 mem:∀ s,s∈out.map (·.1)↔s∈ps.map (·.1)
 names:∀ x∈out,x.2=wg ps x.1
theorem uf {f:BA->List BA}:∀ (a:List (BA×List BA)),(∀ x∈a,x.2=f x.1)->a=(a.map (·.1)).map fun s=>(s,f s)
 | [],_=>rfl
 | x::r,h=>by
  have D:=h x (by simp);have z:=uf r fun y F=>h y (List.mem_cons_of_mem _ F);simp only[List.map_cons];rw[<-z,<-D]
theorem Own.unique {b:List (BA×List BA)}(h:Own ps a)(k:Own ps b):a=b:=by
 rw[uf a h.names,uf b k.names,we _ _ h.sorted k.sorted fun s=>(h.mem s).trans (k.mem s).symm]
theorem rR:∀ (l m:List (LU)),l.Nodup->(∀ s∈l,s∈m)->l.length<=m.length
 | [],_,_,_=>z0
 | a::l,m,hn,h=>by
  rw[List.nodup_cons] at hn;have y:=h a (by simp);have:=rR l (m.erase a) hn.2 fun s z=>(List.mem_erase_of_ne (fun (he:s=a)=>hn.1 (by rw[<-he];exact z))).2 (h s (List.mem_cons_of_mem _ z));rw[List.length_erase_of_mem y] at this;have D:0<m.length:=List.length_pos_of_mem y;simp only[List.length_cons];omega
theorem Own.length_le (h:Own ps a):a.length<=ps.length:=by
 have D:(a.map fun x=>bl x.1).Nodup:=by
  have F:=h.sorted;rw[List.pairwise_map] at F;exact List.pairwise_map.2 (F.imp fun {x y} z he=>by rw[he] at z;exact uJ _ z)
 have:=rR _ (ps.map fun x=>bl x.1) D (fun s H=>by
  obtain⟨x,J,rfl⟩:=List.mem_map.1 H;obtain⟨y,I,z⟩:=List.mem_map.1 ((h.mem x.1).1 (List.mem_map.2 ⟨x,J,rfl⟩));exact List.mem_map.2 ⟨y,I,by rw[z]⟩)
 simpa using this
section
open Go.RowKit
open Classical
noncomputable def dd (l:List BA):List BA:=l.foldl (fun acc x=>if x∈acc then acc else acc++[x]) []
theorem yf (s:BA):∀ (l acc:List BA),s∈l.foldl (fun acc x=>if x∈acc then acc else acc++[x]) acc↔s∈acc\/s∈l
 | [],acc=>by simp
 | x::r,acc=>by
  rw[List.foldl_cons,yf s r,List.mem_cons];split
  ·rename_i h;constructor
   ·rintro(h1 | h1)
    ·exact .inl h1
    ·exact .inr (.inr h1)
   ·rintro(h1 | rfl | h1)
    ·exact .inl h1
    ·exact .inl h
    ·exact .inr h1
  ·rw[List.mem_append,List.mem_singleton];constructor
   ·rintro((h1 | h1) | h1)
    ·exact .inl h1
    ·exact .inr (.inl h1)
    ·exact .inr (.inr h1)
   ·rintro(h1 | h1 | h1)
    ·exact .inl (.inl h1)
    ·exact .inl (.inr h1)
    ·exact .inr h1
theorem Ov (s:BA)(l:List BA):s∈dd l↔s∈l:=by unfold dd;rw[yf];simp
theorem QO (l:List BA)(x:BA):dd (l++[x])=if x∈l then dd l else dd l++[x]:=by
 have h:dd (l++[x])=if x∈dd l then dd l else dd l++[x]:=by unfold dd;rw[List.foldl_append];rfl
 rw[h];by_cases y:x∈l
 ·rw[if_pos y,if_pos ((Ov x l).2 y)]
 ·rw[if_neg y,if_neg (fun h=>y ((Ov x l).1 h))]
theorem ur:∀ (l acc:List BA),(l.foldl (fun acc x=>if x∈acc then acc else acc++[x]) acc).length<=acc.length+l.length
 | [],acc=>by simp
 | x::r,acc=>by
  rw[List.foldl_cons];have z:=ur r (if x∈acc then acc else acc++[x]);have y:(if x∈acc then acc else acc++[x]).length<=acc.length+1:=by split<;>simp
  rw[List.length_cons];omega
theorem ST (l:List BA):(dd l).length<=l.length:=by have:=ur l [];simpa [dd] using this
noncomputable def pK (fs:List jg) (nm:BA):List (BA×BA):=(dd (kC fs)).map fun s=>(s,nm)
noncomputable def prs (l:List jn):List (BA×BA):=l.flatMap fun p=>pK p.files p.nm
theorem Lh (fs:List jg)(nm:BA):(pK fs nm).length<=fs.length:=by
 unfold pK;rw[List.length_map];exact Nat.le_trans (ST _) (by simp[kC])
theorem rS:∀ (l:List jn),(prs l).length<=vL l
 | []=>by simp[prs,vL]
 | p::r=>by
  have y:=rS r;have z:=Lh p.files p.nm;have F:p.files.length<=my p.files:=by
   unfold my;generalize p.files=fs
   induction fs with
   | nil=>simp
   | cons a r ih=>simp at *;omega
  unfold prs at y |-;unfold vL at y |-;rw[List.flatMap_cons,List.length_append,List.map_cons,List.sum_cons];have D:sW p=mz p+kT p.needs+kT p.bars+mY p.gives+my p.files+mO p.scripts:=rfl;omega
theorem Dl {l:List jn}{p:jn}(h:l[k]?=some p):prs (l.take (k+1))=prs (l.take k)++pK p.files p.nm:=by
 obtain⟨y,z⟩:=gS h;unfold prs;rw[tS y,List.flatMap_append,z];simp
theorem zt {fs:List jg}{f:jg}(h:fs[k]?=some f):
  pK (fs.take (k+1)) nm=if f.path∈kC (fs.take k) then pK (fs.take k) nm else pK (fs.take k) nm++[(f.path,nm)]:=by
 obtain⟨y,z⟩:=gS h;unfold pK;rw[tS y,z,show kC (fs.take k++[f])=kC (fs.take k)++[f.path] by simp[kC],QO];split
 ·rfl
 ·simp
theorem uK {fs:List jg}{f:jg}(h:fs[k]?=some f):kC (fs.take (k+1))=kC (fs.take k)++[f.path]:=by
 obtain⟨y,z⟩:=gS h;rw[tS y,z];simp[kC]
structure yZ where
 path:BA
 na:Option Addr
 nc:Nat
 names:List BA
def yZ.sl (x:yZ):Value:=.slice x.na x.names.length x.nc
def yZ.cells (x:yZ):List Value:=[.string x.path,x.sl]
def yZ.pair (x:yZ):BA×List BA:=(x.path,x.names)
theorem QP (x:yZ):x.cells.length=2:=rfl
def SU (ps:List (BA×BA))(w:World)(e:Ending)(w':World):Prop:=
 ∃ (A:Option Addr) (c:Nat) (out:List yZ),e=.returned (.slice A out.length c)/\Rd w' 2 A out.length (out.flatMap yZ.cells) /\
  (∀ x∈out,Rd w' 1 x.na x.names.length (strCells x.names))/\Own ps (out.map yZ.pair)/\Below w.heap.size w w'
end
section
open Go.RowKit Go.Maps
theorem lG.look (h:lG w b n f){t e:TypeId}(ht:Tryz.prog.underlying t=some (.map 9 e)){z:Value}(hz:∀ w,(zeroValue e).run Tryz.prog w=.ok z w)(s:BA)(hs:s.size<=maxLen):
  (Instr.lookup t (.map (some b)) (.string s) false).run Tryz.prog w=.ok ((f s).getD z) w:=by
 obtain⟨D,J,H⟩:=h;obtain⟨v,M,y,I⟩:=J.lookup uL ht (hz w) (show RV z=some (.held z,[]) from rfl) (Ow s hs);obtain⟨F,K⟩:=H s hs;rw[y];have:DataW.held v=D.atKey (kl s) (.held z):=congrArg Prod.fst (Option.some.inj I);cases hf:f s with
 | none=>
  rw[hf] at F;rw[atKey_of_not_has (by simpa using F)] at this;rw[yg this];rfl
 | some u=>
  rw[K (.held z) u hf] at this;rw[yg this];rfl
theorem lG.drew (h:lG w b n f):lG w.drew b n f:=h.kept (row:=none) ⟨rfl,rfl,rfl,lr,fun _ _ _=>rfl⟩ (by simp)
theorem lG.keys (h:lG w b n f):
  ∃ D:DataW Value,w.ownsMap Tryz.prog 9 RV b n D/\Maps.size D<=n/\(strKeys D).Nodup/\(∀ x∈strKeys D,x.length<=maxLen/\(f ⟨x.toArray⟩).isSome=true)/\∀ s:BA,s.size<=maxLen->(f s).isSome=true->bl s∈strKeys D:=by
 obtain⟨D,O,Y⟩:=h;refine⟨D,O,O.size_le,?_,?_,?_⟩
 all_goals
  obtain⟨V,I,U,_⟩:=O.entries uL;obtain⟨R,J,X⟩:=O.keysOf;obtain rfl:V=R:=by rw[I] at J;simpa using J
  have y:∀ p∈V,∃ x:LU,p.1=.string x/\x.length<=maxLen:=fun p H=>by obtain⟨v,hv⟩:=X p H;obtain⟨x,_,N,hl⟩:=Maps.keyOf_str Tryz.underlying9 hv;exact⟨x,N,hl⟩
 ·rw[I];show(V.map fun p=>strOf p.1).Nodup;refine List.pairwise_map.2 (U.imp_of_mem fun {p q} hp' hq' hne e=>hne ?_);obtain⟨a,F,_⟩:=y p hp';obtain⟨c,hc,_⟩:=y q hq';rw[F,hc] at e |-;exact congrArg _ e
 ·intro x N;rw[I] at N;obtain⟨p,H,rfl⟩:=List.mem_map.1 N;obtain⟨a,F,K⟩:=y p H;rw[F];refine⟨K,?_⟩;have M:=(Y ⟨a.toArray⟩ (by simpa [ByteArray.size] using K)).1;show(f ⟨a.toArray⟩).isSome=true;rw[<-M,I,has_eq,List.any_eq_true];exact⟨p,H,by rw[F];simp[Lit.sameKey,kl]⟩
 ·intro s Z hf;have M:=(Y s Z).1;rw[hf,I,has_eq,List.any_eq_true] at M;obtain⟨p,H,z⟩:=M;obtain⟨a,F,_⟩:=y p H;rw[F] at z;rw[I];refine List.mem_map.2 ⟨p,H,?_⟩;rw[F];have:a=s.data.toList:=by simpa [Lit.sameKey,kl] using z
  rw[this];rfl
structure Yw (w wr:World) (ps:List (BA×BA)) (f:BA->Option Value):Prop where
 names:lG wr w.heap.size ps.length f
 dom:∀ s,f s=none↔s ∉ ps.map (·.1)
 row:∀ s v,f s=some v->wr.ownsRow (w.heap.size+2) 9 1 v (wg ps s).length (strCells (wg ps s))
 apart:∀ s t v u,f s=some v->f t=some u->s≠t->v.ownBlock≠u.ownBlock
structure abl (i:Nat) (T:List BA) (g:BA->Option Value):Prop where
 val:∀ s v,g s=some v->∃ j:Nat,v=.int .i64 j/\(j=i/\s∈T\/j<i/\s ∉ T)
 mem:∀ s,s∈T->g s≠none
structure By (w wr:World) (i:Nat) (T:List BA) (ps:List (BA×BA)) (f g:BA->Option Value):Prop where
 grp:Yw w wr ps f
 last:lG wr (w.heap.size+1) ps.length g
 lst:abl i T g
 bel:Below w.heap.size w wr
 sz:w.heap.size+2<=wr.heap.size
theorem Yw.below (h:Yw w wr ps f)(hb:Below wr.heap.size wr w'):Yw w w' ps f:=
 ⟨h.names.below hb,h.dom,fun s v y=>jp (h.row s v y) hb,h.apart⟩
theorem By.below (h:By w wr i T ps f g)(hb:Below wr.heap.size wr w'):By w w' i T ps f g:=
 ⟨h.grp.below hb,h.last.below hb,h.lst,jc h.bel hb,Nat.le_trans h.sz hb.size⟩
theorem By.alloc (h:By w wr i T ps f g)(o:Obj):By w (wr.alloc o) i T ps f g:=
 h.below (bR.alloc lr o)
theorem By.start (w:World):By w ((w.alloc (.map #[] 0)).alloc (.map #[] 0)) 0 [] [] (fun _=>none) (fun _=>none):=by
 refine⟨⟨(lG.made w).alloc _,by simp,by simp,by simp⟩,?_,⟨by simp,by simp⟩,(bR.alloc lr _).alloc (by simp) _,by simp⟩;have:=lG.made (w.alloc (.map #[] 0));simpa using this
theorem By.next (h:By w wr i T ps f g):By w wr (i+1) [] ps f g:=
 ⟨h.grp,h.last,⟨fun s v y=>by
  obtain⟨j,rfl,z⟩:=h.lst.val s v y;exact⟨j,rfl,.inr ⟨by omega,by simp⟩⟩,by simp⟩,h.bel,h.sz⟩
theorem Yw.at_ (h:Yw w wr ps f)(s:BA):wr.ownsRow (w.heap.size+2) 9 1 ((f s).getD (.slice none 0 0)) (wg ps s).length (strCells (wg ps s)):=by
 cases hf:f s with
 | none=>
  rw[VK ((h.dom s).1 hf)];exact World.ownsRow_nil _ _ _ _
 | some v=>exact h.row s v hf
theorem Yw.block (h:Yw w wr ps f){v:Value}(hv:f s=some v):∃ g,v.ownBlock=some g/\w.heap.size+2<=g/\g<wr.heap.size:=by
 have z:s∈ps.map (·.1):=by
  by_cases D:s∈ps.map (·.1)
  ·exact D
  ·rw[(h.dom s).2 D] at hv;cases hv
 have y:0<(wg ps s).length:=List.length_pos_iff.2 (VL z);obtain⟨g,cap,rfl,H,F⟩:=(h.row s v hv).form y;exact⟨g,rfl,H,F⟩
theorem By.step {wa w1 wb w2 w3:World}{v1:Value}(h:By w wa i T ps f g)
  (m1:lG w1 (w.heap.size+1) (ps.length+1) (fun x=>if x=s then some (.int .i64 i) else g x))(g1:wa.grownBy w1 (some (w.heap.size+1)))(gb:w1.grownBy wb none)
  (o2:w2.ownsRow (w.heap.size+2) 9 1 v1 ((wg ps s).length+1) (strCells (wg ps s)++[.string nm]))(g2:wb.grownBy w2 ((f s).getD (.slice none 0 0)).ownBlock)
  (a2:v1.ownBlock=((f s).getD (.slice none 0 0)).ownBlock\/v1.ownBlock=some wb.heap.size)
  (m3:lG w3 w.heap.size (ps.length+1) (fun x=>if x=s then some v1 else f x))(g3:w2.grownBy w3 (some w.heap.size)):
  By w w3 i (T++[s]) (ps++[(s,nm)]) (fun x=>if x=s then some v1 else f x) (fun x=>if x=s then some (.int .i64 i) else g x):=by
 have z1:=g1.size;have z2:=gb.size;have z3:=g2.size;have z4:=g3.size;have z0:=h.sz;have far:∀ k,((f s).getD (.slice none 0 0)).ownBlock=some k->w.heap.size+2<=k:=by
  intro k H;cases hf:f s with
  | none=>rw[hf] at H;simp[Value.ownBlock] at H
  | some v=>
   rw[hf] at H;obtain⟨k',Y,J,_⟩:=h.grp.block hf;simp only[Option.getD_some] at H;rw[Y] at H;injection H with H;omega
 have aa:∃ k,v1.ownBlock=some k/\w.heap.size+2<=k:=by
  obtain⟨k,cap,rfl,J,_⟩:=o2.form (by omega);exact⟨k,rfl,J⟩
 refine⟨⟨by rw[List.length_append];exact m3,fun x=>?_,fun x v z=>?_,fun x y v u z K O=>?_⟩,?_,⟨fun x v z=>?_,fun x F=>?_⟩,?_,by omega⟩
 ·by_cases F:x=s
  ·subst F;simp
  ·rw[if_neg F,h.grp.dom x];simp[F]
 ·by_cases F:x=s
  ·subst F;simp only[if_pos] at z;injection z with z;subst z;rw[Lg,if_pos rfl,List.length_append,List.length_singleton];have o3:=o2.kept g3 (by
    right;obtain⟨k,H,J⟩:=aa;rw[H];intro D;injection D with D;omega)
   have e:strCells (wg ps x++[nm])=strCells (wg ps x)++[.string nm]:=by simp[strCells]
   rw[e];exact o3
  ·simp only[if_neg F] at z;rw[Lg,if_neg (fun D=>F D.symm)];obtain⟨k,H,J,Z⟩:=h.grp.block z;have r0:=h.grp.row x v z;have r1:=r0.kept g1 (by right;rw[H];intro D;injection D with D;omega);have r2:=r1.kept gb (by right;rw[H];simp);have r3:=r2.kept g2 (by
    right;cases hf:f s with
    | none=>rw[H];simp[Value.ownBlock]
    | some v0=>simp only[Option.getD_some];exact h.grp.apart x s v v0 z hf F)
   exact r3.kept g3 (by right;rw[H];intro D;injection D with D;omega)
 ·have new:∀ t U,f t=some U->t≠s->v1.ownBlock≠U.ownBlock:=by
   intro t U R ht;obtain⟨k,H,J,Z⟩:=h.grp.block R;rcases a2 with X | X
   ·rw[X];cases hf:f s with
    | none=>rw[H];simp[Value.ownBlock]
    | some v0=>simp only[Option.getD_some];exact h.grp.apart s t v0 U hf R (Ne.symm ht)
   ·rw[X,H];intro D;injection D with D;omega
  by_cases F:x=s
  ·have N:y≠s:=fun D=>O (F.trans D.symm);simp only[if_pos F] at z;simp only[if_neg N] at K;injection z with z;subst z;exact new y u K N
  ·simp only[if_neg F] at z;by_cases N:y=s
   ·simp only[if_pos N] at K;injection K with K;subst K;exact Ne.symm (new x v z F)
   ·simp only[if_neg N] at K;exact h.grp.apart x y v u z K O
 ·rw[List.length_append];have k1:=m1.kept gb (by simp);have k2:=k1.kept g2 (fun D=>by have:=far _ D.symm;omega);exact k2.kept g3 (by intro D;injection D with D;omega)
 ·by_cases F:x=s
  ·subst F;simp only[if_pos] at z;injection z with z;subst z;exact⟨i,rfl,.inl ⟨rfl,by simp⟩⟩
  ·simp only[if_neg F] at z;obtain⟨j,rfl,I⟩:=h.lst.val x v z;refine⟨j,rfl,?_⟩;rcases I with⟨h1,V⟩ | ⟨h1,V⟩
   ·exact .inl ⟨h1,by simp[V]⟩
   ·exact .inr ⟨h1,by simp[V,F]⟩
 ·by_cases M:x=s
  ·simp[M]
  ·simp only[if_neg M];exact h.lst.mem x (by simpa [M] using F)
 ·have b1:=h.bel.grown g1 h.bel.size (fun j I=>by injection I with I;omega);have b2:=b1.grown gb b1.size (fun j I=>by cases I);have b3:=b2.grown g2 b2.size (fun j I=>by have:=far j I;omega);exact b3.grown g3 b3.size (fun j I=>by injection I with I;omega)
theorem ut (l:List jn)(k:Nat):(prs (l.take k)).length<=(prs l).length:=by
 conv=>rhs;rw[<-List.take_append_drop k l]
 unfold prs;rw[List.flatMap_append,List.length_append];omega
theorem QT:∀ (b a:List BA),(dd a).length<=(dd (a++b)).length
 | [],a=>by simp
 | x::b,a=>by
  have y:=QT b (a++[x]);have z:(dd a).length<=(dd (a++[x])).length:=by rw[QO];split<;>simp
  rw[List.append_assoc,List.singleton_append] at y;omega
theorem tx (fs:List jg)(nm:BA)(m:Nat):(pK (fs.take m) nm).length<=(pK fs nm).length:=by
 unfold pK;rw[List.length_map,List.length_map]
 conv=>rhs;rw[<-List.take_append_drop m fs]
 rw[show kC (fs.take m++fs.drop m)=kC (fs.take m)++kC (fs.drop m) by simp[kC]];exact QT _ _
theorem Ox (w:World)(x y:Value):oP (w.alloc (.cells #[x,y] 54)) (w.heap.size+1) 2 (some ⟨w.heap.size,0,none⟩) 1 [x,y]:=by
 refine⟨rfl,fun _=>⟨_,rfl,by simp,fun j u z=>?_⟩⟩
 match j,z with
 | 0,z=>simp at z;subst z;simp[Addr.add]
 | 1,z=>simp at z;subst z;simp[Addr.add]
 | j+2,z=>simp at z
theorem Oy:(Tryz.prog.info? 54).map (fun i=>(i.zero,i.size,i.bytes))=some (some (.agg #[.string ⟨#[]⟩,.slice none 0 0]),2,40):=by kernel_rfl
theorem Dm (w:World)(s:BA):oP (w.alloc (.cells #[.string s] 9)).drew (w.heap.size+1) 1 (some ⟨w.heap.size,0,none⟩) 1 [.string s]:=by
 refine⟨rfl,fun _=>⟨_,rfl,by simp,fun j u y=>?_⟩⟩;cases j with
 | zero=>simp at y;subst y;simp[Addr.add]
 | succ j=>simp at y
def Li (x:LU):BA:=⟨x.toArray⟩
theorem Ca (x:LU):bl (Li x)=x:=by simp[bl,Li]
theorem QU (s:BA):Li (bl s)=s:=by apply nH;rw[Ca]
theorem Lj {ss K:List (LU)}(hp:ss.Perm K)(hn:K.Nodup):((ss.mergeSort leB).map Li).Pairwise (fun s t=>bl s<bl t)/\∀ s:BA,s∈(ss.mergeSort leB).map Li↔bl s∈K:=by
 have J:∀ a b c:LU,leB a b=true->leB b c=true->leB a c=true:=fun a b c z D=>by simp only[leB,decide_eq_true_eq] at *;exact List.le_trans z D
 have F:∀ a b:LU,(leB a b||leB b a)=true:=fun a b=>by simp only[leB,Bool.or_eq_true,decide_eq_true_eq];exact List.le_total a b
 have y:(ss.mergeSort leB).Perm K:=(List.mergeSort_perm ss leB).trans hp;have H:(ss.mergeSort leB).Nodup:=y.symm.nodup hn;have I:=List.pairwise_mergeSort J F ss;refine⟨List.pairwise_map.2 ((I.and H).imp fun {a b} hab=>?_),fun s=>?_⟩
 ·rw[Ca,Ca];obtain⟨z,D⟩:=hab;have z:a<=b:=by simpa using z
  exact Ht (fun h=>z h) (fun h=>D h.symm)
 ·rw[List.mem_map];constructor
  ·rintro⟨a,ha,rfl⟩;rw[Ca];exact y.mem_iff.1 ha
  ·intro h;exact⟨bl s,y.mem_iff.2 h,QU s⟩
theorem Gs (L:List (LU)):L.map encStr=strCells (L.map Li):=by simp[strCells,Li,encStr]
end
section
open Go.RowKit
theorem Do (x:BA):rn x x=true:=by unfold rn;simp
end
section
open Go.RowKit Go.Maps
theorem By.sameT {T':List BA}(h:By w wr i T ps f g)(ht:∀ s,s∈T↔s∈T'):By w wr i T' ps f g:=
 ⟨h.grp,h.last,⟨fun s v D=>by
  obtain⟨j,rfl,z⟩:=h.lst.val s v D;exact⟨j,rfl,by rw[<-ht s];exact z⟩,fun s y=>h.lst.mem s ((ht s).2 y)⟩,h.bel,h.sz⟩
theorem Ya {l:List jn}(hf:∀ p∈l,p.fits)(s:BA)(hs:s∈(prs l).map (·.1)):s.size<=maxLen:=by
 obtain⟨y,z,rfl⟩:=List.mem_map.1 hs;obtain⟨p,I,z⟩:=List.mem_flatMap.1 z;obtain⟨H,F,rfl⟩:=List.mem_map.1 z;obtain⟨x,J,D⟩:=List.mem_map.1 ((Ov H (kC p.files)).1 F);subst D;have:=((hf p I).files_ x J).1;unfold maxLen;omega
theorem mM {x:Obj}(h:w.heap[b]?=some x)(o:Obj):(w.alloc o).heap[b]?=some x:=by
 have y:b<w.heap.size:=(Array.getElem?_eq_some_iff.1 h).1;rw[Below.heap_alloc w o b y];exact h
theorem Yb (w:World):(zeroValue 3).run Tryz.prog w=.ok (.int .i64 0) w:=by kernel_rfl
theorem Aq (w:World):(zeroValue 33).run Tryz.prog w=.ok (.slice none 0 0) w:=by kernel_rfl
theorem yX (A:Option Addr)(c:Nat)(l:List jn)(w:World)(hd:tU w A l)(hl:l.length<=100000)(hw:(prs l).length<=100000)(hf:∀ p∈l,p.fits):Calls Tryz.prog 18 #[.slice A l.length c] w (SU (prs l) w):=by
 have HD:=iV hd;clear hd;have HF:=iV hf;clear hf;have HW:=iV hw;clear hw;obtain⟨i0,aB,aT,aF,aI⟩:=info_parts sY;have bu:=@run_makeMap Tryz.prog;go_in;go_wp2_with fail;clear bu;go_loopw [18] (fun i wr=>∃ (k:Nat) (f g:BA->Option Value),k<=l.length/\i=.int .i64 k/\Hid (By w wr k [] (prs (l.take k)) f g)) (fun i _=>l.length-(intOf i).toNat)
 case atStart=>exact⟨0,_,_,z0,rfl,By.start w⟩
 case round=>
  obtain⟨k,f,g,hk,rfl,HR⟩:=hrel;by_cases aP:k<l.length
  ·obtain⟨p,hp⟩:∃ p,l[k]?=some p:=⟨_,gG aP⟩
   have be:p∈l:=gM hp;obtain⟨b,off,hA,D⟩:=(HD.out.row.below HR.out.bel).elem mX k p hp;have e0:=D 0 _ rfl;have e1:=D 1 _ rfl;have e2:=D 2 _ rfl;have e3:=D 3 _ rfl;have e4:=D 4 _ rfl;have e5:=D 5 _ rfl;have e6:=D 6 _ rfl;have e7:=D 7 _ rfl;have e8:=D 8 _ rfl;simp only[Nat.add_zero] at e0;have Y:=fun W=>jm (T:=22) (E:=38) (sz:=9) (c:=c) Tryz.underlying22 rfl Tryz.sizeOf38 hA aP W;have HP:=iV hp;have av:=iV be;clear hp be hA D;have fl:=(HF.out p av.out).files;go_wp2_with fail;clear e0 e1 e2 e3 e4 e5 e6 e7 e8 Y;have A0:Hid (By w (wr.alloc (.cells #[.string p.nm,.string p.ver,.string p.ar,.string p.sm,.slice p.na p.needs.length p.nc,.slice p.ba p.bars.length p.bc,.slice p.ga p.gives.length p.gc,.slice p.fa p.files.length p.fc,.slice p.sa p.scripts.length p.sc] 38)) k [] (prs (l.take k)) f g):=HR.out.alloc _;have B0:Hid ((wr.alloc (.cells #[.string p.nm,.string p.ver,.string p.ar,.string p.sm,.slice p.na p.needs.length p.nc,.slice p.ba p.bars.length p.bc,.slice p.ga p.gives.length p.gc,.slice p.fa p.files.length p.fc,.slice p.sa p.scripts.length p.sc] 38)).heap[wr.heap.size]?=some (.cells #[.string p.nm,.string p.ver,.string p.ar,.string p.sm,.slice p.na p.needs.length p.nc,.slice p.ba p.bars.length p.bc,.slice p.ga p.gives.length p.gc,.slice p.fa p.files.length p.fc,.slice p.sa p.scripts.length p.sc] 38)):=heap_alloc_new wr _;generalize aH:wr.heap.size=pb at *;have az:=iV aH;clear aH
   go_loopw [26] (fun i wr=>∃ (m:Nat) (f g:BA->Option Value),m<=p.files.length/\i=.int .i64 m/\Hid (By w wr k (kC (p.files.take m)) (prs (l.take k)++pK (p.files.take m) p.nm) f g) /\
    Hid (wr.heap[pb]?=some (.cells #[.string p.nm,.string p.ver,.string p.ar,.string p.sm,.slice p.na p.needs.length p.nc,.slice p.ba p.bars.length p.bc,.slice p.ga p.gives.length p.gc,.slice p.fa p.files.length p.fc,.slice p.sa p.scripts.length p.sc] 38))/\pb<wr.heap.size/\w.heap.size+2<=pb) (fun i _=>p.files.length-(intOf i).toNat)
   case atStart=>exact⟨0,f,g,z0,rfl,iV (by simpa [kC,pK,dd] using A0.out),B0,by rw[<-az.out];simp,by rw[<-az.out];exact HR.out.sz⟩
   case round=>
    clear A0 B0 HR az;obtain⟨m,f,g,hm,rfl,HR,HB,bo,aq⟩:=hrel;by_cases aE:m<p.files.length
    ·obtain⟨x,Z⟩:∃ x,p.files[m]?=some x:=⟨_,gG aE⟩
     obtain⟨b,off,hA,D⟩:=((HD.out.all p av.out).below HR.out.bel).files.elem nS m x Z;have e0:=D 0 _ rfl;have e1:=D 1 _ rfl;have e2:=D 2 _ rfl;have e3:=D 3 _ rfl;have e4:=D 4 _ rfl;have e5:=D 5 _ rfl;have e6:=D 6 _ rfl;have e7:=D 7 _ rfl;simp only[Nat.add_zero] at e0;have Y:=fun W=>jm (T:=35) (E:=57) (sz:=8) (c:=p.fc) Tryz.underlying35 rfl Tryz.sizeOf57 hA aE W;have aa:x.path.size<=maxLen:=by have:=((HF.out p av.out).files_ x (gM Z)).1;unfold maxLen;omega
     have HX:=iV Z;clear Z hA D;have a0:Hid (By w (wr.alloc (.cells #[.string x.path,.int .i64 x.kind,.int .i64 x.mode,.string x.owner,.string x.group,.string x.link,.string x.sum,.bool x.conf] 57)) k (kC (p.files.take m)) (prs (l.take k)++pK (p.files.take m) p.nm) f g):=HR.out.alloc _;have M:=a0.out.last.look_ok Tryz.underlying99 Yb x.path aa;by_cases V:x.path∈kC (p.files.take m)
     ·obtain⟨v,hv⟩:=Option.ne_none_iff_exists'.1 (a0.out.lst.mem _ V);obtain⟨j,rfl,hj⟩:=a0.out.lst.val _ _ hv;obtain rfl:j=k:=by rcases hj with⟨h,_⟩ | ⟨_,h⟩;exact h;exact absurd V h
      rw[hv] at M;simp only[Option.getD_some,Option.isSome_some] at M;have HV:=iV hv;have ae:=iV V;clear hv hj V;go_wp2_with fail;clear M;have bq:Hid (prs (l.take j)++pK (p.files.take (m+1)) p.nm=prs (l.take j)++pK (p.files.take m) p.nm):=by show _=_;rw[zt HX.out,if_pos ae.out]
      go_roundw
      case rel=>exact⟨m+1,f,g,by omega,by go_num,iV (by rw[bq.out,uK HX.out];exact a0.out.sameT (fun s=>by rw[List.mem_append,List.mem_singleton];exact⟨.inl,fun h=>h.elim id (fun h=>h ▸ ae.out)⟩)),iV (mM HB.out _),by simp;omega,aq⟩
      case measure=>simp[intOf];omega
     ·have aN:∃ (v:Value) (bb:Bool),(Instr.lookup 99 (.map (some (w.heap.size+1))) (.string x.path) true).run Tryz.prog (wr.alloc (.cells #[.string x.path,.int .i64 x.kind,.int .i64 x.mode,.string x.owner,.string x.group,.string x.link,.string x.sum,.bool x.conf] 57))=.ok (.tuple #[v,.bool bb]) (wr.alloc (.cells #[.string x.path,.int .i64 x.kind,.int .i64 x.mode,.string x.owner,.string x.group,.string x.link,.string x.sum,.bool x.conf] 57))/\(bb=false\/bb=true/\∃ j:Nat,v=.int .i64 j/\j<k):=by
       refine⟨_,_,M,?_⟩;cases hv:g x.path with
       | none=>exact .inl rfl
       | some v=>
        obtain⟨j,rfl,hj⟩:=a0.out.lst.val _ _ hv;refine .inr ⟨rfl,j,rfl,?_⟩;rcases hj with⟨_,h⟩ | ⟨h,_⟩
        ·exact absurd h V
        ·exact h
      clear M;obtain⟨lv,bb,M,bs⟩:=aN;have hN:Hid ((prs (l.take k)++pK (p.files.take m) p.nm).length<maxLen):=by
       have h1:=rS l;have h2:(prs (l.take k)++pK p.files p.nm).length<=(prs l).length:=by rw[<-Dl HP.out];exact ut l (k+1)
       have h3:(pK (p.files.take m) p.nm).length<=(pK p.files p.nm).length:=tx p.files p.nm m;have:=HW.out;show _<_;unfold maxLen;rw[List.length_append] at *;omega
      obtain⟨I,ag,aL,ah⟩:=a0.out.last.put Tryz.underlying99 hN.out x.path aa (.int .i64 k);have ae:=iV V;clear V;have aW:=iV aL;have J:=iV ah;clear aL ah;have cF:I.cell? ⟨wr.heap.size,0,none⟩=some (.string x.path):=J.out.cell (by simp) (by simp;omega);have cP:I.cell? ⟨pb,0,none⟩=some (.string p.nm):=J.out.cell (by rw[World.cell?_of_block (Below.heap_alloc wr _ pb bo)];simp[World.cell?,HB.out]) (by simp;omega);obtain⟨v0,ac⟩:∃ v0,v0=(f x.path).getD (.slice none 0 0):=⟨_,rfl⟩
      have MW:Hid (lG I w.heap.size (prs (l.take k)++pK (p.files.take m) p.nm).length f):=a0.out.grp.names.kept J.out (by simp);have OW:Hid (I.ownsRow (w.heap.size+2) 9 1 v0 (wg (prs (l.take k)++pK (p.files.take m) p.nm) x.path).length (strCells (wg (prs (l.take k)++pK (p.files.take m) p.nm) x.path))):=by
       have:=a0.out.grp.at_ x.path;rw[<-ac] at this;exact this.kept J.out (by
        cases hb:v0.ownBlock with
        | none=>exact .inl rfl
        | some q=>right;intro D;injection D with D;have:=(this.lt q hb).1;omega)
      have ab:(Instr.lookup 98 (.map (some w.heap.size)) (.string x.path) false).run Tryz.prog I.drew=.ok v0 I.drew:=by rw[ac];exact MW.out.drew.look Tryz.underlying98 Aq x.path aa
      have aY:(Instr.lookup 98 (.map (some w.heap.size)) (.string x.path) false).run Tryz.prog (I.alloc (.cells #[.string p.nm] 9)).drew=.ok v0 (I.alloc (.cells #[.string p.nm] 9)).drew:=by rw[ac];exact(MW.out.alloc _).drew.look Tryz.underlying98 Aq x.path aa
      have al:=iV ac;clear ac;have bz:wr.heap.size+1<=I.heap.size:=by have:=J.out.size;simp at this;exact this
      have nF:some wr.heap.size≠v0.ownBlock:=wS (fr:=(0,0)) OW.out ((J.out.block wr.heap.size (by simp) (by simp;omega)).trans (heap_alloc_new wr _)) (by decide);have nP:some pb≠v0.ownBlock:=wS (fr:=(0,0)) OW.out ((J.out.block pb (by simp;omega) (by simp;omega)).trans (mM HB.out _)) (by decide);have nM:some w.heap.size≠v0.ownBlock:=by
       intro D;have:=(OW.out.lt _ D.symm).1;omega
      have CF:Hid ((I.alloc (.cells #[.string p.nm] 9)).drew.cell? ⟨wr.heap.size,0,none⟩=some (.string x.path)):=(World.cell?_alloc_lt I _ ⟨wr.heap.size,0,none⟩ (by show wr.heap.size<I.heap.size;omega)).trans cF;have CP:Hid ((I.alloc (.cells #[.string p.nm] 9)).drew.cell? ⟨pb,0,none⟩=some (.string p.nm)):=(World.cell?_alloc_lt I _ ⟨pb,0,none⟩ (by show pb<I.heap.size;omega)).trans cP;have NF:=iV nF;have NP:=iV nP;have NM:=iV nM;clear nF nP nM;have NL:Hid ((wg (prs (l.take k)++pK (p.files.take m) p.nm) x.path).length+1<=maxLen/\((wg (prs (l.take k)++pK (p.files.take m) p.nm) x.path).length+1)*16<=140737488355328):=by
       have h1:=rS l;have h2:(prs (l.take k)++pK p.files p.nm).length<=(prs l).length:=by rw[<-Dl HP.out];exact ut l (k+1)
       have h3:(pK (p.files.take m) p.nm).length<=(pK p.files p.nm).length:=tx p.files p.nm m;have h4:=Dk (prs (l.take k)++pK (p.files.take m) p.nm) x.path;have:=HW.out;show _/\_;unfold maxLen;rw[List.length_append] at *;omega
      rcases bs with rfl | ⟨rfl,j,rfl,hj⟩
      ·go_wp2_with fail;clear M ag e0 e1 e2 e3 e4 e5 e6 e7 Y
       go_region_held3 (fun w'=>w'.cell? ⟨wr.heap.size,0,none⟩=some (.string x.path)/\w'.cell? ⟨pb,0,none⟩=some (.string p.nm))
        (first
          | go_keep
          | exact⟨z.cell CF.out NF.out,z.cell CP.out NP.out⟩
          | exact⟨F.cell (z.cell CF.out NF.out) (by simp;omega),F.cell (z.cell CP.out NP.out) (by simp;omega)⟩)
        ((refine kr _ (by rfl) _ _ _ (by rfl) (w.heap.size+2) 9 i0 _ 1 16 Tryz.underlying33 aB aT aF aI rfl (by omega) v0 _ _ (by rfl) ((OW.out.alloc _).drew)
           (I.heap.size+1) (some ⟨I.heap.size,0,none⟩) 1 1 [.string p.nm] (by rfl) (Dm I p.nm) (by simp[Value.oneCell']) (NL.out.1) (NL.out.2) (by simp;have:=HR.out.sz;omega) ?_
          intro v1 w2 H z O;obtain⟨w3,X,ak,F⟩:=(((MW.out.alloc (.cells #[.string p.nm] 9)).drew).kept z NM.out).put Tryz.underlying98 hN.out x.path aa v1))
       all_goals
        have ad:=By.step a0.out aW.out J.out (ls (World.grownBy_alloc I (.cells #[.string p.nm] 9) none) 1) H (by rw[<-al.out];exact z) (by rw[<-al.out];exact O) ak F;have N:=iV ad;have au:Hid (w3.heap[pb]?=some _):=(F.block pb (by have:=z.size;simp at this;omega) (by simp;omega)).trans ((z.block pb (by simp;omega) NP.out).trans (mM ((J.out.block pb (by simp;omega) (by simp;omega)).trans (mM HB.out _)) _));have af:pb<w3.heap.size:=by have h1:=z.size;have h2:=F.size;simp at h1;omega
        clear ad H z O X ak F ab aY cF cP;go_wp2;go_roundw
        case rel=>exact⟨m+1,_,_,by omega,by go_num,iV (by rw[zt HX.out,if_neg ae.out,uK HX.out,<-List.append_assoc];exact N.out),au,af,aq⟩
        case measure=>simp[intOf];omega
      ·have bB:((j:Int)==(k:Int))=false:=by simp;omega
       go_wp2_with fail;clear M ag e0 e1 e2 e3 e4 e5 e6 e7 Y
       go_region_held3 (fun w'=>w'.cell? ⟨wr.heap.size,0,none⟩=some (.string x.path)/\w'.cell? ⟨pb,0,none⟩=some (.string p.nm))
        (first
          | go_keep
          | exact⟨z.cell CF.out NF.out,z.cell CP.out NP.out⟩
          | exact⟨F.cell (z.cell CF.out NF.out) (by simp;omega),F.cell (z.cell CP.out NP.out) (by simp;omega)⟩)
        ((refine kr _ (by rfl) _ _ _ (by rfl) (w.heap.size+2) 9 i0 _ 1 16 Tryz.underlying33 aB aT aF aI rfl (by omega) v0 _ _ (by rfl) ((OW.out.alloc _).drew)
           (I.heap.size+1) (some ⟨I.heap.size,0,none⟩) 1 1 [.string p.nm] (by rfl) (Dm I p.nm) (by simp[Value.oneCell']) (NL.out.1) (NL.out.2) (by simp;have:=HR.out.sz;omega) ?_
          intro v1 w2 H z O;obtain⟨w3,X,ak,F⟩:=(((MW.out.alloc (.cells #[.string p.nm] 9)).drew).kept z NM.out).put Tryz.underlying98 hN.out x.path aa v1))
       all_goals
        have ad:=By.step a0.out aW.out J.out (ls (World.grownBy_alloc I (.cells #[.string p.nm] 9) none) 1) H (by rw[<-al.out];exact z) (by rw[<-al.out];exact O) ak F;have N:=iV ad;have au:Hid (w3.heap[pb]?=some _):=(F.block pb (by have:=z.size;simp at this;omega) (by simp;omega)).trans ((z.block pb (by simp;omega) NP.out).trans (mM ((J.out.block pb (by simp;omega) (by simp;omega)).trans (mM HB.out _)) _));have af:pb<w3.heap.size:=by have h1:=z.size;have h2:=F.size;simp at h1;omega
        clear ad H z O X ak F ab aY cF cP;go_wp2;go_roundw
        case rel=>exact⟨m+1,_,_,by omega,by go_num,iV (by rw[zt HX.out,if_neg ae.out,uK HX.out,<-List.append_assoc];exact N.out),au,af,aq⟩
        case measure=>simp[intOf];omega
    ·go_wp2;go_roundw
     case rel=>exact⟨k+1,f,g,by omega,by go_num,iV (by have:=HR.out.next;rw[tL (l:=p.files) (by omega)] at this;rw[Dl HP.out];exact this)⟩
     case measure=>simp[intOf];omega
  ·have bA:Hid (k=l.length):=by show _=_;omega
   have aA:Hid (By w wr k [] (prs l) f g):=by have:=HR.out;rw[tL (by omega)] at this;exact this
   clear HR;obtain⟨D0,hD,bg,aD,aQ,bd⟩:=aA.out.grp.names.keys;have aU:=iV aD;have aJ:=iV aQ;have bn:=iV bd;have ax:Hid ((prs l).length<=100000):=by show _<=_;have:=rS l;have:=HW.out;omega
   have bi:Maps.size D0<=maxLen:=by have:=ax.out;unfold maxLen;omega
   have bh:Maps.size D0*16<=140737488355328:=by have:=ax.out;omega
   have ap:=iV hD;clear aD aQ bd hD bg;go_wp2_with fail;refine(callsIn_wide.1 (Tryz.maps_Keys_36 _ _)).mono ?_;rintro e w' ⟨rfl,rfl⟩;go_wp2_with fail;refine(callsIn_wide.1 (Tryz.slices_Sorted_keys_35_36 w.heap.size _ D0 RV wr ap.out bi bh)).mono ?_;rintro e w4 ⟨v,ss,rfl,hS,an,aZ,hb⟩;obtain⟨R,am⟩:∃ R,R=(ss.mergeSort leB).map Li:=⟨_,rfl⟩
   have aR:R.length=ss.length:=by rw[am];simp
   have ay:Hid (R.Pairwise (fun s t=>bl s<bl t)/\∀ s:BA,s∈R↔bl s∈strKeys D0):=by have:=Lj hS aU.out;rw[<-am] at this;exact this
   have U:w4.ownsRow (wr.alloc (.cells #[.map (some w.heap.size)] 98)).heap.size 9 1 v R.length (strCells R):=by
    have:=an;rw[<-aR,Gs,<-am] at this;exact this
   obtain⟨Ak,ck,rfl⟩:=jk U;have aS:=iV U;have bf:Hid (Below wr.heap.size wr w4):=jc (bR.alloc lr _) hb;have ai:Hid (Yw w w4 (prs l) f):=aA.out.grp.below bf.out;have aK:Hid (∀ s,s∈R->s.size<=maxLen/\∃ u,f s=some u):=by
    intro s hs;have:=aJ.out _ ((ay.out.2 s).1 hs);refine⟨by have h1:=this.1;rw[iX] at h1;exact h1,?_⟩;have h2:=this.2;rw[show(⟨(bl s).toArray⟩:BA)=s from QU s] at h2;exact Option.isSome_iff_exists.1 h2
   have aO:Hid (R.length<=100000):=by
    have:=ax.out;show _<=_;have h1:(strKeys D0).length=Maps.size D0:=by
     obtain⟨es,hD,_⟩:=ap.out.keysOf;rw[hD];simp[strKeys,Maps.size]
    have h2:=hS.length_eq;have h3:=ap.out.size_le;omega
   have bt:=aO.out;clear hS an aZ hb U am aR aU aJ aO;obtain⟨i1,br,bv,bk,bj⟩:=info_parts Oy;go_wp2;go_loopw [11,64] (fun o i aV=>∃ (j:Nat) (K:List yZ),j<=R.length/\i=.int .i64 j/\Hid (K.length=j/\aV.ownsRow w4.heap.size 54 2 o j (K.flatMap yZ.cells)/\K.map yZ.path=R.take j/\(∀ x∈K,f x.path=some x.sl/\x.names=wg (prs l) x.path)/\Below w4.heap.size w4 aV)) (fun _ i _=>R.length-(intOf i).toNat)
   case atStart=>exact⟨0,[],z0,rfl,rfl,World.ownsRow_nil _ _ _ _,rfl,by simp,bR⟩
   case round=>
    obtain⟨j,K,hj,rfl,HO⟩:=hrel;obtain⟨Ao,co,rfl⟩:=jk HO.out.2.1;by_cases aX:j<R.length
    ·obtain⟨s,hs⟩:∃ s,R[j]?=some s:=⟨_,gG aX⟩
     obtain⟨b,off,hA,D⟩:=((jL aS.out).below HO.out.2.2.2.2).str j s hs;have Y:=fun W=>jm (T:=33) (E:=9) (sz:=1) (c:=ck) Tryz.underlying33 rfl Tryz.sizeOf9 hA aX W;simp only[Nat.mul_one] at Y;obtain⟨aM,u,hu⟩:=aK.out s (gM hs);have ao:=ai.out.row s u hu;obtain⟨na,nc,rfl⟩:=jk ao;have ab:=(ai.out.names.below HO.out.2.2.2.2).look Tryz.underlying98 Aq s aM;rw[hu] at ab;simp only[Option.getD_some] at ab;have HS:=iV hs;have HU:=iV hu;clear hs hA ao hu aM;go_wp2_with (at_builtin;refine je _ rfl _ _ _ rfl w4.heap.size 54 i1 _ 2 40 Tryz.underlying51 br bv bk bj rfl (by omega) (.slice Ao j co) j _ rfl (HO.out.2.1.alloc _) (wr.heap.size+1) (some ⟨wr.heap.size,0,none⟩) 1 1 [.string s,.slice na (wg (prs l) s).length nc] rfl (Ox wr _ _) (by simp[Value.oneCell']) (by simp only[maxLen];omega) (by omega) (by simp;have:=HO.out.2.2.2.2.size;omega) ?_;intro v1 w5 aj ah aC);have N:Hid ((K++[({ path:=s,na:=na,nc:=nc,names:=wg (prs l) s }:yZ)]).length=j+1/\w5.ownsRow w4.heap.size 54 2 v1 (j+1) ((K++[({ path:=s,na:=na,nc:=nc,names:=wg (prs l) s }:yZ)]).flatMap yZ.cells)/\(K++[({ path:=s,na:=na,nc:=nc,names:=wg (prs l) s }:yZ)]).map yZ.path=R.take (j+1)/\(∀ x∈K++[({ path:=s,na:=na,nc:=nc,names:=wg (prs l) s }:yZ)],f x.path=some x.sl/\x.names=wg (prs l) x.path)/\Below w4.heap.size w4 w5):=by
      obtain⟨h1,h2,h3,h4,h5⟩:=HO.out;obtain⟨aG,bx⟩:=gS HS.out;refine⟨by simp[h1],by rw[List.flatMap_append];exact aj,by rw[List.map_append,h3,tS aG,bx];rfl,fun x Z=>?_,?_⟩
      ·rcases List.mem_append.1 Z with Z | Z
       ·exact h4 x Z
       ·rw[List.mem_singleton.1 Z];exact⟨HU.out,rfl⟩
      ·have b1:Below w4.heap.size w4 (wr.alloc (.cells #[.string s,.slice na (wg (prs l) s).length nc] 54)):=h5.alloc h5.size _;exact b1.grown ah b1.size (fun q hq=>(h2.lt q hq).1)
     clear aj ah aC ab D Y;go_roundw
     case rel=>exact⟨j+1,_,by omega,by go_num,N⟩
     case measure=>simp[intOf];omega
    ·go_wp2;go_ret;obtain⟨h1,h2,h3,h4,h5⟩:=HO.out;obtain rfl:j=R.length:=by omega
     rw[tL lr] at h3;have bm:Below w.heap.size w wr:=jc (jc aA.out.bel bf.out) h5;refine⟨Ao,co,K,by rw[h1];rfl,by have:=jL h2;rw[<-h1] at this;exact this,fun x Z=>?_,⟨?_,?_,?_⟩,bm⟩
     ·obtain⟨bw,bp⟩:=h4 x Z;have:=ai.out.row _ _ bw;rw[<-bp] at this;exact(jL this).below h5
     ·rw[List.map_map,show(Prod.fst ∘ yZ.pair)=yZ.path from rfl,h3];exact ay.out.1
     ·intro s;rw[List.map_map,show(Prod.fst ∘ yZ.pair)=yZ.path from rfl,h3];constructor
      ·intro hs;obtain⟨_,u,hu⟩:=aK.out s hs;by_cases hn:s∈(prs l).map (·.1)
       ·exact hn
       ·rw[(ai.out.dom s).2 hn] at hu;cases hu
      ·intro hs;refine(ay.out.2 s).2 (bn.out s (Ya HF.out s hs) ?_);cases hu:f s with
       | none=>exact absurd hs ((ai.out.dom s).1 hu)
       | some u=>rfl
     ·intro y hy;obtain⟨x,Z,rfl⟩:=List.mem_map.1 hy;exact(h4 x Z).2
end
end Go.Proofs.YtkmjcombhjombaaGreatDoor
