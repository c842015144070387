/- A part of the proof. -/
import Derived.Test.YtkmjcombhjombaaGreatDoorJ14
import Derived.Test.YtkmjcombhjombaaGreatDoorJ16
set_option maxRecDepth 100000
set_option maxHeartbeats 20000000
set_option linter.unusedVariables false
set_option linter.unusedSimpArgs false
namespace Go.Proofs.YtkmjcombhjombaaGreatDoor
variable{x:BA}{bar:Bool}{code fmt:Int}{s:LU}{ts zs:List (LU)}{l:List BA}{B1 b c c1 cc g g0 i j k m n:Nat}{A G G1:OA}{P:Program}{name:String}{e t0:TypeId}{W W0 w w' w1 w6 wr:World}
open Go.Proofs.Tryz
section
open Go.RowKit
structure fQ where
 bar:Bool
 aa:OA
 ac:Nat
 alts:List fP
def fQ.cells (d:fQ):LV:=[.bool d.bar,.slice d.aa d.alts.length d.ac]
def fQ.pl (d:fQ):gI:=⟨d.bar,d.alts⟩
theorem pV (d:fQ):d.cells.length=2:=rfl
def fQ.blk (d:fQ):Option Nat:=(Value.slice d.aa d.alts.length d.ac).ownBlock
def fQ.own (d:fQ)(w:World)(lo:Nat):Prop:=w.ownsRow lo 78 3 (.slice d.aa d.alts.length d.ac) d.alts.length (d.alts.flatMap fP.cells)
theorem sj:(prog.info? 75).map (fun i=>(i.zero,i.size,i.bytes))=some (some (.agg #[.bool false,.slice none 0 0]),2,32):=by kernel_rfl
structure rE (w:World) (A:OA) (ds:List fQ):Prop where
 row:Rd w 2 A ds.length (ds.flatMap fQ.cells)
 all:∀ d∈ds,Rd w 3 d.aa d.alts.length (d.alts.flatMap fP.cells)
theorem rE.below {ds:List fQ}(h:rE w A ds)(z:Bw w w'):rE w' A ds:=⟨h.row.below z,fun d D=>(h.all d D).below z⟩
structure nu (w wr:World) (ds:List fQ) (A:OA) (n c:Nat):Prop where
 len:ds.length=n
 row:wr.ownsRow w.heap.size 75 2 (.slice A n c) n (ds.flatMap fQ.cells)
 al:∀ d∈ds,d.own wr w.heap.size
 far:ds.Pairwise fun d e=>∀ g,d.blk=some g->e.blk≠some g
 bel:Bw w wr
theorem nu.start (w:World):nu w w [] none 0 0:=⟨rfl,World.ownsRow_nil _ _ _ _,by simp,.nil,bR⟩
theorem nu.below {ds:List fQ}(h:nu w wr ds A n c)(z:Bw wr w'):nu w w' ds A n c:=
 ⟨h.len,ge h.row z,fun x D=>ge (h.al x D) z,h.far,fM h.bel z⟩
theorem nu.ok {ds:List fQ}(h:nu w wr ds A n c):rE wr A ds:=⟨by rw[h.len];exact gR h.row,fun d z=>gR (h.al d z)⟩
theorem nu.grow {w2:World}{ds:List fQ}{A1:OA}{lo:Nat}{o:Obj}{d:fQ}(h:nu w wr ds A n c)(J:d.own wr lo)(D:w.heap.size<=lo)(V:∀ x∈ds,∀ g,x.blk=some g->g<lo)
  (R:w2.ownsRow w.heap.size 75 2 (.slice A1 (n+1) c1) (n+1) (ds.flatMap fQ.cells++d.cells))
  (H:(wr.alloc o).grownBy w2 (Value.slice A n c).ownBlock):nu w w2 (ds++[d]) A1 (n+1) c1:=by
 have K:=(Below.refl wr.heap.size wr).alloc lr o;have z:=h.below K;have F:d.own (wr.alloc o) w.heap.size:=gF (ge J K) D;refine⟨by simp[h.len],by rw[List.flatMap_append];simpa using R,fun t ht=>?_,?_,z.bel.grown H z.bel.size (fun j M=>(z.row.lt j M).1)⟩
 ·rcases List.mem_append.1 ht with ht | ht
  ·exact gN (z.al t ht) z.row (by decide) H
  ·obtain rfl:=List.mem_singleton.1 ht;exact gN F z.row (by decide) H
 ·rw[List.pairwise_append];refine⟨h.far,List.pairwise_singleton _ _,fun x U y O g I=>?_⟩;obtain rfl:=List.mem_singleton.1 O;intro e;have Y:=V x U g I;have X:=(J.lt g e).1;omega
theorem nu.blk_lt {ds:List fQ}(h:nu w wr ds A n c):∀ x∈ds,∀ g,x.blk=some g->g<wr.heap.size:=fun x D g z=>((h.al x D).lt g z).2
def fQ.head (d:fQ):Bool×OA×Nat×Nat:=(d.bar,d.aa,d.ac,d.alts.length)
theorem Cv {ds:List fQ}{R:fQ->fQ->Prop}(h:ds.Pairwise R)(O:∀ a b,R a b->R b a){x y:fQ}(J:i≠j)(M:ds[i]?=some x)(K:ds[j]?=some y):R x y:=by
 rw[List.pairwise_iff_getElem] at h;obtain⟨D,H⟩:=gS M;obtain⟨F,I⟩:=gS K;rcases Nat.lt_or_gt_of_ne J with z | z
 ·have:=h i j D F z;rw[H,I] at this;exact this
 ·have:=h j i F D z;rw[H,I] at this;exact O _ _ this
theorem sk (a b:fQ)(h:∀ g,a.blk=some g->b.blk≠some g):∀ g,b.blk=some g->a.blk≠some g:=fun g D z=>h g z D
theorem YC {l:List fP}{x:fP}(z:j<l.length):
  (((l.flatMap fP.cells).set (j*3) (.string x.nm)).set (j*3+1) (.int .i64 x.op)).set (j*3+2) (.string x.ver)=(l.set j x).flatMap fP.cells:=by
 induction l generalizing j with
 | nil=>simp at z
 | cons a r ih=>
  cases j with
  | zero=>simp[fP.cells]
  | succ j=>
   have:=ih (j:=j) (by simpa using z);rw[List.set_cons_succ,List.flatMap_cons,List.flatMap_cons,<-this];have e:∀ (k:Nat)(v:Value)(t:LV),(a.cells++t).set (k+3) v=a.cells++t.set k v:=by intro k v t;rfl
   rw[show(j+1)*3=j*3+3 by omega,e,show j*3+3+1=(j*3+1)+3 by omega,e,show j*3+3+2=(j*3+2)+3 by omega,e]
theorem nu.put {ds:List fQ}{cp:Nat}{d:fQ}{x:fP}(h:nu w wr ds A n c)(z:ds[i]?=some d)(hj:j<d.alts.length)(F:d.aa=some ⟨g,0,none⟩)(ab:d.ac=cp):
  nu w (((wr.setCell ⟨g,j*3,none⟩ (.string x.nm)).setCell ⟨g,j*3+1,none⟩ (.int .i64 x.op)).setCell ⟨g,j*3+2,none⟩ (.string x.ver)) (ds.set i { d with alts:=d.alts.set j x }) A n c:=by
 have hm:=gM z;have R:=h.al d hm;unfold fQ.own at R;rw[F] at R;have s1:=R.stored (j*3) (.string x.nm);have Y:=s1.1.stored (j*3+1) (.int .i64 x.op);have s3:=Y.1.stored (j*3+2) (.string x.ver);have K:wr.grownBy (((wr.setCell ⟨g,j*3,none⟩ (.string x.nm)).setCell ⟨g,j*3+1,none⟩ (.int .i64 x.op)).setCell ⟨g,j*3+2,none⟩ (.string x.ver)) (some g):=(s1.2.trans Y.2).trans s3.2;have H:d.blk=some g:=by unfold fQ.blk;rw[F];rfl
 have X:=R.lt g rfl;refine⟨by rw[List.length_set];exact h.len,?_,?_,?_,?_⟩
 ·have hc:(ds.set i { d with alts:=d.alts.set j x }).flatMap fQ.cells=ds.flatMap fQ.cells:=by
   have:∀ (ds:List fQ)(i:Nat),ds[i]?=some d->(ds.set i { d with alts:=d.alts.set j x }).flatMap fQ.cells=ds.flatMap fQ.cells:=by
    intro ds
    induction ds with
    | nil=>intro i z;simp at z
    | cons a r ih=>
     intro i z;cases i with
     | zero=>simp at z;subst z;simp[fQ.cells]
     | succ i=>rw[List.set_cons_succ,List.flatMap_cons,List.flatMap_cons,ih i (by simpa using z)]
   exact this ds i z
  rw[hc];refine h.row.kept K ?_;have:=lN h.row (h.al d hm) (by decide);rw[show(Value.slice d.aa d.alts.length d.ac).ownBlock=some g from H] at this;exact this
 ·intro y Z;rw[List.mem_iff_getElem?] at Z;obtain⟨k,D⟩:=Z;by_cases I:k=i
  ·subst I;have V:=(gS z).1;rw[List.getElem?_set_self V] at D;injection D with D;subst D;unfold fQ.own;simp only[F,List.length_set];rw[<-YC hj];exact s3.1
  ·rw[List.getElem?_set_ne (fun e=>I e.symm)] at D;have hf:=Cv h.far sk (fun e=>I e.symm) z D;refine(h.al y (gM D)).kept K ?_;right;exact hf g H
 ·have key:∀ (ds:List fQ)(i:Nat),ds[i]?=some d->(ds.Pairwise fun d e=>∀ g,d.blk=some g->e.blk≠some g)->(ds.set i { d with alts:=d.alts.set j x }).Pairwise fun d e=>∀ g,d.blk=some g->e.blk≠some g:=by
   have O:({ d with alts:=d.alts.set j x }:fQ).blk=d.blk:=by unfold fQ.blk;simp[Value.ownBlock,F]
   intro ds
   induction ds with
   | nil=>intro i z;simp at z
   | cons a r ih=>
    intro i z M;rw[List.pairwise_cons] at M;cases i with
    | zero=>
     simp at z;subst z;rw[List.set_cons_zero,List.pairwise_cons];exact⟨fun b J g U=>M.1 b J g (by rw[<-O];exact U),M.2⟩
    | succ i=>
     rw[List.set_cons_succ,List.pairwise_cons];refine⟨fun b J g U=>?_,ih i (by simpa using z) M.2⟩;rcases List.mem_or_eq_of_mem_set J with J | J
     ·exact M.1 b J g U
     ·subst J;rw[O];exact M.1 d (gM (by simpa using z)) g U
  exact key ds i z h.far
 ·exact h.bel.grown K h.bel.size (fun k D=>by injection D with D;rw[<-D];exact X.1)
structure OZ (W0 wr:World) (b B1:Nat) (bar:Bool) (G:OA) (m cc:Nat) (L:List fP):Prop where
 bel:Bw W0 wr
 box:fV wr b [.bool bar,.slice G m cc]
 own:wr.ownsRow B1 78 3 (.slice G m cc) m (L.flatMap fP.cells)
 len:L.length=m
 lo:W0.heap.size<=b
 hi:b<B1
 sz:B1<=wr.heap.size
theorem OZ.step {L:List fP}(h:OZ W0 wr b B1 bar G m cc L)(z:Bw wr w'):OZ W0 w' b B1 bar G m cc L:=
 ⟨fM h.bel z,h.box.below z,ge h.own z,h.len,h.lo,h.hi,Nat.le_trans h.sz z.size⟩
theorem OZ.app {L:List fP}{x:fP}(h:OZ W0 wr b B1 bar G m cc L)(o:Obj)
  (z:w6.ownsRow B1 78 3 (.slice G1 (m+1) c1) (m+1) (L.flatMap fP.cells++x.cells))(F:(wr.alloc o).grownBy w6 (Value.slice G m cc).ownBlock):
  OZ W0 (w6.setCell ⟨b,1,none⟩ (.slice G1 (m+1) c1)) b B1 bar G1 (m+1) c1 (L++[x]):=by
 have lo:=h.lo;have J:=h.hi;have sz:=h.sz;have I:∀ g,(Value.slice G m cc).ownBlock=some g->B1<=g:=fun g H=>(h.own.lt g H).1;have M:some b≠(Value.slice G m cc).ownBlock:=fun e=>by have:=I b e.symm;omega
 have D:w6.grownBy (w6.setCell ⟨b,1,none⟩ (.slice G1 (m+1) c1)) (some b):=fX (World.grownBy.refl w6 (some b)) (.inl rfl) _;refine⟨fO ((h.bel.alloc h.bel.size o).grown F (by have:=h.bel.size;simp;omega) (fun j K=>by have:=I j K;omega)) (by omega) _,?_,?_,by simp[h.len],lo,J,?_⟩
 ·exact((h.box.alloc o).grownR F M).set 1 (by simp) _
 ·rw[List.flatMap_append];have:=Je (j:=1) z J (.slice G1 (m+1) c1);simpa using this
 ·have O:=F.size;have R:=D.size;simp at O;omega
theorem OZ.dep {L:List fP}(h:OZ W0 wr b B1 bar G m cc L):(⟨bar,G,cc,L⟩:fQ).own wr B1:=by
 unfold fQ.own;simp only;rw[h.len];exact h.own
theorem OZ.cells {L:List fP}(h:OZ W0 wr b B1 bar G m cc L):(⟨bar,G,cc,L⟩:fQ).cells=[.bool bar,.slice G m cc]:=by unfold fQ.cells;simp only;rw[h.len]
def YD (l:List gI):Prop:=l.length<=64/\∀ d∈l,d.alts.length<=64/\∀ g∈d.alts,g.nm.size<=64/\g.ver.size<=64
def lB (r:List gI×Int)(w:World)(e:Ending)(w':World):Prop:=
 ∃ (A:OA) (n c:Nat) (ds:List fQ) (code:Int),e=.returned (.tuple #[.slice A n c,.int .i64 code])/\Bw w w' /\
  (if r.2=0 then code=0/\ds.map fQ.pl=r.1/\nu w w' ds A n c/\YD r.1 else code≠0/\(r.2≠-1->code=r.2)/\A=none/\n=0)
theorem sZ {r:List gI×Int}{e:Int}(h:r.2=e)(z:e≠0)(D:Bw w w'):lB r w (.returned (.tuple #[.slice none 0 0,.int .i64 e])) w':=
 ⟨none,0,0,[],e,rfl,D,by rw[if_neg (by rw[h];exact z)];exact⟨z,fun _=>h.symm,rfl,rfl⟩⟩
theorem yd {r:List gI×Int}{ds:List fQ}(h:r=(ds.map fQ.pl,0))(z:nu w w' ds A n c)(D:YD (ds.map fQ.pl)):lB r w (.returned (.tuple #[.slice A n c,.int .i64 0])) w':=
 ⟨A,n,c,ds,0,rfl,z.bel,by rw[h,if_pos rfl];exact⟨rfl,rfl,z,D⟩⟩
def oD (t:iK):fP:=⟨t.nm,t.op,t.ver⟩
theorem Ft (t:iK):tC t.pl=oD t:=by unfold tC oD iK.pl;simp only;rw[nF,nF]
def ye (bar:Bool)(g:List iU):Bool:=(bar&&decide (g.length≠1))||g.any fun t=>!t.qual.isEmpty || !t.archs.isEmpty
theorem va {L:List (List iU)}{g:List iU}(z:g∈L)(h:ye bar g=true):vL bar L=([],11):=by
 have e:vL bar L=if L.any (ye bar)=true then ([],11) else (L.map fun g=>⟨bar,g.map tC⟩,0):=rfl
 rw[e,if_pos (List.any_eq_true.2 ⟨g,z,h⟩)]
theorem NH {L:List (List iU)}(h:∀ g∈L,ye bar g=false):vL bar L=(L.map fun g=>⟨bar,g.map tC⟩,0):=by
 have e:vL bar L=if L.any (ye bar)=true then ([],11) else (L.map fun g=>⟨bar,g.map tC⟩,0):=rfl
 rw[e,if_neg (by rw[Bool.not_eq_true,List.any_eq_false];intro g z;rw[Bool.not_eq_true];exact h g z)]
theorem YE {g:List iU}(h:(bar&&decide (g.length≠1))=true):ye bar g=true:=by unfold ye;rw[h];rfl
theorem Jf {g:List iU}{t:iU}(ht:t∈g)(h:(!t.qual.isEmpty || !t.archs.isEmpty)=true):ye bar g=true:=by
 unfold ye;rw[List.any_eq_true.2 ⟨t,ht,h⟩,Bool.or_true]
theorem aaF {g:List iU}(h:(bar&&decide (g.length≠1))=false)(ht:∀ t∈g,(!t.qual.isEmpty || !t.archs.isEmpty)=false):ye bar g=false:=by
 unfold ye;rw[h,Bool.false_or,List.any_eq_false];intro t z;rw[ht t z];simp
theorem OZ.start (w:World)(bar:Bool)(t:TypeId):OZ w (w.alloc (.cells #[.bool bar,.slice none 0 0] t)) w.heap.size (w.heap.size+1) bar none 0 0 []:=
 ⟨bR.alloc lr _,fV.new w [.bool bar,.slice none 0 0] t,World.ownsRow_nil _ _ _ _,rfl,lr,Nat.lt_succ_self _,by simp⟩
theorem BQ (bar:Bool)(A:OA)(c:Nat)(H:List gA)(w:World)(hr:rQ w A H)(hl:H.length<=64)(hz:∀ g∈H,g.ts.length<=64)(ao:∀ g∈H,∀ t∈g.ts,t.nm.size<=64/\t.ver.size<=64)(ak:DA H):Calls prog 89 #[.slice A H.length c,.bool bar] w (lB (vL bar (H.map gA.pl)) w):=by
 obtain⟨i0,hi,aE,aO,aJ⟩:=info_parts sj;obtain⟨i1,hj,aM,az,aF⟩:=info_parts zM;have HR:=fH hr;have HZ:=fH hz;have aH:=fH ak;have aA:=fH ao;clear hr hz ak ao;go_in;go_wp2;go_loopw [6,14] (fun s6 aI wr=>∃ (k:Nat) (O:OA) (oc:Nat) (ds:List fQ),s6=.slice O k oc/\aI=.int .i64 k/\k<=H.length/\Hid (∀ g∈H.take k,ye bar g.pl=false)/\Hid (ds.map fQ.pl=(H.take k).map fun g=>⟨bar,g.pl.map tC⟩)/\Hid (nu w wr ds O k oc)) (fun _ i _=>H.length-(intOf i).toNat)
 case atStart=>exact⟨0,none,0,[],rfl,rfl,z0,by simp[Hid],rfl,nu.start w⟩
 case round=>
  obtain⟨k,O,oc,ds,rfl,rfl,hk,HN,HO,D0⟩:=hrel;by_cases ag:k<H.length
  ·obtain⟨g,M⟩:∃ g,H[k]?=some g:=⟨_,gG ag⟩
   have ad:=fH (HR.below D0.bel);obtain⟨b,off,hA,he⟩:=ad.row.one k _ (DE M) ag;have aj:=fun W=>gi (T:=83) (E:=198) (sz:=1) (c:=c) underlying83 rfl sizeOf198 hA ag W;simp only[Nat.mul_one] at aj;have F:=gM M;have ae:Hid (g.pl∈H.map gA.pl):=List.mem_map.2 ⟨g,F,rfl⟩;have aN:=fH (ad.grp g F);have am:=fH (gC M);have aL:=fH (aH g F);have aD:=HZ.out g F;obtain⟨gl,R⟩:∃ gl,g.ts.length=gl:=⟨_,rfl⟩
   rw[R] at he aD;have Y:=fH R;clear M hA R ad F;obtain⟨lb,I⟩:∃ lb,(bar&&decide (g.pl.length≠1))=lb:=⟨_,rfl⟩
   have av:g.pl.length=gl:=by unfold gA.pl;rw[List.length_map];exact Y.out
   have aq:=fH I;rw[av] at I;have al:((gl:Int) != 1)=decide (gl≠1):=by rw[bI];simp[bne];omega
   have ah:=fH al;clear al av;cases lb
   rotate_left
   ·have E:=fH (va (bar:=bar) ae (YE aq));have hb:bar=true:=by cases bar;simp at I;rfl
    subst hb;have q1:((gl:Int) != 1)=true:=by rw[ah.out];simpa using I
    clear I;go_wp2;go_ret2;exact sZ (by rw[E.out]) (by decide) D0.bel
   have q1:bar=false\/bar=true/\((gl:Int) != 1)=false:=by
    cases bar with
    | false=>exact .inl rfl
    | true=>right;refine⟨rfl,?_⟩;rw[ah.out];simpa using I
   clear I ah;go_upto_region 5 with(fail)
   clear he aj;go_cut [23] (fun s wx=>s=.bool false/\wr=wx)
   case first=>
    rcases q1 with rfl | ⟨rfl,q1⟩
    ·go_wp2;go_meet;exact⟨rfl,by trivial⟩
    ·go_wp2;go_meet;exact⟨rfl,by trivial⟩
   case rest=>
   obtain⟨rfl,rfl⟩:=hcut;clear q1;obtain⟨X,rfl⟩:∃ X:World,X=wr:=⟨_,rfl⟩
   have A0:=fH (OZ.start X bar 75);go_wp2;go_loopw [28] (fun i wx=>∃ (j cc:Nat) (G:OA),j<=gl/\i=.int .i64 j/\Hid (∀ t∈g.ts.take j,(!t.pl.qual.isEmpty || !t.pl.archs.isEmpty)=false)/\Hid (OZ X wx X.heap.size (X.heap.size+1) bar G j cc ((g.ts.take j).map oD))) (fun i _=>gl-(intOf i).toNat)
   case atStart=>exact⟨0,0,none,z0,rfl,by simp[Hid],A0⟩
   case round=>
    clear A0;obtain⟨j,cc,G,aY,rfl,HT,V⟩:=hrel;by_cases ap:j<gl
    ·have aC:Hid (j<g.ts.length):=by have:=Y.out;show _<_;omega
     obtain⟨t,ht⟩:∃ t,g.ts[j]?=some t:=⟨_,gG aC⟩
     obtain⟨b2,aP,an,ay⟩:=(aN.below V.bel).elem Cj j t ht;obtain⟨e0,e1,e2,e3,e4⟩:=rF ay;simp only[Nat.add_zero] at e0;have aR:=fun W=>gi (T:=198) (E:=196) (sz:=5) (n:=gl) (c:=g.gc) underlying198 rfl sizeOf196 an ap W;have ax:Hid (t.pl∈g.pl):=List.mem_map.2 ⟨t,gM ht,rfl⟩;have au:=fH (gC ht);have aV:=aL.out t (gM ht);obtain⟨W2,ab⟩:∃ W2,wr.alloc (.cells #[.string t.nm,.int .i64 t.op,.string t.ver,.string t.qual,.slice t.aa t.archs.length t.ac] 196)=W2:=⟨_,rfl⟩
     have B2:Hid (Bw wr W2):=by rw[<-ab];exact bR.alloc lr _
     have K2:Hid (fV W2 wr.heap.size t.cells):=by show fV _ _ _;rw[<-ab];exact fV.new wr t.cells _
     obtain⟨k0,k1,k2,k3,k4⟩:=rF K2.cell;have U:=fH (V.step B2);clear ht an ay;obtain⟨qb,aK⟩:∃ qb,t.qual.toList.isEmpty=qb:=⟨_,rfl⟩
     have ai:Hid (t.pl.qual.isEmpty=qb):=by show(bl t.qual).isEmpty=_;rw[<-fK];exact aK
     have af:Hid (t.pl.archs.isEmpty=decide (t.archs.length=0)):=by show(t.archs.map bl).isEmpty=_;cases t.archs<;>simp
     cases qb
     ·have E:=fH (va (bar:=bar) ae (Jf ax (by rw[ai.out];rfl)));go_wp2;go_ret2;exact sZ (by rw[E.out]) (by decide) (fM (fM D0.bel V.bel) B2)
     by_cases h0:0<t.archs.length
     ·have d0:decide ((0:Int)<(t.archs.length:Int))=true:=dT (by omega);have d1:decide (0<t.archs.length)=true:=dT h0;have E:=fH (va (bar:=bar) ae (Jf ax (by rw[af.out,dF];simp)));go_wp2;go_ret2;exact sZ (by rw[E.out]) (by decide) (fM (fM D0.bel V.bel) B2)
     have d0:decide ((0:Int)<(t.archs.length:Int))=false:=dF (by omega);have d1:decide (0<t.archs.length)=false:=dF h0;have EG:Hid ((!t.pl.qual.isEmpty || !t.pl.archs.isEmpty)=false):=by show _=_;rw[ai.out,af.out,dT];rfl
     clear ai af;have Z:=fH U.own;have m1:=U.box.cell 1 _ rfl;have aS:=U.sz;have FB:Hid (some X.heap.size≠(Value.slice G j cc).ownBlock):=by intro e;have:=(Z.lt _ e.symm).1;omega
     have aT:¬ X.heap.size=wr.heap.size:=by have:=V.sz;omega
     have aQ:¬ wr.heap.size=X.heap.size:=by omega
     have aB:=fH ab;clear ab;go_upto_region 11 with(fail)
     rw[aB.out]
     go_wp2_with (
      at_builtin
      refine fR _ rfl _ _ _ rfl (X.heap.size+1) 78 i1 _ 3 40 underlying34 hj aM az aF rfl (by omega) (.slice G j cc) j _ rfl (Z.alloc _) (W2.heap.size+1) (some ⟨W2.heap.size,0,none⟩) 1 1 [.string t.nm,.int .i64 t.op,.string t.ver] rfl (Aq W2 _ _ _ _) (by simp[Value.oneCell']) (by simp only[maxLen];omega) (by omega) (by simp;omega) ?_;intro v1 w6 z J K;obtain⟨G1,c1,rfl⟩:=gg z;have KB:=fH ((U.box.alloc (.cells #[.string t.nm,.int .i64 t.op,.string t.ver] 78)).grownR J FB);have aW:=KB.cell 1 _ rfl;have aX:=KB.free 1 (by simp))
     have N1:=fH (U.app _ (x:=oD t) z J);clear z J K;go_wp2;go_roundw
     case rel=>exact⟨j+1,c1,G1,by omega,by go_num,fH (fun y D=>by
      rw[au.out] at D;rcases List.mem_append.1 D with D | D
      ·exact HT.out y D
      ·rw[List.mem_singleton.1 D];exact EG.out),by rw[au.out,List.map_append];exact N1⟩
     case measure=>simp[intOf];omega
    ·obtain rfl:j=gl:=by omega
     have ar:Hid ((g.ts.take j).map oD=g.pl.map tC):=by
      show _=_;rw[tL (by have:=Y.out;omega)];unfold gA.pl;rw[List.map_map];exact List.map_congr_left fun t _=>(Ft t).symm
     have EG:Hid (ye bar g.pl=false):=by
      refine aaF aq (fun t ht=>?_);obtain⟨y,D,rfl⟩:=List.mem_map.1 ht;exact HT.out y (by rw[tL (by have:=Y.out;omega)];exact D)
     generalize (g.ts.take j).map oD=LL at *;have D1:=fH (D0.below V.bel);have Z:=fH D1.row;have m0:=V.box.cell 0 _ rfl;have m1:=V.box.cell 1 _ rfl;have aG:=fH D0.blk_lt;have aU:=D1.bel.size
     go_wp2_with (
      at_builtin
      refine fR _ rfl _ _ _ rfl w.heap.size 75 i0 _ 2 32 underlying30 hi aE aO aJ rfl (by omega) (.slice O k oc) k _ rfl (Z.alloc _) (wr.heap.size+1) (some ⟨wr.heap.size,0,none⟩) 1 1 [.bool bar,.slice G j cc] rfl (tX wr _ _ _) (by simp[Value.oneCell']) (by simp only[maxLen];omega) (by omega) (by simp;omega) ?_;intro v1 w6 z J K;obtain⟨O1,c1,rfl⟩:=gg z)
     have N1:Hid (nu w w6 (ds++[⟨bar,G,cc,LL⟩]) O1 (k+1) c1):=D1.grow V.dep (by have:=D0.bel.size;omega) (fun x hx g M=>by have:=aG.out x hx g M;omega) (by rw[V.out.cells];exact z) J;clear z J K;go_wp2;go_roundw
     case rel=>exact⟨k+1,O1,c1,_,rfl,by go_num,by omega,fH (fun y D=>by
      rw[am.out] at D;rcases List.mem_append.1 D with D | D
      ·exact HN.out y D
      ·rw[List.mem_singleton.1 D];exact EG.out),by show _=_;rw[am.out,List.map_append,List.map_append,HO.out];congr 1;simp[fQ.pl,ar.out],N1⟩
     case measure=>simp[intOf];omega
  ·have E:Hid (vL bar (H.map gA.pl)=(ds.map fQ.pl,0)):=by
    show _=_;rw[NH,HO.out,tL (by omega),List.map_map];rfl;intro g M;obtain⟨x,hx,rfl⟩:=List.mem_map.1 M;exact HN.out x (by rw[tL (by omega)];exact hx)
   have EF:Hid (YD (ds.map fQ.pl)):=by
    rw[HO.out,tL (by omega)];refine⟨by rw[List.length_map];exact hl,fun d hd=>?_⟩;obtain⟨g,M,rfl⟩:=List.mem_map.1 hd;have:=HZ.out g M;refine⟨?_,fun a ha=>?_⟩
    ·show(g.pl.map tC).length<=64;rw[List.length_map];unfold gA.pl;rw[List.length_map];exact this
    ·obtain⟨t,ht,rfl⟩:=List.mem_map.1 ha;obtain⟨y,D,rfl⟩:=List.mem_map.1 ht;rw[Ft];exact aA.out g M y D
   go_wp2;go_ret2;exact yd E D0 EF.out
def Hn (bar:Bool)(x:jP):Bool:=decide (x.op=6)||(bar&&x.no)
theorem NI (bar:Bool)(L:List jP):vN bar L=if L.any (Hn bar)=true then ([],11) else (L.map fun x=>⟨bar||x.no,[nH x]⟩,0):=rfl
theorem zN {L:List jP}{x:jP}(z:x∈L)(h:Hn bar x=true):vN bar L=([],11):=by
 rw[NI,if_pos (List.any_eq_true.2 ⟨x,z,h⟩)]
theorem NJ {L:List jP}(h:∀ x∈L,Hn bar x=false):vN bar L=(L.map fun x=>⟨bar||x.no,[nH x]⟩,0):=by
 rw[NI,if_neg (by rw[Bool.not_eq_true,List.any_eq_false];intro g z;rw[Bool.not_eq_true];exact h g z)]
theorem Jg {s:BA}{f:Int}(h:gL f s=0):s.size<=64:=by
 unfold gL at h;split at h
 ·simp at h
 ·split at h
  ·simp at h
  ·omega
theorem NK {x:jP}(h:x.right):(nH x).nm.size<=64/\(nH x).ver.size<=64:=by
 obtain⟨z,_,F,H⟩:=h;unfold nH;refine⟨?_,?_⟩
 ·show(gX x.name).size<=64;rw[iB];unfold jU at z;simp only[Bool.and_eq_true,decide_eq_true_eq] at z;exact z.1.1.2
 ·show(gX x.ver).size<=64;by_cases D:x.op=0
  ·rw[F D,iB];simp
  ·exact Jg (H (by omega))
theorem SQ (w:World)(x:fP):w.heap.size<=w.heap.size/\(⟨false,some ⟨w.heap.size,0,none⟩,1,[x]⟩:fQ).own (w.alloc (.cells #[.string x.nm,.int .i64 x.op,.string x.ver] 78)) w.heap.size:=
 ⟨lr,World.ownsRow_lit w #[.string x.nm,.int .i64 x.op,.string x.ver] 1 lr (by unfold maxLen;omega) rfl⟩
theorem Jh (w:World)(m:Nat)(h:w.heap.size=m)(t:TypeId)(x y:Value):nE (w.alloc (.cells #[x,y] t)) (m+1) 2 (some ⟨m,0,none⟩) 1 [x,y]:=by subst h;exact tX w t x y
theorem Fu (bar:Bool)(A:OA)(c:Nat)(L:List jP)(w:World)(hr:Rd w 4 A L.length (L.flatMap jP.cells))(hl:L.length<=64)(hR:∀ x∈L,x.right):Calls prog 91 #[.slice A L.length c,.bool bar] w (lB (vN bar L) w):=by
 obtain⟨i0,hi,ag,ak,aj⟩:=info_parts sj;have HR:=fH hr;have ao:=fH hR;clear hr hR;go_in;go_wp2;go_loopw [6,11] (fun s6 an wr=>∃ (k:Nat) (O:OA) (oc:Nat) (ds:List fQ),s6=.slice O k oc/\an=.int .i64 k/\k<=L.length/\Hid (∀ x∈L.take k,Hn bar x=false)/\Hid (ds.map fQ.pl=(L.take k).map fun x=>⟨bar||x.no,[nH x]⟩)/\Hid (nu w wr ds O k oc)) (fun _ i _=>L.length-(intOf i).toNat)
 case atStart=>exact⟨0,none,0,[],rfl,rfl,z0,by simp[Hid],rfl,nu.start w⟩
 case round=>
  obtain⟨k,O,oc,ds,rfl,rfl,hk,HN,HO,D0⟩:=hrel;by_cases af:k<L.length
  ·obtain⟨x,Y⟩:∃ x,L[k]?=some x:=⟨_,gG af⟩
   obtain⟨b,off,hA,he⟩:=(HR.below D0.bel).elem Ci k x Y;obtain⟨e0,e1,e2,e3⟩:=ZX he;simp only[Nat.add_zero] at e0;have av:=fun W=>gi (T:=87) (E:=142) (sz:=4) (c:=c) underlying87 rfl sizeOf142 hA af W;have am:=fH (gM Y);have U:=fH (gC Y);obtain⟨H,ab⟩:∃ H,x.no=H:=⟨_,rfl⟩
   obtain⟨nm,Z⟩:∃ nm,gX x.name=nm:=⟨_,rfl⟩
   obtain⟨R,aa⟩:∃ R,gX x.ver=R:=⟨_,rfl⟩
   have ai:Hid (nH x=⟨nm,x.op,R⟩):=by show _=_;unfold nH;rw[Z,aa]
   have X:=fH ab;rw[ab] at e0;rw[Z] at e1;rw[aa] at e3;clear Y hA he ab Z aa;obtain⟨D,V⟩:∃ D,wr.alloc (.cells #[.bool H,.string nm,.int .i64 x.op,.string R] 142)=D:=⟨_,rfl⟩
   have B2:Hid (Bw wr D):=by rw[<-V];exact bR.alloc lr _
   have K2:Hid (fV D wr.heap.size [.bool H,.string nm,.int .i64 x.op,.string R]):=by show fV _ _ _;rw[<-V];exact fV.new wr [.bool H,.string nm,.int .i64 x.op,.string R] _
   obtain⟨k0,k1,k2,k3⟩:=ZX K2.cell;have ar:wr.heap.size<D.heap.size:=K2.sz;have DW:=fH (D0.below B2);by_cases h6:x.op=6
   ·have q6:((x.op:Int)==6)=true:=by rw[h6];rfl
    have E:=fH (zN (bar:=bar) am (by unfold Hn;rw[dT h6];rfl));clear h6;go_wp2;go_ret2;exact sZ (by rw[E.out]) (by decide) DW.bel
   have q6:((x.op:Int)==6)=false:=beq_eq_false_iff_ne.2 (by omega);have H6:=fH h6;clear h6;by_cases ad:bar=true/\H=true
   ·obtain⟨rfl,rfl⟩:=ad;have E:=fH (zN (bar:=true) am (by unfold Hn;rw[X.out];simp));go_wp2;go_ret2;exact sZ (by rw[E.out]) (by decide) DW.bel
   have EB:Hid (Hn bar x=false):=by
    show _=_;unfold Hn;rw[dF H6.out,X.out];cases bar<;>cases H<;>simp_all
   have D3:=fH (DW.below (bR.alloc lr (.cells #[.string nm,.int .i64 x.op,.string R] 78)));have al:=fH D3.row;have ah:=fH DW.blk_lt;have LO:=fH (SQ D ⟨nm,x.op,R⟩).2;have J:=DW.bel.size;have au:¬ wr.heap.size=D.heap.size:=by omega
   have ac:(bar=true/\H=false/\(bar||x.no)=true)\/(bar=false/\(bar||x.no)=H):=by
    cases bar with
    | true=>left;refine⟨rfl,?_,by rw[Bool.true_or]⟩;cases H;rfl;exact absurd ⟨rfl,rfl⟩ ad
    | false=>right;exact⟨rfl,by rw[X.out];rfl⟩
   have ae:=fH V;clear ad V;rcases ac with⟨rfl,rfl,M⟩ | ⟨rfl,M⟩
   ·have ap:=fH M;clear M;go_upto_region 5 with(fail)
    rw[ae.out]
    go_wp2_with (
     at_builtin
     refine fR _ rfl _ _ _ rfl w.heap.size 75 i0 _ 2 32 underlying30 hi ag ak aj rfl (by omega) (.slice O k oc) k _ rfl (al.alloc _) (D.heap.size+1+1) (some ⟨D.heap.size+1,0,none⟩) 1 1 [.bool true,.slice (some ⟨D.heap.size,0,none⟩) 1 1] rfl (Jh _ _ (by simp) _ _ _) (by simp[Value.oneCell']) (by simp only[maxLen];omega) (by first | omega | (simp;omega)) (by first | omega | (simp;omega)) ?_;intro v1 w6 z K I;obtain⟨O1,c1,rfl⟩:=gg z)
    have N1:Hid (nu w w6 (ds++[⟨true,some ⟨D.heap.size,0,none⟩,1,[⟨nm,x.op,R⟩]⟩]) O1 (k+1) c1):=D3.grow (lo:=D.heap.size) LO J (fun x Y g hg=>ah.out x Y g hg) z K;clear z K I;go_wp2;go_roundw
    case rel=>exact⟨k+1,O1,c1,_,rfl,by go_num,by omega,fH (fun y F=>by
     rw[U.out] at F;rcases List.mem_append.1 F with F | F
     ·exact HN.out y F
     ·rw[List.mem_singleton.1 F];exact EB.out),by show _=_;rw[U.out,List.map_append,List.map_append,HO.out];congr 1;simp[fQ.pl,ai.out],N1⟩
    case measure=>simp[intOf];omega
   ·have ap:=fH M;clear M;go_upto_region 5 with(fail)
    rw[ae.out]
    go_wp2_with (
     at_builtin
     refine fR _ rfl _ _ _ rfl w.heap.size 75 i0 _ 2 32 underlying30 hi ag ak aj rfl (by omega) (.slice O k oc) k _ rfl (al.alloc _) (D.heap.size+1+1) (some ⟨D.heap.size+1,0,none⟩) 1 1 [.bool H,.slice (some ⟨D.heap.size,0,none⟩) 1 1] rfl (Jh _ _ (by simp) _ _ _) (by simp[Value.oneCell']) (by simp only[maxLen];omega) (by first | omega | (simp;omega)) (by first | omega | (simp;omega)) ?_;intro v1 w6 z K I;obtain⟨O1,c1,rfl⟩:=gg z)
    have N1:Hid (nu w w6 (ds++[⟨H,some ⟨D.heap.size,0,none⟩,1,[⟨nm,x.op,R⟩]⟩]) O1 (k+1) c1):=D3.grow (lo:=D.heap.size) LO J (fun x Y g hg=>ah.out x Y g hg) z K;clear z K I;go_wp2;go_roundw
    case rel=>exact⟨k+1,O1,c1,_,rfl,by go_num,by omega,fH (fun y F=>by
     rw[U.out] at F;rcases List.mem_append.1 F with F | F
     ·exact HN.out y F
     ·rw[List.mem_singleton.1 F];exact EB.out),by show _=_;rw[U.out,List.map_append,List.map_append,HO.out];congr 1;simp[fQ.pl,ai.out,X.out],N1⟩
    case measure=>simp[intOf];omega
  ·have E:Hid (vN bar L=(ds.map fQ.pl,0)):=by
    show _=_;rw[NJ,HO.out,tL (by omega)];intro g hg;exact HN.out g (by rw[tL (by omega)];exact hg)
   have EF:Hid (YD (ds.map fQ.pl)):=by
    rw[HO.out,tL (by omega)];refine⟨by rw[List.length_map];exact hl,fun d hd=>?_⟩;obtain⟨g,hg,rfl⟩:=List.mem_map.1 hd;refine⟨by show([nH g]:List fP).length<=64;simp,fun a ha=>?_⟩;have aq:a∈[nH g]:=ha;rw[List.mem_singleton.1 aq];exact NK (ao g hg)
   go_wp2;go_ret2;exact yd E D0 EF.out
theorem uu {T:fL}(h:T.cnt<=64):T.kids.length<=64/\∀ k∈T.kids,k.cnt<=64:=by
 by_cases z:T.kids=[]
 ·rw[z];simp
 ·rw[lW z] at h;exact⟨by have:=np T.kids;omega,fun k D=>by have:=pm D;omega⟩
def iM (T:fL):List fL:=if bl T.op=lh then T.kids else [T]
def kW (T:fL):List fL:=if bl T.op=kT then T.kids else [T]
def jr (T:fL):fP:=⟨T.nm,T.aop,T.ver⟩
theorem AW (T:fL):T.pl=if bl T.op=[] then .atom (bl T.nm) T.aop (bl T.ver) else .node (bl T.op) (T.kids.map fL.pl):=by
 obtain⟨op,nm,aop,ver,ka,kc,kids⟩:=T;simp only[fL.pl,fL.op,fL.nm,fL.aop,fL.ver,fL.kids,nZ];rfl
theorem abS (T:fL):Nv T.pl=(bl T.op).isEmpty:=by
 rw[AW];by_cases h:bl T.op=[]
 ·rw[if_pos h,h];rfl
 ·rw[if_neg h];cases hb:bl T.op with
  | nil=>exact absurd hb h
  | cons a r=>rfl
theorem NM {T:fL}(h:bl T.op=[]):Fi T.pl=jr T:=by rw[AW,if_pos h];unfold Fi jr;simp only;rw[nF,nF]
theorem NO (T:fL):(iM T).map fL.pl=uo T.pl:=by
 unfold iM;by_cases h:bl T.op=[]
 ·rw[if_neg (by rw[h];decide),List.map_singleton,AW,if_pos h];rfl
 ·rw[AW,if_neg h];show _=(if bl T.op=lh then T.kids.map fL.pl else [.node (bl T.op) (T.kids.map fL.pl)]);by_cases z:bl T.op=lh
  ·rw[if_pos z,if_pos z]
  ·rw[if_neg z,if_neg z,List.map_singleton,AW,if_neg h]
theorem SR (T:fL):(kW T).map fL.pl=vM T.pl:=by
 unfold kW;by_cases h:bl T.op=[]
 ·rw[if_neg (by rw[h];decide),List.map_singleton,AW,if_pos h];rfl
 ·rw[AW,if_neg h];show _=(if bl T.op=kT then T.kids.map fL.pl else [.node (bl T.op) (T.kids.map fL.pl)]);by_cases z:bl T.op=kT
  ·rw[if_pos z,if_pos z]
  ·rw[if_neg z,if_neg z,List.map_singleton,AW,if_neg h]
def rj (p:fL):Bool:=(kW p).all fun a=>(bl a.op).isEmpty
theorem aaG (p:fL):(vM p.pl).all Nv=rj p:=by
 unfold rj;rw[<-SR,List.all_map];congr 1;funext a;exact abS a
theorem yf (T:fL):qI false T.pl=if (iM T).all rj=true then ((iM T).map fun p=>⟨false,(kW p).map jr⟩,0) else ([],11):=by
 unfold qI;rw[if_neg (by simp)];have e:(uo T.pl).all (fun p=>(vM p).all Nv)=(iM T).all rj:=by
  rw[<-NO,List.all_map];congr 1;funext p;exact aaG p
 rw[e];by_cases h:(iM T).all rj=true
 ·rw[if_pos h,if_pos h,<-NO,List.map_map];congr 1;refine List.map_congr_left fun p D=>?_;have z:=List.all_eq_true.1 h p D;unfold rj at z;show(⟨false,(vM p.pl).map Fi⟩:gI)=⟨false,(kW p).map jr⟩;rw[<-SR,List.map_map];congr 1;refine List.map_congr_left fun a F=>?_;exact NM (List.isEmpty_iff.1 (List.all_eq_true.1 z a F))
 ·rw[if_neg h,if_neg h]
theorem VF {T p:fL}(z:p∈iM T)(h:rj p=false):qI false T.pl=([],11):=by
 rw[yf,if_neg];intro D;rw[List.all_eq_true.1 D p z] at h;cases h
theorem YF {T:fL}(h:∀ p∈iM T,rj p=true):qI false T.pl=((iM T).map fun p=>⟨false,(kW p).map jr⟩,0):=by
 rw[yf,if_pos (List.all_eq_true.2 h)]
theorem vb (T:fL):qI true T.pl=if bl T.op=[] then ([⟨true,[jr T]⟩],0) else ([],11):=by
 unfold qI;rw[if_pos rfl,abS];by_cases h:bl T.op=[]
 ·rw[if_pos h,if_pos (by rw[h];rfl),NM h]
 ·rw[if_neg h,if_neg];intro e;exact h (List.isEmpty_iff.1 e)
theorem Fv {T:fL}(h:jR T):(jr T).nm.size<=64/\(jr T).ver.size<=64:=by
 cases h with
 | atom nm aop ver hn ho hv0 hv=>
  refine⟨(rV hn).2,?_⟩;show ver.size<=64;by_cases z:aop=0
  ·rw[hv0 z];omega
  ·exact Jg (hv (by omega))
 | node op ka kc kids=>exact⟨by show(⟨#[]⟩:BA).size<=64;decide,by show(⟨#[]⟩:BA).size<=64;decide⟩
theorem VG {T:fL}(h:jR T):∀ a∈kW T,jR a:=by
 intro a z;unfold kW at z;split at z
 ·exact h.kid z
 ·rw[List.mem_singleton.1 z];exact h
theorem Q4 {T:fL}(h:jR T):∀ a∈iM T,jR a:=by
 intro a z;unfold iM at z;split at z
 ·exact h.kid z
 ·rw[List.mem_singleton.1 z];exact h
theorem nu.base {ds:List fQ}(h:nu w1 wr ds A n c)(z:Bw w w1):nu w wr ds A n c:=
 ⟨h.len,gF h.row z.size,fun d D=>gF (h.al d D) z.size,h.far,fM z h.bel⟩
theorem nu.one (w:World)(bar:Bool)(x:fP):nu w ((w.alloc (.cells #[.string x.nm,.int .i64 x.op,.string x.ver] 78)).alloc (.cells #[.bool bar,.slice (some ⟨w.heap.size,0,none⟩) 1 1] 75)) [⟨bar,some ⟨w.heap.size,0,none⟩,1,[x]⟩] (some ⟨w.heap.size+1,0,none⟩) 1 1:=by
 have D:=(SQ w x).2;have F:=(Below.refl (w.alloc (.cells #[.string x.nm,.int .i64 x.op,.string x.ver] 78)).heap.size (w.alloc (.cells #[.string x.nm,.int .i64 x.op,.string x.ver] 78))).alloc lr (.cells #[.bool bar,.slice (some ⟨w.heap.size,0,none⟩) 1 1] 75);have H:(w.alloc (.cells #[.string x.nm,.int .i64 x.op,.string x.ver] 78)).heap.size=w.heap.size+1:=by simp
 refine⟨rfl,?_,fun d z=>?_,List.pairwise_singleton _ _,?_⟩
 ·have:=World.ownsRow_lit (base:=w.heap.size) (e:=75) (size:=2) (w.alloc (.cells #[.string x.nm,.int .i64 x.op,.string x.ver] 78)) #[.bool bar,.slice (some ⟨w.heap.size,0,none⟩) 1 1] 1 (by omega) (by unfold maxLen;omega) rfl;rw[H] at this;exact this
 ·rw[List.mem_singleton.1 z];exact ge D F
 ·exact(bR.alloc lr _).alloc (by simp) _
theorem Fw {s:BA}{b:Bool}(h:s.toList.isEmpty=b):(bl s).isEmpty=b:=by rw[<-fK];exact h
theorem Ho (bar:Bool)(T:fL)(w:World)(hr:He w T)(hn:T.cnt<=64)(ad:jR T):Calls prog 90 #[T.val,.bool bar] w (lB (qI bar T.pl) w):=by
 obtain⟨i0,hi,aG,aT,aO⟩:=info_parts sj;obtain⟨i1,hj,aQ,aE,aH⟩:=info_parts zM;have HR:=fH hr;have al:=uu hn;obtain⟨J,aj⟩:∃ J,w.alloc (.cells #[.string T.op,.string T.nm,.int .i64 T.aop,.string T.ver,.slice T.ka T.kids.length T.kc] 86)=J:=⟨_,rfl⟩
 have B0:Hid (Bw w J):=by rw[<-aj];exact bR.alloc lr _
 have K0:Hid (fV J w.heap.size T.cells):=by rw[<-aj];exact fV.new w T.cells _
 obtain⟨k0,k1,k2,k3,k4⟩:=rF K0.cell;clear hr;cases bar
 rotate_left
 ·obtain⟨pb,aD⟩:∃ pb,T.op.toList.isEmpty=pb:=⟨_,rfl⟩
  have ay:=fH (Fw aD);unfold fL.val;cases pb
  ·have E:Hid (qI true T.pl=([],11)):=by show _=_;rw[vb,if_neg];intro e;have:=ay.out;rw[e] at this;cases this
   go_in;go_wp2;go_ret2;exact sZ (by rw[E.out]) (by decide) B0.out
  ·have E:Hid (qI true T.pl=([⟨true,[jr T]⟩],0)):=by show _=_;rw[vb,if_pos (List.isEmpty_iff.1 ay.out)]
   have DO:=fH (nu.one J true (jr T));go_in;go_wp2;go_ret2;exact yd (ds:=[⟨true,some ⟨J.heap.size,0,none⟩,1,[jr T]⟩]) (by rw[E.out];rfl) (DO.base B0) ⟨by simp,fun d hd=>by rw[List.map_singleton] at hd;rw[List.mem_singleton.1 hd];exact⟨by simp[fQ.pl],fun a V=>by rw[show a=jr T from by simpa [fQ.pl] using V];exact Fv ad⟩⟩
 unfold fL.val;obtain⟨ab,az⟩:∃ ab,(T.op.toList == [97,110,100])=ab:=⟨_,rfl⟩
 have ae:Hid (ab=decide (bl T.op=lh)):=by show _=_;rw[<-az,fK,bI,beq_iff_eq,decide_eq_true_iff];exact Iff.rfl
 obtain⟨K,ah⟩:∃ K,J.alloc (.cells #[.string T.op,.string T.nm,.int .i64 T.aop,.string T.ver,.slice T.ka T.kids.length T.kc] 86)=K:=⟨_,rfl⟩
 have B1:Hid (Bw J K):=by rw[<-ah];exact bR.alloc lr _
 have K1:=fH (K0.below B1);have LR:Hid (Rd K 5 (some ⟨J.heap.size,0,none⟩) 1 T.cells):=by
  have:=World.ownsRow_lit (base:=J.heap.size) (e:=86) (size:=5) J T.cells.toArray 1 lr (by unfold maxLen;omega) rfl;rw[show J.alloc (.cells T.cells.toArray 86)=K from ah] at this;exact gR this
 have m0:=K1.cell 0 _ rfl;have m4:=K1.cell 4 _ rfl;have Z:=fH ((HR.low B0).low B1);go_in;go_upto_if 27 with(fail)
 clear aj ah;go_cut [6] (fun s wx=>∃ (PA:OA) (pc:Nat),s=.slice PA (iM T).length pc/\K=wx/\Hid (Rd K 5 PA (iM T).length ((iM T).flatMap fL.cells)))
 case first=>
  cases ab
  ·have E:Hid (iM T=[T]):=by show _=_;unfold iM;rw[if_neg (of_decide_eq_false ae.out.symm)]
   go_wp2;go_meet;exact⟨_,_,by rw[E.out];rfl,by trivial,by rw[E.out];simpa [Hid] using LR.out⟩
  ·have E:Hid (iM T=T.kids):=by show _=_;unfold iM;rw[if_pos (dO ae.out.symm)]
   go_wp2;go_meet;exact⟨_,_,by rw[E.out],by trivial,by rw[E.out];exact Z.row⟩
 case rest=>
 obtain⟨PA,pc,rfl,rfl,PR⟩:=hcut;have aF:=fH (Q4 ad);clear ad;have PT:Hid (∀ p∈iM T,He K p/\p.cnt<=64):=by
  intro p D;unfold iM at D;split at D
  ·exact⟨Z.kids p D,al.2 p D⟩
  ·rw[List.mem_singleton.1 D];exact⟨Z.out,hn⟩
 have aN:(iM T).length<=64:=by
  unfold iM;split
  ·exact al.1
  ·simp
 have av:=fH (fun (p:fL) D h=>VF (T:=T) (p:=p) D h);have aM:=fH (YF (T:=T));have BW:=fH (fM B0 B1);clear k0 k1 k2 k3 k4 m0 m4 LR K0 K1 al HR Z B0 B1 az ae;generalize iM T=P at *;generalize qI false T.pl=RR at *;go_wp2;go_loopw [7,32] (fun s7 aK wr=>∃ (k:Nat) (O:OA) (oc:Nat) (ds:List fQ),s7=.slice O k oc/\aK=.int .i64 k/\k<=P.length/\Hid (∀ p∈P.take k,rj p=true)/\Hid (ds.map fQ.pl=(P.take k).map fun p=>⟨false,(kW p).map jr⟩)/\Hid (nu K wr ds O k oc)) (fun _ i _=>P.length-(intOf i).toNat)
 case atStart=>exact⟨0,none,0,[],rfl,rfl,z0,by simp[Hid],rfl,nu.start K⟩
 case round=>
  obtain⟨k,O,oc,ds,rfl,rfl,hk,HN,HO,D0⟩:=hrel;by_cases aq:k<P.length
  ·obtain⟨p,D⟩:∃ p,P[k]?=some p:=⟨_,gG aq⟩
   have X:=gM D;obtain⟨b,off,hA,he⟩:=(PR.below D0.bel).elem uK k p D;obtain⟨e0,e1,e2,e3,e4⟩:=rF he;simp only[Nat.add_zero] at e0;have aC:=fun W=>gi (T:=84) (E:=86) (sz:=5) (c:=pc) underlying84 rfl sizeOf86 hA aq W;have aP:=fH X;have am:=fH (gC D);have an:=fH ((PT p X).1.low D0.bel);have ax:=uu (PT p X).2;clear D hA he X;obtain⟨wo,rfl⟩:∃ wo:World,wo=wr:=⟨_,rfl⟩
   obtain⟨U,ag⟩:∃ U,wo.alloc (.cells #[.string p.op,.string p.nm,.int .i64 p.aop,.string p.ver,.slice p.ka p.kids.length p.kc] 86)=U:=⟨_,rfl⟩
   have B2:Hid (Bw wo U):=by rw[<-ag];exact bR.alloc lr _
   have K2:Hid (fV U wo.heap.size p.cells):=by rw[<-ag];exact fV.new wo p.cells _
   obtain⟨F,ak⟩:∃ F,U.alloc (.cells #[.string p.op,.string p.nm,.int .i64 p.aop,.string p.ver,.slice p.ka p.kids.length p.kc] 86)=F:=⟨_,rfl⟩
   have B3:Hid (Bw U F):=by rw[<-ak];exact bR.alloc lr _
   have K3:=fH (K2.below B3);have LR:Hid (Rd F 5 (some ⟨U.heap.size,0,none⟩) 1 p.cells):=by
    have:=World.ownsRow_lit (base:=U.heap.size) (e:=86) (size:=5) U p.cells.toArray 1 lr (by unfold maxLen;omega) rfl;rw[show U.alloc (.cells p.cells.toArray 86)=F from ak] at this;exact gR this
   obtain⟨q0,q1,q2,q3,q4⟩:=rF K2.cell;have m0:=K3.cell 0 _ rfl;have m4:=K3.cell 4 _ rfl;have aB:=fH ((an.low B2).low B3);obtain⟨ob,ar⟩:∃ ob,(p.op.toList == [111,114])=ob:=⟨_,rfl⟩
   have af:Hid (ob=decide (bl p.op=kT)):=by show _=_;rw[<-ar,fK,bI,beq_iff_eq,decide_eq_true_iff];exact Iff.rfl
   go_upto_if 40 with(fail)
   clear ag ak e0 e1 e2 e3 e4 aC;go_cut [10] (fun s wx=>∃ (QA:OA) (qc:Nat),s=.slice QA (kW p).length qc/\F=wx/\Hid (Rd F 5 QA (kW p).length ((kW p).flatMap fL.cells)))
   case first=>
    cases ob
    ·have E:Hid (kW p=[p]):=by show _=_;unfold kW;rw[if_neg (of_decide_eq_false af.out.symm)]
     go_wp2;go_meet;exact⟨_,_,by rw[E.out];rfl,by trivial,by rw[E.out];simpa [Hid] using LR.out⟩
    ·have E:Hid (kW p=p.kids):=by show _=_;unfold kW;rw[if_pos (dO af.out.symm)]
     go_wp2;go_meet;exact⟨_,_,by rw[E.out],by trivial,by rw[E.out];exact aB.row⟩
   case rest=>
   obtain⟨QA,qc,rfl,rfl,QR⟩:=hcut;have aR:(kW p).length<=64:=by
    unfold kW;split
    ·exact ax.1
    ·simp
   have ai:Hid (rj p=(kW p).all fun a=>(bl a.op).isEmpty):=rfl;have D3:=fH (D0.below (fM B2 B3));clear q0 q1 q2 q3 q4 m0 m4 LR K2 K3 ax an aB B2 B3 ar af D0;obtain⟨Q,hQ⟩:∃ Q,kW p=Q:=⟨_,rfl⟩
   have HQ:=fH hQ;rw[hQ] at QR aR ai;rw[hQ];clear hQ;have A0:=fH (OZ.start F false 75);go_wp2;go_loopw [45] (fun i wx=>∃ (j cc:Nat) (G:OA),j<=Q.length/\i=.int .i64 j/\Hid (∀ a∈Q.take j,(bl a.op).isEmpty=true)/\Hid (OZ F wx F.heap.size (F.heap.size+1) false G j cc ((Q.take j).map jr))) (fun i _=>Q.length-(intOf i).toNat)
   case atStart=>exact⟨0,0,none,z0,rfl,by simp[Hid],A0⟩
   case round=>
    clear A0;obtain⟨j,cc,G,bd,rfl,HT,AL⟩:=hrel;by_cases ac:j<Q.length
    ·obtain⟨a,V⟩:∃ a,Q[j]?=some a:=⟨_,gG ac⟩
     obtain⟨b2,aU,ao,aA⟩:=(QR.below AL.bel).elem uK j a V;obtain⟨e0,e1,e2,e3,e4⟩:=rF aA;simp only[Nat.add_zero] at e0;have aW:=fun W=>gi (T:=84) (E:=86) (sz:=5) (c:=qc) underlying84 rfl sizeOf86 ao ac W;have aI:=fH (gM V);have ap:=fH (gC V);obtain⟨W5,aa⟩:∃ W5,wr.alloc (.cells #[.string a.op,.string a.nm,.int .i64 a.aop,.string a.ver,.slice a.ka a.kids.length a.kc] 86)=W5:=⟨_,rfl⟩
     have B5:Hid (Bw wr W5):=by rw[<-aa];exact bR.alloc lr _
     have K5:Hid (fV W5 wr.heap.size a.cells):=by show fV _ _ _;rw[<-aa];exact fV.new wr a.cells _
     obtain⟨k0,k1,k2,k3⟩:=ZX K5.cell;have M:=fH (AL.step B5);clear V ao aA;obtain⟨eb,aL⟩:∃ eb,a.op.toList.isEmpty=eb:=⟨_,rfl⟩
     have au:=fH (Fw aL);cases eb
     ·have E:Hid (RR=([],11)):=av.out p aP (by rw[ai.out,List.all_eq_false];exact⟨a,aI,by rw[au.out];simp⟩);go_wp2;go_ret2;exact sZ (by rw[E.out]) (by decide) (fM BW (fM D3.bel (fM AL.bel B5)))
     have Y:=fH M.own;have m1:=M.box.cell 1 _ rfl;have aX:=M.sz;have FB:Hid (some F.heap.size≠(Value.slice G j cc).ownBlock):=by intro e;have:=(Y.lt _ e.symm).1;omega
     have aY:¬ F.heap.size=wr.heap.size:=by have:=AL.sz;omega
     have aV:¬ wr.heap.size=F.heap.size:=by omega
     have aS:=fH aa;clear aa;go_upto_region 19 with(fail)
     rw[aS.out]
     go_wp2_with (
      at_builtin
      refine fR _ rfl _ _ _ rfl (F.heap.size+1) 78 i1 _ 3 40 underlying34 hj aQ aE aH rfl (by omega) (.slice G j cc) j _ rfl (Y.alloc _) (W5.heap.size+1) (some ⟨W5.heap.size,0,none⟩) 1 1 [.string a.nm,.int .i64 a.aop,.string a.ver] rfl (Aq W5 _ _ _ _) (by simp[Value.oneCell']) (by simp only[maxLen];omega) (by omega) (by simp;omega) ?_;intro v1 w6 z I R;obtain⟨G1,c1,rfl⟩:=gg z;have KB:=fH ((M.box.alloc (.cells #[.string a.nm,.int .i64 a.aop,.string a.ver] 78)).grownR I FB);have bb:=KB.cell 1 _ rfl;have bc:=KB.free 1 (by simp))
     have N1:=fH (M.app _ (x:=jr a) z I);clear z I R;go_wp2;go_roundw
     case rel=>exact⟨j+1,c1,G1,by omega,by go_num,fH (fun y H=>by
      rw[ap.out] at H;rcases List.mem_append.1 H with H | H
      ·exact HT.out y H
      ·rw[List.mem_singleton.1 H];exact au.out),by rw[ap.out,List.map_append];exact N1⟩
     case measure=>simp[intOf];omega
    ·obtain rfl:j=Q.length:=by omega
     have EG:Hid (rj p=true):=by
      show _=_;rw[ai.out,List.all_eq_true];intro a V;exact HT.out a (by rw[List.take_length];exact V)
     have EL:Hid ((Q.take Q.length).map jr=Q.map jr):=by show _=_;rw[List.take_length]
     generalize (Q.take Q.length).map jr=LL at *;have D1:=fH (D3.below AL.bel);have Y:=fH D1.row;have m0:=AL.box.cell 0 _ rfl;have m1:=AL.box.cell 1 _ rfl;have aJ:=fH D3.blk_lt;have ba:=D1.bel.size;have aZ:=D3.bel.size
     go_wp2_with (
      at_builtin
      refine fR _ rfl _ _ _ rfl K.heap.size 75 i0 _ 2 32 underlying30 hi aG aT aO rfl (by omega) (.slice O k oc) k _ rfl (Y.alloc _) (wr.heap.size+1) (some ⟨wr.heap.size,0,none⟩) 1 1 [.bool false,.slice G Q.length cc] rfl (tX wr _ _ _) (by simp[Value.oneCell']) (by simp only[maxLen];omega) (by omega) (by simp;omega) ?_;intro v1 w6 z I R;obtain⟨O1,c1,rfl⟩:=gg z)
     have N1:Hid (nu K w6 (ds++[⟨false,G,cc,LL⟩]) O1 (k+1) c1):=D1.grow AL.dep (by omega) (fun x hx g hg=>by have:=aJ.out x hx g hg;omega) (by rw[AL.out.cells];exact z) I;clear z I R;go_wp2;go_roundw
     case rel=>exact⟨k+1,O1,c1,_,rfl,by go_num,by omega,fH (fun y H=>by
      rw[am.out] at H;rcases List.mem_append.1 H with H | H
      ·exact HN.out y H
      ·rw[List.mem_singleton.1 H];exact EG.out),by show _=_;rw[am.out,List.map_append,List.map_append,HO.out];congr 1;simp[fQ.pl,EL.out,HQ.out],N1⟩
     case measure=>simp[intOf];omega
  ·have E:Hid (RR=(ds.map fQ.pl,0)):=by
    show _=_;rw[aM.out,HO.out,tL (by omega)];intro p D;exact HN.out p (by rw[tL (by omega)];exact D)
   have EF:Hid (YD (ds.map fQ.pl)):=by
    rw[HO.out,tL (by omega)];refine⟨by rw[List.length_map];exact aN,fun d hd=>?_⟩;obtain⟨p,D,rfl⟩:=List.mem_map.1 hd;refine⟨?_,fun a V=>?_⟩
    ·show((kW p).map jr).length<=64;rw[List.length_map];have:=(uu (PT p D).2).1;unfold kW;split
     ·exact this
     ·simp
    ·obtain⟨y,H,rfl⟩:=List.mem_map.1 V;exact Fv (VG (aF p D) y H)
   go_wp2;go_ret2;exact yd E (D0.base BW) EF.out
structure yM (w:World):Prop where
 e:Mt w
 p:QI w
theorem yM.below (h:yM w)(z:Bw w w'):yM w':=⟨h.e.below z,h.p.below z⟩
theorem lB.base {r:List gI×Int}{e:Ending}(h:lB r w1 e w')(I:Bw w w1):lB r w e w':=by
 obtain⟨A,n,c,K,D,J,F,z⟩:=h;refine⟨A,n,c,K,D,J,fM I F,?_⟩;split at z
 ·rename_i H;rw[if_pos H];exact⟨z.1,z.2.1,z.2.2.1.base I,z.2.2.2⟩
 ·rename_i H;rw[if_neg H];exact z
theorem zQ {r:List gI×Int}(F:r=([],-1))(z:code≠0)(D:Bw w w'):lB r w (.returned (.tuple #[.slice none 0 0,.int .i64 code])) w':=
 ⟨none,0,0,[],code,rfl,D,by rw[F,if_neg (by decide)];exact⟨z,fun h=>absurd rfl h,rfl,rfl⟩⟩
theorem Rc {L:List (List iU)}(h:jV s=some L):ip 1 bar s=vL bar L:=by unfold ip;rw[if_pos rfl,h]
theorem La (h:jV s=none):ip 1 bar s=([],-1):=by unfold ip;rw[if_pos rfl,h]
theorem Re {d:mQ}(h:jt s=some d):ip 2 bar s=qI bar d:=by unfold ip;rw[if_neg (by decide),if_pos rfl,h]
theorem Lb (h:jt s=none):ip 2 bar s=([],-1):=by unfold ip;rw[if_neg (by decide),if_pos rfl,h]
theorem Rf {L:List jP}(h:jL s=some L):ip 3 bar s=vN bar L:=by unfold ip;rw[if_neg (by decide),if_neg (by decide),h]
theorem Lc (h:jL s=none):ip 3 bar s=([],-1):=by unfold ip;rw[if_neg (by decide),if_neg (by decide),h]
def VI (A:OA)(n c:Nat)(T:fL)(B:OA)(m d:Nat):LV:=[.slice A n c,.string T.op,.string T.nm,.int .i64 T.aop,.string T.ver,.slice T.ka T.kids.length T.kc,.slice B m d]
theorem Rg (bar:Bool)(s:BA)(w:World)(X:yM w)(hs:s.size<=1000000):Calls prog 56 #[.int .i64 1,.string s,.bool bar] w (lB (ip 1 bar (bl s)) w):=by
 have HG:=fH X;clear X;go_in;go_wp2_with fail;refine(Fx s w HG.e.1 hs).mono ?_;rintro e H ⟨A,n,c,T,B,m,d,I,rfl,M,V,h2,h3⟩;have z:=V rfl;have B1:=fH M;clear V h2 h3 M;unfold zO;obtain⟨K,D⟩:∃ K,H.alloc (.cells #[.slice A n c,.string T.op,.string T.nm,.int .i64 T.aop,.string T.ver,.slice T.ka T.kids.length T.kc,.slice B m d] 89)=K:=⟨_,rfl⟩
 have Z:Hid (Bw H K):=by rw[<-D];exact bR.alloc lr _
 have K2:Hid (fV K H.heap.size (VI A n c T B m d)):=by show fV _ _ _;rw[<-D];exact fV.new H (VI A n c T B m d) _
 obtain⟨k0,k1,k2,k3,k4,k5,k6⟩:=cF7 K2.cell;have Y:=fH (fM B1 Z);have J:=fH D;clear D;unfold Tx1 at z;cases hd:jV (bl s) with
 | none=>
  rw[hd] at z;have E:=fH (La (bar:=bar) hd);have q:(I != 0)=true:=by simpa [bne] using z
  have HC:=fH z;clear z hd;go_upto_region 2 with(fail)
  rw[J.out];go_wp2;go_ret2;exact zQ E HC Y.out
 | some L=>
  rw[hd] at z;obtain⟨rfl,gs,rfl,rfl,z⟩:=z;have E:=fH (Rc (bar:=bar) hd);have F:=fH z;clear z hd;go_upto_region 2 with(fail)
  rw[J.out];go_wp2_with fail;refine(BQ bar A c gs K (F.1.below Z) F.2.2.few F.2.2.len (fun g R t ht=>⟨(F.2.2.ok g R t ht).nmz,(F.2.2.ok g R t ht).verz⟩) F.2.1).mono ?_;rintro e w3 U;have HT:=fH (U.base Y);obtain⟨A',n',c',ds,O,rfl,hb,hi⟩:=HT.out;clear U hb hi;go_wp2;go_ret2;rw[E.out];exact HT.out
theorem Rh (bar:Bool)(s:BA)(w:World)(V:yM w)(hs:s.size<=1000000):Calls prog 56 #[.int .i64 2,.string s,.bool bar] w (lB (ip 2 bar (bl s)) w):=by
 have HG:=fH V;clear V;go_in;go_wp2_with fail;refine(Fy s w HG.e.1 hs).mono ?_;rintro e F ⟨A,n,c,T,B,m,d,H,rfl,K,h1,R,h3⟩;have z:=R rfl;have B1:=fH K;clear h1 R h3 K;unfold zO;obtain⟨J,D⟩:∃ J,F.alloc (.cells #[.slice A n c,.string T.op,.string T.nm,.int .i64 T.aop,.string T.ver,.slice T.ka T.kids.length T.kc,.slice B m d] 89)=J:=⟨_,rfl⟩
 have Y:Hid (Bw F J):=by rw[<-D];exact bR.alloc lr _
 have K2:Hid (fV J F.heap.size (VI A n c T B m d)):=by show fV _ _ _;rw[<-D];exact fV.new F (VI A n c T B m d) _
 obtain⟨k0,k1,k2,k3,k4,k5,k6⟩:=cF7 K2.cell;have X:=fH (fM B1 Y);have I:=fH D;clear D;unfold Tx2 at z;cases hd:jt (bl s) with
 | none=>
  rw[hd] at z;have E:=fH (Lb (bar:=bar) hd);have q:(H != 0)=true:=by simpa [bne] using z
  have HC:=fH z;clear z hd;go_upto_region 2 with(fail)
  rw[I.out];go_wp2;go_ret2;exact zQ E HC X.out
 | some L=>
  rw[hd] at z;obtain⟨rfl,rfl,z⟩:=z;have E:=fH (Re (bar:=bar) hd);have M:=fH z;clear z hd;go_upto_region 2 with(fail)
  rw[I.out];go_wp2_with fail;refine(Ho bar T J (M.1.low Y) M.2.1 M.2.2).mono ?_;rintro e w3 U;have Z:=fH (U.base X);obtain⟨A',n',c',ds,O,rfl,hb,hi⟩:=Z.out;clear U hb hi;go_wp2;go_ret2;rw[E.out];exact Z.out
theorem Ri (bar:Bool)(s:BA)(w:World)(V:yM w)(hs:s.size<=1000000):Calls prog 56 #[.int .i64 3,.string s,.bool bar] w (lB (ip 3 bar (bl s)) w):=by
 have HG:=fH V;clear V;go_in;go_wp2_with fail;refine(Fz s w HG.e hs).mono ?_;rintro e F ⟨A,n,c,T,B,m,d,H,rfl,K,h1,h2,U,-⟩;have z:=U rfl;have B1:=fH K;clear h1 h2 U K;unfold zO;obtain⟨J,D⟩:∃ J,F.alloc (.cells #[.slice A n c,.string T.op,.string T.nm,.int .i64 T.aop,.string T.ver,.slice T.ka T.kids.length T.kc,.slice B m d] 89)=J:=⟨_,rfl⟩
 have Y:Hid (Bw F J):=by rw[<-D];exact bR.alloc lr _
 have K2:Hid (fV J F.heap.size (VI A n c T B m d)):=by show fV _ _ _;rw[<-D];exact fV.new F (VI A n c T B m d) _
 obtain⟨k0,k1,k2,k3,k4,k5,k6⟩:=cF7 K2.cell;have X:=fH (fM B1 Y);have I:=fH D;clear D;unfold Tx3 at z;cases hd:jL (bl s) with
 | none=>
  rw[hd] at z;have E:=fH (Lc (bar:=bar) hd);have q:(H != 0)=true:=by simpa [bne] using z
  have HC:=fH z;clear z hd;go_upto_region 2 with(fail)
  rw[I.out];go_wp2;go_ret2;exact zQ E HC X.out
 | some L=>
  rw[hd] at z;obtain⟨rfl,rfl,z⟩:=z;have E:=fH (Rf (bar:=bar) hd);have M:=fH z;clear z hd;go_upto_region 2 with(fail)
  rw[I.out];go_wp2_with fail;refine(Fu bar B d L J (M.1.below Y) M.2.1 M.2.2).mono ?_;rintro e w3 R;have Z:=fH (R.base X);obtain⟨A',n',c',ds,O,rfl,hb,hi⟩:=Z.out;clear R hb hi;go_wp2;go_ret2;rw[E.out];exact Z.out
theorem VJ (fmt:Int)(F:iY fmt)(bar:Bool)(s:BA)(w:World)(D:yM w)(z:s.size<=1000000):Calls prog 56 #[.int .i64 fmt,.string s,.bool bar] w (lB (ip fmt bar (bl s)) w):=by
 rcases F with rfl | rfl | rfl
 ·exact Rg bar s w D z
 ·exact Rh bar s w D z
 ·exact Ri bar s w D z
def FC (fmt:Int)(bar:Bool)(ts:List (LU))(w:World)(e:Ending)(w':World):Prop:=
 ∃ (A:OA) (n c:Nat) (ds:List fQ) (code:Int),e=.returned (.tuple #[.slice A n c,.int .i64 code])/\Bw w w' /\
  (if jc fmt bar ts=0 then code=0/\ds.map fQ.pl=iX fmt bar ts/\nu w w' ds A n c else code≠0/\(jc fmt bar ts≠-1->code=jc fmt bar ts)/\A=none/\n=0)
theorem Cw (h:jc fmt bar ts≠0)(D:code≠0)(z:jc fmt bar ts≠-1->code=jc fmt bar ts)(F:Bw w w'):FC fmt bar ts w (.returned (.tuple #[.slice none 0 0,.int .i64 code])) w':=
 ⟨none,0,0,[],code,rfl,F,by rw[if_neg h];exact⟨D,z,rfl,rfl⟩⟩
theorem YG {ds:List fQ}(h:jc fmt bar ts=0)(D:ds.map fQ.pl=iX fmt bar ts)(z:nu w w' ds A n c):FC fmt bar ts w (.returned (.tuple #[.slice A n c,.int .i64 0])) w':=
 ⟨A,n,c,ds,0,rfl,z.bel,by rw[if_pos h];exact⟨rfl,D,z⟩⟩
theorem SS (F:iY fmt)(I:l[k]?=some x)(H:∀ y∈l.take k,kI fmt bar (bl y)=0)(h:kI fmt bar (bl x)≠0):jc fmt bar (l.map bl)=kI fmt bar (bl x):=by
 have:iz (kI fmt bar) (l.map bl)=kI fmt bar (bl x):=by
  refine qd (k:=k) (by simp[I]) (fun y D=>?_) h;rw[<-List.map_take] at D;obtain⟨z,K,rfl⟩:=List.mem_map.1 D;exact H z K
 unfold jc;rw[if_neg (fun J=>J F),this,if_pos h]
theorem YH (D:iY fmt)(H:∀ y∈l,kI fmt bar (bl y)=0):jc fmt bar (l.map bl)=if 64<gB (iX fmt bar (l.map bl)) then 4 else 0:=by
 have:iz (kI fmt bar) (l.map bl)=0:=gD.2 (fun y F=>by obtain⟨z,J,rfl⟩:=List.mem_map.1 F;exact H z J);unfold jc;rw[if_neg (fun I=>I D),this,if_neg (by simp)]
theorem VK (z:¬ iY fmt):jc fmt bar ts=9:=by unfold jc;rw[if_pos z]
def Hp (fmt:Int)(P:List gI)(i:Nat)(bar:Bool)(L:List fP)(j:Nat):List gI:=
 (P.take i).map (kD fmt 1)++⟨bar,(L.take j).map (fun g=>(gz fmt 1 g).1)++L.drop j⟩::P.drop (i+1)
def Hq (fmt:Int)(P:List gI)(i:Nat):List gI:=(P.take i).map (kD fmt 1)++P.drop i
theorem Rj (fmt:Int)(P:List gI):Hq fmt P 0=P:=by unfold Hq;simp
theorem NT {P:List gI}{d:gI}(h:P[i]?=some d):Hq fmt P i=Hp fmt P i d.bar d.alts 0:=by
 obtain⟨z,D⟩:=gS h;unfold Hq Hp;rw[List.drop_eq_getElem_cons z,D];simp
theorem aaH {P:List gI}{d:gI}(h:P[i]?=some d):Hp fmt P i d.bar d.alts d.alts.length=Hq fmt P (i+1):=by
 unfold Hq Hp;rw[gC h,List.map_append,List.map_singleton];simp[kD]
theorem YI {P:List gI}{L:List fP}(D:i<P.length):(Hp fmt P i bar L j)[i]?=some ⟨bar,(L.take j).map (fun g=>(gz fmt 1 g).1)++L.drop j⟩:=by
 unfold Hp;have z:((P.take i).map (kD fmt 1)).length=i:=by rw[List.length_map,List.length_take];omega
 rw[List.getElem?_append_right (by omega),z,Nat.sub_self];rfl
theorem aaI {P:List gI}{L:List fP}{g:fP}(J:i<P.length)(D:L[j]?=some g):
  (Hp fmt P i bar L j).set i ⟨bar,((L.take j).map (fun g=>(gz fmt 1 g).1)++L.drop j).set j (gz fmt 1 g).1⟩=Hp fmt P i bar L (j+1):=by
 unfold Hp;have H:((P.take i).map (kD fmt 1)).length=i:=by rw[List.length_map,List.length_take];omega
 obtain⟨F,I⟩:=gS D;rw[List.set_append_right _ _ (by omega),H,Nat.sub_self,List.set_cons_zero];congr 2;have z:((L.take j).map (fun g=>(gz fmt 1 g).1)).length=j:=by rw[List.length_map,List.length_take];omega
 rw[List.set_append_right _ _ (by omega),z,Nat.sub_self,List.drop_eq_getElem_cons F,List.set_cons_zero,gC D,List.map_append];simp
theorem YJ (fmt:Int)(P:List gI):Hq fmt P P.length=P.map (kD fmt 1):=by unfold Hq;simp
theorem NU {L:List fP}{g:fP}(D:L[j]?=some g):((L.take j).map (fun g=>(gz fmt 1 g).1)++L.drop j)[j]?=some g:=by
 obtain⟨H,F⟩:=gS D;have z:((L.take j).map (fun g=>(gz fmt 1 g).1)).length=j:=by rw[List.length_map,List.length_take];omega
 rw[List.getElem?_append_right (by omega),z,Nat.sub_self,List.getElem?_drop];simpa using D
theorem VL {P:List gI}{d:gI}{g:fP}(H:P[i]?=some d)(R:d.alts[j]?=some g)(O:∀ y∈P.take i,∀ x∈y.alts,(gz fmt 1 x).2=0)(M:∀ x∈d.alts.take j,(gz fmt 1 x).2=0)(h:(gz fmt 1 g).2≠0):qJ fmt P=(gz fmt 1 g).2:=by
 obtain⟨U,I⟩:=gS H;obtain⟨J,D⟩:=gS R;have e:P.flatMap gI.alts=((P.take i).flatMap gI.alts++d.alts.take j)++(g::(d.alts.drop (j+1)++(P.drop (i+1)).flatMap gI.alts)):=by
  conv=>lhs;rw[<-List.take_append_drop i P,List.drop_eq_getElem_cons U,I,List.flatMap_append,List.flatMap_cons]
  conv=>lhs;rhs;lhs;rw[<-List.take_append_drop j d.alts,List.drop_eq_getElem_cons J,D]
  simp
 unfold qJ;rw[e,QU]
 ·unfold iz;rw[if_pos h]
 ·intro x z;rcases List.mem_append.1 z with z | z
  ·obtain⟨y,K,F⟩:=List.mem_flatMap.1 z;exact O y K x F
  ·exact M x z
theorem NV {P:List gI}(h:∀ y∈P,∀ x∈y.alts,(gz fmt 1 x).2=0):qJ fmt P=0:=by
 unfold qJ;rw[gD];intro x F;obtain⟨y,D,z⟩:=List.mem_flatMap.1 F;exact h y D x z
theorem YK {ds:List fQ}{d:fQ}{x:fP}(h:ds[i]?=some d):(ds.set i { d with alts:=d.alts.set j x }).map fQ.head=ds.map fQ.head:=by
 rw[List.map_set];have:({ d with alts:=d.alts.set j x }:fQ).head=d.head:=by unfold fQ.head;simp
 rw[this];apply List.ext_getElem?;intro k;rw[List.getElem?_set];split
 ·rename_i e;subst e;rw[List.getElem?_map,h];simp;exact(gS h).1
 ·rfl
theorem YL {ds es:List fQ}{d e:fQ}(h:ds.map fQ.head=es.map fQ.head)(z:ds[i]?=some d)(D:es[i]?=some e):d.bar=e.bar/\d.aa=e.aa/\d.ac=e.ac/\d.alts.length=e.alts.length:=by
 have:=congrArg (·[i]?) h;simp only[List.getElem?_map,z,D,Option.map_some,Option.some.injEq] at this;unfold fQ.head at this;injection this with h1 h2;injection h2 with h2 h3;injection h3 with h3 h4;exact⟨h1,h2,h3,h4⟩
theorem nu.join {wo w7:World}{DS D:List fQ}{O O1:OA}{oc:Nat}(h:nu w wo DS O n oc)(F:nu wo w6 D A m c)
  (U:w7.ownsRow w.heap.size 75 2 (.slice O1 (n+m) c1) (n+m) (DS.flatMap fQ.cells++D.flatMap fQ.cells))(J:w6.grownBy w7 (Value.slice O n oc).ownBlock):nu w w7 (DS++D) O1 (n+m) c1:=by
 have z:=h.below F.bel;have K:=h.bel.size;refine⟨by rw[List.length_append,h.len,F.len],by rw[List.flatMap_append];exact U,fun t ht=>?_,?_,z.bel.grown J z.bel.size (fun j M=>(z.row.lt j M).1)⟩
 ·rcases List.mem_append.1 ht with ht | ht
  ·exact gN (z.al t ht) z.row (by decide) J
  ·exact gN (gF (F.al t ht) K) z.row (by decide) J
 ·rw[List.pairwise_append];refine⟨h.far,F.far,fun x V y R g H I=>?_⟩;have X:=((h.al x V).lt g H).2;have Y:=((F.al y R).lt g I).1;omega
theorem Rk {P:List gI}{d:gI}(h:P[i]?=some d):gB (P.take (i+1))=gB (P.take i)+d.alts.length:=by
 unfold gB;rw[gC h,List.map_append,List.sum_append];simp
theorem Rl (h:l[k]?=some x):iX fmt bar ((l.take (k+1)).map bl)=iX fmt bar ((l.take k).map bl)++(ip fmt bar (bl x)).1.map (kD fmt 1):=by
 unfold iX;rw[gC h,List.map_append,List.flatMap_append];simp[Fj]
theorem VM (a b:List gI):gB (a++b)=gB a+gB b:=by unfold gB;rw[List.map_append,List.sum_append]
theorem vO {l:List fQ}{R:fQ->fQ->Prop}(K:∀ a b,R a b->R b a)(h:l.Pairwise R){x:fQ}(J:∀ j y,j≠i->l[j]?=some y->R x y):(l.set i x).Pairwise R:=by
 rw[List.pairwise_iff_getElem] at *;intro a b z F D;rw[List.length_set] at z F;rw[List.getElem_set,List.getElem_set];by_cases I:i=a
 ·rw[if_pos I,if_neg (by omega)];exact J b _ (by omega) (gG F)
 ·rw[if_neg I];by_cases H:i=b
  ·rw[if_pos H];exact K _ _ (J a _ (by omega) (gG z))
  ·rw[if_neg H];exact h a b z F D
theorem YS {l:List fQ}{x:fQ}(z:l[i]?=some x)(b:Bool):(l.flatMap fQ.cells).set (i*2) (.bool b)=(l.set i { x with bar:=b }).flatMap fQ.cells:=by
 induction l generalizing i with
 | nil=>simp at z
 | cons a r ih=>
  cases i with
  | zero=>simp at z;subst z;simp[fQ.cells]
  | succ i=>
   have:=ih (i:=i) (by simpa using z);rw[List.set_cons_succ,List.flatMap_cons,List.flatMap_cons,<-this];rw[show(i+1)*2=i*2+2 by omega];rfl
theorem YT {l:List fQ}{x:fQ}(z:l[i]?=some x)(G:OA)(D:Nat)(L:List fP):(l.flatMap fQ.cells).set (i*2+1) (.slice G L.length D)=(l.set i ⟨x.bar,G,D,L⟩).flatMap fQ.cells:=by
 induction l generalizing i with
 | nil=>simp at z
 | cons a r ih=>
  cases i with
  | zero=>simp at z;subst z;simp[fQ.cells]
  | succ i=>
   have:=ih (i:=i) (by simpa using z);rw[List.set_cons_succ,List.flatMap_cons,List.flatMap_cons,<-this];rw[show(i+1)*2+1=(i*2+1)+2 by omega];rfl
theorem N9 {l:List fQ}{x y:fQ}(H:y∈l.set i x):y=x\/∃ j,j≠i/\l[j]?=some y:=by
 rw[List.mem_iff_getElem?] at H;obtain⟨k,z⟩:=H;by_cases D:k=i
 ·subst D;have F:k<l.length:=by
   have:=(gS z).1;rwa [List.length_set] at this
  rw[List.getElem?_set_self F] at z;injection z with z;exact .inl z.symm
 ·rw[List.getElem?_set_ne (fun e=>D e.symm)] at z;exact .inr ⟨k,D,z⟩
theorem nu.setBar {ds:List fQ}{x:fQ}(h:nu w wr ds (some ⟨g,0,none⟩) n c)(H:ds[i]?=some x)(b:Bool):
  nu w (wr.setCell ⟨g,i*2,none⟩ (.bool b)) (ds.set i { x with bar:=b }) (some ⟨g,0,none⟩) n c:=by
 have z:=h.row.stored (i*2) (.bool b);have M:=h.row.lt g rfl;refine⟨by rw[List.length_set];exact h.len,by rw[<-YS H];exact z.1,fun y K=>?_,?_,h.bel.grown z.2 h.bel.size (fun k I=>by injection I with I;omega)⟩
 ·rcases N9 K with rfl | ⟨j,_,D⟩
  ·exact gN (h.al x (gM H)) h.row (by decide) z.2
  ·exact gN (h.al y (gM D)) h.row (by decide) z.2
 ·exact vO sk h.far fun j y F D=>fun q J=>Cv h.far sk (fun e=>F e.symm) H D q J
theorem nu.setAlt {ds:List fQ}{x:fQ}{a:fP}(h:nu w w1 ds (some ⟨g,0,none⟩) n c)(R:ds[i]?=some x)(hm:x.alts.length=m)
  (hr:w6.ownsRow w.heap.size 78 3 (.slice G1 (m+1) c1) (m+1) (x.alts.flatMap fP.cells++a.cells))
  (U:w1.grownBy w6 (Value.slice x.aa m x.ac).ownBlock)(J:(Value.slice G1 (m+1) c1).ownBlock=(Value.slice x.aa m x.ac).ownBlock\/(Value.slice G1 (m+1) c1).ownBlock=some w1.heap.size):
  nu w (w6.setCell ⟨g,i*2+1,none⟩ (.slice G1 (m+1) c1)) (ds.set i ⟨x.bar,G1,c1,x.alts++[a]⟩) (some ⟨g,0,none⟩) n c:=by
 subst hm;have Y:=h.al x (gM R);have D:w6.ownsRow w.heap.size 75 2 (.slice (some ⟨g,0,none⟩) n c) n (ds.flatMap fQ.cells):=h.row.kept U (lN h.row Y (by decide));have O:=D.stored (i*2+1) (.slice G1 (x.alts.length+1) c1);have ab:=h.row.lt g rfl;have H:Bw w w6:=h.bel.grown U h.bel.size (fun k K=>(Y.lt k K).1);refine⟨by rw[List.length_set];exact h.len,?_,fun y Z=>?_,?_,H.grown O.2 H.size (fun k K=>by injection K with K;omega)⟩
 ·have:=YT R G1 c1 (x.alts++[a]);rw[List.length_append,List.length_singleton] at this;rw[<-this];exact O.1
 ·rcases N9 Z with rfl | ⟨j,F,I⟩
  ·unfold fQ.own;simp only[List.length_append,List.length_singleton,List.flatMap_append,List.flatMap_cons,List.flatMap_nil,List.append_nil];exact gN hr D (by decide) O.2
  ·have V:=Cv h.far sk (fun e=>F e.symm) R I;have X:y.own w6 w.heap.size:=by
    refine(h.al y (gM I)).kept U ?_;cases M:(Value.slice y.aa y.alts.length y.ac).ownBlock with
    | none=>exact .inl rfl
    | some q=>right;intro e;exact V q e.symm M
   exact gN X D (by decide) O.2
 ·refine vO sk h.far fun j y F I=>?_;intro q M;have V:=Cv h.far sk (fun e=>F e.symm) R I;have z:(Value.slice G1 (x.alts.length+1) c1).ownBlock=some q:=by unfold fQ.blk at M;simpa using M
  rcases J with J | J
  ·rw[J] at z;exact V q z
  ·rw[J] at z;injection z with z;intro e;have:=((h.al y (gM I)).lt q e).2;omega
def FI:fQ:=⟨false,none,0,[]⟩
theorem YU (n i:Nat)(h:i<n*2):((List.replicate n FI).flatMap fQ.cells)[i]?=some (if i % 2=0 then .bool false else .slice none 0 0):=by
 induction n generalizing i with
 | zero=>omega
 | succ n ih=>
  rw[List.replicate_succ,List.flatMap_cons]
  match i with
  | 0=>rfl
  | 1=>rfl
  | i+2=>
   have:=ih i (by omega);rw[show(i+2) % 2=i % 2 by omega,<-this];rfl
theorem VT (n:Nat):((List.replicate n FI).flatMap fQ.cells).length=n*2:=by
 induction n with
 | zero=>rfl
 | succ n ih=>rw[List.replicate_succ,List.flatMap_cons,List.length_append,ih];simp[fQ.cells];omega
theorem VU (n:Nat):(madeCells (Value.agg #[.bool false,.slice none 0 0]).cells (n*2)).toList=(List.replicate n FI).flatMap fQ.cells:=by
 apply List.ext_getElem?;intro i;by_cases h:i<n*2
 ·rw[YU n i h];rw[Array.getElem?_toList];unfold madeCells;rcases Nat.mod_two_eq_zero_or_one i with e | e
  ·simp[h,Value.cells,e]
  ·simp[h,Value.cells,e]
 ·rw[List.getElem?_eq_none (by simp[size_madeCells];omega),List.getElem?_eq_none (by rw[VT];omega)]
theorem nu.made {w0:World}(D:Bw w w0)(H:w1.ownsRow w.heap.size 75 2 (.slice (some ⟨g,0,none⟩) n n) n (madeCells (Value.agg #[.bool false,.slice none 0 0]).cells (n*2)).toList)(I:w0.grownBy w1 none):
  nu w w1 (List.replicate n FI) (some ⟨g,0,none⟩) n n:=by
 refine⟨by simp,by rw[<-VU];exact H,fun d F=>?_,?_,D.grown I D.size (by simp)⟩
 ·obtain rfl:=List.eq_of_mem_replicate F;exact World.ownsRow_nil _ _ _ _
 ·rw[List.pairwise_iff_getElem];intro i j M K J;simp only[List.getElem_replicate];intro g z;exact absurd z (by simp[FI,fQ.blk,Value.ownBlock])
end
section
open Go.RowKit Go.Deep
theorem abX {B:Nat}(h:Below B w W):Below B w W.drew:=⟨h.os,h.tape,h.output,h.size,h.block⟩
theorem ZL {α β:Type}{f:α->β}{l m:List α}(h:l.map f=m.map f){x:α}(z:l[k]?=some x):∃ y,m[k]?=some y/\f y=f x:=by
 have:(m.map f)[k]?=some (f x):=by rw[<-h,List.getElem?_map,z];rfl
 rw[List.getElem?_map,Option.map_eq_some_iff] at this;exact this
theorem abF {α β:Type}{f:α->β}{l m:List α}(h:l.map f=m.map f):l.length=m.length:=by have:=congrArg List.length h;simpa using this
theorem OR (A B:OA)(c d:Nat)(l m:List gj)(w:World)(h1:AJ w A l)(h2:AJ w B m)(he:l.map gj.plain=m.map gj.plain)(hl:l.length<=1000000)(hg:∀ x∈l,x.gives.length<=1000000):Calls prog 14 #[.slice A l.length c,.slice B m.length d] w fun e w'=>e=.returned (.bool true)/\Bw w w':=by
 have H1:=fH h1;have H2:=fH h2;have HE:=fH he;have HG:=fH hg;have HL:=abF he;rw[<-HL];have X:=fH HL;clear h1 h2 he hg HL;have q:((l.length:Int) != (l.length:Int))=false:=by simp
 go_in;go_wp2;go_loopw [5] (fun i wr=>∃ k:Nat,k<=l.length/\i=.int .i64 k/\Hid (Bw w wr)) (fun i _=>l.length-(intOf i).toNat)
 case atStart=>exact⟨0,z0,rfl,bR⟩
 case round=>
  obtain⟨k,hk,rfl,R⟩:=hrel;by_cases I:k<l.length
  ·obtain⟨x,hx⟩:∃ x,l[k]?=some x:=⟨_,gG I⟩
   obtain⟨y,hy,hp⟩:=ZL HE hx;have H:k<m.length:=by rw[<-X.out];exact I
   obtain⟨b1,o1,V,aa⟩:=(H1.row.below R).elem Ez k x hx;obtain⟨b2,o2,Y,Z⟩:=(H2.row.below R).elem Ez k y hy;have R1:=(H1.all x (gM hx)).below R.out;have R2:=(H2.all y (gM hy)).below R.out;have K:=HG.out x (gM hx);obtain⟨nm,ver,ga,gc,gives⟩:=x;obtain⟨ac,F,ab,U,D⟩:=y;injection hp with p1 p2 p3;simp only at R1 R2 K p1 p2 p3;subst p1 p2 p3;obtain⟨e0,e1,e2⟩:=qj aa;obtain⟨f0,f1,f2⟩:=qj Z;simp only[Nat.add_zero] at e0 f0 e1 e2 f1 f2;have ae:=fun W=>gi (T:=42) (E:=81) (sz:=3) (c:=c) underlying42 rfl sizeOf81 V I W;have ad:=fun W=>gi (T:=42) (E:=81) (sz:=3) (c:=d) underlying42 rfl sizeOf81 Y H W;rw[<-X.out] at ad;have SA:=fH fun W hb=>H9 ga ab gc U D W (R1.below (w':=W) hb) (R2.below hb) K;have O:b1<wr.heap.size:=World.block_lt_of_cell? _ _ e0;have J:b2<wr.heap.size:=World.block_lt_of_cell? _ _ f0;clear hx hy V Y aa Z R1 R2 K H;generalize D.length=gl at *;go_upto_region 6 with(fail)
   go_cut [54] (fun s wx=>s=.bool false/\Hid (Bw wr wx))
   case first=>
    go_region_held3 (fun w'=>w'.cell? ⟨b1,o1+k*3,none⟩=some (.string ac)/\w'.cell? ⟨b1,o1+k*3+1,none⟩=some (.string F)/\w'.cell? ⟨b1,o1+k*3+2,none⟩=some (.slice ga gl gc)/\w'.cell? ⟨b2,o2+k*3,none⟩=some (.string ac)/\w'.cell? ⟨b2,o2+k*3+1,none⟩=some (.string F)/\w'.cell? ⟨b2,o2+k*3+2,none⟩=some (.slice ab gl U))
     (first
       | go_keep
       | exact⟨(z.cell (p:=⟨_,_,none⟩) O).trans e0,(z.cell (p:=⟨_,_,none⟩) O).trans e1,(z.cell (p:=⟨_,_,none⟩) O).trans e2,(z.cell (p:=⟨_,_,none⟩) J).trans f0,(z.cell (p:=⟨_,_,none⟩) J).trans f1,(z.cell (p:=⟨_,_,none⟩) J).trans f2⟩)
     (first
       | (go_at_call 28;refine mb (SA _ (abX bR)) ?_;rintro w4 z))
    all_goals
     have M:Hid (Bw wr w4):=fM (abX bR) z;go_wp2;go_meet;exact⟨rfl,M⟩
   case rest=>
    obtain⟨rfl,M⟩:=hcut;go_wp2;go_roundw
    case rel=>exact⟨k+1,by omega,by go_num,fM R M⟩
    case measure=>simp[intOf];omega
  ·go_wp2;go_ret;exact⟨rfl,R⟩
end
section
open Go.ChangeShapes Go.WideShapes Go.ChangeAt Go.RowKit
theorem Ia {H:Type}{enc:TypeId×Value->H}{base:Nat}{sp:Nat->Bool}{held:Bool}{fuel:Nat}{t:TypeId}{cs:LV}{p:List MemPlace}
  (ht:P.underlying t=some (.array n e))(he:P.underlying e=some .string)(J:P.cellsOf e=1)(I:P.cellsOf t=n)
  (h:DataW.trod enc P w base sp held fuel t cs=some (.agg (zs.map fun z=>.lit (.string z)),p)):cs=zs.map fun z=>Value.string ⟨z.toArray⟩:=by
 cases fuel with
 | zero=>simp[DataW.trod] at h
 | succ fuel=>
  simp only[DataW.trod,ht,J,I,Nat.mul_one] at h;split at h
  ·rename_i hl;obtain⟨K,O,hx⟩:=Option.map_eq_some_iff.1 h;have D:K.map (·.1)=zs.map fun z=>(DataW.lit (.string z):DataW H):=by
    have:=congrArg Prod.fst hx;simpa using this
   have R:K.length=n:=by simpa using Lib.mapM_length O
   have X:zs.length=n:=by
    have:=congrArg List.length D;simp at this;omega
   apply List.ext_getElem?;intro i;by_cases Z:i<n
   ·obtain⟨b,U,Y⟩:=Lib.mapM_at O i i (by simp[Z]);obtain⟨z,hc,rfl,_⟩:=DataW.trod_string he Y;have V:cs[i]?=some (.string z):=by
     have:=congrArg (·[0]?) hc;simpa [List.getElem?_take,List.getElem?_drop] using this
    have F:(K.map (·.1))[i]?=some (DataW.lit (.string z.data.toList):DataW H):=by simp[U]
    rw[D] at F;simp only[List.getElem?_map,Option.map_eq_some_iff,DataW.lit.injEq,Lit.string.injEq] at F;obtain⟨z',M,rfl⟩:=F;simp[V,M]
   ·rw[List.getElem?_eq_none (by omega),List.getElem?_eq_none (by simp;omega)]
  ·cases h
theorem nr {n:String}{d:DataW Unit}{r:List (String×DataW Unit)}{ps:List MemPlace}(h:DataW.LaidVars P w ((n,d)::r) ps):
  (∃ g t cs fuel p,P.globalNamed n=some g/\(P.globals[g]?).map (·.type)=some t/\w.var? P n=some cs/\DataW.trod (fun _=>()) P w 0 (fun _=>true) false fuel t cs.toList=some (d,p))/\∃ q,DataW.LaidVars P w r q:=by
 obtain⟨g,t,cs,fuel,p,q,F,z,I,D,H,_⟩:=h;exact⟨⟨g,t,cs,fuel,p,F,z,I,D⟩,q,H⟩
theorem qi 
  (M:P.globalNamed name=some g0)(J:(P.globals[g0]?).map (·.type)=some t0)(ht:P.underlying t0=some (.array n e))(R:P.underlying e=some .string)(H:P.cellsOf e=1)(I:P.cellsOf t0=n)
  (h:∃ g t cs fuel p,P.globalNamed name=some g/\(P.globals[g]?).map (·.type)=some t/\w.var? P name=some cs/\DataW.trod (fun _=>()) P w 0 (fun _=>true) false fuel t cs.toList=some (.agg (zs.map fun z=>.lit (.string z)),p))
  (i:Nat)(z:LU)(V:zs[i]?=some z):w.cell? ⟨g0,i,none⟩=some (.string ⟨z.toArray⟩):=by
 obtain⟨Y,X,cs,fuel,p,K,F,D,O⟩:=h;obtain rfl:=Option.some.inj (M.symm.trans K);obtain rfl:=Option.some.inj (J.symm.trans F);have U:=Ia ht R H I O;rw[World.var?_cell M D i,<-Array.getElem?_toList,U];simp[V]
theorem ac5 {k:IntKind}{zs:List Int}{D:DataW Unit}(U:D=Lib.tabData k zs)
  (R:P.globalNamed name=some g0)(J:(P.globals[g0]?).map (·.type)=some t0)(ht:P.underlying t0=some (.array n e))(O:P.underlying e=some (.int k))(H:P.cellsOf e=1)(I:P.cellsOf t0=n)
  (h:∃ g t cs fuel p,P.globalNamed name=some g/\(P.globals[g]?).map (·.type)=some t/\w.var? P name=some cs/\DataW.trod (fun _=>()) P w 0 (fun _=>true) false fuel t cs.toList=some (D,p)):Lib.TabIs P w name k zs:=by
 obtain⟨X,V,cs,fuel,p,K,F,z,M⟩:=h;subst U;obtain rfl:=Option.some.inj (R.symm.trans K);obtain rfl:=Option.some.inj (J.symm.trans F);unfold Lib.TabIs;rw[z,<-Lib.cells_of_tab ht O H I M]
theorem Bl (h:laidMetH prog uI W)(D:W.ShapedOpen prog):QI W:=by
 obtain⟨ps,H,_⟩:=Lx h;obtain⟨_,q1,M⟩:=nr H;obtain⟨_,q2,F⟩:=nr M;obtain⟨cp,q3,h3⟩:=nr F;obtain⟨_,q4,K⟩:=nr h3;obtain⟨U,q5,R⟩:=nr K;obtain⟨V,q6,h6⟩:=nr R;obtain⟨Y,q7,O⟩:=nr h6;obtain⟨c4,q8,X⟩:=nr O;obtain⟨Z,q9,h9⟩:=nr X;obtain⟨I,aa,J⟩:=nr h9;refine⟨⟨Go.Proofs.cell_of_shapedOpen_int (zero:=#[.int .i64 0]) (t:=3) D (dO (by kernel_rfl)) (by kernel_rfl) rfl (by kernel_rfl) (by kernel_rfl) underlying3,?_,?_,?_,?_,?_⟩,?_,?_⟩
 ·intro i z;have e:=qi (zs:=[[97,108,112,104,97],[98,101,116,97],[112,114,101],[114,99],[99,118,115],[115,118,110],[103,105,116],[104,103],[112]]) (g0:=6) (t0:=354) (e:=9) (n:=9) (by kernel_rfl) (by kernel_rfl) underlying354 underlying9 (by kernel_rfl) (by kernel_rfl) U;rcases(by omega:i=0\/i=1\/i=2\/i=3\/i=4\/i=5\/i=6\/i=7\/i=8) with rfl | rfl | rfl | rfl | rfl | rfl | rfl | rfl | rfl
  all_goals exact e _ _ rfl
 ·intro i z;have e:=qi (zs:=[[],[60,60],[60,61],[61],[62,61],[62,62]]) (g0:=3) (t0:=324) (e:=9) (n:=6) (by kernel_rfl) (by kernel_rfl) underlying324 underlying9 (by kernel_rfl) (by kernel_rfl) Y;rcases(by omega:i=0\/i=1\/i=2\/i=3\/i=4\/i=5) with rfl | rfl | rfl | rfl | rfl | rfl
  all_goals exact e _ _ rfl
 ·intro i z;have e:=qi (zs:=[[],[60],[60,61],[61],[62,61],[62]]) (g0:=4) (t0:=324) (e:=9) (n:=6) (by kernel_rfl) (by kernel_rfl) underlying324 underlying9 (by kernel_rfl) (by kernel_rfl) c4;rcases(by omega:i=0\/i=1\/i=2\/i=3\/i=4\/i=5) with rfl | rfl | rfl | rfl | rfl | rfl
  all_goals exact e _ _ rfl
 ·intro i z;have e:=qi (zs:=[[97,110,100],[111,114],[105,102],[117,110,108,101,115,115],[119,105,116,104],[119,105,116,104,111,117,116]]) (g0:=9) (t0:=324) (e:=9) (n:=6) (by kernel_rfl) (by kernel_rfl) underlying324 underlying9 (by kernel_rfl) (by kernel_rfl) Z;rcases(by omega:i=0\/i=1\/i=2\/i=3\/i=4\/i=5) with rfl | rfl | rfl | rfl | rfl | rfl
  all_goals exact e _ _ rfl
 ·intro i z;have e:=qi (zs:=[[],[60],[60,61],[61],[62,61],[62],[126]]) (g0:=1) (t0:=289) (e:=9) (n:=7) (by kernel_rfl) (by kernel_rfl) underlying289 underlying9 (by kernel_rfl) (by kernel_rfl) V;rcases(by omega:i=0\/i=1\/i=2\/i=3\/i=4\/i=5\/i=6) with rfl | rfl | rfl | rfl | rfl | rfl | rfl
  all_goals exact e _ _ rfl
 ·intro i z;have e:=qi (zs:=[[97,108,112,104,97],[98,101,116,97],[112,114,101],[114,99]]) (g0:=0) (t0:=62) (e:=9) (n:=4) (by kernel_rfl) (by kernel_rfl) underlying62 underlying9 (by kernel_rfl) (by kernel_rfl) I;rcases(by omega:i=0\/i=1\/i=2\/i=3) with rfl | rfl | rfl | rfl
  all_goals exact e _ _ rfl
 ·exact ac5 (by kernel_rfl) (g0:=10) (t0:=377) (e:=269) (n:=20) (by kernel_rfl) (by kernel_rfl) underlying377 underlying269 (by kernel_rfl) (by kernel_rfl) cp
theorem ZR : prog.globalNamed "errors.errorType" = some 2 := by kernel_rfl
theorem ac6 : (prog.cutTypes.find? (·.1 == "internal/reflectlite.rtype")).map (·.2) = some 337 := by kernel_rfl
theorem WO:((List.range prog.types.size).filter fun t=>prog.rowNamed t [101,114,114,111,114])=[191]:=by kernel_rfl
theorem Lz:typeHandle prog 191=.pointer (some ⟨13,191,none⟩):=by kernel_rfl
theorem OU (h:laidMetH prog uI W)(D:W.ShapedOpen prog):Mt W:=by
 refine⟨(Bl h D).gl,?_⟩;have I : laidMet prog qh W /\ handlesMet prog [("errors.errorType", Rows.laid_errors_errorType)] W := h;obtain⟨z,u,R,J,U,K,M,H⟩:=I.2 _ (List.mem_singleton.2 rfl);have O:z=[101,114,114,111,114]:=(Option.some.inj J).symm;subst O;obtain rfl:=Option.some.inj (ac6.symm.trans U);have F:R∈(List.range prog.types.size).filter fun t=>prog.rowNamed t [101,114,114,111,114]:=List.mem_filter.2 ⟨List.mem_range.2 K,M⟩;rw[WO] at F;obtain rfl:=List.mem_singleton.1 F;rw[Lz] at H;simpa using World.var?_cell ZR H 0
theorem OV (h:laidMetH prog uI W)(z:W.ShapedOpen prog):yM W:=⟨OU h z,Bl h z⟩
end
end Go.Proofs.YtkmjcombhjombaaGreatDoor
