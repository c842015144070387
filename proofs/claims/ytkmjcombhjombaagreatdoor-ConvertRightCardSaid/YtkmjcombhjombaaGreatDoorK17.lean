/- A part of the proof. -/
import Derived.Test.YtkmjcombhjombaaGreatDoorK16
set_option maxRecDepth 100000
set_option maxHeartbeats 20000000
set_option linter.unusedVariables false
set_option linter.unusedSimpArgs false
namespace Go.Proofs.YtkmjcombhjombaaGreatDoor
variable{OP:BA}{x:Int}{l l' l1 nm op p:LU}{xs:List Value}{a b cB cc deep f h hb hi j k lo m m' mb n n' n1 o r s s0:Nat}{A B:Option Addr}{v:Value}{W W' w w' w1 w2 wb wr:World}
section
open Go.RowKit
def kj (op:LU)(n:Nat):Bool:=decide ((op=nx\/op=mW)/\2<=n\/(op=vM\/op=kq)/\(n=2\/n=3)\/(op=nE\/op=kA)/\n=2)
def QX (n:Nat)(op:LU):Prop:=(n=0/\op=[])\/(1<=n/\((op=nx\/op=mW)\/(op=vM\/op=kq)/\n<=2\/(op=nE\/op=kA)/\n=1))
theorem QX.start:QX 0 []:=.inl ⟨rfl,rfl⟩
theorem rW :oD p=true↔p=nx\/p=mW\/p=vM\/p=kq\/p=nE\/p=kA:=by unfold oD;simp
theorem QX.close (h:QX n op):kj op (n+1)=decide (n≠0):=by
 unfold kj;rcases h with⟨rfl,rfl⟩ | ⟨D,y⟩
 ·simp[nx,mW,vM,kq,nE,kA]
 ·rw[dT (show n≠0 by omega)];apply dT;rcases y with y | ⟨y,z⟩ | ⟨y,z⟩
  ·exact .inl ⟨y,by omega⟩
  ·exact .inr (.inl ⟨y,by omega⟩)
  ·exact .inr (.inr ⟨y,by omega⟩)
theorem QX.next (h:QX n op)(hf:jw op (n+1) p=true):QX (n+1) (if n=0 then p else op):=by
 unfold jw at hf;rcases h with⟨rfl,rfl⟩ | ⟨z,y⟩
 ·rw[if_pos rfl] at hf;rw[if_pos rfl];refine .inr ⟨by omega,?_⟩;rcases rW.1 hf with h | h | h | h | h | h
  ·exact .inl (.inl h)
  ·exact .inl (.inr h)
  ·exact .inr (.inl ⟨.inl h,by omega⟩)
  ·exact .inr (.inl ⟨.inr h,by omega⟩)
  ·exact .inr (.inr ⟨.inl h,rfl⟩)
  ·exact .inr (.inr ⟨.inr h,rfl⟩)
 ·rw[if_neg (by omega)] at hf;rw[if_neg (by omega)];refine .inr ⟨by omega,?_⟩;rcases dO hf with⟨h,_⟩ | ⟨h,D,_⟩
  ·exact .inl h
  ·exact .inr (.inl ⟨h,by omega⟩)
theorem QX.word (h:QX n op)(hn:n≠0):oD op=true:=by
 rcases h with⟨rfl,rfl⟩ | ⟨_,y⟩
 ·exact absurd rfl hn
 ·rw[rW];rcases y with(y | y) | ⟨y | y,_⟩ | ⟨y | y,_⟩
  ·exact .inl y
  ·exact .inr (.inl y)
  ·exact .inr (.inr (.inl y))
  ·exact .inr (.inr (.inr (.inl y)))
  ·exact .inr (.inr (.inr (.inr (.inl y))))
  ·exact .inr (.inr (.inr (.inr (.inr y))))
theorem QX.nil (h:QX n op):op=[]↔n=0:=by
 constructor
 ·intro e;subst e;by_cases y:n=0
  ·exact y
  ·have:=h.word y;rw[rW] at this;revert this;simp[nx,mW,vM,kq,nE,kA]
 ·rintro rfl;rcases h with⟨_,h⟩ | ⟨h,_⟩
  ·exact h
  ·omega
theorem ug (h:kj op n=true):2<=n:=by
 rcases dO h with⟨_,h⟩ | ⟨_,h⟩ | ⟨_,h⟩<;>omega
theorem uh (h:oD op=true):op≠[]/\op.length<=7:=by
 rcases rW.1 h with h | h | h | h | h | h<;>rw[h]<;>simp[nx,mW,vM,kq,nE,kA]
inductive lT:iZ->Prop
 | atom (nm:BA) (aop:Nat) (ver:BA) (hn:mC (bl nm)=true) (ho:aop<=5) (hv0:aop=0->ver.size=0) (hv:0<aop->kf 2 ver=0):lT (.mk ⟨#[]⟩ nm aop ver none 0 [])
 | node (op:BA) (ka:Option Addr) (kc:Nat) (kids:List iZ) (ho:oD (bl op)=true) (hc:kj (bl op) kids.length=true) (hk:∀ k∈kids,lT k):lT (.mk op ⟨#[]⟩ 0 ⟨#[]⟩ ka kc kids)
theorem DE {s:BA}{f:Int}(h:kf f s=0):s.size<=64:=by
 unfold kf at h;split at h
 ·simp at h
 ·split at h
  ·simp at h
  ·omega
theorem tD {s:BA}(h:mC (bl s)=true):1<=s.size/\s.size<=64:=by
 by_cases y:1<=s.size/\s.size<=64
 ·exact y
 ·rw[wP s y] at h;cases h
theorem QY:∀ n:Nat,(VV n).length<=2
 | 0=>by decide
 | 1=>by decide
 | 2=>by decide
 | 3=>by decide
 | 4=>by decide
 | 5=>by decide
 | _+6=>by simp[VV]
theorem QZ {i:Nat}(h:op.length<=7):(VW op i).length<=7:=by
 unfold VW;split
 ·decide
 ·exact h
theorem zy (op:LU)(ho:op.length<=7):∀ (ks:List iZ)(i:Nat),(∀ k∈ks,(jX k.pl).length+60<=200*k.cnt)->(lP op i (uv ks)).length+51*ks.length<=200*lK ks
 | [],i,_=>by simp[uv,lP,lK]
 | k::r,i,h=>by
  have D:=h k (by simp);have z:=zy op ho r (i+1) (fun x y=>h x (by simp[y]));have F:=QZ (i:=i) ho;simp only[uv,lP,lK,List.length_append,List.length_cons];split
  ·simp;omega
  ·simp;omega
theorem Cd (op nm:BA)(aop:Nat)(ver:BA)(ka:Option Addr)(kc:Nat)(kids:List iZ)(h:bl op=[]):(iZ.mk op nm aop ver ka kc kids).pl=.atom (bl nm) aop (bl ver):=by simp[iZ.pl,h]
theorem Ce (op nm:BA)(aop:Nat)(ver:BA)(ka:Option Addr)(kc:Nat)(kids:List iZ)(h:bl op≠[]):(iZ.mk op nm aop ver ka kc kids).pl=.node (bl op) (uv kids):=by simp[iZ.pl,h]
theorem lT.text {t:iZ}(h:lT t):(jX t.pl).length+60<=200*t.cnt:=by
 induction h with
 | atom nm aop ver hn ho hv0 hv=>
  rw[Cd _ _ _ _ _ _ _ rfl];have z:=tD hn;have y:ver.size<=64:=by
   by_cases h:aop=0
   ·have:=hv0 h;omega
   ·exact DE (hv (by omega))
  have D:=QY aop;simp only[jX,iZ.cnt];split
  ·rw[iX];omega
  ·simp[iX];omega
 | node op ka kc kids ho hc hk ih=>
  rw[Ce _ _ _ _ _ _ _ (uh ho).1];have z:=zy (bl op) (uh ho).2 kids 0 ih;have y:=ug hc;rw[nY (t:=.mk op ⟨#[]⟩ 0 ⟨#[]⟩ ka kc kids) (by simp[iZ.kids];intro h;rw[h] at y;simp at y)];simp only[jX,iZ.kids,List.length_append,List.length_cons,List.length_nil];omega
theorem lT.kid {t k:iZ}(h:lT t)(hk:k∈t.kids):lT k:=by
 cases h with
 | atom=>simp[iZ.kids] at hk
 | node op ka kc kids ho hc hg=>exact hg k hk
def tE:iZ:=.mk ⟨#[]⟩ ⟨#[]⟩ 0 ⟨#[]⟩ none 0 []
theorem VY (l:LU):(jR l).length<=l.length:=by
 have:=nr l;unfold jR;rw[List.length_drop];omega
theorem rX (h:jC l≠[]):(jR l).length<l.length:=VU (fun e=>h (zw.2 e))
theorem wX (f:Nat)(l:LU):∃ r,nZ (f+1) l=jC l::r/\(jC l≠[]->r=nZ f (jR l)):=by
 by_cases h:jq l=[]
 ·refine⟨[],?_,fun y=>absurd (zw.2 h) y⟩;show(if jq l=[] then [[]] else jC l::nZ f (jR l))=_;rw[if_pos h,zw.2 h]
 ·refine⟨nZ f (jR l),?_,fun _=>rfl⟩;show(if jq l=[] then [[]] else jC l::nZ f (jR l))=_;rw[if_neg h]
end
section
open Go.RowKit Go.Deep
def iZ.sl (t:iZ):Value:=.slice t.ka t.kids.length t.kc
inductive nL:iZ->Prop
 | mk (t:iZ) (leaf:t.kids=[]->t.op.size=0) (node:t.kids≠[]->t.op.size≠0) (kids:∀ k∈t.kids,nL k):nL t
theorem nL.leaf {t:iZ}(h:nL t):t.kids=[]->t.op.size=0:=by cases h;assumption
theorem nL.node {t:iZ}(h:nL t):t.kids≠[]->t.op.size≠0:=by cases h;assumption
theorem nL.kids {t:iZ}(h:nL t):∀ k∈t.kids,nL k:=by cases h;assumption
theorem lT.shape {t:iZ}(h:lT t):nL t:=by
 induction h with
 | atom nm aop ver _ _ _ _=>exact .mk _ (fun _=>rfl) (fun h=>absurd rfl h) (by simp[iZ.kids])
 | node op ka kc kids ho hc hk ih=>
  refine .mk _ (fun e=>?_) (fun _ e=>?_) ih
  ·have y:=ug hc;simp only[iZ.kids] at e;rw[e] at y;simp at y
  ·simp only[iZ.op] at e;exact(uh ho).1 (kw op e)
theorem nL.zero:nL tE:=.mk _ (fun _=>rfl) (fun h=>absurd rfl h) (by simp[tE,iZ.kids])
def Lw (w:World)(row:Option Nat):Prop:=∀ g cs fr,row=some g->w.heap[g]?≠some (.cells cs 86 fr)
theorem Lw.map {ms:List (iZ×Nat)}(h:ow w b ms):Lw w (some b):=by
 intro g I F e z;injection e with e;subst e;obtain⟨H,y,D,_⟩:=h.ex;rw[D] at z;simp at z
theorem Lw.row (h:w.ownsRow lo 84 1 v n xs):Lw w v.ownBlock:=by
 intro g J I e y;rcases h.2 with⟨z,_⟩ | ⟨H,cap,D,z,_,F,_⟩
 ·rw[z] at e;simp[Value.ownBlock] at e
 ·rw[z] at e;simp[Value.ownBlock] at e;subst e;rw[F] at y;injection y with y;injection y with _ y _;exact absurd y (by decide)
theorem kD.tame {row:Option Nat}{t:iZ}(h:kD w lo none t)(ht:Lw w row)(hg:w.grownBy w' row):kD w' lo none t:=by
 induction h with
 | mk t r ne _ ih=>
  refine .mk t (r.kept hg ?_) (fun g _=>by simp) ih;rcases r.2 with⟨y,_⟩ | ⟨D,cap,F,y,_,z,_⟩
  ·left;rw[y];rfl
  ·right;rw[y];intro e;exact ht D _ _ e.symm z
theorem ow.tame {row:Option Nat}{ms:List (iZ×Nat)}(h:ow w b ms)(ht:Lw w row)(hne:some b≠row)(hg:w.grownBy w' row):ow w' b ms:=by
 obtain⟨F,y,H,D⟩:=h.ex;exact⟨⟨F,y,(hg.block b h.lt hne).trans H,D⟩,fun p z=>⟨(h.own p z).1.tame ht hg,(h.own p z).2⟩⟩
theorem ow.ne_row {size:Nat}{e:TypeId}{ms:List (iZ×Nat)}(h:ow w b ms)(r:w.ownsRow lo e size v n xs):some b≠v.ownBlock:=by
 intro y;obtain⟨M,z,H,K⟩:=h.ex;rcases r.2 with⟨D,_⟩ | ⟨J,cap,I,D,_,F,_⟩
 ·rw[D] at y;simp[Value.ownBlock] at y
 ·rw[D] at y;simp[Value.ownBlock] at y;subst y;rw[H] at F;simp at F
structure Q1 (lo:Nat) (wr:World) (A:Option Addr) (n c:Nat) (xs:List iZ):Prop where
 len:xs.length=n
 row:wr.ownsRow lo 84 1 (.slice A n c) n (xs.map iZ.sl)
 own:∀ x∈xs,kD wr 0 none x
 ne:∀ x∈xs,x.kids≠[]
 shape:∀ x∈xs,∀ k∈x.kids,nL k
theorem Q1.nil (lo:Nat)(wr:World):Q1 lo wr none 0 0 []:=⟨rfl,World.ownsRow_nil _ _ _ _,by simp,by simp,by simp⟩
theorem Q1.tame {c:Nat}{row:Option Nat}{xs:List iZ}(h:Q1 lo wr A n c xs)(ht:Lw wr row)(hne:(Value.slice A n c).ownBlock=none\/(Value.slice A n c).ownBlock≠row)(hg:wr.grownBy w' row):Q1 lo w' A n c xs:=
 ⟨h.len,h.row.kept hg hne,fun x y=>(h.own x y).tame ht hg,h.ne,h.shape⟩
theorem Q1.below {c:Nat}{xs:List iZ}(h:Q1 lo wr A n c xs)(hb:Below wr.heap.size wr w'):Q1 lo w' A n c xs:=
 ⟨h.len,jp h.row hb,fun x y=>(h.own x y).low hb,h.ne,h.shape⟩
theorem Q1.map {c:Nat}{xs:List iZ}{ms:List (iZ×Nat)}(h:Q1 lo wr A n c xs)(hm:ow wr b ms)(hg:wr.grownBy w' (some b)):Q1 lo w' A n c xs:=
 h.tame (.map hm) (.inr (hm.ne_row h.row).symm) hg
def rY (L ys:List iZ)(ms:List (iZ×Nat)):Prop:=∀ t∈L,t.kids≠[]->(∃ y∈ys,y.kids=t.kids)/\∃ q∈ms,q.1.kids=t.kids
theorem rY.nil (ys:List iZ)(ms:List (iZ×Nat)):rY [] ys ms:=by intro t ht;simp at ht
theorem rY.leaf {L ys:List iZ}{ms:List (iZ×Nat)}{t:iZ}(h:rY L ys ms)(ht:t.kids=[]):rY (L++[t]) ys ms:=by
 intro x y z;rcases List.mem_append.1 y with y | y
 ·exact h x y z
 ·obtain rfl:=List.mem_singleton.1 y;exact absurd ht z
structure OI (s0:Nat) (wr:World) (mb hb h k:Nat) (A:Option Addr) (n c:Nat) (xs:List iZ) (B:Option Addr) (m cB:Nat) (ys:List iZ) (ms hs:List (iZ×Nat)):Prop where
 lev:Q1 0 wr A n c xs
 old:∀ g,(Value.slice A n c).ownBlock=some g->g<s0
 new:Q1 s0 wr B m cB ys
 met:ow wr mb ms
 here:ow wr hb hs
 hne:mb≠hb
 xh:∀ x∈xs,x.ht+k<=h+1
 yh:∀ y∈ys,y.ht+k<=h
 hsy:∀ p∈hs,(∃ y∈ys,y.kids=p.1.kids)/\∃ q∈ms,q.1.kids=p.1.kids
 mok:∀ i,i<k->∃ p∈ms,p.1.ht+i=h
 top:∃ x∈xs,x.ht+k=h+1
theorem OI.below {c:Nat}{xs:List iZ}{ys:List iZ}{ms hs:List (iZ×Nat)}(d:OI s0 wr mb hb h k A n c xs B m cB ys ms hs)(b:Below wr.heap.size wr w'):OI s0 w' mb hb h k A n c xs B m cB ys ms hs:=
 ⟨d.lev.below b,d.old,d.new.below b,d.met.below b,d.here.below b,d.hne,d.xh,d.yh,d.hsy,d.mok,d.top⟩
theorem OI.hit {c:Nat}{xs:List iZ}{ys:List iZ}{ms hs:List (iZ×Nat)}(d:OI s0 wr mb hb h k A n c xs B m cB ys ms hs){L:List iZ}(hl:rY L ys ms){t:iZ}{p:iZ×Nat}(hp:p∈hs)(e:p.1.kids=t.kids):rY (L++[t]) ys ms:=by
 intro x y z;rcases List.mem_append.1 y with y | y
 ·exact hl x y z
 ·obtain rfl:=List.mem_singleton.1 y;rw[<-e];exact d.hsy p hp
theorem OI.grow {c:Nat}{c1:Nat}{w3:World}{v:Nat}{xs:List iZ}{B1:Option Addr}{ys:List iZ}{ms hs ms' hs':List (iZ×Nat)}{t:iZ}
  (d:OI s0 wr mb hb h k A n c xs B m cB ys ms hs)(ht:kD wr 0 none t)(tk:t.kids≠[])(tsh:∀ x∈t.kids,nL x)(tht:t.ht+k<=h)
  (k1:ow w1 hb hs')(g1:wr.grownBy w1 (some hb))(f1:∀ p∈hs',(∃ q∈hs,q=p)\/p.1.kids=t.kids/\p.2=v)
  (k2:ow w2 mb ms')(g2:w1.grownBy w2 (some mb))(f2:∀ p∈ms,∃ q∈ms',q.1=p.1)(f3:∃ q∈ms',q.1.kids=t.kids)
  (b:Below w2.heap.size w2 wb)(o:w3.ownsRow s0 84 1 (.slice B1 (m+1) c1) (m+1) (ys.map iZ.sl++[t.sl]))(g3:wb.grownBy w3 (Value.slice B m cB).ownBlock):
  OI s0 w3 mb hb h k A n c xs B1 (m+1) c1 (ys++[t]) ms' hs':=by
 have M:ow w1 mb ms:=d.met.tame (.map d.here) (fun e=>d.hne (by injection e)) g1;have t1:=ht.tame (.map d.here) g1;have l1:=d.lev.map d.here g1;have n1:=d.new.map d.here g1;have Z:=t1.tame (.map M) g2;have l2:=l1.map M g2;have n2:=n1.map M g2;have h2:ow w2 hb hs':=k1.tame (.map M) (fun e=>d.hne (by injection e with e;exact e.symm)) g2;have tb:=Z.low b;have lb:=l2.below b;have D:=n2.below b;have J:=h2.below b;have I:=k2.below b;have K:Lw wb (Value.slice B m cB).ownBlock:=.row D.row;refine⟨lb.tame K ?_ g3,d.old,⟨by simp[D.len],by simpa using o,fun x z=>?_,fun x z=>?_,fun x z=>?_⟩,I.tame K (I.ne_row D.row) g3,J.tame K (J.ne_row D.row) g3,d.hne,d.xh,fun y F=>?_,fun p N=>?_,fun i hi=>?_,d.top⟩
 ·cases e:(Value.slice A n c).ownBlock with
  | none=>exact .inl rfl
  | some g=>
   right;intro Y;have:=d.old g e;have:=(D.row.lt g Y.symm).1;omega
 ·rcases List.mem_append.1 z with z | z
  ·exact(D.own x z).tame K g3
  ·obtain rfl:=List.mem_singleton.1 z;exact tb.tame K g3
 ·rcases List.mem_append.1 z with z | z
  ·exact D.ne x z
  ·obtain rfl:=List.mem_singleton.1 z;exact tk
 ·rcases List.mem_append.1 z with z | z
  ·exact D.shape x z
  ·obtain rfl:=List.mem_singleton.1 z;exact tsh
 ·rcases List.mem_append.1 F with F | F
  ·exact d.yh y F
  ·obtain rfl:=List.mem_singleton.1 F;exact tht
 ·rcases f1 p N with⟨q,O,rfl⟩ | ⟨e,_⟩
  ·obtain⟨⟨y,F,ey⟩,q2,R,V⟩:=d.hsy q O;obtain⟨X,H,U⟩:=f2 q2 R;exact⟨⟨y,by simp[F],ey⟩,X,H,by rw[U,V]⟩
  ·obtain⟨X,H,U⟩:=f3;exact⟨⟨t,by simp,e.symm⟩,X,H,by rw[U,e]⟩
 ·obtain⟨p,N,e⟩:=d.mok i hi;obtain⟨q,O,Y⟩:=f2 p N;exact⟨q,O,by rw[Y];exact e⟩
theorem rY.grow {L ys:List iZ}{ms ms':List (iZ×Nat)}{t:iZ}(h:rY L ys ms)(f2:∀ p∈ms,∃ q∈ms',q.1=p.1)(f3:∃ q∈ms',q.1.kids=t.kids):rY (L++[t]) (ys++[t]) ms':=by
 intro x z F;rcases List.mem_append.1 z with z | z
 ·obtain⟨⟨y,M,K⟩,q,H,I⟩:=h x z F;obtain⟨J,D,N⟩:=f2 q H;exact⟨⟨y,by simp[M],K⟩,J,D,by rw[N,I]⟩
 ·obtain rfl:=List.mem_singleton.1 z;exact⟨⟨x,by simp,rfl⟩,f3⟩
theorem DG {a b:iZ}(h:a.kids=b.kids):a.ht=b.ht:=by rw[DC,DC,h]
theorem OI.next {c:Nat}{xs:List iZ}{ys:List iZ}{ms hs:List (iZ×Nat)}(d:OI s0 wr mb hb h k A n c xs B m cB ys ms hs)(hs:rY (xs.flatMap iZ.kids) ys ms)(hm:0<m):
  k<ms.length/\k+1<=h/\(∀ i,i<k+1->∃ p∈ms,p.1.ht+i=h)/\∃ y∈ys,y.ht+(k+1)=h+1:=by
 obtain⟨y,F⟩:∃ y,y∈ys:=by
  have:=d.new.len;cases ys with
  | nil=>simp at this;omega
  | cons a r=>exact⟨a,by simp⟩
 have X:=d.yh y F;have Z:y.ht≠0:=fun e=>d.new.ne y F (Cc.1 e);obtain⟨x,H,Y⟩:=d.top;obtain⟨t,ht,O⟩:=JC (d.lev.ne x H);rw[<-DC] at O;have I:t.kids≠[]:=fun e=>by have:=Cc.2 e;omega
 obtain⟨⟨z,U,K⟩,q,N,R⟩:=hs t (List.mem_flatMap.2 ⟨x,H,ht⟩) I;have V:=DG K;have J:=DG R;have mk:∀ i,i<k+1->∃ p∈ms,p.1.ht+i=h:=by
  intro i D;rcases(by omega:i<k\/i=k) with D | rfl
  ·exact d.mok i D
  ·exact⟨q,N,by omega⟩
 refine⟨?_,by omega,mk,z,U,by omega⟩;refine AO (fun t=>h-t.ht) (k+1) ms (fun i D=>?_);obtain⟨p,M,e⟩:=mk i D;exact⟨p,M,by show h-p.1.ht=i;omega⟩
theorem OR (n:Nat):kj nx n=decide (2<=n):=by simp[kj,nx,mW,vM,kq,nE,kA]
theorem Tp (n:Nat):kj mW n=decide (2<=n):=by simp[kj,nx,mW,vM,kq,nE,kA]
theorem Tq (n:Nat):kj vM n=(decide (n=2)||decide (n=3)):=by simp[kj,nx,mW,vM,kq,nE,kA]
theorem GA (n:Nat):kj kq n=(decide (n=2)||decide (n=3)):=by simp[kj,nx,mW,vM,kq,nE,kA]
theorem Ly (n:Nat):kj nE n=decide (n=2):=by simp[kj,nx,mW,vM,kq,nE,kA]
theorem DJ (n:Nat):kj kA n=decide (n=2):=by simp[kj,nx,mW,vM,kq,nE,kA]
theorem Lz (h:oD op=false)(n:Nat):kj op n=false:=by
 unfold kj;apply dF;have y:=of_decide_eq_false h;rintro(⟨h2 | h2,_⟩ | ⟨h2 | h2,_⟩ | ⟨h2 | h2,_⟩)<;>exact y (by simp[h2])
theorem DK (op:LU):op=nx\/op=mW\/op=vM\/op=kq\/op=nE\/op=kA\/oD op=false:=by
 cases h:oD op with
 | false=>simp
 | true=>rcases rW.1 h with h | h | h | h | h | h<;>simp[h]
theorem LB {s:BA}(h:oD (bl s)=false):(s.toList == [97,110,100])=false/\(s.toList == [111,114])=false/\(s.toList == [105,102])=false/\(s.toList == [117,110,108,101,115,115])=false/\(s.toList == [119,105,116,104])=false/\(s.toList == [119,105,116,104,111,117,116])=false:=by
 rw[iY];have y:=of_decide_eq_false h;refine⟨?_,?_,?_,?_,?_,?_⟩<;>rw[bF]<;>intro e<;>apply y<;>rw[e]<;>simp[nx,mW,vM,kq,nE,kA]
theorem Bz (op:BA)(n:Nat)(w:World)(h:bl op=nx):Calls Tryz.prog 199 #[.string op,.int .i64 n] w fun e w'=>e=.returned (.bool (kj (bl op) n))/\w=w':=by
 have E:op.toList=[97,110,100]:=by rw[iY];exact h
 have R:Hid (kj (bl op) n=decide (2<=n)):=by show _=_;rw[h];exact OR n
 clear h;go_in;go_wp2;go_ret;exact⟨iW (by rw[R.out,bI];simp;omega),rfl⟩
theorem DL (op:BA)(n:Nat)(w:World)(h:bl op=mW):Calls Tryz.prog 199 #[.string op,.int .i64 n] w fun e w'=>e=.returned (.bool (kj (bl op) n))/\w=w':=by
 have E:op.toList=[111,114]:=by rw[iY];exact h
 have R:Hid (kj (bl op) n=decide (2<=n)):=by show _=_;rw[h];exact Tp n
 clear h;go_in;go_wp2;go_ret;exact⟨iW (by rw[R.out,bI];simp;omega),rfl⟩
theorem DM (op:BA)(n:Nat)(w:World)(h:bl op=vM):Calls Tryz.prog 199 #[.string op,.int .i64 n] w fun e w'=>e=.returned (.bool (kj (bl op) n))/\w=w':=by
 have E:op.toList=[105,102]:=by rw[iY];exact h
 have R:Hid (kj (bl op) n=(decide (n=2)||decide (n=3))):=by show _=_;rw[h];exact Tq n
 clear h;by_cases z:n=2
 ·subst z;go_in;go_wp2;go_ret;exact⟨iW (by rw[R.out];rfl),rfl⟩
 ·have F:((n:Int)==2)=false:=by simp;omega
  by_cases y:n=3
  ·subst y;go_in;go_wp2;go_ret;exact⟨iW (by rw[R.out];rfl),rfl⟩
  ·have D:((n:Int)==3)=false:=by simp;omega
   go_in;go_wp2;go_ret;exact⟨iW (by rw[R.out];simp[z,y]),rfl⟩
theorem wY (op:BA)(n:Nat)(w:World)(h:bl op=kq):Calls Tryz.prog 199 #[.string op,.int .i64 n] w fun e w'=>e=.returned (.bool (kj (bl op) n))/\w=w':=by
 have E:op.toList=[117,110,108,101,115,115]:=by rw[iY];exact h
 have R:Hid (kj (bl op) n=(decide (n=2)||decide (n=3))):=by show _=_;rw[h];exact GA n
 clear h;by_cases z:n=2
 ·subst z;go_in;go_wp2;go_ret;exact⟨iW (by rw[R.out];rfl),rfl⟩
 ·have F:((n:Int)==2)=false:=by simp;omega
  by_cases y:n=3
  ·subst y;go_in;go_wp2;go_ret;exact⟨iW (by rw[R.out];rfl),rfl⟩
  ·have D:((n:Int)==3)=false:=by simp;omega
   go_in;go_wp2;go_ret;exact⟨iW (by rw[R.out];simp[z,y]),rfl⟩
theorem zz (op:BA)(n:Nat)(w:World)(h:bl op=nE):Calls Tryz.prog 199 #[.string op,.int .i64 n] w fun e w'=>e=.returned (.bool (kj (bl op) n))/\w=w':=by
 have E:op.toList=[119,105,116,104]:=by rw[iY];exact h
 have R:Hid (kj (bl op) n=decide (n=2)):=by show _=_;rw[h];exact Ly n
 clear h;go_in;go_wp2;go_ret;exact⟨iW (by rw[R.out];rw[bI];simp;omega),rfl⟩
theorem vN (op:BA)(n:Nat)(w:World)(h:bl op=kA):Calls Tryz.prog 199 #[.string op,.int .i64 n] w fun e w'=>e=.returned (.bool (kj (bl op) n))/\w=w':=by
 have E:op.toList=[119,105,116,104,111,117,116]:=by rw[iY];exact h
 have R:Hid (kj (bl op) n=decide (n=2)):=by show _=_;rw[h];exact DJ n
 clear h;go_in;go_wp2;go_ret;exact⟨iW (by rw[R.out];rw[bI];simp;omega),rfl⟩
theorem AP (op:BA)(n:Nat)(w:World):Calls Tryz.prog 199 #[.string op,.int .i64 n] w fun e w'=>e=.returned (.bool (kj (bl op) n))/\w=w':=by
 rcases DK (bl op) with h | h | h | h | h | h | h
 ·exact Bz op n w h
 ·exact DL op n w h
 ·exact DM op n w h
 ·exact wY op n w h
 ·exact zz op n w h
 ·exact vN op n w h
 ·obtain⟨F,z,I,y,H,D⟩:=LB h;have R:Hid (kj (bl op) n=false):=Lz h n;clear h;go_in;go_wp2;go_ret;exact⟨iW R.out.symm,rfl⟩
theorem LC (hn:n≠1)(p:LU):jw nx n p=decide (p=nx):=by
 unfold jw;rw[if_neg hn];by_cases y:p=nx
 ·subst y;simp[nx,mW,vM,kq,nE,kA]
 ·rw[dF y];apply dF;rintro(⟨_,h⟩ | ⟨h,_⟩)
  ·exact y h
  ·revert h;simp[nx,mW,vM,kq]
theorem OS (hn:n≠1)(p:LU):jw mW n p=decide (p=mW):=by
 unfold jw;rw[if_neg hn];by_cases y:p=mW
 ·subst y;simp[nx,mW,vM,kq,nE,kA]
 ·rw[dF y];apply dF;rintro(⟨_,h⟩ | ⟨h,_⟩)
  ·exact y h
  ·revert h;simp[nx,mW,vM,kq]
theorem OT (hn:n≠1)(p:LU):jw vM n p=(decide (n=2)&&decide (p=AN)):=by
 unfold jw;rw[if_neg hn];simp[nx,mW,vM,kq,nE,kA]
theorem DN (hn:n≠1)(p:LU):jw kq n p=(decide (n=2)&&decide (p=AN)):=by
 unfold jw;rw[if_neg hn];simp[nx,mW,vM,kq,nE,kA]
theorem JE (hn:n≠1)(p:LU):jw nE n p=false:=by
 unfold jw;rw[if_neg hn];simp[nx,mW,vM,kq,nE,kA]
theorem BC (hn:n≠1)(p:LU):jw kA n p=false:=by
 unfold jw;rw[if_neg hn];simp[nx,mW,vM,kq,nE,kA]
theorem JF (h:oD op=false)(hn:n≠1)(p:LU):jw op n p=false:=by
 unfold jw;rw[if_neg hn];apply dF;have y:=of_decide_eq_false h;rintro(⟨h2 | h2,_⟩ | ⟨h2 | h2,_⟩)<;>exact y (by simp[h2])
theorem zA (op:BA)(n:Nat)(p:BA)(w:World)(h:bl op=nx)(hn:n≠1):Calls Tryz.prog 200 #[.string op,.int .i64 n,.string p] w fun e w'=>e=.returned (.bool (jw (bl op) n (bl p)))/\w=w':=by
 have E:op.toList=[97,110,100]:=by rw[iY];exact h
 have R:Hid (jw (bl op) n (bl p)=decide (bl p=nx)):=by show _=_;rw[h];exact LC hn _
 have z:((n:Int)==1)=false:=by simp;omega
 clear h;cases hp:(p.toList==([97,110,100]:LU)) with
 | true=>
  have F:p.toList=[97,110,100]:=by simpa using hp
  have y:Hid (jw (bl op) n (bl p)=true):=by show _=_;rw[R.out,<-iY,F];rfl
  clear hp;go_in;go_wp2;go_ret;exact⟨iW y.out.symm,rfl⟩
 | false=>
  have y:Hid (jw (bl op) n (bl p)=false):=by show _=_;rw[R.out,<-iY];exact dF (by rw[bF] at hp;exact hp)
  go_in;go_wp2;go_ret;exact⟨iW y.out.symm,rfl⟩
theorem BE (op:BA)(n:Nat)(p:BA)(w:World)(h:bl op=mW)(hn:n≠1):Calls Tryz.prog 200 #[.string op,.int .i64 n,.string p] w fun e w'=>e=.returned (.bool (jw (bl op) n (bl p)))/\w=w':=by
 have E:op.toList=[111,114]:=by rw[iY];exact h
 have R:Hid (jw (bl op) n (bl p)=decide (bl p=mW)):=by show _=_;rw[h];exact OS hn _
 have z:((n:Int)==1)=false:=by simp;omega
 clear h;cases hp:(p.toList==([111,114]:LU)) with
 | true=>
  have F:p.toList=[111,114]:=by simpa using hp
  have y:Hid (jw (bl op) n (bl p)=true):=by show _=_;rw[R.out,<-iY,F];rfl
  clear hp;go_in;go_wp2;go_ret;exact⟨iW y.out.symm,rfl⟩
 | false=>
  have y:Hid (jw (bl op) n (bl p)=false):=by show _=_;rw[R.out,<-iY];exact dF (by rw[bF] at hp;exact hp)
  go_in;go_wp2;go_ret;exact⟨iW y.out.symm,rfl⟩
theorem BF (op:BA)(n:Nat)(p:BA)(w:World)(h:bl op=vM)(hn:n≠1):Calls Tryz.prog 200 #[.string op,.int .i64 n,.string p] w fun e w'=>e=.returned (.bool (jw (bl op) n (bl p)))/\w=w':=by
 have E:op.toList=[105,102]:=by rw[iY];exact h
 have R:Hid (jw (bl op) n (bl p)=(decide (n=2)&&decide (bl p=AN))):=by show _=_;rw[h];exact OT hn _
 have D:((n:Int)==1)=false:=by simp;omega
 clear h;by_cases z:n=2
 ·subst z;cases hp:(p.toList==([101,108,115,101]:LU)) with
  | true=>
   have F:p.toList=[101,108,115,101]:=by simpa using hp
   have y:Hid (jw (bl op) 2 (bl p)=true):=by show _=_;rw[R.out,<-iY,F];rfl
   clear hp;go_in;go_wp2;go_ret;exact⟨iW y.out.symm,rfl⟩
  | false=>
   have y:Hid (jw (bl op) 2 (bl p)=false):=by show _=_;rw[R.out,<-iY];simp only[decide_true,Bool.true_and];exact dF (by rw[bF] at hp;exact hp)
   go_in;go_wp2;go_ret;exact⟨iW y.out.symm,rfl⟩
 ·have H:((n:Int)==2)=false:=by simp;omega
  have y:Hid (jw (bl op) n (bl p)=false):=by show _=_;rw[R.out,dF z];rfl
  go_in;go_wp2;go_ret;exact⟨iW y.out.symm,rfl⟩
theorem vO (op:BA)(n:Nat)(p:BA)(w:World)(h:bl op=kq)(hn:n≠1):Calls Tryz.prog 200 #[.string op,.int .i64 n,.string p] w fun e w'=>e=.returned (.bool (jw (bl op) n (bl p)))/\w=w':=by
 have E:op.toList=[117,110,108,101,115,115]:=by rw[iY];exact h
 have R:Hid (jw (bl op) n (bl p)=(decide (n=2)&&decide (bl p=AN))):=by show _=_;rw[h];exact DN hn _
 have D:((n:Int)==1)=false:=by simp;omega
 clear h;by_cases z:n=2
 ·subst z;cases hp:(p.toList==([101,108,115,101]:LU)) with
  | true=>
   have F:p.toList=[101,108,115,101]:=by simpa using hp
   have y:Hid (jw (bl op) 2 (bl p)=true):=by show _=_;rw[R.out,<-iY,F];rfl
   clear hp;go_in;go_wp2;go_ret;exact⟨iW y.out.symm,rfl⟩
  | false=>
   have y:Hid (jw (bl op) 2 (bl p)=false):=by show _=_;rw[R.out,<-iY];simp only[decide_true,Bool.true_and];exact dF (by rw[bF] at hp;exact hp)
   go_in;go_wp2;go_ret;exact⟨iW y.out.symm,rfl⟩
 ·have H:((n:Int)==2)=false:=by simp;omega
  have y:Hid (jw (bl op) n (bl p)=false):=by show _=_;rw[R.out,dF z];rfl
  go_in;go_wp2;go_ret;exact⟨iW y.out.symm,rfl⟩
theorem yp (op:BA)(n:Nat)(p:BA)(w:World)(h:bl op=nE)(hn:n≠1):Calls Tryz.prog 200 #[.string op,.int .i64 n,.string p] w fun e w'=>e=.returned (.bool (jw (bl op) n (bl p)))/\w=w':=by
 have E:op.toList=[119,105,116,104]:=by rw[iY];exact h
 have R:Hid (jw (bl op) n (bl p)=false):=by show _=_;rw[h];exact JE hn _
 have y:((n:Int)==1)=false:=by simp;omega
 clear h;go_in;go_wp2;go_ret;exact⟨iW R.out.symm,rfl⟩
theorem uP (op:BA)(n:Nat)(p:BA)(w:World)(h:bl op=kA)(hn:n≠1):Calls Tryz.prog 200 #[.string op,.int .i64 n,.string p] w fun e w'=>e=.returned (.bool (jw (bl op) n (bl p)))/\w=w':=by
 have E:op.toList=[119,105,116,104,111,117,116]:=by rw[iY];exact h
 have R:Hid (jw (bl op) n (bl p)=false):=by show _=_;rw[h];exact BC hn _
 have y:((n:Int)==1)=false:=by simp;omega
 clear h;go_in;go_wp2;go_ret;exact⟨iW R.out.symm,rfl⟩
theorem JG (op:BA)(n:Nat)(p:BA)(w:World)(hG:Gl w):Calls Tryz.prog 200 #[.string op,.int .i64 n,.string p] w fun e w'=>e=.returned (.bool (jw (bl op) n (bl p)))/\w=w':=by
 by_cases y:n=1
 ·subst y;have R:Hid (jw (bl op) 1 (bl p)=oD (bl p)):=rfl;have z:=DI p w hG;clear hG;go_in;go_wp2_with fail;refine z.mono ?_;rintro e w' ⟨rfl,rfl⟩;go_wp2;go_ret;exact⟨iW R.out.symm,rfl⟩
 rcases DK (bl op) with h | h | h | h | h | h | h
 ·exact zA op n p w h y
 ·exact BE op n p w h y
 ·exact BF op n p w h y
 ·exact vO op n p w h y
 ·exact yp op n p w h y
 ·exact uP op n p w h y
 ·obtain⟨I,F,M,D,J,K⟩:=LB h;have R:Hid (jw (bl op) n (bl p)=false):=JF h y _;have H:((n:Int)==1)=false:=by simp;omega
  clear h hG y;go_in;go_wp2;go_ret;exact⟨iW R.out.symm,rfl⟩
theorem yq (op:LU):∀ (a:List oM)(i:Nat)(b:List oM),lP op i (a++b)=lP op i a++lP op (i+a.length) b
 | [],i,b=>by simp[lP]
 | x::r,i,b=>by
  have h:=yq op r (i+1) b;simp only[List.cons_append,lP,h,List.length_cons];rw[show i+1+r.length=i+(r.length+1) by omega];simp[List.append_assoc]
theorem LE (a b:List iZ):uv (a++b)=uv a++uv b:=by rw[qf,qf,qf,List.map_append]
theorem LF (a:List iZ):(uv a).length=a.length:=by rw[qf];simp
theorem Wa (op:LU)(k:iZ):lP op 0 (uv [k])=jX k.pl:=by simp[uv,lP]
theorem Tr (op:LU)(ks:List iZ)(i:Nat)(t:iZ)(ht:ks[i+1]?=some t):lP op 0 (uv (ks.take (i+2)))=lP op 0 (uv (ks.take (i+1)))++([32]++VW op (i+1)++[32]++jX t.pl):=by
 obtain⟨y,z⟩:=gS ht;rw[show i+2=i+1+1 from rfl,tS y,z,LE,yq,LF,List.length_take,Nat.min_eq_left (by omega)];simp[uv,lP]
theorem LG (op:LU)(i:Nat):VW op (i+1)=if 0<i/\(op=vM\/op=kq) then AN else op:=by
 unfold VW;congr 1;apply propext;constructor<;>rintro⟨h1,h2⟩<;>exact⟨by omega,h2⟩
def TxC (T:iZ):Prop:=∀ w:World,Gl w->kD w 0 none T->T.cnt<=64->Calls Tryz.prog 195 #[T.val] w fun e w'=>e=.returned (.string (ke (jX T.pl)))/\Below w.heap.size w w'
theorem Ts {T:iZ}(h:lT T):TxC T:=by
 induction h with
 | atom nm aop ver hn ho hv0 hv=>
  intro w hG _ _;have HG:=iV hG;have aL:=(tD hn).2;have HV:=iV hv;rw[Cd _ _ _ _ _ _ _ rfl];clear hn hv0 hv hG;obtain⟨J,D⟩:∃ J,w.alloc (.cells #[.string ⟨#[]⟩,.string nm,.int .i64 aop,.string ver,.slice none 0 0] 86)=J:=⟨_,rfl⟩
  have B1:Hid (Below w.heap.size w J):=by rw[<-D];exact bR.alloc lr _
  have K1:Hid (jh J w.heap.size [.string ⟨#[]⟩,.string nm,.int .i64 aop,.string ver,.slice none 0 0]):=by rw[<-D];exact jh.new w [.string ⟨#[]⟩,.string nm,.int .i64 aop,.string ver,.slice none 0 0] _
  have k0:=K1.out.cell 0 _ rfl;have k1:=K1.out.cell 1 _ rfl;have k2:=K1.out.cell 2 _ rfl;have k3:=K1.out.cell 3 _ rfl;show Calls Tryz.prog 195 #[.agg #[.string ⟨#[]⟩,.string nm,.int .i64 aop,.string ver,.slice none 0 0]] w _;by_cases a0:aop=0
  ·have q0:((aop:Int)==0)=true:=by simp[a0]
   have E:Hid (bl nm=jX (.atom (bl nm) aop (bl ver))):=by show _=_;simp[jX,a0]
   clear a0;go_in;go_wp2;go_ret;exact⟨by rw[<-Hd E.out];rfl,B1.out⟩
  ·have q0:((aop:Int)==0)=false:=by simp;omega
   have aK:=DE (HV.out (by omega));have aH:=(HG.out.below B1.out).rsg aop (by omega);have aI:(xF aop).size<=2:=by rw[<-iX,DH aop (by omega)];exact QY _
   have E:Hid (bl (nm++⟨#[32]⟩++xF aop++⟨#[32]⟩++ver)=jX (.atom (bl nm) aop (bl ver))):=by
    show _=_;simp only[kK];unfold jX;rw[if_neg a0,DH aop (by omega)];rfl
   have o2:(aop:Int)<6:=by omega
   have o3:(0:Int)<=(aop:Int):=by omega
   clear a0;go_in;go_wp2;go_quiet (fail);go_wp2;go_ret;exact⟨by rw[<-Hd E.out];rfl,jj B1.out _⟩
 | node op ka kc kids ho hc hk ih=>
  intro w hG hO az;have HG:=iV hG;have HO:=iV hO;have ag:=iV ih;have ak:=iV hk;obtain⟨hw,ad⟩:=uh ho;have av:=iV ad;have aj:op.size<=7:=by rw[<-iX];exact ad
  have o0:(op.toList==([]:LU))=false:=by rw[iY,bF];exact hw
  have o2:¬ op.toList=[]:=by rw[iY];exact hw
  have o1:op.toList.isEmpty=false:=by rw[List.isEmpty_eq_false_iff];exact o2
  obtain⟨M,y⟩:∃ M,kids.length=M:=⟨_,rfl⟩
  have al:=iV y;have aE:2<=M:=by have:=ug hc;omega
  have ao:=iV (nY (t:=.mk op ⟨#[]⟩ 0 ⟨#[]⟩ ka kc kids) (by intro e;simp only[iZ.kids] at e;rw[e] at y;simp at y;omega));have K:Hid (lK kids<=64):=by have U:=ao.out;simp only[iZ.kids] at U;show _<=_;omega
  have ae:M<=64:=by have U:=pg kids;have:=K.out;omega
  have aA:M<=kc:=by have:=uI hO.row;simp only[iZ.kids,iZ.kc] at this;omega
  have aF:kc<=9223372036854775807:=by
   rcases hO.row.2 with⟨hv,_⟩ | ⟨g,cap,aG,hv,_,_,_,h5,_⟩
   ·injection hv with _ _ h3;simp only[iZ.kc] at h3;omega
   ·injection hv with _ _ h3;simp only[iZ.kc] at h3;simp only[maxLen] at h5;omega
  obtain⟨g,aG,I,hg,-⟩:=uN hO (by intro e;simp only[iZ.kids] at e;rw[e] at y;simp at y;omega);simp only[iZ.ka] at I;subst I;obtain⟨J,D⟩:∃ J,w.alloc (.cells #[.string op,.string ⟨#[]⟩,.int .i64 0,.string ⟨#[]⟩,.slice (some ⟨g,0,none⟩) M kc] 86)=J:=⟨_,rfl⟩
  have B1:Hid (Below w.heap.size w J):=by rw[<-D];exact bR.alloc lr _
  have K1:Hid (jh J w.heap.size [.string op,.string ⟨#[]⟩,.int .i64 0,.string ⟨#[]⟩,.slice (some ⟨g,0,none⟩) M kc]):=by rw[<-D];exact jh.new w [.string op,.string ⟨#[]⟩,.int .i64 0,.string ⟨#[]⟩,.slice (some ⟨g,0,none⟩) M kc] _
  have k0:=K1.out.cell 0 _ rfl;have k4:=K1.out.cell 4 _ rfl;have O1:Hid (kD J 0 none (.mk op ⟨#[]⟩ 0 ⟨#[]⟩ (some ⟨g,0,none⟩) kc kids)):=HO.out.low B1.out
  -- the texts are short
  have TS:Hid (∀ t∈kids,(ke (jX t.pl)).size<=12800):=fun t ht=>by
   have U:=(ak.out t ht).text;have h2:=qT ht;have:=K.out;rw[kL];omega
  have PS:Hid (∀ i,(lP (bl op) 0 (uv (kids.take i))).length<=12800):=fun i=>by
   have U:=zy (bl op) av.out (kids.take i) 0 (fun k hk=>(ak.out k (List.mem_of_mem_take hk)).text);have h2:=ry kids i;have:=K.out;omega
  obtain⟨t0,O⟩:∃ t,kids[0]?=some t:=⟨_,gG (by omega)⟩
  have aD:=iV O;have V:Hid (t0∈kids):=gM O;obtain⟨b',off,I,z⟩:=O1.out.rd.cell 0 t0 O;simp only[iZ.ka] at I;injection I with I;injection I with H ho' _;subst H ho';have e0:=z 0 _ rfl;have e1:=z 1 _ rfl;have e2:=z 2 _ rfl;have e3:=z 3 _ rfl;have e4:=z 4 _ rfl;simp only[Nat.zero_mul,Nat.add_zero,Nat.zero_add] at e0 e1 e2 e3 e4;have hcall:=ag.out t0 V.out J (HG.out.below B1.out) (O1.out.kids t0 V.out) (by have U:=qT V.out;have:=K.out;omega);have am:=TS.out t0 V.out;obtain⟨X0,ac⟩:∃ X0,ke (jX t0.pl)=X0:=⟨_,rfl⟩
  rw[ac] at hcall am;have ar:Hid (bl X0=jX t0.pl):=by show _=_;rw[<-ac,lS]
  unfold iZ.val at hcall;rw[Ce _ _ _ _ _ _ _ hw];have Y:=fun W=>jm (T:=84) (E:=86) (sz:=5) (n:=M) (c:=kc) (k:=0) (A:=some ⟨g,0,none⟩) Tryz.underlying84 rfl Tryz.sizeOf86 rfl (by omega) W;simp only[Nat.zero_mul,Nat.add_zero] at Y;clear ho hc hk ih hG hO hw ad y az ao hg z O ac;show Calls Tryz.prog 195 #[.agg #[.string op,.string ⟨#[]⟩,.int .i64 0,.string ⟨#[]⟩,.slice (some ⟨g,0,none⟩) kids.length kc]] w _;rw[al.out];go_in;go_wp2_with fail;refine hcall.mono ?_;rintro e w2 ⟨rfl,H⟩;have B2:=iV (jc B1.out H);have K2:=iV (K1.out.below H);have O2:=iV (O1.out.low H);clear hcall H e0 e1 e2 e3 e4 k0 k4 Y D;have k0:=K2.out.cell 0 _ rfl;have k4:=K2.out.cell 4 _ rfl;have S0:Hid (bl (⟨#[40]⟩++X0)=[40]++lP (bl op) 0 (uv (kids.take 1))):=by
   show _=_;obtain⟨ay,au⟩:=gS aD.out;rw[tS ay,au];simp only[List.take_zero,List.nil_append];rw[Wa,kK,ar.out];rfl
  go_wp2_with fail;obtain⟨rl,af⟩:∃ rl,M-1=rl:=⟨_,rfl⟩
  have RL:Hid (kids.length=rl+1):=by have:=al.out;show _=_;omega
  rw[af];have ax:rl<=64:=by omega
  have aJ:Hid (w.heap.size<w2.heap.size):=K2.out.sz;have ah:(⟨#[40]⟩++X0:BA).size<=12900:=by rw[<-iX,S0.out,List.length_append];have:=PS.out 1;simp;omega
  clear af k0 k4 aA aF aE ae am;go_loopw [3,42] (fun sv iv wr=>∃ (i:Nat) (S:BA),sv=.string S/\iv=.int .i64 i/\i<=rl/\S.size<=12900/\Hid (bl S=[40]++lP (bl op) 0 (uv (kids.take (i+1))))/\Hid (Below w.heap.size w wr)/\Hid (jh wr w.heap.size [.string op,.string ⟨#[]⟩,.int .i64 0,.string ⟨#[]⟩,.slice (some ⟨g,0,none⟩) M kc])) (fun _ iv _=>rl-(intOf iv).toNat)
  case atStart=>exact⟨0,_,rfl,rfl,z0,ah,S0,B2,K2⟩
  case round=>
   clear ah S0 K2;obtain⟨i,S,rfl,rfl,hi,hS,HS,HB,HK⟩:=hrel;by_cases aC:i<rl
   ·obtain⟨t,ht⟩:∃ t,kids[i+1]?=some t:=⟨_,gG (by rw[RL.out];omega)⟩
    have HT:=iV ht;have R:Hid (t∈kids):=gM ht;have O3:=HO.out.low HB.out;obtain⟨b',off,I,z⟩:=O3.rd.cell (i+1) t ht;simp only[iZ.ka] at I;injection I with I;injection I with H ho' _;subst H ho';have e0:=z 0 _ rfl;have e1:=z 1 _ rfl;have e2:=z 2 _ rfl;have e3:=z 3 _ rfl;have e4:=z 4 _ rfl;have aa:0+(i+1)*5=5+i*5:=by omega
    rw[aa] at e0 e1 e2 e3 e4;simp only[Nat.add_zero] at e0;have Y:=fun W=>jm (T:=84) (E:=86) (sz:=5) (n:=rl) (c:=kc-1) (k:=i) (A:=some ⟨g,5,none⟩) Tryz.underlying84 rfl Tryz.sizeOf86 rfl aC W;obtain⟨W3,ab⟩:∃ W3,wr.alloc (.cells #[.string t.op,.string t.nm,.int .i64 t.aop,.string t.ver,.slice t.ka t.kids.length t.kc] 86)=W3:=⟨_,rfl⟩
    have B3:Hid (Below wr.heap.size wr W3):=by rw[<-ab];exact bR.alloc lr _
    have N:Hid (jh W3 wr.heap.size t.cells):=by rw[<-ab];exact jh.new wr t.cells _
    have B4:=iV (jc HB.out B3.out);have ai:=iV (HK.out.below B3.out);have hcall:=ag.out t R.out W3 (HG.out.below B4.out) ((O3.low B3.out).kids t R.out) (by have U:=qT R.out;have:=K.out;omega);have hz:=TS.out t R.out;obtain⟨X,hX⟩:∃ X,ke (jX t.pl)=X:=⟨_,rfl⟩
    rw[hX] at hcall hz;have HX:Hid (bl X=jX t.pl):=by show _=_;rw[<-hX,lS]
    unfold iZ.val at hcall;have a0:=N.out.cell 0 _ rfl;have a1:=N.out.cell 1 _ rfl;have a2:=N.out.cell 2 _ rfl;have a3:=N.out.cell 3 _ rfl;have a4:=N.out.cell 4 _ rfl;have b0:=ai.out.cell 0 _ rfl;clear ht z O3 hX aa;go_upto_region 10 with(fail)
    clear ab e0 e1 e2 e3 e4 Y;obtain⟨Z,an⟩:∃ Z:Bool,decide (0<i/\(bl op=vM\/bl op=kq))=Z:=⟨_,rfl⟩
    have F:=iV an;clear an;go_cut [58] (fun v wx=>v=.bool Z/\W3=wx)
    case first=>
     clear hcall;by_cases i0:0<i
     ·have q1:decide ((0:Int)<(i:Int))=true:=dT (by omega);have q2:decide (0<i)=true:=dT i0;by_cases w1:bl op=vM
      ·have F1:op.toList=[105,102]:=by rw[iY];exact w1
       have E2:Hid (Z=true):=by show _=_;rw[<-F.out];exact dT ⟨i0,.inl w1⟩
       clear w1 o0 o1 o2;go_wp2;go_meet;exact⟨by rw[E2.out],rfl⟩
      ·have F1:(op.toList==([105,102]:LU))=false:=by rw[iY,bF];exact w1
       by_cases w2:bl op=kq
       ·have F2:op.toList=[117,110,108,101,115,115]:=by rw[iY];exact w2
        have E2:Hid (Z=true):=by show _=_;rw[<-F.out];exact dT ⟨i0,.inr w2⟩
        clear w1 w2 o0 o1 o2 F1;go_wp2;go_meet;exact⟨by rw[E2.out],rfl⟩
       ·have F2:(op.toList==([117,110,108,101,115,115]:LU))=false:=by rw[iY,bF];exact w2
        have E2:Hid (Z=false):=by show _=_;rw[<-F.out];exact dF (by rintro⟨_,h | h⟩<;>contradiction)
        clear w1 w2 o0 o1 o2;go_wp2;go_meet;exact⟨by rw[E2.out],rfl⟩
     ·have q1:decide ((0:Int)<(i:Int))=false:=dF (by omega);have q2:decide (0<i)=false:=dF i0;have E2:Hid (Z=false):=by show _=_;rw[<-F.out];exact dF (fun h=>i0 h.1)
      go_wp2;go_meet;exact⟨by rw[E2.out],rfl⟩
    case rest=>
    obtain⟨rfl,rfl⟩:=hcut;go_upto_if 58 with(fail)
    go_cut [6] (fun v wx=>∃ Wd:BA,v=.string Wd/\Wd.size<=7/\Hid (bl Wd=VW (bl op) (i+1))/\W3=wx)
    case first=>
     cases Z with
     | true=>
      have E:Hid (bl ⟨#[101,108,115,101]⟩=VW (bl op) (i+1)):=by show _=_;rw[LG,if_pos (dO F.out)];rfl
      go_wp2;go_meet;exact⟨_,rfl,by decide,E,rfl⟩
     | false=>
      have E:Hid (bl op=VW (bl op) (i+1)):=by show _=_;rw[LG,if_neg (of_decide_eq_false F.out)]
      go_wp2;go_meet;exact⟨_,rfl,aj,E,rfl⟩
    case rest=>
    obtain⟨Wd,rfl,aM,EW,rfl⟩:=hcut;have SN:Hid (bl (S++(⟨#[32]⟩++Wd++⟨#[32]⟩++X))=[40]++lP (bl op) 0 (uv (kids.take (i+2)))):=by
     show _=_;rw[Tr _ _ _ _ HT.out];simp only[kK];rw[HS.out,EW.out,HX.out];simp[List.append_assoc];rfl
    have ap:(S++(⟨#[32]⟩++Wd++⟨#[32]⟩++X):BA).size<=12900:=by rw[<-iX,SN.out,List.length_append];have:=PS.out (i+2);simp;omega
    have aq:Hid ((S++(⟨#[32]⟩++Wd++⟨#[32]⟩++X):BA).size<=12900):=ap;clear ap;have a0:=N.out.cell 0 _ rfl;have a1:=N.out.cell 1 _ rfl;have a2:=N.out.cell 2 _ rfl;have a3:=N.out.cell 3 _ rfl;have a4:=N.out.cell 4 _ rfl;go_wp2_with fail;refine hcall.mono ?_;rintro e w4 ⟨rfl,H⟩;have B5:=iV (jc B4.out H);have aB:=iV (ai.out.below H);clear hcall H a0 a1 a2 a3 a4 b0;go_wp2;go_roundw
    case rel=>exact⟨i+1,_,rfl,by go_num,by omega,aq.out,SN,B5,aB⟩
    case measure=>simp[intOf];omega
   ·have E:Hid (bl (S++⟨#[41]⟩)=jX (.node (bl op) (uv kids))):=by
     have U:=HS.out;rw[tL (by rw[RL.out];omega)] at U;show _=_;rw[kK,U];rfl
    go_wp2;go_ret;exact⟨by rw[<-Hd E.out];rfl,HB.out⟩
structure PR (w:World) (a hi:Nat) (l:LU) (n m:Nat):Prop where
 blk:∃ (b off c f:Nat) (xs:List H8),jh w a [.slice (some ⟨b,off,none⟩) m c,.int .i64 n]/\Rd w 2 (some ⟨b,off,none⟩) m (xs.flatMap H8.cells)/\xs.length=m/\xs.map (fun x=>bl x.text)=nZ (f+1) l/\l.length<=f/\b≠a/\b<hi/\m<=c/\c<=maxLen/\∀ x∈xs,x.text.size<=4294967280
 lt:a<hi
 hz:hi<=w.heap.size
structure PRc (w:World) (a b off m c n:Nat) (T:BA) (p:Nat):Prop where
 c0:w.cell? ⟨a,0,none⟩=some (.slice (some ⟨b,off,none⟩) m c)
 c1:w.cell? ⟨a,1,none⟩=some (.int .i64 n)
 f0:w.frozen? ⟨a,0,none⟩=false
 f1:w.frozen? ⟨a,1,none⟩=false
 t0:w.cell? ⟨b,off,none⟩=some (.string T)
 t1:w.cell? ⟨b,off+1,none⟩=some (.int .i64 p)
 ne:b≠a
 m1:1<=m
 mc:m<=c
 cz:c<=maxLen
 tz:T.size<=4294967280
theorem PR.cells (h:PR w a hi l n m):∃ b off c T p,PRc w a b off m c n T p/\bl T=jC l/\(jC l≠[]->2<=m/\PR (w.setCell ⟨a,0,none⟩ (.slice (some ⟨b,off+2,none⟩) ((m-1:Nat)) ((c-1:Nat)))) a hi (jR l) n (m-1)):=by
 obtain⟨b,off,c,f,I,k,hr,X,K,hf,z,M,N,R,hz⟩:=h.blk;obtain⟨r,h1,h2⟩:=wX f l;rw[h1] at K;cases I with
 | nil=>simp at K
 | cons x I=>
  simp only[List.map_cons,List.cons.injEq] at K;obtain⟨O,F⟩:=K;have H:0<m:=by rw[<-X];simp
  obtain⟨b',aa,e,U⟩:=hr.2 H;injection e with e;injection e with eb eo _;subst eb eo;have u0:=U 0 (.string x.text) rfl;have u1:=U 1 (.int .i64 x.at_) rfl;refine⟨b,off,c,x.text,x.at_,⟨k.cell 0 _ rfl,k.cell 1 _ rfl,k.free 0 (by simp),k.free 1 (by simp),u0,u1,z,H,N,R,hz x (by simp)⟩,O,fun V=>?_⟩;have D:=h2 V;have Z:∃ J,f=J+1:=⟨f-1,by have:=rX V;omega⟩
  obtain⟨J,rfl⟩:=Z;obtain⟨r',h3,_⟩:=wX J (jR l);have Y:2<=m:=by
   rw[<-X,List.length_cons];have:I.length=r.length:=by rw[<-F,List.length_map]
   rw[D,h3] at this;simp at this;omega
  refine⟨Y,⟨b,off+2,c-1,J,I,k.set 0 (by simp) _,?_,?_,?_,?_,z,M,by omega,by omega,fun y hy=>hz y (by simp[hy])⟩,h.lt,by simpa using h.hz⟩
  ·have hk:∀ p:Addr,p.block=b->(w.setCell ⟨a,0,none⟩ (.slice (some ⟨b,off+2,none⟩) (m-1) (c-1))).cell? p=w.cell? p:=fun p hp=>World.cell?_setCell_other _ _ _ _ (by intro h;apply z;rw[<-hp,<-h]);refine⟨?_,fun _=>⟨b,off+2,rfl,fun j u hu=>?_⟩⟩
   ·have:=hr.1;rw[List.flatMap_cons,List.length_append,YE] at this;omega
   ·rw[hk _ rfl];have:=U (j+2) u (by rw[List.flatMap_cons,List.getElem?_append_right (by simp[H8.cells])];simpa [H8.cells] using hu);rw[show off+2+j=off+(j+2) by omega];exact this
  ·rw[<-X];simp
  ·rw[F,D]
  ·have:=rX V;omega
theorem PR.grown {row:Option Nat}(h:PR w a hi l n m)(hg:w.grownBy w' row)(hne:∀ j,row=some j->hi<=j):PR w' a hi l n m:=by
 obtain⟨b,off,c,f,I,k,H,R,N,U,z,y,O⟩:=h.blk;have F:∀ j,j<hi->some j≠row:=fun j X e=>by have:=hne j e.symm;omega
 refine⟨⟨b,off,c,f,I,k.grownBy hg (F a h.lt),?_,R,N,U,z,y,O⟩,h.lt,Nat.le_trans h.hz hg.size⟩;refine⟨H.1,fun K=>?_⟩;obtain⟨V,D,e,M⟩:=H.2 K;injection e with e;injection e with e1 e2 _;subst e1 e2;exact⟨b,off,rfl,fun j u J=>hg.cell (M j u J) (F b y)⟩
theorem PR.below (h:PR w a hi l n m)(hb:Below w.heap.size w w'):PR w' a hi l n m:=h.grown (mS hb none) (by simp)
theorem PR.sz (h:PR w a hi l n m):a<w.heap.size:=Nat.lt_of_lt_of_le h.lt h.hz
theorem PR.alloc (h:PR w a hi l n m)(o:Obj):PR (w.alloc o) a hi l n m:=h.below (bR.alloc lr o)
theorem PR.far (h:PR w a hi l n m)(hb:hi<=b)(v:Value):PR (w.setCell ⟨b,j,none⟩ v) a hi l n m:=h.grown (jO v) (fun j e=>by injection e with e;omega)
theorem PR.count (h:PR w a hi l n m)(v:Nat):PR (w.setCell ⟨a,1,none⟩ (.int .i64 v)) a hi l v m:=by
 obtain⟨b,off,c,f,F,k,D,R,O,I,z,K⟩:=h.blk;refine⟨⟨b,off,c,f,F,k.set 1 (by simp) _,?_,R,O,I,z,K⟩,h.lt,by simpa using h.hz⟩;refine⟨D.1,fun N=>?_⟩;obtain⟨M,y,e,H⟩:=D.2 N;refine⟨M,y,e,fun j u J=>?_⟩;rw[World.cell?_setCell_other (h:=by injection e with e;injection e with e1;intro h;apply z;rw[e1];injection h with h;exact h.symm)];exact H j u J
theorem Q3:∀ f:Nat,(∀ deep n l t l' n',nX f deep n l=some (t,l',n')->l'.length<l.length)/\(∀ deep n acc op l t l' n',pL f deep n acc op l=some (t,l',n')->l'.length<l.length)
 | 0=>⟨fun _ _ _ _ _ _ h=>by simp[nX] at h,fun _ _ _ _ _ _ _ _ h=>by simp[pL] at h⟩
 | f+1=>by
  obtain⟨z,y⟩:=Q3 f;have skip:∀ l:LU,(jR l).length<=l.length:=VY;constructor
  ·intro deep n l t l' n' h;unfold nX at h;split at h
   ·simp at h
   ·rename_i J;have H:jC l≠[]:=fun e=>J (.inl e);have D:=rX H;split at h
    ·split at h
     ·simp at h
     ·have:=y _ _ _ _ _ _ _ _ h;omega
    ·unfold ov at h;split at h
     ·simp at h
     ·split at h
      ·unfold rV at h;split at h
       ·simp only[Option.some.injEq,Prod.mk.injEq] at h;obtain⟨_,rfl,_⟩:=h;exact D
       ·unfold ra at h;split at h
        ·simp at h
        ·split at h
         ·simp only[Option.some.injEq,Prod.mk.injEq] at h;obtain⟨_,rfl,_⟩:=h;have R:=skip (jR l);have M:=skip (jR (jR l));omega
         ·simp at h
      ·simp at h
  ·intro deep n acc op l t l' n' h;unfold pL at h;split at h
   ·simp at h
   ·rename_i k F N I;have O:=z _ _ _ _ _ _ I;split at h
    ·simp only[Option.some.injEq,Prod.mk.injEq] at h;obtain⟨_,rfl,_⟩:=h;have:=skip F;omega
    ·split at h
     ·have K:=y _ _ _ _ _ _ _ _ h;have:=skip F;omega
     ·simp at h
theorem kD.grown2 {old new:Option Nat}{t:iZ}(h:kD wb lo old t)(hg:wb.grownBy w2 old)(hn:new=old\/new=some wb.heap.size):kD w2 lo new t:=by
 induction h with
 | mk t row ne _ ih=>
  have z:(Value.slice t.ka t.kids.length t.kc).ownBlock=none\/(Value.slice t.ka t.kids.length t.kc).ownBlock≠old:=by
   cases y:(Value.slice t.ka t.kids.length t.kc).ownBlock with
   | none=>exact .inl rfl
   | some g=>exact .inr (ne g y)
  refine .mk t (row.kept hg z) (fun g y e=>?_) ih;rcases hn with rfl | rfl
  ·exact ne g y e
  ·injection e with e;have:=(row.lt g y).2;omega
structure Ki (w wr:World) (a hi:Nat) (l:LU) (n r:Nat) (OP:BA) (ks:List iZ) (A:Option Addr) (m cc:Nat):Prop where
 len:ks.length=m
 box:jh wr w.heap.size [.string OP,.string ⟨#[]⟩,.int .i64 0,.string ⟨#[]⟩,.slice A m cc]
 row:wr.ownsRow (w.heap.size+1) 86 5 (.slice A m cc) m (ks.flatMap iZ.cells)
 kids:∀ k∈ks,kD wr (w.heap.size+1) (Value.slice A m cc).ownBlock k
 good:∀ k∈ks,lT k
 pr:PR wr a hi l n r
 gr:w.grownBy wr (some a)
 lt:hi<=w.heap.size
theorem Ki.start (h:PR w a hi l n r)(t:TypeId):Ki w (w.alloc (.cells #[.string ⟨#[]⟩,.string ⟨#[]⟩,.int .i64 0,.string ⟨#[]⟩,.slice none 0 0] t)) a hi l n r ⟨#[]⟩ [] none 0 0:=
 ⟨rfl,jh.new w _ t,World.ownsRow_nil _ _ _ _,by simp,by simp,h.alloc _,mS (bR.alloc lr _) _,h.hz⟩
theorem Ki.alt {ks:List iZ}(h:Ki w wr a hi l n r OP ks A m cc):a<w.heap.size:=by have:=h.pr.lt;have:=h.lt;omega
theorem Ki.step {r':Nat}{ks:List iZ}(h:Ki w wr a hi l n r OP ks A m cc)(hg:wr.grownBy w' (some a))(hd:PR w' a hi l' n' r'):Ki w w' a hi l' n' r' OP ks A m cc:=by
 have y:=h.alt;exact⟨h.len,h.box.grownBy hg (by simp;omega),jS h.row (by omega) hg,fun k z=>(h.kids k z).kept (by omega) hg,h.good,hd,ja h.gr hg,h.lt⟩
theorem Ki.below {ks:List iZ}(h:Ki w wr a hi l n r OP ks A m cc)(hb:Below wr.heap.size wr w'):Ki w w' a hi l n r OP ks A m cc:=
 h.step (mS hb _) (h.pr.below hb)
theorem Ki.put {ks:List iZ}(h:Ki w wr a hi l n r OP ks A m cc)(P:BA):Ki w (wr.setCell ⟨w.heap.size,0,none⟩ (.string P)) a hi l n r P ks A m cc:=
 ⟨h.len,h.box.set 0 (by simp) _,jS h.row (by omega) (jO _),fun k y=>(h.kids k y).kept (by omega) (jO _),h.good,h.pr.far h.lt _,qw h.gr (jO _) (fun j e=>by injection e with e;omega),h.lt⟩
theorem Ki.grow {c1:Nat}{ks:List iZ}{A1:Option Addr}{T:iZ}(h:Ki w wb a hi l n r OP ks A m cc)(hT:kD wb (w.heap.size+1) (Value.slice A m cc).ownBlock T)(hgd:lT T)
  (hr:w2.ownsRow (w.heap.size+1) 86 5 (.slice A1 (m+1) c1) (m+1) (ks.flatMap iZ.cells++T.cells))
  (hg:wb.grownBy w2 (Value.slice A m cc).ownBlock)(ha:(Value.slice A1 (m+1) c1).ownBlock=(Value.slice A m cc).ownBlock\/(Value.slice A1 (m+1) c1).ownBlock=some wb.heap.size):
  Ki w (w2.setCell ⟨w.heap.size,4,none⟩ (.slice A1 (m+1) c1)) a hi l n r OP (ks++[T]) A1 (m+1) c1:=by
 have far:∀ j,(Value.slice A m cc).ownBlock=some j->w.heap.size+1<=j:=fun j D=>(h.row.lt j D).1;have F:=h.lt;have z:jh w2 w.heap.size [.string OP,.string ⟨#[]⟩,.int .i64 0,.string ⟨#[]⟩,.slice A m cc]:=h.box.grownBy hg (fun e=>by have:=far _ e.symm;omega);refine⟨by simp[h.len],z.set 4 (by simp) _,?_,fun k y=>?_,fun k y=>?_,?_,?_,h.lt⟩
 ·rw[List.flatMap_append];exact jS (by simpa using hr) (by omega) (jO _)
 ·refine kD.kept ?_ (by omega) (jO _);rcases List.mem_append.1 y with y | y
  ·exact(h.kids k y).grown2 hg ha
  ·obtain rfl:=List.mem_singleton.1 y;exact hT.grown2 hg ha
 ·rcases List.mem_append.1 y with y | y
  ·exact h.good k y
  ·obtain rfl:=List.mem_singleton.1 y;exact hgd
 ·exact(h.pr.grown hg (fun j e=>by have:=far j e;omega)).far F _
 ·exact qw (qw h.gr hg (fun j e=>by have:=far j e;omega)) (jO _) (fun j e=>by injection e with e;omega)
def lu (r:Option (oM×LU×Nat))(a hi m deep n:Nat)(w:World)(e:Ending)(w':World):Prop:=
 w.grownBy w' (some a)/\match r with
  | none=>∃ (f:BA) (x c:Int),e=.returned (.tuple #[tE.val,nC f x c])/\c≠0
  | some (t,l',n')=>∃ (T:iZ) (m':Nat),e=.returned (.tuple #[T.val,nC ⟨#[]⟩ 0 0])/\T.pl=t/\lT T/\kD w' w.heap.size none T/\T.ht+deep<=32/\n'=n+T.cnt/\n'<=64/\PR w' a hi l' n' m'/\m'<m
theorem lu.no {r:Option (oM×LU×Nat)}{f:BA}{c:Int}(hr:r=none)(hg:w.grownBy w' (some a))(hc:c≠0):lu r a hi m deep n w (.returned (.tuple #[tE.val,nC f x c])) w':=by
 subst hr;exact⟨hg,f,x,c,rfl,hc⟩
theorem lu.yes {r:Option (oM×LU×Nat)}{T:iZ}(hr:r=some (T.pl,l',n'))(hg:w.grownBy w' (some a))(h1:lT T)(h2:kD w' w.heap.size none T)(h3:T.ht+deep<=32)(h4:n'=n+T.cnt)(h5:n'<=64)(h6:PR w' a hi l' n' m')(h7:m'<m):lu r a hi m deep n w (.returned (.tuple #[T.val,nC ⟨#[]⟩ 0 0])) w':=by
 subst hr;exact⟨hg,T,m',rfl,rfl,h1,h2,h3,h4,h5,h6,h7⟩
theorem Tt {acc:List oM}(h:nX f deep n l=none):pL (f+1) deep n acc op l=none:=by unfold pL;rw[h]
theorem Wb {acc:List oM}{k:oM}(h:nX f deep n l=some (k,l1,n1))(h1:jC l1=[41])(h2:acc≠[]):pL (f+1) deep n acc op l=some (.node op (acc++[k]),jR l1,n1):=by
 unfold pL;rw[h];simp only;rw[if_pos ⟨h1,h2⟩]
theorem Tu {acc:List oM}{k:oM}(h:nX f deep n l=some (k,l1,n1))(h1:¬ (jC l1=[41]/\acc≠[]))(h2:jw op (acc.length+1) (jC l1)=true):pL (f+1) deep n acc op l=pL f deep n1 (acc++[k]) (if acc=[] then jC l1 else op) (jR l1):=by
 rw[pL,h];simp only;rw[if_neg h1,if_pos h2]
theorem Wc {acc:List oM}{k:oM}(h:nX f deep n l=some (k,l1,n1))(h1:¬ (jC l1=[41]/\acc≠[]))(h2:jw op (acc.length+1) (jC l1)=false):pL (f+1) deep n acc op l=none:=by
 rw[pL,h];simp only;rw[if_neg h1,if_neg (by simp[h2])]
theorem nN (t:BA)(q c:Int)(w:World):Calls Tryz.prog 95 #[.agg #[.string t,.int .i64 q],.int .i64 c] w fun e w'=>e=.returned (nC ⟨#[]⟩ q c)/\Below w.heap.size w w':=by
 go_in;go_wp2_with fail;refine bodyPost_ret (v:=nC ⟨#[]⟩ q c) (by simp[results,Tryz.results95,go_sem,nC]) rfl ?_;refine⟨rfl,?_⟩
 repeat' refine jb ?_ (by omega) _
 exact(bR.alloc lr _).alloc (by simp) _
theorem qz (a hi n m:Nat)(l:LU)(w:World)(h:PR w a hi l n m)(hl:jC l≠[]):Calls Tryz.prog 147 #[.pointer (some ⟨a,0,none⟩)] w fun e w'=>e=.returned (.tuple #[])/\PR w' a hi (jR l) n (m-1)/\w.grownBy w' (some a)/\2<=m:=by
 obtain⟨b,off,c,T,p,k,H,y⟩:=h.cells;obtain⟨y,z⟩:=y hl;have D:=iV z;obtain⟨I,N,O,R,K,X,U,J,V,F,M⟩:=k;simp only[maxLen] at F;clear z h hl H;go_in;go_wp2;go_end0;exact⟨rfl,D.out,jO _,y⟩
abbrev sU (W:World) (s:Nat) (v0 v1 v2 v3 v4 u0 u1 u2:Value):World:=
 (((((((W.setCell ⟨s,0,none⟩ v0).setCell ⟨s,1,none⟩ v1).setCell ⟨s,2,none⟩ v2).setCell ⟨s,3,none⟩ v3).setCell ⟨s,4,none⟩ v4).setCell ⟨s+1,0,none⟩ u0).setCell ⟨s+1,1,none⟩ u1).setCell ⟨s+1,2,none⟩ u2
theorem lw (h:w.grownBy W (some a))(hs:w.heap.size<=s)(v0 v1 v2 v3 v4 u0 u1 u2:Value):w.grownBy (sU W s v0 v1 v2 v3 v4 u0 u1 u2) (some a):=by
 unfold sU
 repeat' refine ji ?_ (.inr (by simp only;omega)) _
 exact h
theorem Cf (h:PR W a hi l n m)(hs:hi<=s)(v0 v1 v2 v3 v4 u0 u1 u2:Value):PR (sU W s v0 v1 v2 v3 v4 u0 u1 u2) a hi l n m:=by
 unfold sU
 repeat' refine PR.far ?_ (by omega) _
 exact h
theorem DT {bad:Option Nat}{T:iZ}(h:kD W lo bad T)(hs:s+1<lo)(v0 v1 v2 v3 v4 u0 u1 u2:Value):kD (sU W s v0 v1 v2 v3 v4 u0 u1 u2) lo bad T:=by
 unfold sU
 repeat' refine kD.kept ?_ (by omega) (jO _)
 exact h
structure Id (W:World) (s:Nat):Prop where
 b0:jh W s [.string ⟨#[]⟩,.string ⟨#[]⟩,.int .i64 0,.string ⟨#[]⟩,.slice none 0 0]
 b1:jh W (s+1) [.string ⟨#[]⟩,.int .i64 0,.int .i64 0]
structure OV (W:World) (s:Nat):Prop where
 x0:W.cell? ⟨s,0,none⟩=some (.string ⟨#[]⟩)
 x1:W.cell? ⟨s,1,none⟩=some (.string ⟨#[]⟩)
 x2:W.cell? ⟨s,2,none⟩=some (.int .i64 0)
 x3:W.cell? ⟨s,3,none⟩=some (.string ⟨#[]⟩)
 x4:W.cell? ⟨s,4,none⟩=some (.slice none 0 0)
 y0:W.cell? ⟨s+1,0,none⟩=some (.string ⟨#[]⟩)
 y1:W.cell? ⟨s+1,1,none⟩=some (.int .i64 0)
 y2:W.cell? ⟨s+1,2,none⟩=some (.int .i64 0)
 f0:W.frozen? ⟨s,0,none⟩=false
 f1:W.frozen? ⟨s,1,none⟩=false
 f2:W.frozen? ⟨s,2,none⟩=false
 f3:W.frozen? ⟨s,3,none⟩=false
 f4:W.frozen? ⟨s,4,none⟩=false
 g0:W.frozen? ⟨s+1,0,none⟩=false
 g1:W.frozen? ⟨s+1,1,none⟩=false
 g2:W.frozen? ⟨s+1,2,none⟩=false
theorem Id.c (h:Id W s):OV W s:=
 ⟨h.b0.cell 0 _ rfl,h.b0.cell 1 _ rfl,h.b0.cell 2 _ rfl,h.b0.cell 3 _ rfl,h.b0.cell 4 _ rfl,h.b1.cell 0 _ rfl,h.b1.cell 1 _ rfl,h.b1.cell 2 _ rfl,h.b0.free 0 (by simp),h.b0.free 1 (by simp),h.b0.free 2 (by simp),h.b0.free 3 (by simp),h.b0.free 4 (by simp),h.b1.free 0 (by simp),h.b1.free 1 (by simp),h.b1.free 2 (by simp)⟩
theorem Id.step (h:Id W s)(hg:W.grownBy W' (some a))(hs:a<s):Id W' s:=
 ⟨h.b0.grownBy hg (by simp;omega),h.b1.grownBy hg (by simp;omega)⟩
theorem Id.below (h:Id W s)(hb:Below W.heap.size W W'):Id W' s:=⟨h.b0.below hb,h.b1.below hb⟩
theorem Id.new (w:World)(t t':TypeId):Id ((w.alloc (.cells #[.string ⟨#[]⟩,.string ⟨#[]⟩,.int .i64 0,.string ⟨#[]⟩,.slice none 0 0] t)).alloc (.cells #[.string ⟨#[]⟩,.int .i64 0,.int .i64 0] t')) w.heap.size:=by
 refine⟨(jh.new w _ t).alloc _,?_⟩;have:=jh.new (w.alloc (.cells #[.string ⟨#[]⟩,.string ⟨#[]⟩,.int .i64 0,.string ⟨#[]⟩,.slice none 0 0] t)) [.string ⟨#[]⟩,.int .i64 0,.int .i64 0] t';simpa using this
theorem tF (tmps:Array Value)(h:OV W s)(h2:tmps[2]?=some (.pointer (some ⟨s,0,none⟩)))(h3:tmps[3]?=some (.pointer (some ⟨s+1,0,none⟩)))(v0 v1 v2 v3 v4 u0 u1 u2:Value)
  (hv:v0.oneCell'=true/\v1.oneCell'=true/\v2.oneCell'=true/\v3.oneCell'=true/\v4.oneCell'=true/\u0.oneCell'=true/\u1.oneCell'=true/\u2.oneCell'=true):
  (results Tryz.f149 tmps).run Tryz.prog (sU W s v0 v1 v2 v3 v4 u0 u1 u2)=.ok (.tuple #[.agg #[v0,v1,v2,v3,v4],.agg #[u0,u1,u2]]) (sU W s v0 v1 v2 v3 v4 u0 u1 u2):=by
 obtain⟨F,H,J,I,y,z,D,K,_,_,_,_,_,_,_,_⟩:=h;simp(maxDischargeDepth:=10) [results,Tryz.results149,h2,h3,go_sem,F,H,J,I,y,z,D,K]
structure yr (w W:World) (a hi:Nat) (l:LU) (n m:Nat):Prop where
 two:Id W w.heap.size
 pr:PR W a hi l n m
 gr:w.grownBy W (some a)
 gl:zq a W
 lt:hi<=w.heap.size
theorem yr.alt (h:yr w W a hi l n m):a<w.heap.size:=by have:=h.pr.lt;have:=h.lt;omega
theorem yr.start (hG:zq a w)(h:PR w a hi l n m)(t t':TypeId):yr w ((w.alloc (.cells #[.string ⟨#[]⟩,.string ⟨#[]⟩,.int .i64 0,.string ⟨#[]⟩,.slice none 0 0] t)).alloc (.cells #[.string ⟨#[]⟩,.int .i64 0,.int .i64 0] t')) a hi l n m:=by
 have B:Below w.heap.size w ((w.alloc (.cells #[.string ⟨#[]⟩,.string ⟨#[]⟩,.int .i64 0,.string ⟨#[]⟩,.slice none 0 0] t)).alloc (.cells #[.string ⟨#[]⟩,.int .i64 0,.int .i64 0] t')):=(bR.alloc lr _).alloc (by simp) _;exact⟨Id.new w t t',h.below B,mS B _,hG.below B,h.hz⟩
theorem yr.step (h:yr w W a hi l n m)(hg:W.grownBy W' (some a))(hd:PR W' a hi l' n' m'):yr w W' a hi l' n' m':=
 ⟨h.two.step hg h.alt,hd,ja h.gr hg,h.gl.kept hg,h.lt⟩
theorem yr.below (h:yr w W a hi l n m)(hb:Below W.heap.size W W'):yr w W' a hi l n m:=h.step (mS hb _) (h.pr.below hb)
theorem yr.far (h:yr w W a hi l n m)(hb:w.heap.size+2<=b)(v:Value):yr w (W.setCell ⟨b,j,none⟩ v) a hi l n m:=by
 have F:=h.lt;refine⟨⟨h.two.b0.far (by omega) v,h.two.b1.far (by omega) v⟩,h.pr.far (by omega) v,ji h.gr (.inr (by show _<=b;omega)) v,?_,F⟩;obtain⟨z,H,D,y⟩:=h.gl;have I:=h.pr.lt;exact⟨z,H,jb D (by omega) v,y⟩
theorem jh.stay {vs:List Value}(k:jh W b vs)(h:yr w W a hi l n m)(hb:w.heap.size<=b)(hg:W.grownBy W' (some a)):jh W' b vs:=k.grownBy hg (by have:=h.alt;simp;omega)
theorem DU (W:World)(lo:Nat)(bad:Option Nat)(nm:BA)(o:Nat)(v:BA):kD W lo bad (.mk ⟨#[]⟩ nm o v none 0 []):=
 .mk _ (World.ownsRow_nil _ _ _ _) (fun g z=>by simp[iZ.ka,iZ.kc,Value.ownBlock] at z) (fun k y=>by simp[iZ.kids] at y)
theorem Tv (l:LU):ov 64 l=none:=by unfold ov;rw[if_pos rfl]
theorem We (h:Lt (jC l)=0):rV nm n l=some (.atom nm 0 [],l,n):=by unfold rV;rw[if_pos h]
theorem YG (h:Lt (jC l)≠0):rV nm n l=ra nm (Lt (jC l)) n (jR l):=by unfold rV;rw[if_neg h]
theorem OY (h:jC l=[]\/jC l=[40]\/jC l=[41]):ra nm o n l=none:=by unfold ra;rw[if_pos h]
theorem LH (h:kf 2 (ke (jC l))≠0):ra nm o n l=none:=by
 unfold ra;split
 ·rfl
 ·simp[h]
theorem Wf (h0:¬ (jC l=[]\/jC l=[40]\/jC l=[41]))(h:kf 2 (ke (jC l))=0):ra nm o n l=some (.atom nm o (jC l),jR l,n):=by unfold ra;rw[if_neg h0,if_pos h]
theorem aai (p:LU):Lt p<=5:=by unfold Lt;(repeat' split)<;>omega
theorem Wg (h:Lt p≠0):p≠[]:=by rintro rfl;exact h rfl
theorem Tw (a hi n m deep:Nat)(l:LU)(w:World)(hG:zq a w)(h:PR w a hi l n m)(hn:n<=64)(hd:deep<=32):Calls Tryz.prog 149 #[.pointer (some ⟨a,0,none⟩)] w (lu (ov n l) a hi m deep n w):=by
 obtain⟨I,ae⟩:∃ I,(w.alloc (.cells #[.string ⟨#[]⟩,.string ⟨#[]⟩,.int .i64 0,.string ⟨#[]⟩,.slice none 0 0] 86)).alloc (.cells #[.string ⟨#[]⟩,.int .i64 0,.int .i64 0] 132)=I:=⟨_,rfl⟩
 have S0:Hid (yr w I a hi l n m):=by rw[<-ae];exact yr.start hG h _ _
 have z0:I.heap.size=w.heap.size+2:=by rw[<-ae];simp
 obtain⟨b,off,c,T,p,k,hT,h2⟩:=S0.out.pr.cells;have HT:=iV hT;obtain⟨c0,c1,f0,f1,K,t1,ne,m1,mc,cz,tz⟩:=k;clear h h2 hT;obtain⟨W1,ah⟩:∃ W1,I.alloc (.cells #[.string T,.int .i64 p] 186)=W1:=⟨_,rfl⟩
 have S1:Hid (yr w W1 a hi l n m):=by rw[<-ah];exact S0.out.below (bR.alloc lr _)
 have K1:Hid (jh W1 I.heap.size [.string T,.int .i64 p]):=by rw[<-ah];exact jh.new I [.string T,.int .i64 p] _
 have ag:=iV z0;clear S0 hG z0;go_in;go_upto_region 2 with(fail)
 clear ae ah c0 c1 f0 f1 K t1 ne m1 mc cz;have ha:=S1.out.alt;have Y:=S1.out.pr.cells;obtain⟨b1,aA,aE,T',p',Y,-,-⟩:=Y;have c1:=Y.c1;have f1:=Y.f1;have K:=K1.out.cell 0 _ rfl;have t1:=K1.out.cell 1 _ rfl;clear Y;by_cases X:n=64
 ·have EN:Hid (ov n l=none):=by show _=_;rw[X];exact Tv l
  have ax:((n:Int)==64)=true:=by simp[X]
  clear X;go_wp2_with fail;refine(nN T p 4 _).mono ?_;rintro e w2 ⟨rfl,V⟩;have D:=iV (S1.out.below V);have R:=D.out.two.c;obtain⟨x0,x1,x2,x3,x4,y0,y1,y2,g0,g1,g2,g3,g4,k0,Y,k2⟩:=R;clear V;unfold nC;go_wp2_with fail;refine bodyPost_ret (tF _ D.out.two.c rfl rfl _ _ _ _ _ _ _ _ ⟨rfl,rfl,rfl,rfl,rfl,rfl,rfl,rfl⟩) rfl ?_;exact lu.no EN.out (lw D.out.gr lr _ _ _ _ _ _ _ _) (by decide)
 have ak:Hid (n<64):=by show _<_;omega
 have ax:((n:Int)==64)=false:=by simp;omega
 have EN:Hid (ov n l=if mC (bl T) then rV (bl T) (n+1) (jR l) else none):=by
  show _=_;unfold ov;rw[if_neg X,HT.out]
 clear X;go_wp2_with fail;refine(vv T _ (by omega)).mono ?_;rintro e w2 ⟨rfl,rfl⟩;cases hnm:mC (bl T) with
 | false=>
  rw[hnm] at EN;clear hnm;go_wp2_with fail;refine(nN T p 10 _).mono ?_;rintro e w2 ⟨rfl,V⟩;have D:=iV (S1.out.below V);have R:=D.out.two.c;obtain⟨x0,x1,x2,x3,x4,y0,y1,y2,g0,g1,g2,g3,g4,k0,Y,k2⟩:=R;clear V;unfold nC;go_wp2_with fail;refine bodyPost_ret (tF _ D.out.two.c rfl rfl _ _ _ _ _ _ _ _ ⟨rfl,rfl,rfl,rfl,rfl,rfl,rfl,rfl⟩) rfl ?_;exact lu.no EN.out (lw D.out.gr lr _ _ _ _ _ _ _ _) (by decide)
 | true=>
 have ER:Hid (ov n l=rV (bl T) (n+1) (jR l)):=by have:=EN.out;rwa [hnm,if_pos rfl] at this
 clear EN;have al:=iV hnm;have HL:Hid (jC l≠[]):=by have:=tD hnm;rw[<-iX,HT.out] at this;intro e;rw[e] at this;simp at this
 have P2:Hid (PR (W1.setCell ⟨a,1,none⟩ (.int .i64 ((n:Int)+1))) a hi l (n+1) m):=by have:=S1.out.pr.count (n+1);rwa [show((n+1:Nat):Int)=(n:Int)+1 from by omega] at this
 have D:=iV (S1.out.step (jO (j:=1) (.int .i64 ((n:Int)+1))) P2.out);have K2:=iV (K1.out.stay S1.out (by have:=ag.out;omega) (jO (a:=a) (j:=1) (.int .i64 ((n:Int)+1))));clear hnm;go_wp2_with fail;clear c1 f1 K t1;refine(qz a hi (n+1) m l _ P2.out HL.out).mono ?_;rintro e M ⟨rfl,hp,J,U⟩;have S3:=iV (D.out.step J hp);have K3:=iV (K2.out.stay D.out (by have:=ag.out;omega) J);have M2:=iV U;clear hp J P2 D K2 U;have K:=K3.out.cell 0 _ rfl;go_upto_region 9 with(fail)
 clear K;obtain⟨W4,ad⟩:∃ W4,M.alloc (.cells #[.string ⟨#[]⟩,.string T,.int .i64 0,.string ⟨#[]⟩,.slice none 0 0] 86)=W4:=⟨_,rfl⟩
 have B4:Hid (Below M.heap.size M W4):=by rw[<-ad];exact bR.alloc lr _
 have D4:Hid (jh W4 M.heap.size [.string ⟨#[]⟩,.string T,.int .i64 0,.string ⟨#[]⟩,.slice none 0 0]):=by rw[<-ad];exact jh.new M [.string ⟨#[]⟩,.string T,.int .i64 0,.string ⟨#[]⟩,.slice none 0 0] _
 have N:=iV (S3.out.below B4.out);have K4:=iV (K3.out.below B4.out);have H3:Hid (I.heap.size<M.heap.size):=K3.out.sz;rw[ad];clear ad;obtain⟨b4,aB,c4,T4,p4,k4,ap,-⟩:=N.out.pr.cells;have O:=iV ap;obtain⟨r0,r1,r2,r3,r4,r5,r6,r7,r8,r9,aF⟩:=k4;have hR:=Gz T4 W4 N.out.gl.gl;obtain⟨o,ho⟩:∃ o,Lt (bl T4)=o:=⟨_,rfl⟩
 rw[ho] at hR;have HO:=iV ho;have ay:o<=5:=by rw[<-ho];exact aai _
 clear ap ho S3 B4;go_wp2_with fail;clear r0 r1 r2 r3 r4 r5 r6 r7 r8 r9;refine hR.mono ?_;rintro e w5 ⟨rfl,rfl⟩;clear hR;by_cases o0:o=0
 ·have EY:Hid (ov n l=some ((iZ.mk ⟨#[]⟩ T 0 ⟨#[]⟩ none 0 []).pl,jR l,n+1)):=by
   show _=_;rw[ER.out,Cd _ _ _ _ _ _ _ rfl];exact We (by rw[<-O.out,HO.out,o0])
  have q0:((o:Int)==0)=true:=by simp[o0]
  have R:=N.out.two.c;obtain⟨x0,x1,x2,x3,x4,y0,y1,y2,g0,g1,g2,g3,g4,k0,Y,k2⟩:=R;have d0:=D4.out.cell 0 _ rfl;have d1:=D4.out.cell 1 _ rfl;have d2:=D4.out.cell 2 _ rfl;have d3:=D4.out.cell 3 _ rfl;have d4:=D4.out.cell 4 _ rfl;clear o0;go_wp2_with fail;refine bodyPost_ret (tF _ N.out.two.c rfl rfl _ _ _ _ _ _ _ _ ⟨rfl,rfl,rfl,rfl,rfl,rfl,rfl,rfl⟩) rfl ?_;exact lu.yes (T:=.mk ⟨#[]⟩ T 0 ⟨#[]⟩ none 0 []) EY.out (lw N.out.gr lr _ _ _ _ _ _ _ _) (.atom T 0 ⟨#[]⟩ al.out (by omega) (fun _=>rfl) (fun h=>by omega)) (DU _ _ _ _ _ _) (by simp[iZ.ht,Hz];exact hd) (by simp[iZ.cnt]) (by have:=ak.out;omega) (Cf N.out.pr N.out.lt _ _ _ _ _ _ _ _) (by have:=M2.out;omega)
 have q0:((o:Int)==0)=false:=by simp[o0]
 have ao:Hid (jC (jR l)≠[]):=by show ¬ _;rw[<-O.out];exact Wg (by rw[HO.out];exact o0)
 have EV:Hid (ov n l=ra (bl T) o (n+1) (jR (jR l))):=by show _=_;rw[ER.out,YG (by rw[<-O.out,HO.out];exact o0),<-O.out,HO.out]
 have OP:Hid (0<o):=by show _<_;omega
 have H:Hid (w.heap.size+2<=I.heap.size):=by show _<=_;have:=ag.out;omega
 clear ER o0 HO O;go_wp2_with fail;refine(qz a hi (n+1) (m-1) (jR l) _ N.out.pr ao.out).mono ?_;rintro e w5 ⟨rfl,hp,J,U⟩;have S5:=iV (N.out.step J hp);have K5:=iV (K4.out.stay N.out (by have:=H.out;omega) J);have D5:=iV (D4.out.stay N.out (by have:=H.out;have:=H3.out;omega) J);have M3:=iV U;clear hp J U N K4 D4 ao;have K:=K5.out.cell 0 _ rfl;have t1:=K5.out.cell 1 _ rfl;have e0:=K5.out.free 0 (by simp);have e1:=K5.out.free 1 (by simp);obtain⟨b5,aC,c5,y,p5,k5,aj,ar⟩:=S5.out.pr.cells;have aa:=iV aj;obtain⟨r0,r1,r2,r3,r4,r5,r6,r7,r8,r9,aD⟩:=k5;clear aj ar;go_upto_region 14 with(fail)
 clear K t1 e0 e1 r0 r1 r2 r3 r4 r5 r6 r7 r8 r9;obtain⟨W6,Z⟩:∃ W6,(w5.setCell ⟨I.heap.size,0,none⟩ (.string y)).setCell ⟨I.heap.size,1,none⟩ (.int .i64 p5)=W6:=⟨_,rfl⟩
 have S6:Hid (yr w W6 a hi (jR (jR l)) (n+1) (m-1-1)):=by rw[<-Z];exact(S5.out.far H.out _).far H.out _
 have K6:Hid (jh W6 I.heap.size [.string y,.int .i64 p5]):=by rw[<-Z];exact(K5.out.set 0 (by simp) (.string y)).set 1 (by simp) (.int .i64 p5)
 have D6:Hid (jh W6 M.heap.size [.string ⟨#[]⟩,.string T,.int .i64 0,.string ⟨#[]⟩,.slice none 0 0]):=by rw[<-Z];exact(D5.out.far (by have:=H3.out;omega) _).far (by have:=H3.out;omega) _
 rw[Z];clear Z S5 K5 D5;have K:=K6.out.cell 0 _ rfl;have t1:=K6.out.cell 1 _ rfl;obtain⟨bb,z⟩:∃ bb:Bool,decide (bl y=[]\/bl y=[40]\/bl y=[41])=bb:=⟨_,rfl⟩
 go_cut [74] (fun v wx=>v=.bool bb/\W6=wx)
 case first=>
  by_cases h1:bl y=[]
  ·have E1:y.toList=[]:=by rw[iY];exact h1
   have E2:Hid (bb=true):=by show _=_;rw[<-z];exact dT (.inl h1)
   clear z h1;go_wp2;go_meet;exact⟨by rw[E2.out],rfl⟩
  by_cases h2:bl y=[40]
  ·have E1:y.toList=[40]:=by rw[iY];exact h2
   have E2:Hid (bb=true):=by show _=_;rw[<-z];exact dT (.inr (.inl h2))
   clear z h1 h2;go_wp2;go_meet;exact⟨by rw[E2.out],rfl⟩
  by_cases h3:bl y=[41]
  ·have E1:y.toList=[41]:=by rw[iY];exact h3
   have E2:Hid (bb=true):=by show _=_;rw[<-z];exact dT (.inr (.inr h3))
   clear z h1 h2 h3;go_wp2;go_meet;exact⟨by rw[E2.out],rfl⟩
  ·have E1:(y.toList==([]:LU))=false:=by rw[iY,bF];exact h1
   have E3:(y.toList==([40]:LU))=false:=by rw[iY,bF];exact h2
   have E4:(y.toList==([41]:LU))=false:=by rw[iY,bF];exact h3
   have E5:y.toList.isEmpty=false:=by rw[iY,List.isEmpty_eq_false_iff];exact h1
   have E2:Hid (bb=false):=by show _=_;rw[<-z];exact dF (by rintro(h | h | h)<;>contradiction)
   clear z h1 h2 h3;go_wp2;go_meet;exact⟨by rw[E2.out],rfl⟩
 case rest=>
 obtain⟨rfl,rfl⟩:=hcut;cases bb with
 | true=>
  have EN:Hid (ov n l=none):=by show _=_;rw[EV.out];exact OY (by rw[<-aa.out];exact dO z)
  clear z;go_wp2_with fail;refine(nN y p5 3 _).mono ?_;rintro e w2 ⟨rfl,V⟩;have D:=iV (S6.out.below V);have R:=D.out.two.c;obtain⟨x0,x1,x2,x3,x4,y0,y1,y2,g0,g1,g2,g3,g4,k0,Y,k2⟩:=R;clear V;unfold nC;go_wp2_with fail;refine bodyPost_ret (tF _ D.out.two.c rfl rfl _ _ _ _ _ _ _ _ ⟨rfl,rfl,rfl,rfl,rfl,rfl,rfl,rfl⟩) rfl ?_;exact lu.no EN.out (lw D.out.gr lr _ _ _ _ _ _ _ _) (by decide)
 | false=>
 have HB:Hid (¬ (jC (jR (jR l))=[]\/jC (jR (jR l))=[40]\/jC (jR (jR l))=[41])):=by rw[<-aa.out];exact of_decide_eq_false z
 clear z;obtain⟨ve,ai⟩:∃ ve,kf 2 y=ve:=⟨_,rfl⟩
 have HV:=iV ai;have af:=jT 2 y W6 S6.out.gl.gl (by omega);rw[ai] at af;clear ai;go_wp2_with fail;clear K t1;refine af.mono ?_;rintro e w7 ⟨rfl,ab⟩;have S7:=iV (S6.out.below ab);have K7:=iV (K6.out.below ab);have D7:=iV (D6.out.below ab);have K:=K7.out.cell 0 _ rfl;have t1:=K7.out.cell 1 _ rfl;clear ab af S6 K6 D6;by_cases F:ve=0
 ·have q1:(ve != 0)=false:=by simp[F]
  have EY:Hid (ov n l=some ((iZ.mk ⟨#[]⟩ T o y none 0 []).pl,jR (jR (jR l)),n+1)):=by
   show _=_;rw[EV.out,Cd _ _ _ _ _ _ _ rfl,Wf HB.out (by rw[<-aa.out,oQ,HV.out,F]),aa.out]
  have VZ:Hid (kf 2 y=0):=by show _=_;rw[HV.out,F]
  have au:Hid (jC (jR (jR l))≠[]):=fun e=>HB.out (.inl e);clear F;go_wp2_with fail;refine(qz a hi (n+1) (m-1-1) (jR (jR l)) _ S7.out.pr au.out).mono ?_;rintro e w8 ⟨rfl,hp,J,aq⟩;have S8:=iV (S7.out.step J hp);have K8:=iV (K7.out.stay S7.out (by have:=H.out;omega) J);have D8:=iV (D7.out.stay S7.out (by have:=H.out;have:=H3.out;omega) J);have M4:=iV aq;clear hp J aq S7 K7 D7 K t1;have K:=K8.out.cell 0 _ rfl;have d0:=D8.out.cell 0 _ rfl;have d1:=D8.out.cell 1 _ rfl;have d2:=D8.out.cell 2 _ rfl;have d3:=D8.out.cell 3 _ rfl;have d4:=D8.out.cell 4 _ rfl;have h2:=D8.out.free 2 (by simp);have h3:=D8.out.free 3 (by simp);have az:¬ I.heap.size=M.heap.size:=by have:=H3.out;omega
  have an:¬ M.heap.size=I.heap.size:=by have:=H3.out;omega
  go_wp2;go_region;clear K d0 d1 d2 d3 d4 h2 h3 az an;obtain⟨W9,ac⟩:∃ W9,((w8.setCell ⟨M.heap.size,2,none⟩ (.int .i64 o)).setCell ⟨M.heap.size,3,none⟩ (.string y)).drew=W9:=⟨_,rfl⟩
  have am:w.heap.size+2<=M.heap.size:=by have:=H3.out;have:=H.out;omega
  have S9:Hid (yr w W9 a hi (jR (jR (jR l))) (n+1) (m-1-1-1)):=by rw[<-ac];exact((S8.out.far am _).far am _).below ⟨rfl,rfl,rfl,lr,fun _ _=>rfl⟩
  have D9:Hid (jh W9 M.heap.size [.string ⟨#[]⟩,.string T,.int .i64 o,.string y,.slice none 0 0]):=by rw[<-ac];exact((D8.out.set 2 (by simp) (.int .i64 o)).set 3 (by simp) (.string y)).drew
  rw[ac];clear ac S8 K8 D8;have R:=S9.out.two.c;obtain⟨x0,x1,x2,x3,x4,y0,y1,y2,g0,g1,g2,g3,g4,k0,Y,k2⟩:=R;have d0:=D9.out.cell 0 _ rfl;have d1:=D9.out.cell 1 _ rfl;have d2:=D9.out.cell 2 _ rfl;have d3:=D9.out.cell 3 _ rfl;have d4:=D9.out.cell 4 _ rfl;go_wp2_with fail;refine bodyPost_ret (tF _ S9.out.two.c rfl rfl _ _ _ _ _ _ _ _ ⟨rfl,rfl,rfl,rfl,rfl,rfl,rfl,rfl⟩) rfl ?_;exact lu.yes (T:=.mk ⟨#[]⟩ T o y none 0 []) EY.out (lw S9.out.gr lr _ _ _ _ _ _ _ _) (.atom T o y al.out ay (fun h=>by have:=OP.out;omega) (fun _=>VZ.out)) (DU _ _ _ _ _ _) (by simp[iZ.ht,Hz];exact hd) (by simp[iZ.cnt]) (by have:=ak.out;omega) (Cf S9.out.pr S9.out.lt _ _ _ _ _ _ _ _) (by have:=M2.out;omega)
 ·have q1:(ve != 0)=true:=by simp[F]
  have EN:Hid (ov n l=none):=by show _=_;rw[EV.out];exact LH (by rw[<-aa.out,oQ,HV.out];exact F)
  have av:=Gb.mk F;clear F;go_wp2_with fail;refine(nN y p5 ve _).mono ?_;rintro e w2 ⟨rfl,V⟩;have D:=iV (S7.out.below V);have R:=D.out.two.c;obtain⟨x0,x1,x2,x3,x4,y0,y1,y2,g0,g1,g2,g3,g4,k0,Y,k2⟩:=R;clear V;unfold nC;go_wp2_with fail;refine bodyPost_ret (tF _ D.out.two.c rfl rfl _ _ _ _ _ _ _ _ ⟨rfl,rfl,rfl,rfl,rfl,rfl,rfl,rfl⟩) rfl ?_;exact lu.no EN.out (lw D.out.gr lr _ _ _ _ _ _ _ _) av.out
def DV (a:Nat)(w:World):Nat:=match w.cell? ⟨a,0,none⟩ with | some (.slice _ m _)=>m | _=>0
theorem PR.rest (h:PR w a hi l n m):DV a w=m:=by
 obtain⟨b,off,c,T,p,k,_,_⟩:=h.cells;unfold DV;rw[k.c0]
theorem PR.dec (h':PR w' a hi l' n' m')(h:PR w a hi l n m)(hk:m'<m):DV a w'<DV a w:=by rw[h'.rest,h.rest];exact hk
theorem yt (tmps:Array Value)(h:OV W s)(h2:tmps[4]?=some (.pointer (some ⟨s,0,none⟩)))(h3:tmps[5]?=some (.pointer (some ⟨s+1,0,none⟩)))(v0 v1 v2 v3 v4 u0 u1 u2:Value)
  (hv:v0.oneCell'=true/\v1.oneCell'=true/\v2.oneCell'=true/\v3.oneCell'=true/\v4.oneCell'=true/\u0.oneCell'=true/\u1.oneCell'=true/\u2.oneCell'=true):
  (results Tryz.f94 tmps).run Tryz.prog (sU W s v0 v1 v2 v3 v4 u0 u1 u2)=.ok (.tuple #[.agg #[v0,v1,v2,v3,v4],.agg #[u0,u1,u2]]) (sU W s v0 v1 v2 v3 v4 u0 u1 u2):=by
 obtain⟨F,H,J,I,y,z,D,K,_,_,_,_,_,_,_,_⟩:=h;simp(maxDischargeDepth:=10) [results,Tryz.results94,h2,h3,go_sem,F,H,J,I,y,z,D,K]
theorem Q4 (tmps:Array Value)(h:OV W s)(h2:tmps[4]?=some (.pointer (some ⟨s,0,none⟩)))(h3:tmps[5]?=some (.pointer (some ⟨s+1,0,none⟩)))(v0 v1 v2 v3 v4 u0 u1 u2:Value)
  (hv:v0.oneCell'=true/\v1.oneCell'=true/\v2.oneCell'=true/\v3.oneCell'=true/\v4.oneCell'=true/\u0.oneCell'=true/\u1.oneCell'=true/\u2.oneCell'=true):
  (results Tryz.f148 tmps).run Tryz.prog (sU W s v0 v1 v2 v3 v4 u0 u1 u2)=.ok (.tuple #[.agg #[v0,v1,v2,v3,v4],.agg #[u0,u1,u2]]) (sU W s v0 v1 v2 v3 v4 u0 u1 u2):=by
 obtain⟨F,H,J,I,y,z,D,K,_,_,_,_,_,_,_,_⟩:=h;simp(maxDischargeDepth:=10) [results,Tryz.results148,h2,h3,go_sem,F,H,J,I,y,z,D,K]
theorem vw:tE.val=.agg #[.string ⟨#[]⟩,.string ⟨#[]⟩,.int .i64 0,.string ⟨#[]⟩,.slice none 0 0]:=rfl
theorem Wh (tmps:Array Value)(h:OV W s)(h2:tmps[4]?=some (.pointer (some ⟨s,0,none⟩)))(h3:tmps[5]?=some (.pointer (some ⟨s+1,0,none⟩)))(v0 v1 v2 v3 v4 u0 u1 u2:Value)
  (hv:v0.oneCell'=true/\v1.oneCell'=true/\v2.oneCell'=true/\v3.oneCell'=true/\v4.oneCell'=true/\u0.oneCell'=true/\u1.oneCell'=true/\u2.oneCell'=true):
  (results Tryz.f148 tmps).run Tryz.prog (sU W s v0 v1 v2 v3 v4 u0 u1 u2).drew=.ok (.tuple #[.agg #[v0,v1,v2,v3,v4],.agg #[u0,u1,u2]]) (sU W s v0 v1 v2 v3 v4 u0 u1 u2).drew:=by
 obtain⟨F,H,J,I,y,z,D,K,_,_,_,_,_,_,_,_⟩:=h;simp(maxDischargeDepth:=10) [results,Tryz.results148,h2,h3,go_sem,F,H,J,I,y,z,D,K]
theorem OZ (h:w.grownBy W (some a)):w.grownBy W.drew (some a):=uF h ⟨rfl,rfl,rfl,lr,fun _ _=>rfl⟩
theorem yr.wide {row:Option Nat}(h:yr w W a hi l n m)(k:W.grownBy W' row)(hr:∀ j,row=some j->w.heap.size+2<=j):yr w W' a hi l n m:=by
 have H:=h.lt;refine⟨⟨h.two.b0.grownBy k (fun e=>by have:=hr _ e.symm;omega),h.two.b1.grownBy k (fun e=>by have:=hr _ e.symm;omega)⟩,h.pr.grown k (fun j e=>by have:=hr j e;omega),qw h.gr k (fun j e=>by have:=hr j e;omega),?_,H⟩;obtain⟨F,I,y,z⟩:=h.gl;have J:=h.pr.lt;refine⟨F,I,?_,z⟩;exact⟨k.os.trans y.os,k.tape.trans y.tape,k.output.trans y.output,Nat.le_trans y.size k.size,fun j D=>(k.block j (by have:=y.size;omega) (fun e=>by have:=hr j e.symm;omega)).trans (y.block j D)⟩
theorem lT.of_group {c:Nat}{ks:List iZ}{T:iZ}{mm:Nat}(hop:QX mm (bl OP))(hl:ks.length=mm)(h0:mm≠0)(hk:∀ k∈ks++[T],lT k):lT (.mk OP ⟨#[]⟩ 0 ⟨#[]⟩ A c (ks++[T])):=by
 refine .node OP A c _ (hop.word h0) ?_ hk;rw[List.length_append,List.length_singleton,hl,hop.close];simpa using h0
theorem Calls.int {args:Array Value}{post:Ending->World->Prop}{args':Array Value}(h:Calls Tryz.prog f args w post)(e:args=args'):Calls Tryz.prog f args' w post:=e ▸ h
theorem O0 (h:jw op n p=true):p≠[]:=by
 unfold jw at h;split at h
 ·exact(uh h).1
 ·rcases dO h with⟨y,z⟩ | ⟨_,_,z⟩
  ·rcases y with y | y<;>rw[z,y]<;>simp[nx,mW]
  ·rw[z];simp[AN]
def aaj (f:Nat):Prop:=∀ (a hi n m deep:Nat)(l:LU)(w:World),2*l.length+1<=f->zq a w->PR w a hi l n m->n<=64->deep<=32 ->
 Calls Tryz.prog 94 #[.pointer (some ⟨a,0,none⟩),.int .i64 deep] w (lu (nX f deep n l) a hi m deep n w)
def aak (f:Nat):Prop:=∀ (a hi n m deep:Nat)(l:LU)(w:World),2*l.length+2<=f->zq a w->PR w a hi l n m->n<=64->deep<32 ->
 Calls Tryz.prog 148 #[.pointer (some ⟨a,0,none⟩),.int .i64 ((deep:Int)+1)] w (lu (pL f (deep+1) n [] [] l) a hi m deep n w)
theorem DY (a b:List iZ):uv (a++b)=uv a++uv b:=by rw[qf,qf,qf,List.map_append]
theorem Cg {a:List iZ}:uv a=[]↔a=[]:=by rw[qf];simp
theorem DZ (a:List iZ):(uv a).length=a.length:=by rw[qf];simp
theorem aal {ks:List iZ}{d:Nat}(h:∀ k∈ks,k.ht+1<=d):Hz ks<=d:=by
 by_cases y:ks=[]
 ·subst y;simp[Hz]
 ·obtain⟨t,ht,z⟩:=JC y;have:=h t ht;omega
theorem aam (F:Nat)(IH:∀ f,f<F->aaj f):aak F:=by
 intro a hi n m y l w hF hG h hn hd;obtain⟨i0,aU,bc,aV,aZ⟩:=info_parts vr;obtain⟨f0,rfl⟩:∃ f0,F=f0+1:=⟨F-1,by omega⟩
 obtain⟨RR,az⟩:∃ RR,pL (f0+1) (y+1) n [] [] l=RR:=⟨_,rfl⟩
 rw[az];have E0:Hid (RR=pL (f0+1) (y+1) n (uv []) (bl ⟨#[]⟩) l):=az.symm;have F0:Hid (2*l.length+2<=f0+1):=hF;have aX:=iV IH;obtain⟨X,ay⟩:∃ X,(w.alloc (.cells #[.string ⟨#[]⟩,.string ⟨#[]⟩,.int .i64 0,.string ⟨#[]⟩,.slice none 0 0] 86)).alloc (.cells #[.string ⟨#[]⟩,.int .i64 0,.int .i64 0] 132)=X:=⟨_,rfl⟩
 have S1:Hid (yr w X a hi l n m):=by rw[<-ay];exact yr.start hG h _ _
 have hz:X.heap.size=w.heap.size+2:=by rw[<-ay];simp
 have HZ:=iV hz;clear az hF IH h hG hz;go_in;go_upto_region 1 with(fail)
 clear ay;go_wp2;go_loopw [] (fun wr=>∃ (lc:LU) (nc mc z cc f:Nat) (H:BA) (K:List iZ) (A:Option Addr),nc<=64/\z<=64/\Hid (Ki X wr a hi lc nc mc H K A z cc)/\Hid (yr w wr a hi lc nc mc)/\Hid (QX z (bl H))/\Hid (RR=pL (f+1) (y+1) nc (uv K) (bl H) lc)/\Hid (2*lc.length+2<=f+1)/\Hid (f<=f0)/\Hid (nc=n+lK K)/\Hid (∀ k∈K,k.ht+(y+1)<=32)/\Hid (mc<=m)) (fun wr=>DV a wr)
 case atStart=>exact⟨l,n,m,0,0,f0,⟨#[]⟩,[],none,hn,by omega,Ki.start S1.out.pr _,S1.out.below (bR.alloc lr _),QX.start,E0,F0,lr,by simp[Hid,lK],by simp[Hid],lr⟩
 case round=>
  clear S1 E0 F0;obtain⟨lc,nc,mc,z,cc,f,H,K,A,bd,bj,HS,HR,ab,HE,HF,au,HN,HH,HM⟩:=hrel;have ak:=Calls.int (aX.out f (by have:=au.out;omega) a hi nc mc (y+1) lc wr (by have:=HF.out;omega) HR.out.gl HR.out.pr bd (by omega)) (args':=#[.pointer (some ⟨a,0,none⟩),.int .i64 ((y:Int)+1)]) rfl;go_wp2_with fail;refine ak.mono ?_;rintro e O ⟨M,J⟩;clear ak;cases hr:nX f (y+1) nc lc with
  | none=>
   rw[hr] at J;obtain⟨ff,x,c,rfl,hc⟩:=J;have EN:Hid (RR=none):=HE.out.trans (Tt hr);have T2:=iV (HR.out.two.step M HR.out.alt);have G2:=iV (ja HR.out.gr M);have bi:(c != 0)=true:=by simp[hc]
   have HC:=Gb.mk hc;have aG:w.heap.size+1<O.heap.size:=T2.out.b1.sz;have ae:=iV aG;clear hr hc M;unfold nC;rw[vw];go_upto_region 3 with(fail)
   obtain⟨I,D⟩:∃ I,(O.alloc (.cells #[.string ⟨#[]⟩,.string ⟨#[]⟩,.int .i64 0,.string ⟨#[]⟩,.slice none 0 0] 86)).alloc (.cells #[.string ff,.int .i64 x,.int .i64 c] 132)=I:=⟨_,rfl⟩
   have B3:Hid (Below O.heap.size O I):=by rw[<-D];exact(bR.alloc lr _).alloc (by simp) _
   have K3:Hid (jh I (O.heap.size+1) [.string ff,.int .i64 x,.int .i64 c]):=by
    have:=jh.new (O.alloc (.cells #[.string ⟨#[]⟩,.string ⟨#[]⟩,.int .i64 0,.string ⟨#[]⟩,.slice none 0 0] 86)) [.string ff,.int .i64 x,.int .i64 c] 132;rw[<-D];show jh _ _ _;simpa using this
   have T3:=iV (T2.out.below B3.out);have G3:=iV (uF G2.out B3.out);rw[D];clear D aG T2 G2;have d0:=K3.out.cell 0 _ rfl;have d1:=K3.out.cell 1 _ rfl;have d2:=K3.out.cell 2 _ rfl;have tc:=T3.out.c;obtain⟨x0,x1,x2,x3,x4,y0,y1,y2,g0,g1,g2,g3,g4,k0,k1,k2⟩:=tc;have aL:¬ w.heap.size=O.heap.size+1:=by have:=ae.out;omega
   have aQ:¬ O.heap.size+1=w.heap.size:=by have:=ae.out;omega
   have aD:¬ w.heap.size=O.heap.size:=by have:=ae.out;omega
   have aR:¬ O.heap.size=w.heap.size:=by have:=ae.out;omega
   go_wp2;go_region;go_wp2_with fail;refine bodyPost_ret (Wh _ T3.out.c rfl rfl _ _ _ _ _ _ _ _ ⟨rfl,rfl,rfl,rfl,rfl,rfl,rfl,rfl⟩) rfl ?_;exact lu.no EN.out (OZ (lw G3.out lr _ _ _ _ _ _ _ _)) HC.out
  | some r=>
   obtain⟨t,l1,n1⟩:=r;rw[hr] at J;obtain⟨T,m1,rfl,hT,aJ,Y,aE,aM,ao,ax,aI⟩:=J;have S2:=iV (HS.out.step M ax);have R2:=iV (HR.out.step M ax);have TB:=iV ((Y.old (bad':=(Value.slice A z cc).ownBlock) (fun g e=>.inl (HS.out.row.lt g e).2)).base (lo':=X.heap.size+1) (by have:=HS.out.box.sz;omega));have HT:=iV hT;have ar:=iV hr;have ba:=iV aJ;have aH:=iV aE;have ag:Hid (n1=n+lK (K++[T])):=by show _=_;rw[mU,aM,HN.out];simp[lK];omega
   have aA:Hid (m1<mc):=aI;have aW:Hid (l1.length<lc.length):=(Q3 f).1 _ _ _ _ _ _ hr;have V:=iV ao;clear hr M hT aJ Y aE aM aI ax ao HS;unfold nC iZ.val;go_upto_region 3 with(fail)
   obtain⟨I,D⟩:∃ I,(O.alloc (.cells T.cells.toArray 86)).alloc (.cells #[.string ⟨#[]⟩,.int .i64 0,.int .i64 0] 132)=I:=⟨_,rfl⟩
   have B3:Hid (Below O.heap.size O I):=by rw[<-D];exact(bR.alloc lr _).alloc (by simp) _
   have aa:Hid (jh I O.heap.size T.cells):=by rw[<-D];exact(jh.new O T.cells _).alloc _
   have aC:Hid (jh I (O.heap.size+1) [.string ⟨#[]⟩,.int .i64 0,.int .i64 0]):=by
    have:=jh.new (O.alloc (.cells T.cells.toArray 86)) [.string ⟨#[]⟩,.int .i64 0,.int .i64 0] 132;rw[<-D];show jh _ _ _;simpa using this
   have S3:=iV (S2.out.below B3.out);have R3:=iV (R2.out.below B3.out);have aO:=iV ((TB.out.low B3.out).low ((Below.refl I.heap.size I).alloc lr (.cells T.cells.toArray 86)));have SA:=iV (S3.out.below ((Below.refl I.heap.size I).alloc lr (.cells T.cells.toArray 86)));have RA:=iV (R3.out.below ((Below.refl I.heap.size I).alloc lr (.cells T.cells.toArray 86)));have aS:(O.alloc (.cells #[.string T.op,.string T.nm,.int .i64 T.aop,.string T.ver,.slice T.ka T.kids.length T.kc] 86)).alloc (.cells #[.string ⟨#[]⟩,.int .i64 0,.int .i64 0] 132)=I:=D;rw[aS];clear D aS S2 R2 TB;have k0:=aa.out.cell 0 _ rfl;have k1:=aa.out.cell 1 _ rfl;have k2:=aa.out.cell 2 _ rfl;have k3:=aa.out.cell 3 _ rfl;have k4:=aa.out.cell 4 _ rfl;have q2:=aC.out.cell 2 _ rfl;have x4:=S3.out.box.cell 4 _ rfl;have be:z<=4294967280:=by omega
   go_upto_region 6 with(at_builtin;refine je _ rfl _ _ _ rfl (X.heap.size+1) 86 i0 _ 5 80 Tryz.underlying84 aU bc aV aZ rfl (by omega) (.slice A z cc) z _ rfl (SA.out.row) (I.heap.size+1) (some ⟨I.heap.size,0,none⟩) 1 1 T.cells rfl (by have:=wT I 86 (.string T.op) (.string T.nm) (.int .i64 T.aop) (.string T.ver) (.slice T.ka T.kids.length T.kc);simpa [iZ.cells] using this) (by simp[Value.oneCell',iZ.cells]) (by simp only[maxLen];omega) (by omega) (by simp;have:=S3.out.box.sz;omega) ?_;intro v1 w4 o1 g1 a1;obtain⟨A3,c3,rfl⟩:=jk o1;have bx:=iV (SA.out.box.grownBy g1 (fun e=>by have:=(SA.out.row.lt _ e.symm).1;omega));have y4:=bx.out.cell 4 _ rfl;have z4:=bx.out.free 4 (by simp);clear bx)
   clear k0 k1 k2 k3 k4 q2 x4 y4 z4;have aB:w.heap.size+2<=X.heap.size:=by have:=HZ.out;omega
   have S5:=iV (SA.out.grow aO.out ba.out o1 g1 a1);have R5:=iV ((RA.out.wide g1 (fun j e=>by have:=(SA.out.row.lt j e).1;omega)).far (j:=4) aB (.slice A3 (z+1) c3));have R:=iV aB;obtain⟨W5,aN⟩:∃ W5,w4.setCell ⟨X.heap.size,4,none⟩ (.slice A3 (z+1) c3)=W5:=⟨_,rfl⟩
   rw[aN] at S5 R5 |-;clear aN aB o1 g1 a1 SA RA aO S3 R3 aa aC B3;obtain⟨b5,bf,c5,P,q,k5,hP,-⟩:=R5.out.pr.cells;have HP:=iV hP;obtain⟨r0,r1,r2,r3,r4,r5,r6,r7,r8,r9,bg⟩:=k5;clear hP;go_upto_region 7 with(fail)
   clear r0 r1 r2 r3 r4 r5 r6 r7 r8 r9;obtain⟨W6,af⟩:∃ W6,W5.alloc (.cells #[.string P,.int .i64 q] 186)=W6:=⟨_,rfl⟩
   have B6:Hid (Below W5.heap.size W5 W6):=by rw[<-af];exact bR.alloc lr _
   have aF:Hid (jh W6 W5.heap.size [.string P,.int .i64 q]):=by rw[<-af];exact jh.new W5 [.string P,.int .i64 q] _
   have S6:=iV (S5.out.below B6.out);have R6:=iV (R5.out.below B6.out);have bh:Hid (w.heap.size+2<=W5.heap.size):=by have:=S5.out.box.sz;have:=R.out;show _<=_;omega
   rw[af];clear af S5 R5 B6;have p0:=aF.out.cell 0 _ rfl;have p1:=aF.out.cell 1 _ rfl;have u0:=S6.out.box.cell 0 _ rfl;have u4:=S6.out.box.cell 4 _ rfl;have hC:=AP H (z+1) W6;rw[ab.out.close] at hC;have hC:=Calls.int hC (args':=#[.string H,.int .i64 ((z:Int)+1)]) rfl;have U:=JG H (z+1) P W6 R6.out.gl.gl;have U:=Calls.int U (args':=#[.string H,.int .i64 ((z:Int)+1),.string P]) rfl;obtain⟨bb,aP⟩:∃ bb:Bool,decide (bl P=[41]/\z≠0)=bb:=⟨_,rfl⟩
   obtain⟨fb,aq⟩:∃ fb:Bool,jw (bl H) (z+1) (bl P)=fb:=⟨_,rfl⟩
   obtain⟨cb,ap⟩:∃ cb:Bool,decide (z≠0)=cb:=⟨_,rfl⟩
   rw[aq] at U;rw[ap] at hC;have ah:=iV aq;have ai:=iV aP;have aY:=iV ap;clear aP aq ap;go_cut [43] (fun v wx=>v=.bool bb/\W6=wx)
   case first=>
    clear U;by_cases N:bl P=[41]
    ·have E1:P.toList=[41]:=by rw[iY];exact N
     have E2:Hid (bb=cb):=by show _=_;rw[<-ai.out,<-aY.out];simp[N]
     clear N;go_wp2_with fail;refine hC.mono ?_;rintro e w' ⟨rfl,rfl⟩;go_wp2;go_meet;exact⟨by rw[E2.out],rfl⟩
    ·have E1:(P.toList==([41]:LU))=false:=by rw[iY,bF];exact N
     have E2:Hid (bb=false):=by show _=_;rw[<-ai.out];exact dF (fun h=>N h.1)
     clear N;go_wp2;go_meet;exact⟨by rw[E2.out],rfl⟩
   case rest=>
   obtain⟨rfl,rfl⟩:=hcut;clear hC;cases bb with
   | true=>
    obtain⟨aj,av⟩:=dO ai.out;have aT:=Gb.mk av;have am:Hid (jC l1=[41]):=by show _=_;rw[<-HP.out];exact aj
    have EY:Hid (RR=some (.node (bl H) (uv (K++[T])),jR l1,n1)):=by
     show _=_;rw[HE.out,DY,show uv [T]=[t] by simp[uv,HT.out]];exact Wb ar.out am.out (fun e=>av (by have h1:=S6.out.len;rw[List.length_append,List.length_singleton,Cg.1 e] at h1;simp at h1;omega))
    clear aj av U;go_wp2_with fail;refine(qz a hi n1 m1 l1 W6 R6.out.pr (by rw[am.out];simp)).mono ?_;rintro e w7 ⟨rfl,N,M,ad⟩;have S7:=iV (S6.out.step M N);have R7:=iV (R6.out.step M N);clear N M ad p0 p1 u0 u4;have u0:=S7.out.box.cell 0 _ rfl;have u1:=S7.out.box.cell 1 _ rfl;have u2:=S7.out.box.cell 2 _ rfl;have u3:=S7.out.box.cell 3 _ rfl;have u4:=S7.out.box.cell 4 _ rfl;have tc:=R7.out.two.c;obtain⟨x0,x1,x2,x3,x4,y0,y1,y2,g0,g1,g2,g3,g4,k0,k1,k2⟩:=tc;have aL:¬ w.heap.size=X.heap.size:=by have:=R.out;omega
    have aQ:¬ X.heap.size=w.heap.size:=by have:=R.out;omega
    have aD:¬ w.heap.size+1=X.heap.size:=by have:=R.out;omega
    have aR:¬ X.heap.size=w.heap.size+1:=by have:=R.out;omega
    go_wp2_with fail;refine bodyPost_ret (Q4 _ R7.out.two.c rfl rfl _ _ _ _ _ _ _ _ ⟨rfl,rfl,rfl,rfl,rfl,rfl,rfl,rfl⟩) rfl ?_;have ln:=S7.out.len;have al:=S7.out.row;rw[<-ln] at al;have Y:kD w7 (X.heap.size+1) none (.mk H ⟨#[]⟩ 0 ⟨#[]⟩ A3 c3 (K++[T])):=.mk _ al (fun g _=>by simp) (fun k hk=>(S7.out.kids k hk).any);rw[<-ln];refine lu.yes (T:=.mk H ⟨#[]⟩ 0 ⟨#[]⟩ A3 c3 (K++[T])) ?_ (lw R7.out.gr lr _ _ _ _ _ _ _ _) (lT.of_group ab.out (by rw[List.length_append,List.length_singleton] at ln;omega) aT.out S7.out.good) ((DT Y (by have:=R.out;omega) _ _ _ _ _ _ _ _).base (by have:=R.out;omega)) ?_ ?_ V.out (Cf R7.out.pr R7.out.lt _ _ _ _ _ _ _ _) (by have:=aA.out;have:=HM.out;omega)
    ·rw[EY.out,Ce _ _ _ _ _ _ _ (uh (ab.out.word aT.out)).1]
    ·rw[DC];have:Hz (K++[T])<=32-y:=aal (fun k hk=>by
      rcases List.mem_append.1 hk with hk | hk
      ·have:=HH.out k hk;omega
      ·obtain rfl:=List.mem_singleton.1 hk;have:=aH.out;omega)
     show Hz (K++[T])+y<=32;omega
    ·rw[ag.out,nY (by simp[iZ.kids])];rfl
   | false=>
   have HB:Hid (¬ (jC l1=[41]/\uv K≠[])):=by
    rintro⟨h1,h2⟩;refine of_decide_eq_false ai.out ⟨by rw[HP.out];exact h1,fun e=>h2 ?_⟩;have:=S6.out.len;rw[List.length_append,List.length_singleton] at this;rw[Cg];exact List.length_eq_zero_iff.1 (by omega)
   go_wp2_with fail;refine U.mono ?_;rintro e w' ⟨rfl,rfl⟩;clear U;cases fb with
   | false=>
    have EN:Hid (RR=none):=by
     show _=_;rw[HE.out];refine Wc ar.out HB.out ?_;have:=S6.out.len;rw[List.length_append,List.length_singleton] at this;rw[DZ,<-HP.out,show K.length+1=z+1 by omega];exact ah.out
    go_wp2_with fail;refine(nN P q 3 _).mono ?_;rintro e w7 ⟨rfl,hb⟩;have R7:=iV (R6.out.below hb);have tc:=R7.out.two.c;obtain⟨x0,x1,x2,x3,x4,y0,y1,y2,g0,g1,g2,g3,g4,k0,k1,k2⟩:=tc;clear hb;unfold nC;go_wp2_with fail;refine bodyPost_ret (Q4 _ R7.out.two.c rfl rfl _ _ _ _ _ _ _ _ ⟨rfl,rfl,rfl,rfl,rfl,rfl,rfl,rfl⟩) rfl ?_;exact lu.no EN.out (lw R7.out.gr lr _ _ _ _ _ _ _ _) (by decide)
   | true=>
    have ac:Hid (jC l1≠[]):=by have:=O0 ah.out;rwa [HP.out] at this
    have LN:Hid (K.length=z):=by have:=S6.out.len;rw[List.length_append,List.length_singleton] at this;show _=_;omega
    have F1:Hid (2*(jR l1).length+2<=f-1+1/\f=f-1+1):=by have h1:=HF.out;have h2:=aW.out;have h3:=rX ac.out;constructor<;>omega
    have EN:Hid (RR=pL (f-1+1) (y+1) n1 (uv (K++[T])) (if z=0 then bl P else bl H) (jR l1)):=by
     show _=_;rw[HE.out,Tu ar.out HB.out (by rw[DZ,LN.out,<-HP.out];exact ah.out),<-F1.out.2,DY,show uv [T]=[t] by simp[uv,HT.out],HP.out];congr 1;by_cases h0:z=0
     ·rw[if_pos h0,if_pos (by rw[Cg];exact List.length_eq_zero_iff.1 (by rw[LN.out,h0]))]
     ·rw[if_neg h0,if_neg (by rw[Cg];intro e;have:=LN.out;rw[e] at this;simp at this;omega)]
    have Z:=iV (ab.out.next ah.out);have aK:Hid (∀ k∈K++[T],k.ht+(y+1)<=32):=by
     intro k hk;rcases List.mem_append.1 hk with hk | hk
     ·exact HH.out k hk
     ·obtain rfl:=List.mem_singleton.1 hk;exact aH.out
    have an:z+1<=64:=by have h1:=pg (K++[T]);have h2:=ag.out;have h3:=V.out;rw[List.length_append,List.length_singleton,LN.out] at h1;omega
    by_cases h0:z=0
    ·have e0:bl H=[]:=ab.out.nil.2 h0;have E1:H.toList=[]:=by rw[iY];exact e0
     have E2:H.toList.isEmpty=true:=by rw[E1];rfl
     rw[if_pos h0] at EN Z;have z0:=S6.out.box.free 0 (by simp);have S7:=iV (S6.out.put P);have R7:=iV (R6.out.far (j:=0) R.out (.string P));clear e0 h0;go_wp2_with fail;refine(qz a hi n1 m1 l1 _ R7.out.pr ac.out).mono ?_;rintro e w7 ⟨rfl,N,M,ad⟩;have S8:=iV (S7.out.step M N);have R8:=iV (R7.out.step M N);have MD:Hid (m1-1<mc):=by have:=aA.out;show _<_;omega
     clear N M ad;go_wp2;go_roundw
     case rel=>exact⟨jR l1,n1,m1-1,z+1,c3,f-1,P,K++[T],A3,V.out,an,S8,R8,Z,EN,F1.out.1,by have:=au.out;show _<=_;omega,ag,aK,by have:=MD.out;have:=HM.out;show _<=_;omega⟩
     case measure=>exact R8.out.pr.dec HR.out.pr MD.out
    ·have e0:bl H≠[]:=fun e=>h0 (ab.out.nil.1 e);have E1:(H.toList==([]:LU))=false:=by rw[iY,bF];exact e0
     have E2:H.toList.isEmpty=false:=by rw[iY,List.isEmpty_eq_false_iff];exact e0
     have E3:¬ H.toList=[]:=by rw[iY];exact e0
     rw[if_neg h0] at EN Z;clear e0 h0;go_wp2_with fail;refine(qz a hi n1 m1 l1 _ R6.out.pr ac.out).mono ?_;rintro e w7 ⟨rfl,N,M,ad⟩;have S8:=iV (S6.out.step M N);have R8:=iV (R6.out.step M N);have MD:Hid (m1-1<mc):=by have:=aA.out;show _<_;omega
     clear N M ad;go_wp2;go_roundw
     case rel=>exact⟨jR l1,n1,m1-1,z+1,c3,f-1,H,K++[T],A3,V.out,an,S8,R8,Z,EN,F1.out.1,by have:=au.out;show _<=_;omega,ag,aK,by have:=MD.out;have:=HM.out;show _<=_;omega⟩
     case measure=>exact R8.out.pr.dec HR.out.pr MD.out
theorem LJ (h:jC l=[]\/jC l=[41]):nX (f+1) deep n l=none:=by unfold nX;rw[if_pos h]
theorem Tx (h:jC l=[40]):nX (f+1) 32 n l=none:=by unfold nX;rw[if_neg (by rw[h];simp),if_pos h];rfl
theorem Wi (h:jC l=[40])(hd:deep≠32):nX (f+1) deep n l=pL f (deep+1) n [] [] (jR l):=by rw[nX,if_neg (by rw[h];simp),if_pos h,if_neg hd]
theorem Ty (h0:¬ (jC l=[]\/jC l=[41]))(h:jC l≠[40]):nX (f+1) deep n l=ov n l:=by rw[nX,if_neg h0,if_neg h]
theorem Q9 {r:Option (oM×LU×Nat)}{m0:Nat}{e:Ending}(R:yr w W a hi l n m)(h:lu r a hi m deep n W e W')(hm:m<=m0)(hW:w.heap.size+2<=W.heap.size):
  ∃ (T:iZ) (f:BA) (x c:Int),e=.returned (.tuple #[T.val,nC f x c])/\Id W' w.heap.size /\
   lu r a hi m0 deep n w (.returned (.tuple #[T.val,nC f x c])) (sU W' w.heap.size (.string T.op) (.string T.nm) (.int .i64 T.aop) (.string T.ver) (.slice T.ka T.kids.length T.kc) (.string f) (.int .i64 x) (.int .i64 c)):=by
 obtain⟨H,z⟩:=h;have F:=R.two.step H R.alt;have D:=ja R.gr H;cases r with
 | none=>
  obtain⟨f,x,c,O,X⟩:=z;exact⟨tE,f,x,c,O,F,lu.no rfl (lw D lr _ _ _ _ _ _ _ _) X⟩
 | some y=>
  obtain⟨t,Z,n'⟩:=y;obtain⟨T,m',U,I,N,V,Y,J,K,M,a9⟩:=z;exact⟨T,⟨#[]⟩,0,0,U,F,lu.yes (by rw[I]) (lw D lr _ _ _ _ _ _ _ _) N ((DT V (by omega) _ _ _ _ _ _ _ _).base (by omega)) Y J K (Cf M R.lt _ _ _ _ _ _ _ _) (by omega)⟩
theorem aan (F:Nat)(IH:∀ f,f<F->aak f):aaj F:=by
 intro a hi n m y l w hF hG h hn hd;obtain⟨X,rfl⟩:∃ X,F=X+1:=⟨F-1,by omega⟩
 have HF:=iV hF;have ad:=iV IH;obtain⟨M,Y⟩:∃ M,(w.alloc (.cells #[.string ⟨#[]⟩,.string ⟨#[]⟩,.int .i64 0,.string ⟨#[]⟩,.slice none 0 0] 86)).alloc (.cells #[.string ⟨#[]⟩,.int .i64 0,.int .i64 0] 132)=M:=⟨_,rfl⟩
 have S0:Hid (yr w M a hi l n m):=by rw[<-Y];exact yr.start hG h _ _
 have z0:M.heap.size=w.heap.size+2:=by rw[<-Y];simp
 obtain⟨b,off,c,T,p,k,hT,O⟩:=S0.out.pr.cells;have HT:=iV hT;obtain⟨c0,c1,ag,f1,t0,t1,ne,m1,mc,cz,tz⟩:=k;clear h O hT;obtain⟨R,ab⟩:∃ R,M.alloc (.cells #[.string T,.int .i64 p] 186)=R:=⟨_,rfl⟩
 have B1:Hid (Below M.heap.size M R):=by rw[<-ab];exact bR.alloc lr _
 have V:Hid (yr w R a hi l n m):=S0.out.below B1.out;have K1:Hid (jh R M.heap.size [.string T,.int .i64 p]):=by rw[<-ab];exact jh.new M [.string T,.int .i64 p] _
 have ai:=iV z0;have ac:Hid (w.heap.size+2<=R.heap.size):=by have:=B1.out.size;show _<=_;omega
 clear S0 hG z0 hF IH B1;go_in;go_upto_region 2 with(fail)
 clear Y ab c0 c1 ag f1 t0 t1 ne m1 mc cz;have t0:=K1.out.cell 0 _ rfl;have t1:=K1.out.cell 1 _ rfl;by_cases K:bl T=[]
 ·have E1:T.toList=[]:=by rw[iY];exact K
  have E2:T.toList.isEmpty=true:=by rw[E1];rfl
  have EN:Hid (nX (X+1) y n l=none):=LJ (.inl (by rw[<-HT.out];exact K));clear K;go_wp2_with fail;refine(nN T p 3 _).mono ?_;rintro e w2 ⟨rfl,U⟩;have H:=iV (V.out.below U);have N:=H.out.two.c;obtain⟨x0,x1,x2,x3,x4,y0,y1,y2,g0,g1,g2,g3,g4,k0,k1,k2⟩:=N;clear U;unfold nC;go_wp2_with fail;refine bodyPost_ret (yt _ H.out.two.c rfl rfl _ _ _ _ _ _ _ _ ⟨rfl,rfl,rfl,rfl,rfl,rfl,rfl,rfl⟩) rfl ?_;exact lu.no EN.out (lw H.out.gr lr _ _ _ _ _ _ _ _) (by decide)
 have F1:(T.toList==([]:LU))=false:=by rw[iY,bF];exact K
 have F2:T.toList.isEmpty=false:=by rw[iY,List.isEmpty_eq_false_iff];exact K
 have F3:¬ T.toList=[]:=by rw[iY];exact K
 by_cases O:bl T=[41]
 ·have E1:T.toList=[41]:=by rw[iY];exact O
  have EN:Hid (nX (X+1) y n l=none):=LJ (.inr (by rw[<-HT.out];exact O));clear K O F1 F2 F3;go_wp2_with fail;refine(nN T p 3 _).mono ?_;rintro e w2 ⟨rfl,U⟩;have H:=iV (V.out.below U);have N:=H.out.two.c;obtain⟨x0,x1,x2,x3,x4,y0,y1,y2,g0,g1,g2,g3,g4,k0,k1,k2⟩:=N;clear U;unfold nC;go_wp2_with fail;refine bodyPost_ret (yt _ H.out.two.c rfl rfl _ _ _ _ _ _ _ _ ⟨rfl,rfl,rfl,rfl,rfl,rfl,rfl,rfl⟩) rfl ?_;exact lu.no EN.out (lw H.out.gr lr _ _ _ _ _ _ _ _) (by decide)
 by_cases Z:bl T=[40]
 ·have E1:T.toList=[40]:=by rw[iY];exact Z
  have HL:Hid (jC l=[40]):=by show _=_;rw[<-HT.out];exact Z
  clear K O Z F1 F2 F3;by_cases I:y=32
  ·have EN:Hid (nX (X+1) y n l=none):=by show _=_;rw[I];exact Tx HL.out
   have ae:((y:Int)==32)=true:=by simp[I]
   clear I;go_wp2_with fail;refine(nN T p 4 _).mono ?_;rintro e w2 ⟨rfl,U⟩;have H:=iV (V.out.below U);have N:=H.out.two.c;obtain⟨x0,x1,x2,x3,x4,y0,y1,y2,g0,g1,g2,g3,g4,k0,k1,k2⟩:=N;clear U;unfold nC;go_wp2_with fail;refine bodyPost_ret (yt _ H.out.two.c rfl rfl _ _ _ _ _ _ _ _ ⟨rfl,rfl,rfl,rfl,rfl,rfl,rfl,rfl⟩) rfl ?_;exact lu.no EN.out (lw H.out.gr lr _ _ _ _ _ _ _ _) (by decide)
  ·have EG:=iV (Wi (f:=X) (n:=n) HL.out I);have ae:((y:Int)==32)=false:=by simp;omega
   have HD:Hid (y<32):=by show _<_;omega
   clear I;go_wp2_with fail;refine(qz a hi n m l R V.out.pr (by rw[HL.out];simp)).mono ?_;rintro e w2 ⟨rfl,hp,hg,af⟩;have H:=iV (V.out.step hg hp);have ah:Hid (w.heap.size+2<=w2.heap.size):=by have:=hg.size;have:=ac.out;show _<=_;omega
   have hG:=ad.out X (by omega) a hi n (m-1) y (jR l) w2 (by have:=HF.out;have:=rX (l:=l) (by rw[HL.out];simp);omega) H.out.gl H.out.pr hn HD.out;clear hp hg af t0 t1;go_wp2_with fail;refine hG.mono ?_;rintro e w3 z;obtain⟨T',f,x,c',rfl,tw,D⟩:=Q9 H.out z (m0:=m) (by omega) ah.out;have J:=iV D;have aa:=iV tw;have N:=tw.c;obtain⟨x0,x1,x2,x3,x4,y0,y1,y2,g0,g1,g2,g3,g4,k0,k1,k2⟩:=N;clear z D hG tw;unfold nC iZ.val;go_wp2_with fail;refine bodyPost_ret (yt _ aa.out.c rfl rfl _ _ _ _ _ _ _ _ ⟨rfl,rfl,rfl,rfl,rfl,rfl,rfl,rfl⟩) rfl ?_;rw[EG.out];exact J.out
 ·have F4:(T.toList==([41]:LU))=false:=by rw[iY,bF];exact O
  have F5:(T.toList==([40]:LU))=false:=by rw[iY,bF];exact Z
  have EA:Hid (nX (X+1) y n l=ov n l):=by
   show _=_;rw[HT.out] at K O Z;exact Ty (by rintro(h | h)<;>contradiction) Z
  clear K O Z;have hA:=Tw a hi n m y l R V.out.gl V.out.pr hn hd;go_wp2_with fail;refine hA.mono ?_;rintro e w3 z;obtain⟨T',f,x,c',rfl,tw,D⟩:=Q9 V.out z lr ac.out;have J:=iV D;have aa:=iV tw;have N:=tw.c;obtain⟨x0,x1,x2,x3,x4,y0,y1,y2,g0,g1,g2,g3,g4,k0,k1,k2⟩:=N;clear z D hA tw t0 t1;unfold nC iZ.val;go_wp2_with fail;refine bodyPost_ret (yt _ aa.out.c rfl rfl _ _ _ _ _ _ _ _ ⟨rfl,rfl,rfl,rfl,rfl,rfl,rfl,rfl⟩) rfl ?_;rw[EA.out];exact J.out
theorem LM (F:Nat):aaj F/\aak F:=by
 induction F using Nat.strongRecOn with
 | _ F ih=>exact⟨aan F fun f y=>(ih f y).2,aam F fun f y=>(ih f y).1⟩
theorem Id.off (h:Id W s)(hg:W.grownBy W' (some a))(hs:s+1<a):Id W' s:=
 ⟨h.b0.grownBy hg (by simp;omega),h.b1.grownBy hg (by simp;omega)⟩
theorem wZ (h:Below w.heap.size w W)(hs:w.heap.size<=s)(v0 v1 v2 v3 v4 u0 u1 u2:Value):Below w.heap.size w (sU W s v0 v1 v2 v3 v4 u0 u1 u2):=by
 unfold sU
 repeat' refine jb ?_ (by omega) _
 exact h
theorem rZ {B:Nat}(h:Below B w W):Below B w W.drew:=⟨h.os,h.tape,h.output,h.size,h.block⟩
def oF (s:BA)(w:World)(e:Ending)(w':World):Prop:=
 ∃ (T:iZ) (f:BA) (x c:Int),e=.returned (.tuple #[T.val,nC f x c])/\Below w.heap.size w w'/\match lJ (bl s) with
  | none=>c≠0/\T=tE
  | some t=>c=0/\T.pl=t/\lT T/\kD w' w.heap.size none T/\T.ht<=32/\T.cnt<=64
theorem oF.no {s:BA}{f:BA}{c:Int}(hr:lJ (bl s)=none)(hb:Below w.heap.size w w')(hc:c≠0):oF s w (.returned (.tuple #[tE.val,nC f x c])) w':=⟨tE,f,x,c,rfl,hb,by rw[hr];exact⟨hc,rfl⟩⟩
theorem oF.yes {s:BA}{T:iZ}(hr:lJ (bl s)=some T.pl)(hb:Below w.heap.size w w')(h1:lT T)(h2:kD w' w.heap.size none T)(h3:T.ht<=32)(h4:T.cnt<=64):oF s w (.returned (.tuple #[T.val,nC ⟨#[]⟩ 0 0])) w':=⟨T,⟨#[]⟩,0,0,rfl,hb,by rw[hr];exact⟨rfl,rfl,h1,h2,h3,h4⟩⟩
theorem LP (h:nX (2*l.length+2) 0 0 l=none):lJ l=none:=by unfold lJ;rw[h]
theorem LQ {r:LU}{d:oM}(h:nX (2*l.length+2) 0 0 l=some (d,r,n))(hr:jC r≠[]):lJ l=none:=by unfold lJ;rw[h];simp only;rw[if_neg hr]
theorem LS {r:LU}{d:oM}(h:nX (2*l.length+2) 0 0 l=some (d,r,n))(hr:jC r=[]):lJ l=some d:=by unfold lJ;rw[h];simp only;rw[if_pos hr]
theorem Tz (tmps:Array Value)(h:OV W s)(h2:tmps[2]?=some (.pointer (some ⟨s,0,none⟩)))(h3:tmps[3]?=some (.pointer (some ⟨s+1,0,none⟩)))(v0 v1 v2 v3 v4 u0 u1 u2:Value)
  (hv:v0.oneCell'=true/\v1.oneCell'=true/\v2.oneCell'=true/\v3.oneCell'=true/\v4.oneCell'=true/\u0.oneCell'=true/\u1.oneCell'=true/\u2.oneCell'=true):
  (results Tryz.f59 tmps).run Tryz.prog (sU W s v0 v1 v2 v3 v4 u0 u1 u2)=.ok (.tuple #[.agg #[v0,v1,v2,v3,v4],.agg #[u0,u1,u2]]) (sU W s v0 v1 v2 v3 v4 u0 u1 u2):=by
 obtain⟨F,H,J,I,y,z,D,K,_,_,_,_,_,_,_,_⟩:=h;simp(maxDischargeDepth:=10) [results,Tryz.results59,h2,h3,go_sem,F,H,J,I,y,z,D,K]
theorem Ea (tmps:Array Value)(h:OV W s)(h2:tmps[2]?=some (.pointer (some ⟨s,0,none⟩)))(h3:tmps[3]?=some (.pointer (some ⟨s+1,0,none⟩)))(v0 v1 v2 v3 v4 u0 u1 u2:Value)
  (hv:v0.oneCell'=true/\v1.oneCell'=true/\v2.oneCell'=true/\v3.oneCell'=true/\v4.oneCell'=true/\u0.oneCell'=true/\u1.oneCell'=true/\u2.oneCell'=true):
  (results Tryz.f59 tmps).run Tryz.prog (sU W s v0 v1 v2 v3 v4 u0 u1 u2).drew=.ok (.tuple #[.agg #[v0,v1,v2,v3,v4],.agg #[u0,u1,u2]]) (sU W s v0 v1 v2 v3 v4 u0 u1 u2).drew:=by
 obtain⟨F,H,J,I,y,z,D,K,_,_,_,_,_,_,_,_⟩:=h;simp(maxDischargeDepth:=10) [results,Tryz.results59,h2,h3,go_sem,F,H,J,I,y,z,D,K]
theorem PR.start {c:Nat}{s:BA}{xs:List H8}(h:H9 W w1 xs A n c)(hx:xs.map (fun x=>bl x.text)=nZ (s.size+1) (bl s))(hz:∀ x∈xs,x.text.size<=s.size)(hs:s.size<=4294967280)(t:TypeId):PR (w1.alloc (.cells #[.slice A n c,.int .i64 0] t)) w1.heap.size (w1.heap.size+1) (bl s) 0 n:=by
 have K:0<n:=by
  rw[<-h.len,<-List.length_map (f:=fun x:H8=>bl x.text),hx];obtain⟨r,e,_⟩:=wX s.size (bl s);rw[e];simp
 rcases h.row.2 with⟨_,O⟩ | ⟨g,cap,F,z,M,y,H,D,N,J⟩
 ·omega
 ·injection z with hA _ hc;subst hc;have I:g<w1.heap.size:=by rw[Array.getElem?_eq_some_iff] at y;exact y.1
  refine⟨⟨g,0,c,s.size,xs,?_,?_,h.len,hx,by rw[iX];exact Nat.le_refl _,by omega,by omega,H,D,fun x hx=>Nat.le_trans (hz x hx) hs⟩,by omega,by simp⟩
  ·rw[<-hA];exact jh.new w1 [.slice A n c,.int .i64 0] t
  ·rw[<-hA];exact(jL h.row).below (bR.alloc lr _)
theorem Eb (s:BA)(w:World)(hG:Gl w)(hs:s.size<=1000000):Calls Tryz.prog 59 #[.string s] w (oF s w):=by
 have HG:=iV hG;obtain⟨Z,J⟩:∃ Z,(w.alloc (.cells #[.string ⟨#[]⟩,.string ⟨#[]⟩,.int .i64 0,.string ⟨#[]⟩,.slice none 0 0] 86)).alloc (.cells #[.string ⟨#[]⟩,.int .i64 0,.int .i64 0] 132)=Z:=⟨_,rfl⟩
 have T0:Hid (Id Z w.heap.size):=by rw[<-J];exact Id.new w _ _
 have B0:Hid (Below w.heap.size w Z):=by rw[<-J];exact(bR.alloc lr _).alloc (by simp) _
 have Z0:Hid (Z.heap.size=w.heap.size+2):=by rw[<-J];show _=_;simp
 clear hG;go_in;go_wp2_with fail;clear J;refine(OH s Z (by omega)).mono ?_;rintro e U ⟨A,n,c,xs,rfl,D,al,ab,aj⟩;obtain⟨Y,K⟩:∃ Y,U.alloc (.cells #[.slice A n c,.int .i64 0] 183)=Y:=⟨_,rfl⟩
 have P2:Hid (PR Y U.heap.size (U.heap.size+1) (bl s) 0 n):=by rw[<-K];exact PR.start D ab aj (by omega) _
 have B2:Hid (Below w.heap.size w Y):=by rw[<-K];exact(jc B0.out D.bel).alloc (by have:=D.bel.size;have:=Z0.out;omega) _
 have T2:Hid (Id Y w.heap.size):=by rw[<-K];exact(T0.out.below D.bel).below (bR.alloc lr _)
 have Z2:Hid (w.heap.size+2<=U.heap.size):=by have:=D.bel.size;have:=Z0.out;show _<=_;omega
 have G2:Hid (zq U.heap.size Y):=⟨w,HG.out,B2.out,by have:=Z2.out;omega⟩
 clear D al ab aj B0 T0;go_upto_region 2 with(fail)
 clear K;have hD:=(LM (2*(bl s).length+2)).1 U.heap.size (U.heap.size+1) 0 n 0 (bl s) Y (by omega) G2.out P2.out (by omega) (by omega);have hD:=Calls.int hD (args':=#[.pointer (some ⟨U.heap.size,0,none⟩),.int .i64 0]) rfl;go_wp2_with fail;refine hD.mono ?_;rintro e y ⟨hg,F⟩;clear hD;have T3:=iV (T2.out.off hg (by have:=Z2.out;omega));have B3:=iV (mP B2.out hg (by have:=Z2.out;omega));have N:Hid (w.heap.size+2<=y.heap.size):=by have:=T3.out.b1.sz;have:=hg.size;have:=P2.out.hz;have:=Z2.out;show _<=_;omega
 cases hr:nX (2*(bl s).length+2) 0 0 (bl s) with
 | none=>
  rw[hr] at F;obtain⟨ff,x,c,rfl,hc⟩:=F;have EN:=iV (LP hr);have ax:(c != 0)=true:=by simp[hc]
  have au:(c==0)=false:=by simp[hc]
  have HC:=Gb.mk hc;clear hr hc hg;unfold nC;rw[vw];go_upto_region 3 with(fail)
  obtain⟨I,z⟩:∃ I,(y.alloc (.cells #[.string ⟨#[]⟩,.string ⟨#[]⟩,.int .i64 0,.string ⟨#[]⟩,.slice none 0 0] 86)).alloc (.cells #[.string ff,.int .i64 x,.int .i64 c] 132)=I:=⟨_,rfl⟩
  have M:Hid (Below y.heap.size y I):=by rw[<-z];exact(bR.alloc lr _).alloc (by simp) _
  have R:Hid (jh I (y.heap.size+1) [.string ff,.int .i64 x,.int .i64 c]):=by
   have:=jh.new (y.alloc (.cells #[.string ⟨#[]⟩,.string ⟨#[]⟩,.int .i64 0,.string ⟨#[]⟩,.slice none 0 0] 86)) [.string ff,.int .i64 x,.int .i64 c] 132;rw[<-z];show jh _ _ _;simpa using this
  have T4:=iV (T3.out.below M.out);have B5:=iV (jc B3.out M.out);rw[z];clear z T3 B3 M;have d0:=R.out.cell 0 _ rfl;have d1:=R.out.cell 1 _ rfl;have d2:=R.out.cell 2 _ rfl;have tc:=T4.out.c;obtain⟨x0,x1,x2,x3,x4,y0,y1,y2,g0,g1,g2,g3,g4,k0,k1,k2⟩:=tc;have ad:¬ w.heap.size=y.heap.size+1:=by have:=N.out;omega
  have ag:¬ y.heap.size+1=w.heap.size:=by have:=N.out;omega
  have aa:¬ w.heap.size=y.heap.size:=by have:=N.out;omega
  have ah:¬ y.heap.size=w.heap.size:=by have:=N.out;omega
  go_wp2;go_region;go_wp2_with fail;refine bodyPost_ret (Ea _ T4.out.c rfl rfl _ _ _ _ _ _ _ _ ⟨rfl,rfl,rfl,rfl,rfl,rfl,rfl,rfl⟩) rfl ?_;exact oF.no EN.out (rZ (wZ B5.out lr _ _ _ _ _ _ _ _)) HC.out
 | some r=>
  obtain⟨t,l1,n1⟩:=r;rw[hr] at F;obtain⟨T,m1,rfl,hT,ac,X,ak,ao,ai,ae,an⟩:=F;have HT:=iV hT;have HR:=iV hr;have ap:=iV ac;have am:Hid (T.ht<=32):=by show _<=_;omega
  have aq:Hid (T.cnt<=64):=by show _<=_;omega
  obtain⟨I,z⟩:∃ I,(y.alloc (.cells T.cells.toArray 86)).alloc (.cells #[.string ⟨#[]⟩,.int .i64 0,.int .i64 0] 132)=I:=⟨_,rfl⟩
  have M:Hid (Below y.heap.size y I):=by rw[<-z];exact(bR.alloc lr _).alloc (by simp) _
  have D4:Hid (jh I y.heap.size T.cells):=by rw[<-z];exact(jh.new y T.cells _).alloc _
  have R:Hid (jh I (y.heap.size+1) [.string ⟨#[]⟩,.int .i64 0,.int .i64 0]):=by
   have:=jh.new (y.alloc (.cells T.cells.toArray 86)) [.string ⟨#[]⟩,.int .i64 0,.int .i64 0] 132;rw[<-z];show jh _ _ _;simpa using this
  have T4:=iV (T3.out.below M.out);have B5:=iV (jc B3.out M.out);have P4:=iV (ae.below M.out);have O4:=iV ((X.low M.out).base (lo':=w.heap.size+2) (by have:=P2.out.sz;have:=Z2.out;omega));clear hr hT ac X ak ao ai ae an hg;unfold nC iZ.val;go_upto_region 3 with(fail)
  have af:(y.alloc (.cells #[.string T.op,.string T.nm,.int .i64 T.aop,.string T.ver,.slice T.ka T.kids.length T.kc] 86)).alloc (.cells #[.string ⟨#[]⟩,.int .i64 0,.int .i64 0] 132)=I:=z;rw[af];clear z af T3 B3 M;have e0:=R.out.cell 0 _ rfl;have e1:=R.out.cell 1 _ rfl;have e2:=R.out.cell 2 _ rfl;have tc:=T4.out.c;obtain⟨x0,x1,x2,x3,x4,y0,y1,y2,g0,g1,g2,g3,g4,k0,k1,k2⟩:=tc;obtain⟨b5,ar,c5,P,q,k5,hP,-⟩:=P4.out.cells;have HP:=iV hP;obtain⟨r0,r1,r2,r3,r4,r5,r6,r7,r8,r9,av⟩:=k5;clear hP;by_cases O:bl P=[]
  ·have E1:P.toList=[]:=by rw[iY];exact O
   have E2:P.toList.isEmpty=true:=by rw[E1];rfl
   have EY:Hid (lJ (bl s)=some T.pl):=by show _=_;rw[HT.out];exact LS HR.out (by rw[<-HP.out];exact O)
   have d0:=D4.out.cell 0 _ rfl;have d1:=D4.out.cell 1 _ rfl;have d2:=D4.out.cell 2 _ rfl;have d3:=D4.out.cell 3 _ rfl;have d4:=D4.out.cell 4 _ rfl;clear O;go_wp2_with fail;refine bodyPost_ret (Tz _ T4.out.c rfl rfl _ _ _ _ _ _ _ _ ⟨rfl,rfl,rfl,rfl,rfl,rfl,rfl,rfl⟩) rfl ?_;exact oF.yes EY.out (wZ B5.out lr _ _ _ _ _ _ _ _) ap.out ((DT O4.out (by omega) _ _ _ _ _ _ _ _).base (by omega)) am.out aq.out
  ·have E1:(P.toList==([]:LU))=false:=by rw[iY,bF];exact O
   have E2:P.toList.isEmpty=false:=by rw[iY,List.isEmpty_eq_false_iff];exact O
   have E3:¬ P.toList=[]:=by rw[iY];exact O
   have EN:Hid (lJ (bl s)=none):=LQ HR.out (by rw[<-HP.out];exact O);clear O;go_wp2_with fail;refine(nN P q 3 _).mono ?_;rintro e w5 ⟨rfl,hb⟩;have B6:=iV (jc B5.out hb);have T6:=iV (T4.out.below hb);have V:=iV (R.out.below hb);clear hb e0 e1 e2 x0 x1 x2 x3 x4 y0 y1 y2 g0 g1 g2 g3 g4 k0 k1 k2 r0 r1 r2 r3 r4 r5 r6 r7 r8 r9;have e0:=V.out.cell 0 _ rfl;have e1:=V.out.cell 1 _ rfl;have e2:=V.out.cell 2 _ rfl;have h0:=V.out.free 0 (by simp);have h1:=V.out.free 1 (by simp);have h2:=V.out.free 2 (by simp);unfold nC;go_upto_region 5 with(fail)
   clear e0 e1 e2 h0 h1 h2;obtain⟨W7,H⟩:∃ W7,((w5.setCell ⟨y.heap.size+1,0,none⟩ (.string ⟨#[]⟩)).setCell ⟨y.heap.size+1,1,none⟩ (.int .i64 q)).setCell ⟨y.heap.size+1,2,none⟩ (.int .i64 3)=W7:=⟨_,rfl⟩
   have K7:Hid (jh W7 (y.heap.size+1) [.string ⟨#[]⟩,.int .i64 q,.int .i64 3]):=by rw[<-H];exact((V.out.set 0 (by simp) (.string ⟨#[]⟩)).set 1 (by simp) (.int .i64 q)).set 2 (by simp) (.int .i64 3)
   have ha:w.heap.size+1<y.heap.size+1:=by have:=N.out;omega
   have T7:Hid (Id W7 w.heap.size):=by rw[<-H];exact((T6.out.off (jO _) ha).off (jO _) ha).off (jO _) ha
   have B7:Hid (Below w.heap.size w W7):=by rw[<-H];exact jb (jb (jb B6.out (by omega) _) (by omega) _) (by omega) _
   rw[H];clear H T6 B6 V ha;have e0:=K7.out.cell 0 _ rfl;have e1:=K7.out.cell 1 _ rfl;have e2:=K7.out.cell 2 _ rfl;have tc:=T7.out.c;obtain⟨x0,x1,x2,x3,x4,y0,y1,y2,g0,g1,g2,g3,g4,k0,k1,k2⟩:=tc;have ad:¬ w.heap.size=y.heap.size+1:=by have:=N.out;omega
   have ag:¬ y.heap.size+1=w.heap.size:=by have:=N.out;omega
   have aa:¬ w.heap.size=y.heap.size:=by have:=N.out;omega
   have ah:¬ y.heap.size=w.heap.size:=by have:=N.out;omega
   go_wp2;go_region;go_wp2_with fail;refine bodyPost_ret (Ea _ T7.out.c rfl rfl _ _ _ _ _ _ _ _ ⟨rfl,rfl,rfl,rfl,rfl,rfl,rfl,rfl⟩) rfl ?_;exact oF.no EN.out (rZ (wZ B7.out lr _ _ _ _ _ _ _ _)) (by decide)
end
end Go.Proofs.YtkmjcombhjombaaGreatDoor
