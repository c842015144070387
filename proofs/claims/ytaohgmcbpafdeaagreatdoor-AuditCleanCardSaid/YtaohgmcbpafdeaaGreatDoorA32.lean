/- A part of the proof. -/
import Derived.Test.YtaohgmcbpafdeaaGreatDoorA27
import Derived.Test.YtaohgmcbpafdeaaGreatDoorA30
set_option maxRecDepth 100000
set_option maxHeartbeats 20000000
set_option linter.unusedVariables false
set_option linter.unusedSimpArgs false
namespace Go.Proofs.YtaohgmcbpafdeaaGreatDoor
section
open Go.RowKit
def bf (op:LU)(n:Nat):Bool:=decide ((op=eY∨op=mG)∧2≤n∨(op=mH∨op=be)∧(n=2∨n=3)∨(op=dR∨op=bu)∧n=2)
def Ec (n:Nat)(op:LU):Prop:=(n=0∧op=[])∨(1≤n∧((op=eY∨op=mG)∨(op=mH∨op=be)∧n≤2∨(op=dR∨op=bu)∧n=1))
theorem Ec.start:Ec 0 []:=.inl ⟨rfl,rfl⟩
theorem iY {p:LU}:eI p=true↔p=eY∨p=mG∨p=mH∨p=be∨p=dR∨p=bu:=by unfold eI;simp
theorem Ec.close {n:Nat}{op:LU}(h:Ec n op):bf op (n+1)=decide (n≠0):=by
 unfold bf
 rcases h with⟨rfl,rfl⟩ | ⟨h1,h2⟩
 ·simp[eY,mG,mH,be,dR,bu]
 ·rw[dT (show n≠0 by omega)]
  apply dT
  rcases h2 with h2 | ⟨h2,h3⟩ | ⟨h2,h3⟩
  ·exact .inl ⟨h2,by omega⟩
  ·exact .inr (.inl ⟨h2,by omega⟩)
  ·exact .inr (.inr ⟨h2,by omega⟩)
theorem Ec.next {n:Nat}{op p:LU}(h:Ec n op)(hf:aG op (n+1) p=true):Ec (n+1) (if n=0 then p else op):=by
 unfold aG at hf
 rcases h with⟨rfl,rfl⟩ | ⟨h1,h2⟩
 ·rw[if_pos rfl] at hf
  rw[if_pos rfl]
  refine .inr ⟨by omega,?_⟩
  rcases iY.1 hf with h | h | h | h | h | h
  ·exact .inl (.inl h)
  ·exact .inl (.inr h)
  ·exact .inr (.inl ⟨.inl h,by omega⟩)
  ·exact .inr (.inl ⟨.inr h,by omega⟩)
  ·exact .inr (.inr ⟨.inl h,rfl⟩)
  ·exact .inr (.inr ⟨.inr h,rfl⟩)
 ·rw[if_neg (by omega)] at hf
  rw[if_neg (by omega)]
  refine .inr ⟨by omega,?_⟩
  rcases dO hf with⟨h,_⟩ | ⟨h,h3,_⟩
  ·exact .inl h
  ·exact .inr (.inl ⟨h,by omega⟩)
theorem Ec.word {n:Nat}{op:LU}(h:Ec n op)(hn:n≠0):eI op=true:=by
 rcases h with⟨rfl,rfl⟩ | ⟨_,h2⟩
 ·exact absurd rfl hn
 ·rw[iY]
  rcases h2 with(h2 | h2) | ⟨h2 | h2,_⟩ | ⟨h2 | h2,_⟩
  ·exact .inl h2
  ·exact .inr (.inl h2)
  ·exact .inr (.inr (.inl h2))
  ·exact .inr (.inr (.inr (.inl h2)))
  ·exact .inr (.inr (.inr (.inr (.inl h2))))
  ·exact .inr (.inr (.inr (.inr (.inr h2))))
theorem Ec.nil {n:Nat}{op:LU}(h:Ec n op):op=[]↔n=0:=by
 constructor
 ·intro e;subst e
  by_cases hn:n=0
  ·exact hn
  ·have:=h.word hn;rw[iY] at this;revert this;simp[eY,mG,mH,be,dR,bu]
 ·rintro rfl
  rcases h with⟨_,h⟩ | ⟨h,_⟩
  ·exact h
  ·omega
theorem kp {op:LU}{n:Nat}(h:bf op n=true):2≤n:=by
 rcases dO h with⟨_,h⟩ | ⟨_,h⟩ | ⟨_,h⟩<;>omega
theorem kq {op:LU}(h:eI op=true):op≠[]∧op.length≤7:=by
 rcases iY.1 h with h | h | h | h | h | h<;>rw[h]<;>simp[eY,mG,mH,be,dR,bu]
inductive fy:aj→Prop
 | atom (nm:BA) (aop:Nat) (ver:BA) (hn:dq (bl nm)=true) (ho:aop≤5) (hv0:aop=0→ver.size=0) (hv:0<aop→cG 2 ver=0):fy (.mk ⟨#[]⟩ nm aop ver none 0 [])
 | node (op:BA) (ka:OA) (kc:Nat) (kids:List aj) (ho:eI (bl op)=true) (hc:bf (bl op) kids.length=true) (hk:∀ k∈kids,fy k):fy (.mk op ⟨#[]⟩ 0 ⟨#[]⟩ ka kc kids)
theorem tj {s:BA}{f:Int}(h:cG f s=0):s.size≤64:=by
 unfold cG at h
 split at h
 ·simp at h
 ·split at h
  ·simp at h
  ·omega
theorem lT {s:BA}(h:dq (bl s)=true):1≤s.size∧s.size≤64:=by
 by_cases hz:1≤s.size∧s.size≤64
 ·exact hz
 ·rw[mX s hz] at h;cases h
theorem Ed:∀ n:Nat,(OZ n).length≤2
 | 0=>by decide
 | 1=>by decide
 | 2=>by decide
 | 3=>by decide
 | 4=>by decide
 | 5=>by decide
 | _+6=>by simp[OZ]
theorem LS {op:LU}{i:Nat}(h:op.length≤7):(LJ op i).length≤7:=by
 unfold LJ
 split
 ·decide
 ·exact h
theorem pt (op:LU)(ho:op.length≤7):∀ (ks:List aj)(i:Nat),(∀ k∈ks,(dS k.pl).length+60≤200*k.cnt)→(fQ op i (kE ks)).length+51*ks.length≤200*cE ks
 | [],i,_=>by simp[kE,fQ,cE]
 | k::r,i,h=>by
  have h1:=h k (by simp)
  have h2:=pt op ho r (i+1) (fun x hx=>h x (by simp[hx]))
  have h3:=LS (i:=i) ho
  simp only[kE,fQ,cE,List.length_append,List.length_cons]
  split
  ·simp;omega
  ·simp;omega
theorem rg (op nm:BA)(aop:Nat)(ver:BA)(ka:OA)(kc:Nat)(kids:List aj)(h:bl op=[]):(aj.mk op nm aop ver ka kc kids).pl=.atom (bl nm) aop (bl ver):=by simp[aj.pl,h]
theorem xF (op nm:BA)(aop:Nat)(ver:BA)(ka:OA)(kc:Nat)(kids:List aj)(h:bl op≠[]):(aj.mk op nm aop ver ka kc kids).pl=.node (bl op) (kE kids):=by simp[aj.pl,h]
theorem fy.text {t:aj}(h:fy t):(dS t.pl).length+60≤200*t.cnt:=by
 induction h with
 | atom nm aop ver hn ho hv0 hv=>
  rw[rg _ _ _ _ _ _ _ rfl]
  have h1:=lT hn
  have h2:ver.size≤64:=by
   by_cases h:aop=0
   ·have:=hv0 h;omega
   ·exact tj (hv (by omega))
  have h3:=Ed aop
  simp only[dS,aj.cnt]
  split
  ·rw[ag];omega
  ·simp[ag];omega
 | node op ka kc kids ho hc hk ih=>
  rw[xF _ _ _ _ _ _ _ (kq ho).1]
  have h1:=pt (bl op) (kq ho).2 kids 0 ih
  have h2:=kp hc
  rw[eZ (t:=.mk op ⟨#[]⟩ 0 ⟨#[]⟩ ka kc kids) (by simp[aj.kids];intro h;rw[h] at h2;simp at h2)]
  simp only[dS,aj.kids,List.length_append,List.length_cons,List.length_nil]
  omega
def lp:aj:=.mk ⟨#[]⟩ ⟨#[]⟩ 0 ⟨#[]⟩ none 0 []
theorem Js (l:LU):(aU l).length≤l.length:=by
 have:=dC l;unfold aU;rw[List.length_drop];omega
theorem iZ {l:LU}(h:aR l≠[]):(aU l).length<l.length:=Jp (fun e=>h (pq.2 e))
theorem nf (f:Nat)(l:LU):∃ r,dU (f+1) l=aR l::r∧(aR l≠[]→r=dU f (aU l)):=by
 by_cases h:aH l=[]
 ·refine⟨[],?_,fun h2=>absurd (pq.2 h) h2⟩
  show(if aH l=[] then [[]] else aR l::dU f (aU l))=_
  rw[if_pos h,pq.2 h]
 ·refine⟨dU f (aU l),?_,fun _=>rfl⟩
  show(if aH l=[] then [[]] else aR l::dU f (aU l))=_
  rw[if_neg h]
end
section
open Go.RowKit Go.Deep
def aj.sl (t:aj):Value:=.slice t.ka t.kids.length t.kc
inductive dL:aj→Prop
 | mk (t:aj) (leaf:t.kids=[]→t.op.size=0) (node:t.kids≠[]→t.op.size≠0) (kids:∀ k∈t.kids,dL k):dL t
theorem dL.leaf {t:aj}(h:dL t):t.kids=[]→t.op.size=0:=by cases h;assumption
theorem dL.node {t:aj}(h:dL t):t.kids≠[]→t.op.size≠0:=by cases h;assumption
theorem dL.kids {t:aj}(h:dL t):∀ k∈t.kids,dL k:=by cases h;assumption
theorem fy.shape {t:aj}(h:fy t):dL t:=by
 induction h with
 | atom nm aop ver _ _ _ _=>exact .mk _ (fun _=>rfl) (fun h=>absurd rfl h) (by simp[aj.kids])
 | node op ka kc kids ho hc hk ih=>
  refine .mk _ (fun e=>?_) (fun _ e=>?_) ih
  ·have h2:=kp hc
   simp only[aj.kids] at e
   rw[e] at h2;simp at h2
  ·simp only[aj.op] at e
   exact(kq ho).1 (bG op e)
theorem dL.zero:dL lp:=.mk _ (fun _=>rfl) (fun h=>absurd rfl h) (by simp[lp,aj.kids])
def zH (w:World)(row:Option Nat):Prop:=∀ g cs fr,row=some g→w.heap[g]?≠some (.cells cs 179 fr)
theorem zH.map {w:World}{b:Nat}{ms:List (aj×Nat)}(h:er w b ms):zH w (some b):=by
 intro g cs fr e h2
 injection e with e;subst e
 obtain⟨es,clock,hb,_⟩:=h.ex
 rw[hb] at h2;simp at h2
theorem zH.row {w:World}{lo n:Nat}{v:Value}{xs:LV}(h:w.ownsRow lo 177 1 v n xs):zH w v.ownBlock:=by
 intro g cs fr e h2
 rcases h.2 with⟨hv,_⟩ | ⟨g',cap,cur,hv,_,hg,_⟩
 ·rw[hv] at e;simp[Value.ownBlock] at e
 ·rw[hv] at e;simp[Value.ownBlock] at e
  subst e
  rw[hg] at h2
  injection h2 with h2
  injection h2 with _ h2 _
  exact absurd h2 (by decide)
theorem bB.tame {w w':World}{lo:Nat}{row:Option Nat}{t:aj}(h:bB w lo none t)(ht:zH w row)(hg:w.grownBy w' row):bB w' lo none t:=by
 induction h with
 | mk t r ne _ ih=>
  refine .mk t (r.kept hg ?_) (fun g _=>by simp) ih
  rcases r.2 with⟨hv,_⟩ | ⟨g',cap,cur,hv,_,hg',_⟩
  ·left;rw[hv];rfl
  ·right;rw[hv];intro e
   exact ht g' _ _ e.symm hg'
theorem er.tame {w w':World}{b:Nat}{row:Option Nat}{ms:List (aj×Nat)}(h:er w b ms)(ht:zH w row)(hne:some b≠row)(hg:w.grownBy w' row):er w' b ms:=by
 obtain⟨es,clock,h1,h2⟩:=h.ex
 exact⟨⟨es,clock,(hg.block b h.lt hne).trans h1,h2⟩,fun p hp=>⟨(h.own p hp).1.tame ht hg,(h.own p hp).2⟩⟩
theorem er.ne_row {w:World}{b lo n size:Nat}{e:TypeId}{ms:List (aj×Nat)}{v:Value}{xs:LV}(h:er w b ms)(r:w.ownsRow lo e size v n xs):some b≠v.ownBlock:=by
 intro he
 obtain⟨es,clock,h1,h2⟩:=h.ex
 rcases r.2 with⟨hv,_⟩ | ⟨g',cap,cur,hv,_,hg,_⟩
 ·rw[hv] at he;simp[Value.ownBlock] at he
 ·rw[hv] at he;simp[Value.ownBlock] at he
  subst he;rw[h1] at hg;simp at hg
structure Ee (lo:Nat) (wr:World) (A:OA) (n c:Nat) (xs:List aj):Prop where
 len:xs.length=n
 row:wr.ownsRow lo 177 1 (.slice A n c) n (xs.map aj.sl)
 own:∀ x∈xs,bB wr 0 none x
 ne:∀ x∈xs,x.kids≠[]
 shape:∀ x∈xs,∀ k∈x.kids,dL k
theorem Ee.nil (lo:Nat)(wr:World):Ee lo wr none 0 0 []:=⟨rfl,World.ownsRow_nil _ _ _ _,by simp,by simp,by simp⟩
theorem Ee.tame {lo:Nat}{wr w':World}{A:OA}{n c:Nat}{xs:List aj}{row:Option Nat}(h:Ee lo wr A n c xs)(ht:zH wr row)(hne:(Value.slice A n c).ownBlock=none∨(Value.slice A n c).ownBlock≠row)(hg:wr.grownBy w' row):Ee lo w' A n c xs:=
 ⟨h.len,h.row.kept hg hne,fun x hx=>(h.own x hx).tame ht hg,h.ne,h.shape⟩
theorem Ee.below {lo:Nat}{wr w':World}{A:OA}{n c:Nat}{xs:List aj}(h:Ee lo wr A n c xs)(hb:Below wr.heap.size wr w'):Ee lo w' A n c xs:=
 ⟨h.len,cR h.row hb,fun x hx=>(h.own x hx).low hb,h.ne,h.shape⟩
theorem Ee.map {lo:Nat}{wr w':World}{A:OA}{n c b:Nat}{xs:List aj}{ms:List (aj×Nat)}(h:Ee lo wr A n c xs)(hm:er wr b ms)(hg:wr.grownBy w' (some b)):Ee lo w' A n c xs:=
 h.tame (.map hm) (.inr (hm.ne_row h.row).symm) hg
def ja (L ys:List aj)(ms:List (aj×Nat)):Prop:=∀ t∈L,t.kids≠[]→(∃ y∈ys,y.kids=t.kids)∧∃ q∈ms,q.1.kids=t.kids
theorem ja.nil (ys:List aj)(ms:List (aj×Nat)):ja [] ys ms:=by intro t ht;simp at ht
theorem ja.leaf {L ys:List aj}{ms:List (aj×Nat)}{t:aj}(h:ja L ys ms)(ht:t.kids=[]):ja (L++[t]) ys ms:=by
 intro x hx hk
 rcases List.mem_append.1 hx with hx | hx
 ·exact h x hx hk
 ·obtain rfl:=List.mem_singleton.1 hx;exact absurd ht hk
structure Cx (s0:Nat) (wr:World) (mb hb h k:Nat) (A:OA) (n c:Nat) (xs:List aj) (B:OA) (m cB:Nat) (ys:List aj) (ms hs:List (aj×Nat)):Prop where
 lev:Ee 0 wr A n c xs
 old:∀ g,(Value.slice A n c).ownBlock=some g→g<s0
 new:Ee s0 wr B m cB ys
 met:er wr mb ms
 here:er wr hb hs
 hne:mb≠hb
 xh:∀ x∈xs,x.ht+k≤h+1
 yh:∀ y∈ys,y.ht+k≤h
 hsy:∀ p∈hs,(∃ y∈ys,y.kids=p.1.kids)∧∃ q∈ms,q.1.kids=p.1.kids
 mok:∀ i,i<k→∃ p∈ms,p.1.ht+i=h
 top:∃ x∈xs,x.ht+k=h+1
theorem Cx.below {s0:Nat}{wr w':World}{mb hb h k:Nat}{A:OA}{n c:Nat}{xs:List aj}{B:OA}{m cB:Nat}{ys:List aj}{ms hs:List (aj×Nat)}(d:Cx s0 wr mb hb h k A n c xs B m cB ys ms hs)(b:Below wr.heap.size wr w'):Cx s0 w' mb hb h k A n c xs B m cB ys ms hs:=
 ⟨d.lev.below b,d.old,d.new.below b,d.met.below b,d.here.below b,d.hne,d.xh,d.yh,d.hsy,d.mok,d.top⟩
theorem Cx.hit {s0:Nat}{wr:World}{mb hb h k:Nat}{A:OA}{n c:Nat}{xs:List aj}{B:OA}{m cB:Nat}{ys:List aj}{ms hs:List (aj×Nat)}(d:Cx s0 wr mb hb h k A n c xs B m cB ys ms hs){L:List aj}(hl:ja L ys ms){t:aj}{p:aj×Nat}(hp:p∈hs)(e:p.1.kids=t.kids):ja (L++[t]) ys ms:=by
 intro x hx hk
 rcases List.mem_append.1 hx with hx | hx
 ·exact hl x hx hk
 ·obtain rfl:=List.mem_singleton.1 hx
  rw[←e];exact d.hsy p hp
theorem Cx.grow {s0:Nat}{wr w1 w2 wb w3:World}{mb hb h k v:Nat}{A:OA}{n c:Nat}{xs:List aj}{B B1:OA}{m cB c1:Nat}{ys:List aj}{ms hs ms' hs':List (aj×Nat)}{t:aj}
  (d:Cx s0 wr mb hb h k A n c xs B m cB ys ms hs)(ht:bB wr 0 none t)(tk:t.kids≠[])(tsh:∀ x∈t.kids,dL x)(tht:t.ht+k≤h)
  (k1:er w1 hb hs')(g1:wr.grownBy w1 (some hb))(f1:∀ p∈hs',(∃ q∈hs,q=p)∨p.1.kids=t.kids∧p.2=v)
  (k2:er w2 mb ms')(g2:w1.grownBy w2 (some mb))(f2:∀ p∈ms,∃ q∈ms',q.1=p.1)(f3:∃ q∈ms',q.1.kids=t.kids)
  (b:Below w2.heap.size w2 wb)(o:w3.ownsRow s0 177 1 (.slice B1 (m+1) c1) (m+1) (ys.map aj.sl++[t.sl]))(g3:wb.grownBy w3 (Value.slice B m cB).ownBlock):
  Cx s0 w3 mb hb h k A n c xs B1 (m+1) c1 (ys++[t]) ms' hs':=by
 have m1:er w1 mb ms:=d.met.tame (.map d.here) (fun e=>d.hne (by injection e)) g1
 have t1:=ht.tame (.map d.here) g1
 have l1:=d.lev.map d.here g1
 have n1:=d.new.map d.here g1
 have t2:=t1.tame (.map m1) g2
 have l2:=l1.map m1 g2
 have n2:=n1.map m1 g2
 have h2:er w2 hb hs':=k1.tame (.map m1) (fun e=>d.hne (by injection e with e;exact e.symm)) g2
 have tb:=t2.low b
 have lb:=l2.below b
 have nb:=n2.below b
 have hb':=h2.below b
 have mb':=k2.below b
 have tm:zH wb (Value.slice B m cB).ownBlock:=.row nb.row
 refine⟨lb.tame tm ?_ g3,d.old,⟨by simp[nb.len],by simpa using o,fun x hx=>?_,fun x hx=>?_,fun x hx=>?_⟩,mb'.tame tm (mb'.ne_row nb.row) g3,hb'.tame tm (hb'.ne_row nb.row) g3,d.hne,d.xh,fun y hy=>?_,fun p hp=>?_,fun i hi=>?_,d.top⟩
 ·cases e:(Value.slice A n c).ownBlock with
  | none=>exact .inl rfl
  | some g=>
   right;intro e2
   have:=d.old g e
   have:=(nb.row.lt g e2.symm).1
   omega
 ·rcases List.mem_append.1 hx with hx | hx
  ·exact(nb.own x hx).tame tm g3
  ·obtain rfl:=List.mem_singleton.1 hx;exact tb.tame tm g3
 ·rcases List.mem_append.1 hx with hx | hx
  ·exact nb.ne x hx
  ·obtain rfl:=List.mem_singleton.1 hx;exact tk
 ·rcases List.mem_append.1 hx with hx | hx
  ·exact nb.shape x hx
  ·obtain rfl:=List.mem_singleton.1 hx;exact tsh
 ·rcases List.mem_append.1 hy with hy | hy
  ·exact d.yh y hy
  ·obtain rfl:=List.mem_singleton.1 hy;exact tht
 ·rcases f1 p hp with⟨q,hq,rfl⟩ | ⟨e,_⟩
  ·obtain⟨⟨y,hy,ey⟩,q2,hq2,eq2⟩:=d.hsy q hq
   obtain⟨q3,hq3,e3⟩:=f2 q2 hq2
   exact⟨⟨y,by simp[hy],ey⟩,q3,hq3,by rw[e3,eq2]⟩
  ·obtain⟨q3,hq3,e3⟩:=f3
   exact⟨⟨t,by simp,e.symm⟩,q3,hq3,by rw[e3,e]⟩
 ·obtain⟨p,hp,e⟩:=d.mok i hi
  obtain⟨q,hq,e2⟩:=f2 p hp
  exact⟨q,hq,by rw[e2];exact e⟩
theorem ja.grow {L ys:List aj}{ms ms':List (aj×Nat)}{t:aj}(h:ja L ys ms)(f2:∀ p∈ms,∃ q∈ms',q.1=p.1)(f3:∃ q∈ms',q.1.kids=t.kids):ja (L++[t]) (ys++[t]) ms':=by
 intro x hx hk
 rcases List.mem_append.1 hx with hx | hx
 ·obtain⟨⟨y,hy,ey⟩,q,hq,eq⟩:=h x hx hk
  obtain⟨q3,hq3,e3⟩:=f2 q hq
  exact⟨⟨y,by simp[hy],ey⟩,q3,hq3,by rw[e3,eq]⟩
 ·obtain rfl:=List.mem_singleton.1 hx
  exact⟨⟨x,by simp,rfl⟩,f3⟩
theorem tp {a b:aj}(h:a.kids=b.kids):a.ht=b.ht:=by rw[vX,vX,h]
theorem Cx.next {s0:Nat}{wr:World}{mb hb h k:Nat}{A:OA}{n c:Nat}{xs:List aj}{B:OA}{m cB:Nat}{ys:List aj}{ms hs:List (aj×Nat)}(d:Cx s0 wr mb hb h k A n c xs B m cB ys ms hs)(hs:ja (xs.flatMap aj.kids) ys ms)(hm:0<m):
  k<ms.length∧k+1≤h∧(∀ i,i<k+1→∃ p∈ms,p.1.ht+i=h)∧∃ y∈ys,y.ht+(k+1)=h+1:=by
 obtain⟨y,hy⟩:∃ y,y∈ys:=by
  have:=d.new.len
  cases ys with
  | nil=>simp at this;omega
  | cons a r=>exact⟨a,by simp⟩
 have y1:=d.yh y hy
 have y2:y.ht≠0:=fun e=>d.new.ne y hy (Ea.1 e)
 obtain⟨x,hx,xe⟩:=d.top
 obtain⟨t,ht,te⟩:=xD (d.lev.ne x hx)
 rw[←vX] at te
 have tk:t.kids≠[]:=fun e=>by have:=Ea.2 e;omega
 obtain⟨⟨z,hz,ez⟩,q,hq,eq⟩:=hs t (List.mem_flatMap.2 ⟨x,hx,ht⟩) tk
 have ezh:=tp ez
 have eqh:=tp eq
 have mk:∀ i,i<k+1→∃ p∈ms,p.1.ht+i=h:=by
  intro i hi
  rcases(by omega:i<k∨i=k) with hi | rfl
  ·exact d.mok i hi
  ·exact⟨q,hq,by omega⟩
 refine⟨?_,by omega,mk,z,hz,by omega⟩
 refine qe (fun t=>h-t.ht) (k+1) ms (fun i hi=>?_)
 obtain⟨p,hp,e⟩:=mk i hi
 exact⟨p,hp,by show h-p.1.ht=i;omega⟩
theorem OC (k:Nat)(hk:k<6)(x:Nat→BA)(w:World):(Instr.index 260 (.agg #[.string (x 0),.string (x 1),.string (x 2),.string (x 3),.string (x 4),.string (x 5)]) (.int .i64 k)).run Tryz.prog w=.ok (.string (x k)) w:=by
 rcases(by omega:k=0∨k=1∨k=2∨k=3∨k=4∨k=5) with rfl | rfl | rfl | rfl | rfl | rfl<;>kernel_rfl
def Gt (x:Nat→BA)(l:LU):Nat→Prop:=fun k=>∀ j,j<k→bl (x j)≠l
theorem tq (k:Nat)(hk:k<6):bl (nI k)=OZ k:=by
 rcases(by omega:k=0∨k=1∨k=2∨k=3∨k=4∨k=5) with rfl | rfl | rfl | rfl | rfl | rfl<;>rfl
theorem Gu {l:LU}{k:Nat}(hk:k<6)(h:bl (nI k)=l):Cu l=k:=by
 subst h
 rcases(by omega:k=0∨k=1∨k=2∨k=3∨k=4∨k=5) with rfl | rfl | rfl | rfl | rfl | rfl<;>rfl
theorem Jv {l:LU}(h:Gt nI l 6):Cu l=0:=by
 have h1:=h 1 (by omega);have h2:=h 2 (by omega);have h3:=h 3 (by omega);have h4:=h 4 (by omega);have h5:=h 5 (by omega)
 rw[tq _ (by omega)] at h1 h2 h3 h4 h5
 unfold Cu
 rw[if_neg (fun e=>h1 e.symm),if_neg (fun e=>h2 e.symm),if_neg (fun e=>h3 e.symm),if_neg (fun e=>h4 e.symm),if_neg (fun e=>h5 e.symm)]
theorem wi {x:Nat→BA}{l:LU}{k:Nat}(h:Gt x l k)(hn:bl (x k)≠l):Gt x l (k+1):=by
 intro j hj
 rcases(by omega:j<k∨j=k) with h1 | rfl
 ·exact h j h1
 ·exact hn
theorem zI {l:LU}{k:Nat}(hk:k<6)(h:bl (vo k)=l):eI l=true:=by
 subst h
 rcases(by omega:k=0∨k=1∨k=2∨k=3∨k=4∨k=5) with rfl | rfl | rfl | rfl | rfl | rfl<;>rfl
theorem CD {l:LU}(h:Gt vo l 6):eI l=false:=by
 have h0:=h 0 (by omega);have h1:=h 1 (by omega);have h2:=h 2 (by omega);have h3:=h 3 (by omega);have h4:=h 4 (by omega);have h5:=h 5 (by omega)
 apply dF
 rintro(e | e | e | e | e | e)
 ·exact h0 e.symm
 ·exact h1 e.symm
 ·exact h2 e.symm
 ·exact h3 e.symm
 ·exact h4 e.symm
 ·exact h5 e.symm
theorem uZ (s:BA)(w:World)(hG:Gl w):
  Calls Tryz.prog 227 #[.string s] w fun e w'=>e=.returned (.int .i64 (Cu (bl s)))∧w=w':=by
 have g0:=hG.rsg 0 (by omega)
 have g1:=hG.rsg 1 (by omega)
 have g2:=hG.rsg 2 (by omega)
 have g3:=hG.rsg 3 (by omega)
 have g4:=hG.rsg 4 (by omega)
 have g5:=hG.rsg 5 (by omega)
 clear hG
 go_enter Tryz.func227,Tryz.ntmps227
 go_wp2_with fail
 clear g0 g1 g2 g3 g4 g5
 go_loop [6] (fun i=>∃ k:Nat,k≤6∧i=.int .i64 k∧Hid (Gt nI (bl s) k)) (fun i=>6-(intOf i).toNat)
 case atStart=>exact⟨0,by omega,rfl,fun j hj=>by omega⟩
 case round=>
  obtain⟨k,hk,rfl,HR⟩:=hrel
  by_cases hlt:k<6
  ·have hix:=fun W=>OC k hlt nI W
   cases hq:((nI k).toList==s.toList) with
   | true=>
    have E:Hid (Cu (bl s)=k):=Gu hlt (by rw[dx] at hq;rw[dO hq])
    go_wp2_with fail
    go_ret
    exact⟨ap (by rw[E.out]),rfl⟩
   | false=>
    have HN:=ae (wi HR.out (k:=k) (by rw[dx] at hq;exact fun e=>of_decide_eq_false hq (dY e)))
    go_wp2_with fail
    go_round
    case rel=>exact⟨k+1,by omega,by go_num,HN⟩
    case measure=>simp[intOf];omega
  ·have E:Hid (Cu (bl s)=0):=Jv (by have:=HR.out;rwa [show k=6 by omega] at this)
   go_wp2_with fail
   go_ret
   exact⟨ap (by rw[E.out];rfl),rfl⟩
theorem tv (s:BA)(w:World)(hG:Gl w):
  Calls Tryz.prog 229 #[.string s] w fun e w'=>e=.returned (.bool (eI (bl s)))∧w=w':=by
 have g0:=hG.rwd 0 (by omega)
 have g1:=hG.rwd 1 (by omega)
 have g2:=hG.rwd 2 (by omega)
 have g3:=hG.rwd 3 (by omega)
 have g4:=hG.rwd 4 (by omega)
 have g5:=hG.rwd 5 (by omega)
 clear hG
 go_enter Tryz.func229,Tryz.ntmps229
 go_wp2_with fail
 clear g0 g1 g2 g3 g4 g5
 go_loop [6] (fun i=>∃ k:Nat,k≤6∧i=.int .i64 k∧Hid (Gt vo (bl s) k)) (fun i=>6-(intOf i).toNat)
 case atStart=>exact⟨0,by omega,rfl,fun j hj=>by omega⟩
 case round=>
  obtain⟨k,hk,rfl,HR⟩:=hrel
  by_cases hlt:k<6
  ·have hix:=fun W=>OC k hlt vo W
   cases hq:((vo k).toList==s.toList) with
   | true=>
    have E:Hid (eI (bl s)=true):=zI hlt (by rw[dx] at hq;rw[dO hq])
    go_wp2_with fail
    go_ret
    exact⟨af E.out.symm,rfl⟩
   | false=>
    have HN:=ae (wi HR.out (k:=k) (by rw[dx] at hq;exact fun e=>of_decide_eq_false hq (dY e)))
    go_wp2_with fail
    go_round
    case rel=>exact⟨k+1,by omega,by go_num,HN⟩
    case measure=>simp[intOf];omega
  ·have E:Hid (eI (bl s)=false):=CD (by have:=HR.out;rwa [show k=6 by omega] at this)
   go_wp2_with fail
   go_ret
   exact⟨af E.out.symm,rfl⟩
theorem CG (n:Nat):bf eY n=decide (2≤n):=by simp[bf,eY,mG,mH,be,dR,bu]
theorem Gv (n:Nat):bf mG n=decide (2≤n):=by simp[bf,eY,mG,mH,be,dR,bu]
theorem Gw (n:Nat):bf mH n=(decide (n=2)||decide (n=3)):=by simp[bf,eY,mG,mH,be,dR,bu]
theorem vd (n:Nat):bf be n=(decide (n=2)||decide (n=3)):=by simp[bf,eY,mG,mH,be,dR,bu]
theorem zJ (n:Nat):bf dR n=decide (n=2):=by simp[bf,eY,mG,mH,be,dR,bu]
theorem tx (n:Nat):bf bu n=decide (n=2):=by simp[bf,eY,mG,mH,be,dR,bu]
theorem zK {op:LU}(h:eI op=false)(n:Nat):bf op n=false:=by
 unfold bf;apply dF
 have h1:=of_decide_eq_false h
 rintro(⟨h2 | h2,_⟩ | ⟨h2 | h2,_⟩ | ⟨h2 | h2,_⟩)<;>exact h1 (by simp[h2])
theorem tA (op:LU):op=eY∨op=mG∨op=mH∨op=be∨op=dR∨op=bu∨eI op=false:=by
 cases h:eI op with
 | false=>simp
 | true=>rcases iY.1 h with h | h | h | h | h | h<;>simp[h]
theorem zL {s:BA}(h:eI (bl s)=false):(s.toList == [97,110,100])=false∧(s.toList == [111,114])=false∧(s.toList == [105,102])=false∧(s.toList == [117,110,108,101,115,115])=false∧(s.toList == [119,105,116,104])=false∧(s.toList == [119,105,116,104,111,117,116])=false:=by
 rw[ah]
 have h1:=of_decide_eq_false h
 refine⟨?_,?_,?_,?_,?_,?_⟩<;>rw[bF]<;>intro e<;>apply h1<;>rw[e]<;>simp[eY,mG,mH,be,dR,bu]
theorem qG (op:BA)(n:Nat)(w:World)(h:bl op=eY):
  Calls Tryz.prog 225 #[.string op,.int .i64 n] w fun e w'=>e=.returned (.bool (bf (bl op) n))∧w=w':=by
 have E:op.toList=[97,110,100]:=by rw[ah];exact h
 have R:Hid (bf (bl op) n=decide (2≤n)):=by show _=_;rw[h];exact CG n
 clear h
 go_enter Tryz.func225,Tryz.ntmps225
 go_wp2_with fail
 go_ret
 exact⟨af (by rw[R.out,bI];simp;omega),rfl⟩
theorem tB (op:BA)(n:Nat)(w:World)(h:bl op=mG):
  Calls Tryz.prog 225 #[.string op,.int .i64 n] w fun e w'=>e=.returned (.bool (bf (bl op) n))∧w=w':=by
 have E:op.toList=[111,114]:=by rw[ah];exact h
 have R:Hid (bf (bl op) n=decide (2≤n)):=by show _=_;rw[h];exact Gv n
 clear h
 go_enter Tryz.func225,Tryz.ntmps225
 go_wp2_with fail
 go_ret
 exact⟨af (by rw[R.out,bI];simp;omega),rfl⟩
theorem tC (op:BA)(n:Nat)(w:World)(h:bl op=mH):
  Calls Tryz.prog 225 #[.string op,.int .i64 n] w fun e w'=>e=.returned (.bool (bf (bl op) n))∧w=w':=by
 have E:op.toList=[105,102]:=by rw[ah];exact h
 have R:Hid (bf (bl op) n=(decide (n=2)||decide (n=3))):=by show _=_;rw[h];exact Gw n
 clear h
 by_cases n2:n=2
 ·subst n2
  go_enter Tryz.func225,Tryz.ntmps225
  go_wp2_with fail
  go_ret
  exact⟨af (by rw[R.out];rfl),rfl⟩
 ·have q2:((n:Int)==2)=false:=by simp;omega
  by_cases n3:n=3
  ·subst n3
   go_enter Tryz.func225,Tryz.ntmps225
   go_wp2_with fail
   go_ret
   exact⟨af (by rw[R.out];rfl),rfl⟩
  ·have q3:((n:Int)==3)=false:=by simp;omega
   go_enter Tryz.func225,Tryz.ntmps225
   go_wp2_with fail
   go_ret
   exact⟨af (by rw[R.out];simp[n2,n3]),rfl⟩
theorem ng (op:BA)(n:Nat)(w:World)(h:bl op=be):
  Calls Tryz.prog 225 #[.string op,.int .i64 n] w fun e w'=>e=.returned (.bool (bf (bl op) n))∧w=w':=by
 have E:op.toList=[117,110,108,101,115,115]:=by rw[ah];exact h
 have R:Hid (bf (bl op) n=(decide (n=2)||decide (n=3))):=by show _=_;rw[h];exact vd n
 clear h
 by_cases n2:n=2
 ·subst n2
  go_enter Tryz.func225,Tryz.ntmps225
  go_wp2_with fail
  go_ret
  exact⟨af (by rw[R.out];rfl),rfl⟩
 ·have q2:((n:Int)==2)=false:=by simp;omega
  by_cases n3:n=3
  ·subst n3
   go_enter Tryz.func225,Tryz.ntmps225
   go_wp2_with fail
   go_ret
   exact⟨af (by rw[R.out];rfl),rfl⟩
  ·have q3:((n:Int)==3)=false:=by simp;omega
   go_enter Tryz.func225,Tryz.ntmps225
   go_wp2_with fail
   go_ret
   exact⟨af (by rw[R.out];simp[n2,n3]),rfl⟩
theorem pw (op:BA)(n:Nat)(w:World)(h:bl op=dR):
  Calls Tryz.prog 225 #[.string op,.int .i64 n] w fun e w'=>e=.returned (.bool (bf (bl op) n))∧w=w':=by
 have E:op.toList=[119,105,116,104]:=by rw[ah];exact h
 have R:Hid (bf (bl op) n=decide (n=2)):=by show _=_;rw[h];exact zJ n
 clear h
 go_enter Tryz.func225,Tryz.ntmps225
 go_wp2_with fail
 go_ret
 exact⟨af (by rw[R.out];rw[bI];simp;omega),rfl⟩
theorem mf (op:BA)(n:Nat)(w:World)(h:bl op=bu):
  Calls Tryz.prog 225 #[.string op,.int .i64 n] w fun e w'=>e=.returned (.bool (bf (bl op) n))∧w=w':=by
 have E:op.toList=[119,105,116,104,111,117,116]:=by rw[ah];exact h
 have R:Hid (bf (bl op) n=decide (n=2)):=by show _=_;rw[h];exact tx n
 clear h
 go_enter Tryz.func225,Tryz.ntmps225
 go_wp2_with fail
 go_ret
 exact⟨af (by rw[R.out];rw[bI];simp;omega),rfl⟩
theorem qf (op:BA)(n:Nat)(w:World):
  Calls Tryz.prog 225 #[.string op,.int .i64 n] w fun e w'=>e=.returned (.bool (bf (bl op) n))∧w=w':=by
 rcases tA (bl op) with h | h | h | h | h | h | h
 ·exact qG op n w h
 ·exact tB op n w h
 ·exact tC op n w h
 ·exact ng op n w h
 ·exact pw op n w h
 ·exact mf op n w h
 ·obtain⟨h1,h2,h3,h4,h5,h6⟩:=zL h
  have R:Hid (bf (bl op) n=false):=zK h n
  clear h
  go_enter Tryz.func225,Tryz.ntmps225
  go_wp2_with fail
  go_ret
  exact⟨af R.out.symm,rfl⟩
theorem zM {n:Nat}(hn:n≠1)(p:LU):aG eY n p=decide (p=eY):=by
 unfold aG;rw[if_neg hn]
 by_cases hp:p=eY
 ·subst hp;simp[eY,mG,mH,be,dR,bu]
 ·rw[dF hp];apply dF;rintro(⟨_,h⟩ | ⟨h,_⟩)
  ·exact hp h
  ·revert h;simp[eY,mG,mH,be]
theorem CH {n:Nat}(hn:n≠1)(p:LU):aG mG n p=decide (p=mG):=by
 unfold aG;rw[if_neg hn]
 by_cases hp:p=mG
 ·subst hp;simp[eY,mG,mH,be,dR,bu]
 ·rw[dF hp];apply dF;rintro(⟨_,h⟩ | ⟨h,_⟩)
  ·exact hp h
  ·revert h;simp[eY,mG,mH,be]
theorem CI {n:Nat}(hn:n≠1)(p:LU):aG mH n p=(decide (n=2)&&decide (p=qd)):=by
 unfold aG;rw[if_neg hn]
 simp[eY,mG,mH,be,dR,bu]
theorem tD {n:Nat}(hn:n≠1)(p:LU):aG be n p=(decide (n=2)&&decide (p=qd)):=by
 unfold aG;rw[if_neg hn]
 simp[eY,mG,mH,be,dR,bu]
theorem xG {n:Nat}(hn:n≠1)(p:LU):aG dR n p=false:=by
 unfold aG;rw[if_neg hn]
 simp[eY,mG,mH,be,dR,bu]
theorem qH {n:Nat}(hn:n≠1)(p:LU):aG bu n p=false:=by
 unfold aG;rw[if_neg hn]
 simp[eY,mG,mH,be,dR,bu]
theorem xH {op:LU}(h:eI op=false){n:Nat}(hn:n≠1)(p:LU):aG op n p=false:=by
 unfold aG;rw[if_neg hn];apply dF
 have h1:=of_decide_eq_false h
 rintro(⟨h2 | h2,_⟩ | ⟨h2 | h2,_⟩)<;>exact h1 (by simp[h2])
theorem px (op:BA)(n:Nat)(p:BA)(w:World)(h:bl op=eY)(hn:n≠1):
  Calls Tryz.prog 226 #[.string op,.int .i64 n,.string p] w fun e w'=>e=.returned (.bool (aG (bl op) n (bl p)))∧w=w':=by
 have E:op.toList=[97,110,100]:=by rw[ah];exact h
 have R:Hid (aG (bl op) n (bl p)=decide (bl p=eY)):=by show _=_;rw[h];exact zM hn _
 have q1:((n:Int)==1)=false:=by simp;omega
 clear h
 cases hp:(p.toList==([97,110,100]:LU)) with
 | true=>
  have F:p.toList=[97,110,100]:=by simpa using hp
  have R2:Hid (aG (bl op) n (bl p)=true):=by show _=_;rw[R.out,←ah,F];rfl
  clear hp
  go_enter Tryz.func226,Tryz.ntmps226
  go_wp2_with fail
  go_ret
  exact⟨af R2.out.symm,rfl⟩
 | false=>
  have R2:Hid (aG (bl op) n (bl p)=false):=by show _=_;rw[R.out,←ah];exact dF (by rw[bF] at hp;exact hp)
  go_enter Tryz.func226,Tryz.ntmps226
  go_wp2_with fail
  go_ret
  exact⟨af R2.out.symm,rfl⟩
theorem qI (op:BA)(n:Nat)(p:BA)(w:World)(h:bl op=mG)(hn:n≠1):
  Calls Tryz.prog 226 #[.string op,.int .i64 n,.string p] w fun e w'=>e=.returned (.bool (aG (bl op) n (bl p)))∧w=w':=by
 have E:op.toList=[111,114]:=by rw[ah];exact h
 have R:Hid (aG (bl op) n (bl p)=decide (bl p=mG)):=by show _=_;rw[h];exact CH hn _
 have q1:((n:Int)==1)=false:=by simp;omega
 clear h
 cases hp:(p.toList==([111,114]:LU)) with
 | true=>
  have F:p.toList=[111,114]:=by simpa using hp
  have R2:Hid (aG (bl op) n (bl p)=true):=by show _=_;rw[R.out,←ah,F];rfl
  clear hp
  go_enter Tryz.func226,Tryz.ntmps226
  go_wp2_with fail
  go_ret
  exact⟨af R2.out.symm,rfl⟩
 | false=>
  have R2:Hid (aG (bl op) n (bl p)=false):=by show _=_;rw[R.out,←ah];exact dF (by rw[bF] at hp;exact hp)
  go_enter Tryz.func226,Tryz.ntmps226
  go_wp2_with fail
  go_ret
  exact⟨af R2.out.symm,rfl⟩
theorem qJ (op:BA)(n:Nat)(p:BA)(w:World)(h:bl op=mH)(hn:n≠1):
  Calls Tryz.prog 226 #[.string op,.int .i64 n,.string p] w fun e w'=>e=.returned (.bool (aG (bl op) n (bl p)))∧w=w':=by
 have E:op.toList=[105,102]:=by rw[ah];exact h
 have R:Hid (aG (bl op) n (bl p)=(decide (n=2)&&decide (bl p=qd))):=by show _=_;rw[h];exact CI hn _
 have q1:((n:Int)==1)=false:=by simp;omega
 clear h
 by_cases n2:n=2
 ·subst n2
  cases hp:(p.toList==([101,108,115,101]:LU)) with
  | true=>
   have F:p.toList=[101,108,115,101]:=by simpa using hp
   have R2:Hid (aG (bl op) 2 (bl p)=true):=by show _=_;rw[R.out,←ah,F];rfl
   clear hp
   go_enter Tryz.func226,Tryz.ntmps226
   go_wp2_with fail
   go_ret
   exact⟨af R2.out.symm,rfl⟩
  | false=>
   have R2:Hid (aG (bl op) 2 (bl p)=false):=by show _=_;rw[R.out,←ah];simp only[decide_true,Bool.true_and];exact dF (by rw[bF] at hp;exact hp)
   go_enter Tryz.func226,Tryz.ntmps226
   go_wp2_with fail
   go_ret
   exact⟨af R2.out.symm,rfl⟩
 ·have q2:((n:Int)==2)=false:=by simp;omega
  have R2:Hid (aG (bl op) n (bl p)=false):=by show _=_;rw[R.out,dF n2];rfl
  go_enter Tryz.func226,Tryz.ntmps226
  go_wp2_with fail
  go_ret
  exact⟨af R2.out.symm,rfl⟩
theorem mg (op:BA)(n:Nat)(p:BA)(w:World)(h:bl op=be)(hn:n≠1):
  Calls Tryz.prog 226 #[.string op,.int .i64 n,.string p] w fun e w'=>e=.returned (.bool (aG (bl op) n (bl p)))∧w=w':=by
 have E:op.toList=[117,110,108,101,115,115]:=by rw[ah];exact h
 have R:Hid (aG (bl op) n (bl p)=(decide (n=2)&&decide (bl p=qd))):=by show _=_;rw[h];exact tD hn _
 have q1:((n:Int)==1)=false:=by simp;omega
 clear h
 by_cases n2:n=2
 ·subst n2
  cases hp:(p.toList==([101,108,115,101]:LU)) with
  | true=>
   have F:p.toList=[101,108,115,101]:=by simpa using hp
   have R2:Hid (aG (bl op) 2 (bl p)=true):=by show _=_;rw[R.out,←ah,F];rfl
   clear hp
   go_enter Tryz.func226,Tryz.ntmps226
   go_wp2_with fail
   go_ret
   exact⟨af R2.out.symm,rfl⟩
  | false=>
   have R2:Hid (aG (bl op) 2 (bl p)=false):=by show _=_;rw[R.out,←ah];simp only[decide_true,Bool.true_and];exact dF (by rw[bF] at hp;exact hp)
   go_enter Tryz.func226,Tryz.ntmps226
   go_wp2_with fail
   go_ret
   exact⟨af R2.out.symm,rfl⟩
 ·have q2:((n:Int)==2)=false:=by simp;omega
  have R2:Hid (aG (bl op) n (bl p)=false):=by show _=_;rw[R.out,dF n2];rfl
  go_enter Tryz.func226,Tryz.ntmps226
  go_wp2_with fail
  go_ret
  exact⟨af R2.out.symm,rfl⟩
theorem oA (op:BA)(n:Nat)(p:BA)(w:World)(h:bl op=dR)(hn:n≠1):
  Calls Tryz.prog 226 #[.string op,.int .i64 n,.string p] w fun e w'=>e=.returned (.bool (aG (bl op) n (bl p)))∧w=w':=by
 have E:op.toList=[119,105,116,104]:=by rw[ah];exact h
 have R:Hid (aG (bl op) n (bl p)=false):=by show _=_;rw[h];exact xG hn _
 have q1:((n:Int)==1)=false:=by simp;omega
 clear h
 go_enter Tryz.func226,Tryz.ntmps226
 go_wp2_with fail
 go_ret
 exact⟨af R.out.symm,rfl⟩
theorem lx (op:BA)(n:Nat)(p:BA)(w:World)(h:bl op=bu)(hn:n≠1):
  Calls Tryz.prog 226 #[.string op,.int .i64 n,.string p] w fun e w'=>e=.returned (.bool (aG (bl op) n (bl p)))∧w=w':=by
 have E:op.toList=[119,105,116,104,111,117,116]:=by rw[ah];exact h
 have R:Hid (aG (bl op) n (bl p)=false):=by show _=_;rw[h];exact qH hn _
 have q1:((n:Int)==1)=false:=by simp;omega
 clear h
 go_enter Tryz.func226,Tryz.ntmps226
 go_wp2_with fail
 go_ret
 exact⟨af R.out.symm,rfl⟩
theorem xI (op:BA)(n:Nat)(p:BA)(w:World)(hG:Gl w):
  Calls Tryz.prog 226 #[.string op,.int .i64 n,.string p] w fun e w'=>e=.returned (.bool (aG (bl op) n (bl p)))∧w=w':=by
 by_cases n1:n=1
 ·subst n1
  have R:Hid (aG (bl op) 1 (bl p)=eI (bl p)):=rfl
  have hK:=tv p w hG
  clear hG
  go_enter Tryz.func226,Tryz.ntmps226
  go_wp2_with fail
  refine hK.mono ?_;rintro e w' ⟨rfl,rfl⟩
  go_wp2_with fail
  go_ret
  exact⟨af R.out.symm,rfl⟩
 rcases tA (bl op) with h | h | h | h | h | h | h
 ·exact px op n p w h n1
 ·exact qI op n p w h n1
 ·exact qJ op n p w h n1
 ·exact mg op n p w h n1
 ·exact oA op n p w h n1
 ·exact lx op n p w h n1
 ·obtain⟨h1,h2,h3,h4,h5,h6⟩:=zL h
  have R:Hid (aG (bl op) n (bl p)=false):=xH h n1 _
  have q1:((n:Int)==1)=false:=by simp;omega
  clear h hG n1
  go_enter Tryz.func226,Tryz.ntmps226
  go_wp2_with fail
  go_ret
  exact⟨af R.out.symm,rfl⟩
structure PR (w:World) (a hi:Nat) (l:LU) (n m:Nat):Prop where
 blk:∃ (b off c f:Nat) (xs:List vZ),ax w a [.slice (some ⟨b,off,none⟩) m c,.int .i64 n]∧Rd w 2 (some ⟨b,off,none⟩) m (xs.flatMap vZ.cells)∧xs.length=m∧xs.map (fun x=>bl x.text)=dU (f+1) l∧l.length≤f∧b≠a∧b<hi∧m≤c∧c≤maxLen∧∀ x∈xs,x.text.size≤4294967280
 lt:a<hi
 hz:hi≤w.heap.size
structure Ps (w:World) (a b off m c n:Nat) (T:BA) (p:Nat):Prop where
 c0:w.cell? ⟨a,0,none⟩=some (.slice (some ⟨b,off,none⟩) m c)
 c1:w.cell? ⟨a,1,none⟩=some (.int .i64 n)
 f0:w.frozen? ⟨a,0,none⟩=false
 f1:w.frozen? ⟨a,1,none⟩=false
 t0:w.cell? ⟨b,off,none⟩=some (.string T)
 t1:w.cell? ⟨b,off+1,none⟩=some (.int .i64 p)
 ne:b≠a
 m1:1≤m
 mc:m≤c
 cz:c≤maxLen
 tz:T.size≤4294967280
theorem PR.cells {w:World}{a hi n m:Nat}{l:LU}(h:PR w a hi l n m):∃ b off c T p,Ps w a b off m c n T p∧bl T=aR l∧(aR l≠[]→2≤m∧PR (w.setCell ⟨a,0,none⟩ (.slice (some ⟨b,off+2,none⟩) ((m-1:Nat)) ((c-1:Nat)))) a hi (aU l) n (m-1)):=by
 obtain⟨b,off,c,f,xs,k,hr,hm,hx,hf,hne,hbh,hmc,hcz,hz⟩:=h.blk
 obtain⟨r,h1,h2⟩:=nf f l
 rw[h1] at hx
 cases xs with
 | nil=>simp at hx
 | cons x xs=>
  simp only[List.map_cons,List.cons.injEq] at hx
  obtain⟨hx0,hx1⟩:=hx
  have hm1:0<m:=by rw[←hm];simp
  obtain⟨b',off',e,hc⟩:=hr.2 hm1
  injection e with e;injection e with eb eo _
  subst eb eo
  have u0:=hc 0 (.string x.text) rfl
  have u1:=hc 1 (.int .i64 x.at_) rfl
  refine⟨b,off,c,x.text,x.at_,⟨k.cell 0 _ rfl,k.cell 1 _ rfl,k.free 0 (by simp),k.free 1 (by simp),u0,u1,hne,hm1,hmc,hcz,hz x (by simp)⟩,hx0,fun hl=>?_⟩
  have hr2:=h2 hl
  have hf2:∃ f',f=f'+1:=⟨f-1,by have:=iZ hl;omega⟩
  obtain⟨f',rfl⟩:=hf2
  obtain⟨r',h3,_⟩:=nf f' (aU l)
  have hm2:2≤m:=by
   rw[←hm,List.length_cons]
   have:xs.length=r.length:=by rw[←hx1,List.length_map]
   rw[hr2,h3] at this;simp at this;omega
  refine⟨hm2,⟨b,off+2,c-1,f',xs,k.set 0 (by simp) _,?_,?_,?_,?_,hne,hbh,by omega,by omega,fun y hy=>hz y (by simp[hy])⟩,h.lt,by simpa using h.hz⟩
  ·have hk:∀ p:Addr,p.block=b→(w.setCell ⟨a,0,none⟩ (.slice (some ⟨b,off+2,none⟩) (m-1) (c-1))).cell? p=w.cell? p:=fun p hp=>World.cell?_setCell_other _ _ _ _ (by intro h;apply hne;rw[←hp,←h])
   refine⟨?_,fun _=>⟨b,off+2,rfl,fun j u hu=>?_⟩⟩
   ·have:=hr.1;rw[List.flatMap_cons,List.length_append,LQ] at this;omega
   ·rw[hk _ rfl]
    have:=hc (j+2) u (by rw[List.flatMap_cons,List.getElem?_append_right (by simp[vZ.cells])];simpa [vZ.cells] using hu)
    rw[show off+2+j=off+(j+2) by omega];exact this
  ·rw[←hm];simp
  ·rw[hx1,hr2]
  ·have:=iZ hl;omega
theorem PR.grown {w w':World}{a hi n m:Nat}{l:LU}{row:Option Nat}(h:PR w a hi l n m)(hg:w.grownBy w' row)(hne:∀ j,row=some j→hi≤j):PR w' a hi l n m:=by
 obtain⟨b,off,c,f,xs,k,hr,hm,hx,hf,hba,hbh,h1⟩:=h.blk
 have hn:∀ j,j<hi→some j≠row:=fun j hj e=>by have:=hne j e.symm;omega
 refine⟨⟨b,off,c,f,xs,k.grownBy hg (hn a h.lt),?_,hm,hx,hf,hba,hbh,h1⟩,h.lt,Nat.le_trans h.hz hg.size⟩
 refine⟨hr.1,fun h0=>?_⟩
 obtain⟨b',off',e,hc⟩:=hr.2 h0
 injection e with e;injection e with e1 e2 _
 subst e1 e2
 exact⟨b,off,rfl,fun j u hu=>hg.cell (hc j u hu) (hn b hbh)⟩
theorem PR.below {w w':World}{a hi n m:Nat}{l:LU}(h:PR w a hi l n m)(hb:Below w.heap.size w w'):PR w' a hi l n m:=h.grown (dj hb none) (by simp)
theorem PR.sz {w:World}{a hi n m:Nat}{l:LU}(h:PR w a hi l n m):a<w.heap.size:=Nat.lt_of_lt_of_le h.lt h.hz
theorem PR.alloc {w:World}{a hi n m:Nat}{l:LU}(h:PR w a hi l n m)(o:Obj):PR (w.alloc o) a hi l n m:=h.below (bR.alloc lr o)
theorem PR.far {w:World}{a hi n m b j:Nat}{l:LU}(h:PR w a hi l n m)(hb:hi≤b)(v:Value):PR (w.setCell ⟨b,j,none⟩ v) a hi l n m:=h.grown (aN v) (fun j e=>by injection e with e;omega)
theorem PR.count {w:World}{a hi n m:Nat}{l:LU}(h:PR w a hi l n m)(v:Nat):PR (w.setCell ⟨a,1,none⟩ (.int .i64 v)) a hi l v m:=by
 obtain⟨b,off,c,f,xs,k,hr,hm,hx,hf,hne,h1⟩:=h.blk
 refine⟨⟨b,off,c,f,xs,k.set 1 (by simp) _,?_,hm,hx,hf,hne,h1⟩,h.lt,by simpa using h.hz⟩
 refine⟨hr.1,fun h0=>?_⟩
 obtain⟨b',off',e,hc⟩:=hr.2 h0
 refine⟨b',off',e,fun j u hu=>?_⟩
 rw[World.cell?_setCell_other (h:=by injection e with e;injection e with e1;intro h;apply hne;rw[e1];injection h with h;exact h.symm)]
 exact hc j u hu
theorem Ef:∀ f:Nat,(∀ deep n l t l' n',gx f deep n l=some (t,l',n')→l'.length<l.length)∧(∀ deep n acc op l t l' n',jS f deep n acc op l=some (t,l',n')→l'.length<l.length)
 | 0=>⟨fun _ _ _ _ _ _ h=>by simp[gx] at h,fun _ _ _ _ _ _ _ _ h=>by simp[jS] at h⟩
 | f+1=>by
  obtain⟨ih1,ih2⟩:=Ef f
  have skip:∀ l:LU,(aU l).length≤l.length:=Js
  constructor
  ·intro deep n l t l' n' h
   unfold gx at h
   split at h
   ·simp at h
   ·rename_i h0
    have hl:aR l≠[]:=fun e=>h0 (.inl e)
    have hlt:=iZ hl
    split at h
    ·split at h
     ·simp at h
     ·have:=ih2 _ _ _ _ _ _ _ _ h;omega
    ·unfold im at h
     split at h
     ·simp at h
     ·split at h
      ·unfold lm at h
       split at h
       ·simp only[Option.some.injEq,Prod.mk.injEq] at h
        obtain⟨_,rfl,_⟩:=h;exact hlt
       ·unfold jy at h
        split at h
        ·simp at h
        ·split at h
         ·simp only[Option.some.injEq,Prod.mk.injEq] at h
          obtain⟨_,rfl,_⟩:=h
          have a1:=skip (aU l)
          have a2:=skip (aU (aU l))
          omega
         ·simp at h
      ·simp at h
  ·intro deep n acc op l t l' n' h
   unfold jS at h
   split at h
   ·simp at h
   ·rename_i k l1 n1 hd
    have h1:=ih1 _ _ _ _ _ _ hd
    split at h
    ·simp only[Option.some.injEq,Prod.mk.injEq] at h
     obtain⟨_,rfl,_⟩:=h
     have:=skip l1;omega
    ·split at h
     ·have h2:=ih2 _ _ _ _ _ _ _ _ h
      have:=skip l1;omega
     ·simp at h
theorem bB.grown2 {wb w2:World}{lo:Nat}{old new:Option Nat}{t:aj}(h:bB wb lo old t)(hg:wb.grownBy w2 old)(hn:new=old∨new=some wb.heap.size):bB w2 lo new t:=by
 induction h with
 | mk t row ne _ ih=>
  have hr:(Value.slice t.ka t.kids.length t.kc).ownBlock=none∨(Value.slice t.ka t.kids.length t.kc).ownBlock≠old:=by
   cases hb:(Value.slice t.ka t.kids.length t.kc).ownBlock with
   | none=>exact .inl rfl
   | some g=>exact .inr (ne g hb)
  refine .mk t (row.kept hg hr) (fun g hb e=>?_) ih
  rcases hn with rfl | rfl
  ·exact ne g hb e
  ·injection e with e;have:=(row.lt g hb).2;omega
structure ym (w wr:World) (a hi:Nat) (l:LU) (n r:Nat) (OP:BA) (ks:List aj) (A:OA) (m cc:Nat):Prop where
 len:ks.length=m
 box:ax wr w.heap.size [.string OP,.string ⟨#[]⟩,.int .i64 0,.string ⟨#[]⟩,.slice A m cc]
 row:wr.ownsRow (w.heap.size+1) 179 5 (.slice A m cc) m (ks.flatMap aj.cells)
 kids:∀ k∈ks,bB wr (w.heap.size+1) (Value.slice A m cc).ownBlock k
 good:∀ k∈ks,fy k
 pr:PR wr a hi l n r
 gr:w.grownBy wr (some a)
 lt:hi≤w.heap.size
theorem ym.start {w:World}{a hi n r:Nat}{l:LU}(h:PR w a hi l n r)(t:TypeId):ym w (w.alloc (.cells #[.string ⟨#[]⟩,.string ⟨#[]⟩,.int .i64 0,.string ⟨#[]⟩,.slice none 0 0] t)) a hi l n r ⟨#[]⟩ [] none 0 0:=
 ⟨rfl,ax.new w _ t,World.ownsRow_nil _ _ _ _,by simp,by simp,h.alloc _,dj (bR.alloc lr _) _,h.hz⟩
theorem ym.alt {w wr:World}{a hi n r:Nat}{l:LU}{OP:BA}{ks:List aj}{A:OA}{m cc:Nat}(h:ym w wr a hi l n r OP ks A m cc):a<w.heap.size:=by have:=h.pr.lt;have:=h.lt;omega
theorem ym.step {w wr w':World}{a hi n r n' r':Nat}{l l':LU}{OP:BA}{ks:List aj}{A:OA}{m cc:Nat}(h:ym w wr a hi l n r OP ks A m cc)(hg:wr.grownBy w' (some a))(hd:PR w' a hi l' n' r'):ym w w' a hi l' n' r' OP ks A m cc:=by
 have hlt:=h.alt
 exact⟨h.len,h.box.grownBy hg (by simp;omega),bN h.row (by omega) hg,fun k hk=>(h.kids k hk).kept (by omega) hg,h.good,hd,ai h.gr hg,h.lt⟩
theorem ym.below {w wr w':World}{a hi n r:Nat}{l:LU}{OP:BA}{ks:List aj}{A:OA}{m cc:Nat}(h:ym w wr a hi l n r OP ks A m cc)(hb:Below wr.heap.size wr w'):ym w w' a hi l n r OP ks A m cc:=
 h.step (dj hb _) (h.pr.below hb)
theorem ym.put {w wr:World}{a hi n r:Nat}{l:LU}{OP:BA}{ks:List aj}{A:OA}{m cc:Nat}(h:ym w wr a hi l n r OP ks A m cc)(P:BA):ym w (wr.setCell ⟨w.heap.size,0,none⟩ (.string P)) a hi l n r P ks A m cc:=
 ⟨h.len,h.box.set 0 (by simp) _,bN h.row (by omega) (aN _),fun k hk=>(h.kids k hk).kept (by omega) (aN _),h.good,h.pr.far h.lt _,gu h.gr (aN _) (fun j e=>by injection e with e;omega),h.lt⟩
theorem ym.grow {w wb w2:World}{a hi n r:Nat}{l:LU}{OP:BA}{ks:List aj}{A A1:OA}{m cc c1:Nat}{T:aj}(h:ym w wb a hi l n r OP ks A m cc)(hT:bB wb (w.heap.size+1) (Value.slice A m cc).ownBlock T)(hgd:fy T)
  (hr:w2.ownsRow (w.heap.size+1) 179 5 (.slice A1 (m+1) c1) (m+1) (ks.flatMap aj.cells++T.cells))
  (hg:wb.grownBy w2 (Value.slice A m cc).ownBlock)(ha:(Value.slice A1 (m+1) c1).ownBlock=(Value.slice A m cc).ownBlock∨(Value.slice A1 (m+1) c1).ownBlock=some wb.heap.size):
  ym w (w2.setCell ⟨w.heap.size,4,none⟩ (.slice A1 (m+1) c1)) a hi l n r OP (ks++[T]) A1 (m+1) c1:=by
 have far:∀ j,(Value.slice A m cc).ownBlock=some j→w.heap.size+1≤j:=fun j hj=>(h.row.lt j hj).1
 have hz:=h.lt
 have bx:ax w2 w.heap.size [.string OP,.string ⟨#[]⟩,.int .i64 0,.string ⟨#[]⟩,.slice A m cc]:=h.box.grownBy hg (fun e=>by have:=far _ e.symm;omega)
 refine⟨by simp[h.len],bx.set 4 (by simp) _,?_,fun k hk=>?_,fun k hk=>?_,?_,?_,h.lt⟩
 ·rw[List.flatMap_append]
  exact bN (by simpa using hr) (by omega) (aN _)
 ·refine bB.kept ?_ (by omega) (aN _)
  rcases List.mem_append.1 hk with hk | hk
  ·exact(h.kids k hk).grown2 hg ha
  ·obtain rfl:=List.mem_singleton.1 hk
   exact hT.grown2 hg ha
 ·rcases List.mem_append.1 hk with hk | hk
  ·exact h.good k hk
  ·obtain rfl:=List.mem_singleton.1 hk;exact hgd
 ·exact(h.pr.grown hg (fun j e=>by have:=far j e;omega)).far hz _
 ·exact gu (gu h.gr hg (fun j e=>by have:=far j e;omega)) (aN _) (fun j e=>by injection e with e;omega)
def bZ (r:Option (oN×LU×Nat))(a hi m deep n:Nat)(w:World)(e:Ending)(w':World):Prop:=
 w.grownBy w' (some a)∧match r with
  | none=>∃ (f:BA) (x c:Int),e=.returned (.tuple #[lp.val,ec f x c])∧c≠0
  | some (t,l',n')=>∃ (T:aj) (m':Nat),e=.returned (.tuple #[T.val,ec ⟨#[]⟩ 0 0])∧T.pl=t∧fy T∧bB w' w.heap.size none T∧T.ht+deep≤32∧n'=n+T.cnt∧n'≤64∧PR w' a hi l' n' m'∧m'<m
theorem bZ.no {r:Option (oN×LU×Nat)}{a hi m deep n:Nat}{w w':World}{f:BA}{x c:Int}(hr:r=none)(hg:w.grownBy w' (some a))(hc:c≠0):bZ r a hi m deep n w (.returned (.tuple #[lp.val,ec f x c])) w':=by
 subst hr;exact⟨hg,f,x,c,rfl,hc⟩
theorem bZ.yes {r:Option (oN×LU×Nat)}{a hi m m' deep n n':Nat}{l':LU}{w w':World}{T:aj}(hr:r=some (T.pl,l',n'))(hg:w.grownBy w' (some a))(h1:fy T)(h2:bB w' w.heap.size none T)(h3:T.ht+deep≤32)(h4:n'=n+T.cnt)(h5:n'≤64)(h6:PR w' a hi l' n' m')(h7:m'<m):bZ r a hi m deep n w (.returned (.tuple #[T.val,ec ⟨#[]⟩ 0 0])) w':=by
 subst hr;exact⟨hg,T,m',rfl,rfl,h1,h2,h3,h4,h5,h6,h7⟩
theorem Gz {f deep n:Nat}{acc:List oN}{op l:LU}(h:gx f deep n l=none):jS (f+1) deep n acc op l=none:=by unfold jS;rw[h]
theorem Jy {f deep n n1:Nat}{acc:List oN}{op l l1:LU}{k:oN}(h:gx f deep n l=some (k,l1,n1))(h1:aR l1=[41])(h2:acc≠[]):jS (f+1) deep n acc op l=some (.node op (acc++[k]),aU l1,n1):=by
 unfold jS;rw[h];simp only;rw[if_pos ⟨h1,h2⟩]
theorem GA {f deep n n1:Nat}{acc:List oN}{op l l1:LU}{k:oN}(h:gx f deep n l=some (k,l1,n1))(h1:¬ (aR l1=[41]∧acc≠[]))(h2:aG op (acc.length+1) (aR l1)=true):jS (f+1) deep n acc op l=jS f deep n1 (acc++[k]) (if acc=[] then aR l1 else op) (aU l1):=by
 rw[jS,h];simp only;rw[if_neg h1,if_pos h2]
theorem Jz {f deep n n1:Nat}{acc:List oN}{op l l1:LU}{k:oN}(h:gx f deep n l=some (k,l1,n1))(h1:¬ (aR l1=[41]∧acc≠[]))(h2:aG op (acc.length+1) (aR l1)=false):jS (f+1) deep n acc op l=none:=by
 rw[jS,h];simp only;rw[if_neg h1,if_neg (by simp[h2])]
theorem dM (t:BA)(q c:Int)(w:World):
  Calls Tryz.prog 161 #[.agg #[.string t,.int .i64 q],.int .i64 c] w fun e w'=>e=.returned (ec ⟨#[]⟩ q c)∧Below w.heap.size w w':=by
 go_enter Tryz.func161,Tryz.ntmps161
 go_wp2_with fail
 refine bodyPost_ret (v:=ec ⟨#[]⟩ q c) (by simp[results,Tryz.results161,go_sem,ec]) rfl ?_
 refine⟨rfl,?_⟩
 repeat' refine ak ?_ (by omega) _
 exact(bR.alloc lr _).alloc (by simp) _
theorem gy (a hi n m:Nat)(l:LU)(w:World)(h:PR w a hi l n m)(hl:aR l≠[]):
  Calls Tryz.prog 195 #[.pointer (some ⟨a,0,none⟩)] w fun e w'=>e=.returned (.tuple #[])∧PR w' a hi (aU l) n (m-1)∧w.grownBy w' (some a)∧2≤m:=by
 obtain⟨b,off,c,T,p,k,hT,h2⟩:=h.cells
 obtain⟨h2,h3⟩:=h2 hl
 have HR:=ae h3
 obtain⟨c0,c1,f0,f1,t0,t1,ne,m1,mc,cz,tz⟩:=k
 simp only[maxLen] at cz
 clear h3 h hl hT
 go_enter Tryz.func195,Tryz.ntmps195
 go_wp2_with fail
 go_end0
 exact⟨rfl,HR.out,aN _,h2⟩
abbrev jz (W:World) (s:Nat) (v0 v1 v2 v3 v4 u0 u1 u2:Value):World:=
 (((((((W.setCell ⟨s,0,none⟩ v0).setCell ⟨s,1,none⟩ v1).setCell ⟨s,2,none⟩ v2).setCell ⟨s,3,none⟩ v3).setCell ⟨s,4,none⟩ v4).setCell ⟨s+1,0,none⟩ u0).setCell ⟨s+1,1,none⟩ u1).setCell ⟨s+1,2,none⟩ u2
theorem cf {w W:World}{a s:Nat}(h:w.grownBy W (some a))(hs:w.heap.size≤s)(v0 v1 v2 v3 v4 u0 u1 u2:Value):w.grownBy (jz W s v0 v1 v2 v3 v4 u0 u1 u2) (some a):=by
 unfold jz
 repeat' refine aY ?_ (.inr (by simp only;omega)) _
 exact h
theorem rh {W:World}{a hi n m s:Nat}{l:LU}(h:PR W a hi l n m)(hs:hi≤s)(v0 v1 v2 v3 v4 u0 u1 u2:Value):PR (jz W s v0 v1 v2 v3 v4 u0 u1 u2) a hi l n m:=by
 unfold jz
 repeat' refine PR.far ?_ (by omega) _
 exact h
theorem tF {W:World}{lo s:Nat}{bad:Option Nat}{T:aj}(h:bB W lo bad T)(hs:s+1<lo)(v0 v1 v2 v3 v4 u0 u1 u2:Value):bB (jz W s v0 v1 v2 v3 v4 u0 u1 u2) lo bad T:=by
 unfold jz
 repeat' refine bB.kept ?_ (by omega) (aN _)
 exact h
structure wj (W:World) (s:Nat):Prop where
 b0:ax W s [.string ⟨#[]⟩,.string ⟨#[]⟩,.int .i64 0,.string ⟨#[]⟩,.slice none 0 0]
 b1:ax W (s+1) [.string ⟨#[]⟩,.int .i64 0,.int .i64 0]
structure CM (W:World) (s:Nat):Prop where
 x0:W.cell? ⟨s,0,none⟩=some (.string ⟨#[]⟩)
 x1:W.cell? ⟨s,1,none⟩=some (.string ⟨#[]⟩)
 x2:W.cell? ⟨s,2,none⟩=some (.int .i64 0)
 x3:W.cell? ⟨s,3,none⟩=some (.string ⟨#[]⟩)
 x4:W.cell? ⟨s,4,none⟩=some (.slice none 0 0)
 y0:W.cell? ⟨s+1,0,none⟩=some (.string ⟨#[]⟩)
 y1:W.cell? ⟨s+1,1,none⟩=some (.int .i64 0)
 y2:W.cell? ⟨s+1,2,none⟩=some (.int .i64 0)
 f0:W.frozen? ⟨s,0,none⟩=false
 f1:W.frozen? ⟨s,1,none⟩=false
 f2:W.frozen? ⟨s,2,none⟩=false
 f3:W.frozen? ⟨s,3,none⟩=false
 f4:W.frozen? ⟨s,4,none⟩=false
 g0:W.frozen? ⟨s+1,0,none⟩=false
 g1:W.frozen? ⟨s+1,1,none⟩=false
 g2:W.frozen? ⟨s+1,2,none⟩=false
theorem wj.c {W:World}{s:Nat}(h:wj W s):CM W s:=
 ⟨h.b0.cell 0 _ rfl,h.b0.cell 1 _ rfl,h.b0.cell 2 _ rfl,h.b0.cell 3 _ rfl,h.b0.cell 4 _ rfl,h.b1.cell 0 _ rfl,h.b1.cell 1 _ rfl,h.b1.cell 2 _ rfl,h.b0.free 0 (by simp),h.b0.free 1 (by simp),h.b0.free 2 (by simp),h.b0.free 3 (by simp),h.b0.free 4 (by simp),h.b1.free 0 (by simp),h.b1.free 1 (by simp),h.b1.free 2 (by simp)⟩
theorem wj.step {W W':World}{s a:Nat}(h:wj W s)(hg:W.grownBy W' (some a))(hs:a<s):wj W' s:=
 ⟨h.b0.grownBy hg (by simp;omega),h.b1.grownBy hg (by simp;omega)⟩
theorem wj.below {W W':World}{s:Nat}(h:wj W s)(hb:Below W.heap.size W W'):wj W' s:=⟨h.b0.below hb,h.b1.below hb⟩
theorem wj.new (w:World)(t t':TypeId):wj ((w.alloc (.cells #[.string ⟨#[]⟩,.string ⟨#[]⟩,.int .i64 0,.string ⟨#[]⟩,.slice none 0 0] t)).alloc (.cells #[.string ⟨#[]⟩,.int .i64 0,.int .i64 0] t')) w.heap.size:=by
 refine⟨(ax.new w _ t).alloc _,?_⟩
 have:=ax.new (w.alloc (.cells #[.string ⟨#[]⟩,.string ⟨#[]⟩,.int .i64 0,.string ⟨#[]⟩,.slice none 0 0] t)) [.string ⟨#[]⟩,.int .i64 0,.int .i64 0] t'
 simpa using this
theorem jT (tmps:Array Value){W:World}{s:Nat}(h:CM W s)(h2:tmps[2]?=some (.pointer (some ⟨s,0,none⟩)))(h3:tmps[3]?=some (.pointer (some ⟨s+1,0,none⟩)))(v0 v1 v2 v3 v4 u0 u1 u2:Value)
  (hv:v0.oneCell'=true∧v1.oneCell'=true∧v2.oneCell'=true∧v3.oneCell'=true∧v4.oneCell'=true∧u0.oneCell'=true∧u1.oneCell'=true∧u2.oneCell'=true):
  (results Tryz.f197 tmps).run Tryz.prog (jz W s v0 v1 v2 v3 v4 u0 u1 u2)=.ok (.tuple #[.agg #[v0,v1,v2,v3,v4],.agg #[u0,u1,u2]]) (jz W s v0 v1 v2 v3 v4 u0 u1 u2):=by
 obtain⟨x0,x1,x2,x3,x4,y0,y1,y2,_,_,_,_,_,_,_,_⟩:=h
 simp(maxDischargeDepth:=10) [results,Tryz.results197,h2,h3,go_sem,x0,x1,x2,x3,x4,y0,y1,y2]
structure oC (w W:World) (a hi:Nat) (l:LU) (n m:Nat):Prop where
 two:wj W w.heap.size
 pr:PR W a hi l n m
 gr:w.grownBy W (some a)
 gl:pm a W
 lt:hi≤w.heap.size
theorem oC.alt {w W:World}{a hi n m:Nat}{l:LU}(h:oC w W a hi l n m):a<w.heap.size:=by have:=h.pr.lt;have:=h.lt;omega
theorem oC.start {w:World}{a hi n m:Nat}{l:LU}(hG:pm a w)(h:PR w a hi l n m)(t t':TypeId):oC w ((w.alloc (.cells #[.string ⟨#[]⟩,.string ⟨#[]⟩,.int .i64 0,.string ⟨#[]⟩,.slice none 0 0] t)).alloc (.cells #[.string ⟨#[]⟩,.int .i64 0,.int .i64 0] t')) a hi l n m:=by
 have B:Below w.heap.size w ((w.alloc (.cells #[.string ⟨#[]⟩,.string ⟨#[]⟩,.int .i64 0,.string ⟨#[]⟩,.slice none 0 0] t)).alloc (.cells #[.string ⟨#[]⟩,.int .i64 0,.int .i64 0] t')):=(bR.alloc lr _).alloc (by simp) _
 exact⟨wj.new w t t',h.below B,dj B _,hG.below B,h.hz⟩
theorem oC.step {w W W':World}{a hi n m n' m':Nat}{l l':LU}(h:oC w W a hi l n m)(hg:W.grownBy W' (some a))(hd:PR W' a hi l' n' m'):oC w W' a hi l' n' m':=
 ⟨h.two.step hg h.alt,hd,ai h.gr hg,h.gl.kept hg,h.lt⟩
theorem oC.below {w W W':World}{a hi n m:Nat}{l:LU}(h:oC w W a hi l n m)(hb:Below W.heap.size W W'):oC w W' a hi l n m:=h.step (dj hb _) (h.pr.below hb)
theorem oC.far {w W:World}{a hi n m b j:Nat}{l:LU}(h:oC w W a hi l n m)(hb:w.heap.size+2≤b)(v:Value):oC w (W.setCell ⟨b,j,none⟩ v) a hi l n m:=by
 have h1:=h.lt
 refine⟨⟨h.two.b0.far (by omega) v,h.two.b1.far (by omega) v⟩,h.pr.far (by omega) v,aY h.gr (.inr (by show _≤b;omega)) v,?_,h1⟩
 obtain⟨w0,g1,g2,g3⟩:=h.gl
 have h2:=h.pr.lt
 exact⟨w0,g1,ak g2 (by omega) v,g3⟩
theorem ax.stay {w W W':World}{a hi n m b:Nat}{l:LU}{vs:LV}(k:ax W b vs)(h:oC w W a hi l n m)(hb:w.heap.size≤b)(hg:W.grownBy W' (some a)):ax W' b vs:=k.grownBy hg (by have:=h.alt;simp;omega)
theorem tG (W:World)(lo:Nat)(bad:Option Nat)(nm:BA)(o:Nat)(v:BA):bB W lo bad (.mk ⟨#[]⟩ nm o v none 0 []):=
 .mk _ (World.ownsRow_nil _ _ _ _) (fun g hg=>by simp[aj.ka,aj.kc,Value.ownBlock] at hg) (fun k hk=>by simp[aj.kids] at hk)
theorem GC (l:LU):im 64 l=none:=by unfold im;rw[if_pos rfl]
theorem JA {nm:LU}{n:Nat}{l:LU}(h:Cu (aR l)=0):lm nm n l=some (.atom nm 0 [],l,n):=by unfold lm;rw[if_pos h]
theorem LW {nm:LU}{n:Nat}{l:LU}(h:Cu (aR l)≠0):lm nm n l=jy nm (Cu (aR l)) n (aU l):=by unfold lm;rw[if_neg h]
theorem CO {nm:LU}{o n:Nat}{l:LU}(h:aR l=[]∨aR l=[40]∨aR l=[41]):jy nm o n l=none:=by unfold jy;rw[if_pos h]
theorem zR {nm:LU}{o n:Nat}{l:LU}(h:cG 2 (bC (aR l))≠0):jy nm o n l=none:=by
 unfold jy
 split
 ·rfl
 ·simp[h]
theorem JB {nm:LU}{o n:Nat}{l:LU}(h0:¬ (aR l=[]∨aR l=[40]∨aR l=[41]))(h:cG 2 (bC (aR l))=0):jy nm o n l=some (.atom nm o (aR l),aU l,n):=by unfold jy;rw[if_neg h0,if_pos h]
theorem Nn (p:List UInt8):Cu p≤5:=by      unfold Cu;repeat' split
                                          all_goals omega
theorem JC {p:LU}(h:Cu p≠0):p≠[]:=by rintro rfl;exact h rfl
theorem GD (a hi n m deep:Nat)(l:LU)(w:World)(hG:pm a w)(h:PR w a hi l n m)(hn:n≤64)(hd:deep≤32):
  Calls Tryz.prog 197 #[.pointer (some ⟨a,0,none⟩)] w (bZ (im n l) a hi m deep n w):=by
 obtain⟨W0,hW0⟩:∃ W0,(w.alloc (.cells #[.string ⟨#[]⟩,.string ⟨#[]⟩,.int .i64 0,.string ⟨#[]⟩,.slice none 0 0] 179)).alloc (.cells #[.string ⟨#[]⟩,.int .i64 0,.int .i64 0] 172)=W0:=⟨_,rfl⟩
 have S0:Hid (oC w W0 a hi l n m):=by rw[←hW0];exact oC.start hG h _ _
 have z0:W0.heap.size=w.heap.size+2:=by rw[←hW0];simp
 obtain⟨b,off,c,T,p,k,hT,h2⟩:=S0.out.pr.cells
 have HT:=ae hT
 obtain⟨c0,c1,f0,f1,t0,t1,ne,m1,mc,cz,tz⟩:=k
 clear h h2 hT
 obtain⟨W1,hW1⟩:∃ W1,W0.alloc (.cells #[.string T,.int .i64 p] 230)=W1:=⟨_,rfl⟩
 have S1:Hid (oC w W1 a hi l n m):=by rw[←hW1];exact S0.out.below (bR.alloc lr _)
 have K1:Hid (ax W1 W0.heap.size [.string T,.int .i64 p]):=by rw[←hW1];exact ax.new W0 [.string T,.int .i64 p] _
 have HZ0:=ae z0
 clear S0 hG z0
 go_enter Tryz.func197,Tryz.ntmps197
 go_upto_region 2 with(fail)
 clear hW0 hW1 c0 c1 f0 f1 t0 t1 ne m1 mc cz
 have ha:=S1.out.alt
 have k1:=S1.out.pr.cells
 obtain⟨b1,off1,c1',T',p',k1,-,-⟩:=k1
 have c1:=k1.c1
 have f1:=k1.f1
 have t0:=K1.out.cell 0 _ rfl
 have t1:=K1.out.cell 1 _ rfl
 clear k1
 by_cases n64:n=64
 ·have EN:Hid (im n l=none):=by show _=_;rw[n64];exact GC l
  have q64:((n:Int)==64)=true:=by simp[n64]
  clear n64
  go_wp2_with fail
  refine(dM T p 4 _).mono ?_;rintro e w2 ⟨rfl,hb⟩
  have S2:=ae (S1.out.below hb)
  have tc:=S2.out.two.c
  obtain⟨x0,x1,x2,x3,x4,y0,y1,y2,g0,g1,g2,g3,g4,k0,k1,k2⟩:=tc
  clear hb
  unfold ec
  go_wp2_with fail
  refine bodyPost_ret (jT _ S2.out.two.c rfl rfl _ _ _ _ _ _ _ _ ⟨rfl,rfl,rfl,rfl,rfl,rfl,rfl,rfl⟩) rfl ?_
  exact bZ.no EN.out (cf S2.out.gr lr _ _ _ _ _ _ _ _) (by decide)
 have N64:Hid (n<64):=by show _<_;omega
 have q64:((n:Int)==64)=false:=by simp;omega
 have EN:Hid (im n l=if dq (bl T) then lm (bl T) (n+1) (aU l) else none):=by
  show _=_;unfold im;rw[if_neg n64,HT.out]
 clear n64
 go_wp2_with fail
 refine(lW T _ (by omega)).mono ?_;rintro e w2 ⟨rfl,rfl⟩
 cases hnm:dq (bl T) with
 | false=>
  rw[hnm] at EN
  clear hnm
  go_wp2_with fail
  refine(dM T p 10 _).mono ?_;rintro e w2 ⟨rfl,hb⟩
  have S2:=ae (S1.out.below hb)
  have tc:=S2.out.two.c
  obtain⟨x0,x1,x2,x3,x4,y0,y1,y2,g0,g1,g2,g3,g4,k0,k1,k2⟩:=tc
  clear hb
  unfold ec
  go_wp2_with fail
  refine bodyPost_ret (jT _ S2.out.two.c rfl rfl _ _ _ _ _ _ _ _ ⟨rfl,rfl,rfl,rfl,rfl,rfl,rfl,rfl⟩) rfl ?_
  exact bZ.no EN.out (cf S2.out.gr lr _ _ _ _ _ _ _ _) (by decide)
 | true=>
 have ER:Hid (im n l=lm (bl T) (n+1) (aU l)):=by have:=EN.out;rwa [hnm,if_pos rfl] at this
 clear EN
 have HNM:=ae hnm
 have HL:Hid (aR l≠[]):=by have:=lT hnm;rw[←ag,HT.out] at this;intro e;rw[e] at this;simp at this
 have P2:Hid (PR (W1.setCell ⟨a,1,none⟩ (.int .i64 ((n:Int)+1))) a hi l (n+1) m):=by have:=S1.out.pr.count (n+1);rwa [show((n+1:Nat):Int)=(n:Int)+1 from by omega] at this
 have S2:=ae (S1.out.step (aN (j:=1) (.int .i64 ((n:Int)+1))) P2.out)
 have K2:=ae (K1.out.stay S1.out (by have:=HZ0.out;omega) (aN (a:=a) (j:=1) (.int .i64 ((n:Int)+1))))
 clear hnm
 go_wp2_with fail
 clear c1 f1 t0 t1
 refine(gy a hi (n+1) m l _ P2.out HL.out).mono ?_;rintro e w3 ⟨rfl,hp,hg,hm2⟩
 have S3:=ae (S2.out.step hg hp)
 have K3:=ae (K2.out.stay S2.out (by have:=HZ0.out;omega) hg)
 have M2:=ae hm2
 clear hp hg P2 S2 K2 hm2
 have t0:=K3.out.cell 0 _ rfl
 go_upto_region 9 with(fail)
 clear t0
 obtain⟨W4,hW4⟩:∃ W4,w3.alloc (.cells #[.string ⟨#[]⟩,.string T,.int .i64 0,.string ⟨#[]⟩,.slice none 0 0] 179)=W4:=⟨_,rfl⟩
 have B4:Hid (Below w3.heap.size w3 W4):=by rw[←hW4];exact bR.alloc lr _
 have D4:Hid (ax W4 w3.heap.size [.string ⟨#[]⟩,.string T,.int .i64 0,.string ⟨#[]⟩,.slice none 0 0]):=by rw[←hW4];exact ax.new w3 [.string ⟨#[]⟩,.string T,.int .i64 0,.string ⟨#[]⟩,.slice none 0 0] _
 have S4:=ae (S3.out.below B4.out)
 have K4:=ae (K3.out.below B4.out)
 have H3:Hid (W0.heap.size<w3.heap.size):=K3.out.sz
 rw[hW4]
 clear hW4
 obtain⟨b4,off4,c4,T4,p4,k4,hT4,-⟩:=S4.out.pr.cells
 have HT4:=ae hT4
 obtain⟨r0,r1,r2,r3,r4,r5,r6,r7,r8,r9,tz4⟩:=k4
 have hR:=uZ T4 W4 S4.out.gl.gl
 obtain⟨o,ho⟩:∃ o,Cu (bl T4)=o:=⟨_,rfl⟩
 rw[ho] at hR
 have HO:=ae ho
 have ho5:o≤5:=by rw[←ho];exact Nn _
 clear hT4 ho S3 B4
 go_wp2_with fail
 clear r0 r1 r2 r3 r4 r5 r6 r7 r8 r9
 refine hR.mono ?_;rintro e w5 ⟨rfl,rfl⟩
 clear hR
 by_cases o0:o=0
 ·have EY:Hid (im n l=some ((aj.mk ⟨#[]⟩ T 0 ⟨#[]⟩ none 0 []).pl,aU l,n+1)):=by
   show _=_;rw[ER.out,rg _ _ _ _ _ _ _ rfl];exact JA (by rw[←HT4.out,HO.out,o0])
  have q0:((o:Int)==0)=true:=by simp[o0]
  have tc:=S4.out.two.c
  obtain⟨x0,x1,x2,x3,x4,y0,y1,y2,g0,g1,g2,g3,g4,k0,k1,k2⟩:=tc
  have d0:=D4.out.cell 0 _ rfl
  have d1:=D4.out.cell 1 _ rfl
  have d2:=D4.out.cell 2 _ rfl
  have d3:=D4.out.cell 3 _ rfl
  have d4:=D4.out.cell 4 _ rfl
  clear o0
  go_wp2_with fail
  refine bodyPost_ret (jT _ S4.out.two.c rfl rfl _ _ _ _ _ _ _ _ ⟨rfl,rfl,rfl,rfl,rfl,rfl,rfl,rfl⟩) rfl ?_
  exact bZ.yes (T:=.mk ⟨#[]⟩ T 0 ⟨#[]⟩ none 0 []) EY.out (cf S4.out.gr lr _ _ _ _ _ _ _ _) (.atom T 0 ⟨#[]⟩ HNM.out (by omega) (fun _=>rfl) (fun h=>by omega)) (tG _ _ _ _ _ _) (by simp[aj.ht,zC];exact hd) (by simp[aj.cnt]) (by have:=N64.out;omega) (rh S4.out.pr S4.out.lt _ _ _ _ _ _ _ _) (by have:=M2.out;omega)
 have q0:((o:Int)==0)=false:=by simp[o0]
 have HL4:Hid (aR (aU l)≠[]):=by show ¬ _;rw[←HT4.out];exact JC (by rw[HO.out];exact o0)
 have EV:Hid (im n l=jy (bl T) o (n+1) (aU (aU l))):=by show _=_;rw[ER.out,LW (by rw[←HT4.out,HO.out];exact o0),←HT4.out,HO.out]
 have OP:Hid (0<o):=by show _<_;omega
 have HZB:Hid (w.heap.size+2≤W0.heap.size):=by show _≤_;have:=HZ0.out;omega
 clear ER o0 HO HT4
 go_wp2_with fail
 refine(gy a hi (n+1) (m-1) (aU l) _ S4.out.pr HL4.out).mono ?_;rintro e w5 ⟨rfl,hp,hg,hm2⟩
 have S5:=ae (S4.out.step hg hp)
 have K5:=ae (K4.out.stay S4.out (by have:=HZB.out;omega) hg)
 have D5:=ae (D4.out.stay S4.out (by have:=HZB.out;have:=H3.out;omega) hg)
 have M3:=ae hm2
 clear hp hg hm2 S4 K4 D4 HL4
 have t0:=K5.out.cell 0 _ rfl
 have t1:=K5.out.cell 1 _ rfl
 have e0:=K5.out.free 0 (by simp)
 have e1:=K5.out.free 1 (by simp)
 obtain⟨b5,off5,c5,T5,p5,k5,hT5,hnx⟩:=S5.out.pr.cells
 have HT5:=ae hT5
 obtain⟨r0,r1,r2,r3,r4,r5,r6,r7,r8,r9,tz5⟩:=k5
 clear hT5 hnx
 go_upto_region 14 with(fail)
 clear t0 t1 e0 e1 r0 r1 r2 r3 r4 r5 r6 r7 r8 r9
 obtain⟨W6,hW6⟩:∃ W6,(w5.setCell ⟨W0.heap.size,0,none⟩ (.string T5)).setCell ⟨W0.heap.size,1,none⟩ (.int .i64 p5)=W6:=⟨_,rfl⟩
 have S6:Hid (oC w W6 a hi (aU (aU l)) (n+1) (m-1-1)):=by rw[←hW6];exact(S5.out.far HZB.out _).far HZB.out _
 have K6:Hid (ax W6 W0.heap.size [.string T5,.int .i64 p5]):=by rw[←hW6];exact(K5.out.set 0 (by simp) (.string T5)).set 1 (by simp) (.int .i64 p5)
 have D6:Hid (ax W6 w3.heap.size [.string ⟨#[]⟩,.string T,.int .i64 0,.string ⟨#[]⟩,.slice none 0 0]):=by rw[←hW6];exact(D5.out.far (by have:=H3.out;omega) _).far (by have:=H3.out;omega) _
 rw[hW6]
 clear hW6 S5 K5 D5
 have t0:=K6.out.cell 0 _ rfl
 have t1:=K6.out.cell 1 _ rfl
 obtain⟨bb,hbb⟩:∃ bb:Bool,decide (bl T5=[]∨bl T5=[40]∨bl T5=[41])=bb:=⟨_,rfl⟩
 go_cut [74] (fun v wx=>v=.bool bb∧W6=wx)
 case first=>
  by_cases h1:bl T5=[]
  ·have E1:T5.toList=[]:=by rw[ah];exact h1
   have E2:Hid (bb=true):=by show _=_;rw[←hbb];exact dT (.inl h1)
   clear hbb h1
   go_wp2_with fail
   go_meet
   exact⟨by rw[E2.out],rfl⟩
  by_cases h2:bl T5=[40]
  ·have E1:T5.toList=[40]:=by rw[ah];exact h2
   have E2:Hid (bb=true):=by show _=_;rw[←hbb];exact dT (.inr (.inl h2))
   clear hbb h1 h2
   go_wp2_with fail
   go_meet
   exact⟨by rw[E2.out],rfl⟩
  by_cases h3:bl T5=[41]
  ·have E1:T5.toList=[41]:=by rw[ah];exact h3
   have E2:Hid (bb=true):=by show _=_;rw[←hbb];exact dT (.inr (.inr h3))
   clear hbb h1 h2 h3
   go_wp2_with fail
   go_meet
   exact⟨by rw[E2.out],rfl⟩
  ·have E1:(T5.toList==([]:LU))=false:=by rw[ah,bF];exact h1
   have E3:(T5.toList==([40]:LU))=false:=by rw[ah,bF];exact h2
   have E4:(T5.toList==([41]:LU))=false:=by rw[ah,bF];exact h3
   have E5:T5.toList.isEmpty=false:=by rw[ah,List.isEmpty_eq_false_iff];exact h1
   have E2:Hid (bb=false):=by show _=_;rw[←hbb];exact dF (by rintro(h | h | h)<;>contradiction)
   clear hbb h1 h2 h3
   go_wp2_with fail
   go_meet
   exact⟨by rw[E2.out],rfl⟩
 case rest=>
 obtain⟨rfl,rfl⟩:=hcut
 cases bb with
 | true=>
  have EN:Hid (im n l=none):=by show _=_;rw[EV.out];exact CO (by rw[←HT5.out];exact dO hbb)
  clear hbb
  go_wp2_with fail
  refine(dM T5 p5 3 _).mono ?_;rintro e w2 ⟨rfl,hb⟩
  have S2:=ae (S6.out.below hb)
  have tc:=S2.out.two.c
  obtain⟨x0,x1,x2,x3,x4,y0,y1,y2,g0,g1,g2,g3,g4,k0,k1,k2⟩:=tc
  clear hb
  unfold ec
  go_wp2_with fail
  refine bodyPost_ret (jT _ S2.out.two.c rfl rfl _ _ _ _ _ _ _ _ ⟨rfl,rfl,rfl,rfl,rfl,rfl,rfl,rfl⟩) rfl ?_
  exact bZ.no EN.out (cf S2.out.gr lr _ _ _ _ _ _ _ _) (by decide)
 | false=>
 have HB:Hid (¬ (aR (aU (aU l))=[]∨aR (aU (aU l))=[40]∨aR (aU (aU l))=[41])):=by rw[←HT5.out];exact of_decide_eq_false hbb
 clear hbb
 obtain⟨ve,hve⟩:∃ ve,cG 2 T5=ve:=⟨_,rfl⟩
 have HV:=ae hve
 have hVC:=aQ 2 T5 W6 S6.out.gl.gl (by omega)
 rw[hve] at hVC
 clear hve
 go_wp2_with fail
 clear t0 t1
 refine hVC.mono ?_;rintro e w7 ⟨rfl,hb7⟩
 have S7:=ae (S6.out.below hb7)
 have K7:=ae (K6.out.below hb7)
 have D7:=ae (D6.out.below hb7)
 have t0:=K7.out.cell 0 _ rfl
 have t1:=K7.out.cell 1 _ rfl
 clear hb7 hVC S6 K6 D6
 by_cases hv0:ve=0
 ·have q1:(ve != 0)=false:=by simp[hv0]
  have EY:Hid (im n l=some ((aj.mk ⟨#[]⟩ T o T5 none 0 []).pl,aU (aU (aU l)),n+1)):=by
   show _=_;rw[EV.out,rg _ _ _ _ _ _ _ rfl,JB HB.out (by rw[←HT5.out,mA,HV.out,hv0]),HT5.out]
  have VZ:Hid (cG 2 T5=0):=by show _=_;rw[HV.out,hv0]
  have HL5:Hid (aR (aU (aU l))≠[]):=fun e=>HB.out (.inl e)
  clear hv0
  go_wp2_with fail
  refine(gy a hi (n+1) (m-1-1) (aU (aU l)) _ S7.out.pr HL5.out).mono ?_;rintro e w8 ⟨rfl,hp,hg,hm3⟩
  have S8:=ae (S7.out.step hg hp)
  have K8:=ae (K7.out.stay S7.out (by have:=HZB.out;omega) hg)
  have D8:=ae (D7.out.stay S7.out (by have:=HZB.out;have:=H3.out;omega) hg)
  have M4:=ae hm3
  clear hp hg hm3 S7 K7 D7 t0 t1
  have t0:=K8.out.cell 0 _ rfl
  have d0:=D8.out.cell 0 _ rfl
  have d1:=D8.out.cell 1 _ rfl
  have d2:=D8.out.cell 2 _ rfl
  have d3:=D8.out.cell 3 _ rfl
  have d4:=D8.out.cell 4 _ rfl
  have h2:=D8.out.free 2 (by simp)
  have h3:=D8.out.free 3 (by simp)
  have hne:¬ W0.heap.size=w3.heap.size:=by have:=H3.out;omega
  have hne2:¬ w3.heap.size=W0.heap.size:=by have:=H3.out;omega
  go_wp2_with fail
  go_region
  clear t0 d0 d1 d2 d3 d4 h2 h3 hne hne2
  obtain⟨W9,hW9⟩:∃ W9,((w8.setCell ⟨w3.heap.size,2,none⟩ (.int .i64 o)).setCell ⟨w3.heap.size,3,none⟩ (.string T5)).drew=W9:=⟨_,rfl⟩
  have hd3:w.heap.size+2≤w3.heap.size:=by have:=H3.out;have:=HZB.out;omega
  have S9:Hid (oC w W9 a hi (aU (aU (aU l))) (n+1) (m-1-1-1)):=by rw[←hW9];exact((S8.out.far hd3 _).far hd3 _).below ⟨rfl,rfl,rfl,lr,fun _ _=>rfl⟩
  have D9:Hid (ax W9 w3.heap.size [.string ⟨#[]⟩,.string T,.int .i64 o,.string T5,.slice none 0 0]):=by rw[←hW9];exact((D8.out.set 2 (by simp) (.int .i64 o)).set 3 (by simp) (.string T5)).drew
  rw[hW9]
  clear hW9 S8 K8 D8
  have tc:=S9.out.two.c
  obtain⟨x0,x1,x2,x3,x4,y0,y1,y2,g0,g1,g2,g3,g4,k0,k1,k2⟩:=tc
  have d0:=D9.out.cell 0 _ rfl
  have d1:=D9.out.cell 1 _ rfl
  have d2:=D9.out.cell 2 _ rfl
  have d3:=D9.out.cell 3 _ rfl
  have d4:=D9.out.cell 4 _ rfl
  go_wp2_with fail
  refine bodyPost_ret (jT _ S9.out.two.c rfl rfl _ _ _ _ _ _ _ _ ⟨rfl,rfl,rfl,rfl,rfl,rfl,rfl,rfl⟩) rfl ?_
  exact bZ.yes (T:=.mk ⟨#[]⟩ T o T5 none 0 []) EY.out (cf S9.out.gr lr _ _ _ _ _ _ _ _) (.atom T o T5 HNM.out ho5 (fun h=>by have:=OP.out;omega) (fun _=>VZ.out)) (tG _ _ _ _ _ _) (by simp[aj.ht,zC];exact hd) (by simp[aj.cnt]) (by have:=N64.out;omega) (rh S9.out.pr S9.out.lt _ _ _ _ _ _ _ _) (by have:=M2.out;omega)
 ·have q1:(ve != 0)=true:=by simp[hv0]
  have EN:Hid (im n l=none):=by show _=_;rw[EV.out];exact zR (by rw[←HT5.out,mA,HV.out];exact hv0)
  have HVN:=uD.mk hv0
  clear hv0
  go_wp2_with fail
  refine(dM T5 p5 ve _).mono ?_;rintro e w2 ⟨rfl,hb⟩
  have S2:=ae (S7.out.below hb)
  have tc:=S2.out.two.c
  obtain⟨x0,x1,x2,x3,x4,y0,y1,y2,g0,g1,g2,g3,g4,k0,k1,k2⟩:=tc
  clear hb
  unfold ec
  go_wp2_with fail
  refine bodyPost_ret (jT _ S2.out.two.c rfl rfl _ _ _ _ _ _ _ _ ⟨rfl,rfl,rfl,rfl,rfl,rfl,rfl,rfl⟩) rfl ?_
  exact bZ.no EN.out (cf S2.out.gr lr _ _ _ _ _ _ _ _) HVN.out
end
end Go.Proofs.YtaohgmcbpafdeaaGreatDoor
