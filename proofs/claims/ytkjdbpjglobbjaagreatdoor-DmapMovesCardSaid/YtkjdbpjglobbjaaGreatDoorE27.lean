/- A part of the proof of a law on dependencies in three formats. No condition. -/
import Derived.Test.YtkjdbpjglobbjaaGreatDoorE21
set_option maxRecDepth 100000
set_option maxHeartbeats 20000000
set_option linter.unusedVariables false
set_option linter.unusedSimpArgs false
namespace Go.Proofs.YtkjdbpjglobbjaaGreatDoor
section
open Go.RowKit Go.Deep
structure PR (w:World) (a hi:Nat) (l:LU) (n m:Nat):Prop where
 blk:∃ (b off c f:Nat) (xs:List AV),aF w a [.slice (some ⟨b,off,none⟩) m c,.int .i64 n]∧Rd w 2 (some ⟨b,off,none⟩) m (xs.flatMap AV.cells)∧xs.length=m∧xs.map (fun x=>bl x.text)=fL (f+1) l∧l.length≤f∧b≠a∧b<hi∧m≤c∧c≤maxLen∧∀ x∈xs,x.text.size≤4294967280
 lt:a<hi
 hz:hi≤w.heap.size
structure UX (w:World) (a b off m c n:Nat) (T:BA) (p:Nat):Prop where
 c0:w.cell? ⟨a,0,none⟩=some (.slice (some ⟨b,off,none⟩) m c)
 c1:w.cell? ⟨a,1,none⟩=some (.int .i64 n)
 f0:w.frozen? ⟨a,0,none⟩=false
 f1:w.frozen? ⟨a,1,none⟩=false
 t0:w.cell? ⟨b,off,none⟩=some (.string T)
 t1:w.cell? ⟨b,off+1,none⟩=some (.int .i64 p)
 ne:b≠a
 m1:1≤m
 mc:m≤c
 cz:c≤maxLen
 tz:T.size≤4294967280
theorem PR.cells {w:World}{a hi n m:Nat}{l:LU}(h:PR w a hi l n m):∃ b off c T p,UX w a b off m c n T p∧bl T=aY l∧(aY l≠[]→2≤m∧PR (w.setCell ⟨a,0,none⟩ (.slice (some ⟨b,off+2,none⟩) ((m-1:Nat)) ((c-1:Nat)))) a hi (bw l) n (m-1)):=by
 obtain⟨b,off,c,f,xs,k,hr,hm,hx,hf,hne,hbh,hmc,hcz,hz⟩:=h.blk
 obtain⟨r,h1,h2⟩:=qC f l
 rw[h1] at hx
 cases xs with
 | nil=>simp at hx
 | cons x xs=>
  simp only[List.map_cons,List.cons.injEq] at hx
  obtain⟨hx0,hx1⟩:=hx
  have hm1:0<m:=by rw[←hm];simp
  obtain⟨b',off',e,hc⟩:=hr.2 hm1
  injection e with e;injection e with eb eo _
  subst eb eo
  have u0:=hc 0 (.string x.text) rfl
  have u1:=hc 1 (.int .i64 x.at_) rfl
  refine⟨b,off,c,x.text,x.at_,⟨k.cell 0 _ rfl,k.cell 1 _ rfl,k.free 0 (by simp),k.free 1 (by simp),u0,u1,hne,hm1,hmc,hcz,hz x (by simp)⟩,hx0,fun hl=>?_⟩
  have hr2:=h2 hl
  have hf2:∃ f',f=f'+1:=⟨f-1,by have:=kP hl;omega⟩
  obtain⟨f',rfl⟩:=hf2
  obtain⟨r',h3,_⟩:=qC f' (bw l)
  have hm2:2≤m:=by
   rw[←hm,List.length_cons]
   have:xs.length=r.length:=by rw[←hx1,List.length_map]
   rw[hr2,h3] at this;simp at this;omega
  refine⟨hm2,⟨b,off+2,c-1,f',xs,k.set 0 (by simp) _,?_,?_,?_,?_,hne,hbh,by omega,by omega,fun y hy=>hz y (by simp[hy])⟩,h.lt,by simpa using h.hz⟩
  ·have hk:∀ p:Addr,p.block=b→(w.setCell ⟨a,0,none⟩ (.slice (some ⟨b,off+2,none⟩) (m-1) (c-1))).cell? p=w.cell? p:=fun p hp=>World.cell?_setCell_other _ _ _ _ (by intro h;apply hne;rw[←hp,←h])
   refine⟨?_,fun _=>⟨b,off+2,rfl,fun j u hu=>?_⟩⟩
   ·have:=hr.1;rw[List.flatMap_cons,List.length_append,RG] at this;omega
   ·rw[hk _ rfl]
    have:=hc (j+2) u (by rw[List.flatMap_cons,List.getElem?_append_right (by simp[AV.cells])];simpa [AV.cells] using hu)
    rw[show off+2+j=off+(j+2) by omega];exact this
  ·rw[←hm];simp
  ·rw[hx1,hr2]
  ·have:=kP hl;omega
theorem PR.grown {w w':World}{a hi n m:Nat}{l:LU}{row:Option Nat}(h:PR w a hi l n m)(hg:w.grownBy w' row)(hne:∀ j,row=some j→hi≤j):PR w' a hi l n m:=by
 obtain⟨b,off,c,f,xs,k,hr,hm,hx,hf,hba,hbh,h1⟩:=h.blk
 have hn:∀ j,j<hi→some j≠row:=fun j hj e=>by have:=hne j e.symm;omega
 refine⟨⟨b,off,c,f,xs,k.grownBy hg (hn a h.lt),?_,hm,hx,hf,hba,hbh,h1⟩,h.lt,Nat.le_trans h.hz hg.size⟩
 refine⟨hr.1,fun h0=>?_⟩
 obtain⟨b',off',e,hc⟩:=hr.2 h0
 injection e with e;injection e with e1 e2 _
 subst e1 e2
 exact⟨b,off,rfl,fun j u hu=>hg.cell (hc j u hu) (hn b hbh)⟩
theorem PR.below {w w':World}{a hi n m:Nat}{l:LU}(h:PR w a hi l n m)(hb:Below w.heap.size w w'):PR w' a hi l n m:=h.grown (eK hb none) (by simp)
theorem PR.sz {w:World}{a hi n m:Nat}{l:LU}(h:PR w a hi l n m):a<w.heap.size:=Nat.lt_of_lt_of_le h.lt h.hz
theorem PR.alloc {w:World}{a hi n m:Nat}{l:LU}(h:PR w a hi l n m)(o:Obj):PR (w.alloc o) a hi l n m:=h.below (bR.alloc lr o)
theorem PR.far {w:World}{a hi n m b j:Nat}{l:LU}(h:PR w a hi l n m)(hb:hi≤b)(v:Value):PR (w.setCell ⟨b,j,none⟩ v) a hi l n m:=h.grown (bN v) (fun j e=>by injection e with e;omega)
theorem PR.count {w:World}{a hi n m:Nat}{l:LU}(h:PR w a hi l n m)(v:Nat):PR (w.setCell ⟨a,1,none⟩ (.int .i64 v)) a hi l v m:=by
 obtain⟨b,off,c,f,xs,k,hr,hm,hx,hf,hne,h1⟩:=h.blk
 refine⟨⟨b,off,c,f,xs,k.set 1 (by simp) _,?_,hm,hx,hf,hne,h1⟩,h.lt,by simpa using h.hz⟩
 refine⟨hr.1,fun h0=>?_⟩
 obtain⟨b',off',e,hc⟩:=hr.2 h0
 refine⟨b',off',e,fun j u hu=>?_⟩
 rw[World.cell?_setCell_other (h:=by injection e with e;injection e with e1;intro h;apply hne;rw[e1];injection h with h;exact h.symm)]
 exact hc j u hu
theorem fJ (t:BA)(q c:Int)(w:World):
  Calls Tryz.prog 88 #[.agg #[.string t,.int .i64 q],.int .i64 c] w fun e w'=>e=.returned (gB ⟨#[]⟩ q c)∧Below w.heap.size w w':=by
 go_enter Tryz.func88,Tryz.ntmps88
 go_wp2_with fail
 refine bodyPost_ret (v:=gB ⟨#[]⟩ q c) (by simp[results,Tryz.results88,go_sem,gB]) rfl ?_
 refine⟨rfl,?_⟩
 repeat' refine aw ?_ (by omega) _
 exact(bR.alloc lr _).alloc (by simp) _
theorem jr (a hi n m:Nat)(l:LU)(w:World)(h:PR w a hi l n m)(hl:aY l≠[]):
  Calls Tryz.prog 128 #[.pointer (some ⟨a,0,none⟩)] w fun e w'=>e=.returned (.tuple #[])∧PR w' a hi (bw l) n (m-1)∧w.grownBy w' (some a)∧2≤m:=by
 obtain⟨b,off,c,T,p,k,hT,h2⟩:=h.cells
 obtain⟨h2,h3⟩:=h2 hl
 have HR:=ae h3
 obtain⟨c0,c1,f0,f1,t0,t1,ne,m1,mc,cz,tz⟩:=k
 simp only[maxLen] at cz
 clear h3 h hl hT
 go_enter Tryz.func128,Tryz.ntmps128
 go_wp2_with fail
 go_end0
 exact⟨rfl,HR.out,bN _,h2⟩
abbrev lI (W:World) (s:Nat) (v0 v1 v2 v3 v4 u0 u1 u2:Value):World:=
 (((((((W.setCell ⟨s,0,none⟩ v0).setCell ⟨s,1,none⟩ v1).setCell ⟨s,2,none⟩ v2).setCell ⟨s,3,none⟩ v3).setCell ⟨s,4,none⟩ v4).setCell ⟨s+1,0,none⟩ u0).setCell ⟨s+1,1,none⟩ u1).setCell ⟨s+1,2,none⟩ u2
theorem de {w W:World}{a s:Nat}(h:w.grownBy W (some a))(hs:w.heap.size≤s)(v0 v1 v2 v3 v4 u0 u1 u2:Value):w.grownBy (lI W s v0 v1 v2 v3 v4 u0 u1 u2) (some a):=by
 unfold lI
 repeat' refine aU ?_ (.inr (by simp only;omega)) _
 exact h
theorem vy {W:World}{a hi n m s:Nat}{l:LU}(h:PR W a hi l n m)(hs:hi≤s)(v0 v1 v2 v3 v4 u0 u1 u2:Value):PR (lI W s v0 v1 v2 v3 v4 u0 u1 u2) a hi l n m:=by
 unfold lI
 repeat' refine PR.far ?_ (by omega) _
 exact h
theorem yd {W:World}{lo s:Nat}{bad:Option Nat}{T:aj}(h:ce W lo bad T)(hs:s+1<lo)(v0 v1 v2 v3 v4 u0 u1 u2:Value):ce (lI W s v0 v1 v2 v3 v4 u0 u1 u2) lo bad T:=by
 unfold lI
 repeat' refine ce.kept ?_ (by omega) (bN _)
 exact h
structure BF (W:World) (s:Nat):Prop where
 b0:aF W s [.string ⟨#[]⟩,.string ⟨#[]⟩,.int .i64 0,.string ⟨#[]⟩,.slice none 0 0]
 b1:aF W (s+1) [.string ⟨#[]⟩,.int .i64 0,.int .i64 0]
structure Ji (W:World) (s:Nat):Prop where
 x0:W.cell? ⟨s,0,none⟩=some (.string ⟨#[]⟩)
 x1:W.cell? ⟨s,1,none⟩=some (.string ⟨#[]⟩)
 x2:W.cell? ⟨s,2,none⟩=some (.int .i64 0)
 x3:W.cell? ⟨s,3,none⟩=some (.string ⟨#[]⟩)
 x4:W.cell? ⟨s,4,none⟩=some (.slice none 0 0)
 y0:W.cell? ⟨s+1,0,none⟩=some (.string ⟨#[]⟩)
 y1:W.cell? ⟨s+1,1,none⟩=some (.int .i64 0)
 y2:W.cell? ⟨s+1,2,none⟩=some (.int .i64 0)
 f0:W.frozen? ⟨s,0,none⟩=false
 f1:W.frozen? ⟨s,1,none⟩=false
 f2:W.frozen? ⟨s,2,none⟩=false
 f3:W.frozen? ⟨s,3,none⟩=false
 f4:W.frozen? ⟨s,4,none⟩=false
 g0:W.frozen? ⟨s+1,0,none⟩=false
 g1:W.frozen? ⟨s+1,1,none⟩=false
 g2:W.frozen? ⟨s+1,2,none⟩=false
theorem BF.c {W:World}{s:Nat}(h:BF W s):Ji W s:=
 ⟨h.b0.cell 0 _ rfl,h.b0.cell 1 _ rfl,h.b0.cell 2 _ rfl,h.b0.cell 3 _ rfl,h.b0.cell 4 _ rfl,h.b1.cell 0 _ rfl,h.b1.cell 1 _ rfl,h.b1.cell 2 _ rfl,h.b0.free 0 (by simp),h.b0.free 1 (by simp),h.b0.free 2 (by simp),h.b0.free 3 (by simp),h.b0.free 4 (by simp),h.b1.free 0 (by simp),h.b1.free 1 (by simp),h.b1.free 2 (by simp)⟩
theorem BF.step {W W':World}{s a:Nat}(h:BF W s)(hg:W.grownBy W' (some a))(hs:a<s):BF W' s:=
 ⟨h.b0.grownBy hg (by simp;omega),h.b1.grownBy hg (by simp;omega)⟩
theorem BF.below {W W':World}{s:Nat}(h:BF W s)(hb:Below W.heap.size W W'):BF W' s:=⟨h.b0.below hb,h.b1.below hb⟩
theorem BF.new (w:World)(t t':TypeId):BF ((w.alloc (.cells #[.string ⟨#[]⟩,.string ⟨#[]⟩,.int .i64 0,.string ⟨#[]⟩,.slice none 0 0] t)).alloc (.cells #[.string ⟨#[]⟩,.int .i64 0,.int .i64 0] t')) w.heap.size:=by
 refine⟨(aF.new w _ t).alloc _,?_⟩
 have:=aF.new (w.alloc (.cells #[.string ⟨#[]⟩,.string ⟨#[]⟩,.int .i64 0,.string ⟨#[]⟩,.slice none 0 0] t)) [.string ⟨#[]⟩,.int .i64 0,.int .i64 0] t'
 simpa using this
theorem mj (tmps:Array Value){W:World}{s:Nat}(h:Ji W s)(h2:tmps[2]?=some (.pointer (some ⟨s,0,none⟩)))(h3:tmps[3]?=some (.pointer (some ⟨s+1,0,none⟩)))(v0 v1 v2 v3 v4 u0 u1 u2:Value)
  (hv:v0.oneCell'=true∧v1.oneCell'=true∧v2.oneCell'=true∧v3.oneCell'=true∧v4.oneCell'=true∧u0.oneCell'=true∧u1.oneCell'=true∧u2.oneCell'=true):
  (results Tryz.f130 tmps).run Tryz.prog (lI W s v0 v1 v2 v3 v4 u0 u1 u2)=.ok (.tuple #[.agg #[v0,v1,v2,v3,v4],.agg #[u0,u1,u2]]) (lI W s v0 v1 v2 v3 v4 u0 u1 u2):=by
 obtain⟨x0,x1,x2,x3,x4,y0,y1,y2,_,_,_,_,_,_,_,_⟩:=h
 simp(maxDischargeDepth:=10) [results,Tryz.results130,h2,h3,go_sem,x0,x1,x2,x3,x4,y0,y1,y2]
def aj.sl (t:aj):Value:=.slice t.ka t.kids.length t.kc
inductive gT:aj→Prop
 | mk (t:aj) (leaf:t.kids=[]→t.op.size=0) (node:t.kids≠[]→t.op.size≠0) (kids:∀ k∈t.kids,gT k):gT t
theorem gT.leaf {t:aj}(h:gT t):t.kids=[]→t.op.size=0:=by cases h;assumption
theorem gT.node {t:aj}(h:gT t):t.kids≠[]→t.op.size≠0:=by cases h;assumption
theorem gT.kids {t:aj}(h:gT t):∀ k∈t.kids,gT k:=by cases h;assumption
theorem dH.shape {t:aj}(h:dH t):gT t:=by
 induction h with
 | atom nm aop ver _ _ _ _=>exact .mk _ (fun _=>rfl) (fun h=>absurd rfl h) (by simp[aj.kids])
 | node op ka kc kids ho hc hk ih=>
  refine .mk _ (fun e=>?_) (fun _ e=>?_) ih
  ·have h2:=mM hc
   simp only[aj.kids] at e
   rw[e] at h2;simp at h2
  ·simp only[aj.op] at e
   exact(kg ho).1 (bj op e)
def zX (w:World)(row:Option Nat):Prop:=∀ g cs fr,row=some g→w.heap[g]?≠some (.cells cs 70 fr)
theorem zX.map {w:World}{b:Nat}{ms:List (aj×Nat)}(h:fY w b ms):zX w (some b):=by
 intro g cs fr e h2
 injection e with e;subst e
 obtain⟨es,clock,hb,_⟩:=h.ex
 rw[hb] at h2;simp at h2
theorem zX.row {w:World}{lo n:Nat}{v:Value}{xs:List Value}(h:w.ownsRow lo 68 1 v n xs):zX w v.ownBlock:=by
 intro g cs fr e h2
 rcases h.2 with⟨hv,_⟩ | ⟨g',cap,cur,hv,_,hg,_⟩
 ·rw[hv] at e;simp[Value.ownBlock] at e
 ·rw[hv] at e;simp[Value.ownBlock] at e
  subst e
  rw[hg] at h2
  injection h2 with h2
  injection h2 with _ h2 _
  exact absurd h2 (by decide)
theorem ce.tame {w w':World}{lo:Nat}{row:Option Nat}{t:aj}(h:ce w lo none t)(ht:zX w row)(hg:w.grownBy w' row):ce w' lo none t:=by
 induction h with
 | mk t r ne _ ih=>
  refine .mk t (r.kept hg ?_) (fun g _=>by simp) ih
  rcases r.2 with⟨hv,_⟩ | ⟨g',cap,cur,hv,_,hg',_⟩
  ·left;rw[hv];rfl
  ·right;rw[hv];intro e
   exact ht g' _ _ e.symm hg'
theorem fY.tame {w w':World}{b:Nat}{row:Option Nat}{ms:List (aj×Nat)}(h:fY w b ms)(ht:zX w row)(hne:some b≠row)(hg:w.grownBy w' row):fY w' b ms:=by
 obtain⟨es,clock,h1,h2⟩:=h.ex
 exact⟨⟨es,clock,(hg.block b h.lt hne).trans h1,h2⟩,fun p hp=>⟨(h.own p hp).1.tame ht hg,(h.own p hp).2⟩⟩
theorem fY.ne_row {w:World}{b lo n size:Nat}{e:TypeId}{ms:List (aj×Nat)}{v:Value}{xs:List Value}(h:fY w b ms)(r:w.ownsRow lo e size v n xs):some b≠v.ownBlock:=by
 intro he
 obtain⟨es,clock,h1,h2⟩:=h.ex
 rcases r.2 with⟨hv,_⟩ | ⟨g',cap,cur,hv,_,hg,_⟩
 ·rw[hv] at he;simp[Value.ownBlock] at he
 ·rw[hv] at he;simp[Value.ownBlock] at he
  subst he;rw[h1] at hg;simp at hg
structure Kx (lo:Nat) (wr:World) (A:Option Addr) (n c:Nat) (xs:List aj):Prop where
 len:xs.length=n
 row:wr.ownsRow lo 68 1 (.slice A n c) n (xs.map aj.sl)
 own:∀ x∈xs,ce wr 0 none x
 ne:∀ x∈xs,x.kids≠[]
 shape:∀ x∈xs,∀ k∈x.kids,gT k
theorem Kx.nil (lo:Nat)(wr:World):Kx lo wr none 0 0 []:=⟨rfl,World.ownsRow_nil _ _ _ _,by simp,by simp,by simp⟩
theorem Kx.tame {lo:Nat}{wr w':World}{A:Option Addr}{n c:Nat}{xs:List aj}{row:Option Nat}(h:Kx lo wr A n c xs)(ht:zX wr row)(hne:(Value.slice A n c).ownBlock=none∨(Value.slice A n c).ownBlock≠row)(hg:wr.grownBy w' row):Kx lo w' A n c xs:=
 ⟨h.len,h.row.kept hg hne,fun x hx=>(h.own x hx).tame ht hg,h.ne,h.shape⟩
theorem Kx.below {lo:Nat}{wr w':World}{A:Option Addr}{n c:Nat}{xs:List aj}(h:Kx lo wr A n c xs)(hb:Below wr.heap.size wr w'):Kx lo w' A n c xs:=
 ⟨h.len,aR h.row hb,fun x hx=>(h.own x hx).low hb,h.ne,h.shape⟩
theorem Kx.map {lo:Nat}{wr w':World}{A:Option Addr}{n c b:Nat}{xs:List aj}{ms:List (aj×Nat)}(h:Kx lo wr A n c xs)(hm:fY wr b ms)(hg:wr.grownBy w' (some b)):Kx lo w' A n c xs:=
 h.tame (.map hm) (.inr (hm.ne_row h.row).symm) hg
def kR (L ys:List aj)(ms:List (aj×Nat)):Prop:=∀ t∈L,t.kids≠[]→(∃ y∈ys,y.kids=t.kids)∧∃ q∈ms,q.1.kids=t.kids
theorem kR.nil (ys:List aj)(ms:List (aj×Nat)):kR [] ys ms:=by intro t ht;simp at ht
theorem kR.leaf {L ys:List aj}{ms:List (aj×Nat)}{t:aj}(h:kR L ys ms)(ht:t.kids=[]):kR (L++[t]) ys ms:=by
 intro x hx hk
 rcases List.mem_append.1 hx with hx | hx
 ·exact h x hx hk
 ·obtain rfl:=List.mem_singleton.1 hx;exact absurd ht hk
structure JB (s0:Nat) (wr:World) (mb hb h k:Nat) (A:Option Addr) (n c:Nat) (xs:List aj) (B:Option Addr) (m cB:Nat) (ys:List aj) (ms hs:List (aj×Nat)):Prop where
 lev:Kx 0 wr A n c xs
 old:∀ g,(Value.slice A n c).ownBlock=some g→g<s0
 new:Kx s0 wr B m cB ys
 met:fY wr mb ms
 here:fY wr hb hs
 hne:mb≠hb
 xh:∀ x∈xs,x.ht+k≤h+1
 yh:∀ y∈ys,y.ht+k≤h
 hsy:∀ p∈hs,(∃ y∈ys,y.kids=p.1.kids)∧∃ q∈ms,q.1.kids=p.1.kids
 mok:∀ i,i<k→∃ p∈ms,p.1.ht+i=h
 top:∃ x∈xs,x.ht+k=h+1
theorem JB.below {s0:Nat}{wr w':World}{mb hb h k:Nat}{A:Option Addr}{n c:Nat}{xs:List aj}{B:Option Addr}{m cB:Nat}{ys:List aj}{ms hs:List (aj×Nat)}(d:JB s0 wr mb hb h k A n c xs B m cB ys ms hs)(b:Below wr.heap.size wr w'):JB s0 w' mb hb h k A n c xs B m cB ys ms hs:=
 ⟨d.lev.below b,d.old,d.new.below b,d.met.below b,d.here.below b,d.hne,d.xh,d.yh,d.hsy,d.mok,d.top⟩
theorem JB.hit {s0:Nat}{wr:World}{mb hb h k:Nat}{A:Option Addr}{n c:Nat}{xs:List aj}{B:Option Addr}{m cB:Nat}{ys:List aj}{ms hs:List (aj×Nat)}(d:JB s0 wr mb hb h k A n c xs B m cB ys ms hs){L:List aj}(hl:kR L ys ms){t:aj}{p:aj×Nat}(hp:p∈hs)(e:p.1.kids=t.kids):kR (L++[t]) ys ms:=by
 intro x hx hk
 rcases List.mem_append.1 hx with hx | hx
 ·exact hl x hx hk
 ·obtain rfl:=List.mem_singleton.1 hx
  rw[←e];exact d.hsy p hp
theorem JB.grow {s0:Nat}{wr w1 w2 wb w3:World}{mb hb h k v:Nat}{A:Option Addr}{n c:Nat}{xs:List aj}{B B1:Option Addr}{m cB c1:Nat}{ys:List aj}{ms hs ms' hs':List (aj×Nat)}{t:aj}
  (d:JB s0 wr mb hb h k A n c xs B m cB ys ms hs)(ht:ce wr 0 none t)(tk:t.kids≠[])(tsh:∀ x∈t.kids,gT x)(tht:t.ht+k≤h)
  (k1:fY w1 hb hs')(g1:wr.grownBy w1 (some hb))(f1:∀ p∈hs',(∃ q∈hs,q=p)∨p.1.kids=t.kids∧p.2=v)
  (k2:fY w2 mb ms')(g2:w1.grownBy w2 (some mb))(f2:∀ p∈ms,∃ q∈ms',q.1=p.1)(f3:∃ q∈ms',q.1.kids=t.kids)
  (b:Below w2.heap.size w2 wb)(o:w3.ownsRow s0 68 1 (.slice B1 (m+1) c1) (m+1) (ys.map aj.sl++[t.sl]))(g3:wb.grownBy w3 (Value.slice B m cB).ownBlock):
  JB s0 w3 mb hb h k A n c xs B1 (m+1) c1 (ys++[t]) ms' hs':=by
 have m1:fY w1 mb ms:=d.met.tame (.map d.here) (fun e=>d.hne (by injection e)) g1
 have t1:=ht.tame (.map d.here) g1
 have l1:=d.lev.map d.here g1
 have n1:=d.new.map d.here g1
 have t2:=t1.tame (.map m1) g2
 have l2:=l1.map m1 g2
 have n2:=n1.map m1 g2
 have h2:fY w2 hb hs':=k1.tame (.map m1) (fun e=>d.hne (by injection e with e;exact e.symm)) g2
 have tb:=t2.low b
 have lb:=l2.below b
 have nb:=n2.below b
 have hb':=h2.below b
 have mb':=k2.below b
 have tm:zX wb (Value.slice B m cB).ownBlock:=.row nb.row
 refine⟨lb.tame tm ?_ g3,d.old,⟨by simp[nb.len],by simpa using o,fun x hx=>?_,fun x hx=>?_,fun x hx=>?_⟩,mb'.tame tm (mb'.ne_row nb.row) g3,hb'.tame tm (hb'.ne_row nb.row) g3,d.hne,d.xh,fun y hy=>?_,fun p hp=>?_,fun i hi=>?_,d.top⟩
 ·cases e:(Value.slice A n c).ownBlock with
  | none=>exact .inl rfl
  | some g=>
   right;intro e2
   have:=d.old g e
   have:=(nb.row.lt g e2.symm).1
   omega
 ·rcases List.mem_append.1 hx with hx | hx
  ·exact(nb.own x hx).tame tm g3
  ·obtain rfl:=List.mem_singleton.1 hx;exact tb.tame tm g3
 ·rcases List.mem_append.1 hx with hx | hx
  ·exact nb.ne x hx
  ·obtain rfl:=List.mem_singleton.1 hx;exact tk
 ·rcases List.mem_append.1 hx with hx | hx
  ·exact nb.shape x hx
  ·obtain rfl:=List.mem_singleton.1 hx;exact tsh
 ·rcases List.mem_append.1 hy with hy | hy
  ·exact d.yh y hy
  ·obtain rfl:=List.mem_singleton.1 hy;exact tht
 ·rcases f1 p hp with⟨q,hq,rfl⟩ | ⟨e,_⟩
  ·obtain⟨⟨y,hy,ey⟩,q2,hq2,eq2⟩:=d.hsy q hq
   obtain⟨q3,hq3,e3⟩:=f2 q2 hq2
   exact⟨⟨y,by simp[hy],ey⟩,q3,hq3,by rw[e3,eq2]⟩
  ·obtain⟨q3,hq3,e3⟩:=f3
   exact⟨⟨t,by simp,e.symm⟩,q3,hq3,by rw[e3,e]⟩
 ·obtain⟨p,hp,e⟩:=d.mok i hi
  obtain⟨q,hq,e2⟩:=f2 p hp
  exact⟨q,hq,by rw[e2];exact e⟩
theorem kR.grow {L ys:List aj}{ms ms':List (aj×Nat)}{t:aj}(h:kR L ys ms)(f2:∀ p∈ms,∃ q∈ms',q.1=p.1)(f3:∃ q∈ms',q.1.kids=t.kids):kR (L++[t]) (ys++[t]) ms':=by
 intro x hx hk
 rcases List.mem_append.1 hx with hx | hx
 ·obtain⟨⟨y,hy,ey⟩,q,hq,eq⟩:=h x hx hk
  obtain⟨q3,hq3,e3⟩:=f2 q hq
  exact⟨⟨y,by simp[hy],ey⟩,q3,hq3,by rw[e3,eq]⟩
 ·obtain rfl:=List.mem_singleton.1 hx
  exact⟨⟨x,by simp,rfl⟩,f3⟩
theorem yy {a b:aj}(h:a.kids=b.kids):a.ht=b.ht:=by rw[xR,xR,h]
theorem JB.next {s0:Nat}{wr:World}{mb hb h k:Nat}{A:Option Addr}{n c:Nat}{xs:List aj}{B:Option Addr}{m cB:Nat}{ys:List aj}{ms hs:List (aj×Nat)}(d:JB s0 wr mb hb h k A n c xs B m cB ys ms hs)(hs:kR (xs.flatMap aj.kids) ys ms)(hm:0<m):
  k<ms.length∧k+1≤h∧(∀ i,i<k+1→∃ p∈ms,p.1.ht+i=h)∧∃ y∈ys,y.ht+(k+1)=h+1:=by
 obtain⟨y,hy⟩:∃ y,y∈ys:=by
  have:=d.new.len
  cases ys with
  | nil=>simp at this;omega
  | cons a r=>exact⟨a,by simp⟩
 have y1:=d.yh y hy
 have y2:y.ht≠0:=fun e=>d.new.ne y hy (vx.1 e)
 obtain⟨x,hx,xe⟩:=d.top
 obtain⟨t,ht,te⟩:=Dt (d.lev.ne x hx)
 rw[←xR] at te
 have tk:t.kids≠[]:=fun e=>by have:=vx.2 e;omega
 obtain⟨⟨z,hz,ez⟩,q,hq,eq⟩:=hs t (List.mem_flatMap.2 ⟨x,hx,ht⟩) tk
 have ezh:=yy ez
 have eqh:=yy eq
 have mk:∀ i,i<k+1→∃ p∈ms,p.1.ht+i=h:=by
  intro i hi
  rcases(by omega:i<k∨i=k) with hi | rfl
  ·exact d.mok i hi
  ·exact⟨q,hq,by omega⟩
 refine⟨?_,by omega,mk,z,hz,by omega⟩
 refine uv (fun t=>h-t.ht) (k+1) ms (fun i hi=>?_)
 obtain⟨p,hp,e⟩:=mk i hi
 exact⟨p,hp,by show h-p.1.ht=i;omega⟩
end
end Go.Proofs.YtkjdbpjglobbjaaGreatDoor
