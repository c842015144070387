/- A part of the proof of a law on dependencies in three formats. No condition. -/
import Derived.Test.YtkjdbpjglobbjaaGreatDoorE30
import Derived.Test.YtkjdbpjglobbjaaGreatDoorE34
set_option maxRecDepth 100000
set_option maxHeartbeats 20000000
set_option linter.unusedVariables false
set_option linter.unusedSimpArgs false
namespace Go.Proofs.YtkjdbpjglobbjaaGreatDoor
section
open Go.RowKit
theorem mg:(Tryz.prog.info? 53).map (fun i=>(i.zero,i.size,i.bytes))=some (some (.agg #[.string ⟨#[]⟩,.int .i64 0,.string ⟨#[]⟩]),3,40):=by kernel_rfl
structure aq where
 bar:Bool
 aa:Option Addr
 ac:Nat
 alts:List aA
def aq.cells (d:aq):List Value:=[.bool d.bar,.slice d.aa d.alts.length d.ac]
def aq.pl (d:aq):ba:=⟨d.bar,d.alts⟩
theorem fI (d:aq):d.cells.length=2:=rfl
def aq.blk (d:aq):Option Nat:=(Value.slice d.aa d.alts.length d.ac).ownBlock
def aq.own (d:aq)(w:World)(lo:Nat):Prop:=w.ownsRow lo 53 3 (.slice d.aa d.alts.length d.ac) d.alts.length (d.alts.flatMap aA.cells)
theorem kN:(Tryz.prog.info? 33).map (fun i=>(i.zero,i.size,i.bytes))=some (some (.agg #[.bool false,.slice none 0 0]),2,32):=by kernel_rfl
structure eW (w:World) (A:Option Addr) (ds:List aq):Prop where
 row:Rd w 2 A ds.length (ds.flatMap aq.cells)
 all:∀ d∈ds,Rd w 3 d.aa d.alts.length (d.alts.flatMap aA.cells)
theorem eW.below {w w':World}{A:Option Addr}{ds:List aq}(h:eW w A ds)(hb:Below w.heap.size w w'):eW w' A ds:=⟨h.row.below hb,fun d hd=>(h.all d hd).below hb⟩
structure iT (w wr:World) (ds:List aq) (A:Option Addr) (n c:Nat):Prop where
 len:ds.length=n
 row:wr.ownsRow w.heap.size 33 2 (.slice A n c) n (ds.flatMap aq.cells)
 al:∀ d∈ds,d.own wr w.heap.size
 far:ds.Pairwise fun d e=>∀ g,d.blk=some g→e.blk≠some g
 bel:Below w.heap.size w wr
theorem iT.start (w:World):iT w w [] none 0 0:=⟨rfl,World.ownsRow_nil _ _ _ _,by simp,.nil,bR⟩
theorem iT.below {w wr w':World}{ds:List aq}{A:Option Addr}{n c:Nat}(h:iT w wr ds A n c)(hb:Below wr.heap.size wr w'):iT w w' ds A n c:=
 ⟨h.len,aR h.row hb,fun x hx=>aR (h.al x hx) hb,h.far,ah h.bel hb⟩
theorem iT.ok {w wr:World}{ds:List aq}{A:Option Addr}{n c:Nat}(h:iT w wr ds A n c):eW wr A ds:=⟨by rw[h.len];exact bA h.row,fun d hd=>bA (h.al d hd)⟩
theorem iT.grow {w wr w2:World}{ds:List aq}{A A1:Option Addr}{n c c1 lo:Nat}{o:Obj}{d:aq}(h:iT w wr ds A n c)(hd:d.own wr lo)(hlo:w.heap.size≤lo)(hn:∀ x∈ds,∀ g,x.blk=some g→g<lo)
  (hr:w2.ownsRow w.heap.size 33 2 (.slice A1 (n+1) c1) (n+1) (ds.flatMap aq.cells++d.cells))
  (hg:(wr.alloc o).grownBy w2 (Value.slice A n c).ownBlock):iT w w2 (ds++[d]) A1 (n+1) c1:=by
 have hb:=(Below.refl wr.heap.size wr).alloc lr o
 have ho:=h.below hb
 have hd':d.own (wr.alloc o) w.heap.size:=cN (aR hd hb) hlo
 refine⟨by simp[h.len],by rw[List.flatMap_append];simpa using hr,fun t ht=>?_,?_,ho.bel.grown hg ho.bel.size (fun j hj=>(ho.row.lt j hj).1)⟩
 ·rcases List.mem_append.1 ht with ht | ht
  ·exact da (ho.al t ht) ho.row (by decide) hg
  ·obtain rfl:=List.mem_singleton.1 ht
   exact da hd' ho.row (by decide) hg
 ·rw[List.pairwise_append]
  refine⟨h.far,List.pairwise_singleton _ _,fun x hx y hy g hg'=>?_⟩
  obtain rfl:=List.mem_singleton.1 hy
  intro e
  have h1:=hn x hx g hg'
  have h2:=(hd.lt g e).1
  omega
theorem iT.blk_lt {w wr:World}{ds:List aq}{A:Option Addr}{n c:Nat}(h:iT w wr ds A n c):∀ x∈ds,∀ g,x.blk=some g→g<wr.heap.size:=fun x hx g hg=>((h.al x hx).lt g hg).2
def aq.head (d:aq):Bool×Option Addr×Nat×Nat:=(d.bar,d.aa,d.ac,d.alts.length)
theorem vw {ds:List aq}{R:aq→aq→Prop}(h:ds.Pairwise R)(hs:∀ a b,R a b→R b a){i j:Nat}{x y:aq}(hij:i≠j)(hi:ds[i]?=some x)(hj:ds[j]?=some y):R x y:=by
 rw[List.pairwise_iff_getElem] at h
 obtain⟨hi1,hi2⟩:=gS hi
 obtain⟨hj1,hj2⟩:=gS hj
 rcases Nat.lt_or_gt_of_ne hij with hlt | hlt
 ·have:=h i j hi1 hj1 hlt;rw[hi2,hj2] at this;exact this
 ·have:=h j i hj1 hi1 hlt;rw[hi2,hj2] at this;exact hs _ _ this
theorem mh (a b:aq)(h:∀ g,a.blk=some g→b.blk≠some g):∀ g,b.blk=some g→a.blk≠some g:=fun g hb ha=>h g ha hb
theorem Po {l:List aA}{j:Nat}{x:aA}(hj:j<l.length):
  (((l.flatMap aA.cells).set (j*3) (.string x.nm)).set (j*3+1) (.int .i64 x.op)).set (j*3+2) (.string x.ver)=(l.set j x).flatMap aA.cells:=by
 induction l generalizing j with
 | nil=>simp at hj
 | cons a r ih=>
  cases j with
  | zero=>simp[aA.cells]
  | succ j=>
   have:=ih (j:=j) (by simpa using hj)
   rw[List.set_cons_succ,List.flatMap_cons,List.flatMap_cons,←this]
   have e:∀ (k:Nat)(v:Value)(t:List Value),(a.cells++t).set (k+3) v=a.cells++t.set k v:=by intro k v t;rfl
   rw[show(j+1)*3=j*3+3 by omega,e,show j*3+3+1=(j*3+1)+3 by omega,e,show j*3+3+2=(j*3+2)+3 by omega,e]
theorem iT.put {w wr:World}{ds:List aq}{A:Option Addr}{n c i j g cp:Nat}{d:aq}{x:aA}(h:iT w wr ds A n c)(hi:ds[i]?=some d)(hj:j<d.alts.length)(haa:d.aa=some ⟨g,0,none⟩)(hac:d.ac=cp):
  iT w (((wr.setCell ⟨g,j*3,none⟩ (.string x.nm)).setCell ⟨g,j*3+1,none⟩ (.int .i64 x.op)).setCell ⟨g,j*3+2,none⟩ (.string x.ver)) (ds.set i { d with alts:=d.alts.set j x }) A n c:=by
 have hm:=gM hi
 have hd:=h.al d hm
 unfold aq.own at hd
 rw[haa] at hd
 have s1:=hd.stored (j*3) (.string x.nm)
 have s2:=s1.1.stored (j*3+1) (.int .i64 x.op)
 have s3:=s2.1.stored (j*3+2) (.string x.ver)
 have hgr:wr.grownBy (((wr.setCell ⟨g,j*3,none⟩ (.string x.nm)).setCell ⟨g,j*3+1,none⟩ (.int .i64 x.op)).setCell ⟨g,j*3+2,none⟩ (.string x.ver)) (some g):=(s1.2.trans s2.2).trans s3.2
 have hblk:d.blk=some g:=by unfold aq.blk;rw[haa];rfl
 have hgl:=hd.lt g rfl
 refine⟨by rw[List.length_set];exact h.len,?_,?_,?_,?_⟩
 ·have hc:(ds.set i { d with alts:=d.alts.set j x }).flatMap aq.cells=ds.flatMap aq.cells:=by
   have:∀ (ds:List aq)(i:Nat),ds[i]?=some d→(ds.set i { d with alts:=d.alts.set j x }).flatMap aq.cells=ds.flatMap aq.cells:=by
    intro ds
    induction ds with
    | nil=>intro i hi;simp at hi
    | cons a r ih=>
     intro i hi
     cases i with
     | zero=>simp at hi;subst hi;simp[aq.cells]
     | succ i=>rw[List.set_cons_succ,List.flatMap_cons,List.flatMap_cons,ih i (by simpa using hi)]
   exact this ds i hi
  rw[hc]
  refine h.row.kept hgr ?_
  have:=gt h.row (h.al d hm) (by decide)
  rw[show(Value.slice d.aa d.alts.length d.ac).ownBlock=some g from hblk] at this
  exact this
 ·intro y hy
  rw[List.mem_iff_getElem?] at hy
  obtain⟨k,hk⟩:=hy
  by_cases hki:k=i
  ·subst hki
   have hlt:=(gS hi).1
   rw[List.getElem?_set_self hlt] at hk
   injection hk with hk
   subst hk
   unfold aq.own
   simp only[haa,List.length_set]
   rw[←Po hj]
   exact s3.1
  ·rw[List.getElem?_set_ne (fun e=>hki e.symm)] at hk
   have hf:=vw h.far mh (fun e=>hki e.symm) hi hk
   refine(h.al y (gM hk)).kept hgr ?_
   right
   exact hf g hblk
 ·have key:∀ (ds:List aq)(i:Nat),ds[i]?=some d→(ds.Pairwise fun d e=>∀ g,d.blk=some g→e.blk≠some g)→(ds.set i { d with alts:=d.alts.set j x }).Pairwise fun d e=>∀ g,d.blk=some g→e.blk≠some g:=by
   have hbk:({ d with alts:=d.alts.set j x }:aq).blk=d.blk:=by unfold aq.blk;simp[Value.ownBlock,haa]
   intro ds
   induction ds with
   | nil=>intro i hi;simp at hi
   | cons a r ih=>
    intro i hi hp
    rw[List.pairwise_cons] at hp
    cases i with
    | zero=>
     simp at hi;subst hi
     rw[List.set_cons_zero,List.pairwise_cons]
     exact⟨fun b hb g hg=>hp.1 b hb g (by rw[←hbk];exact hg),hp.2⟩
    | succ i=>
     rw[List.set_cons_succ,List.pairwise_cons]
     refine⟨fun b hb g hg=>?_,ih i (by simpa using hi) hp.2⟩
     rcases List.mem_or_eq_of_mem_set hb with hb | hb
     ·exact hp.1 b hb g hg
     ·subst hb;rw[hbk];exact hp.1 d (gM (by simpa using hi)) g hg
  exact key ds i hi h.far
 ·exact h.bel.grown hgr h.bel.size (fun k hk=>by injection hk with hk;rw[←hk];exact hgl.1)
structure Ht (W0 wr:World) (b B1:Nat) (bar:Bool) (G:Option Addr) (m cc:Nat) (L:List aA):Prop where
 bel:Below W0.heap.size W0 wr
 box:aF wr b [.bool bar,.slice G m cc]
 own:wr.ownsRow B1 53 3 (.slice G m cc) m (L.flatMap aA.cells)
 len:L.length=m
 lo:W0.heap.size≤b
 hi:b<B1
 sz:B1≤wr.heap.size
theorem Ht.step {W0 wr w':World}{b B1:Nat}{bar:Bool}{G:Option Addr}{m cc:Nat}{L:List aA}(h:Ht W0 wr b B1 bar G m cc L)(hb:Below wr.heap.size wr w'):Ht W0 w' b B1 bar G m cc L:=
 ⟨ah h.bel hb,h.box.below hb,aR h.own hb,h.len,h.lo,h.hi,Nat.le_trans h.sz hb.size⟩
theorem Ht.app {W0 wr w6:World}{b B1:Nat}{bar:Bool}{G G1:Option Addr}{m cc c1:Nat}{L:List aA}{x:aA}(h:Ht W0 wr b B1 bar G m cc L)(o:Obj)
  (hown:w6.ownsRow B1 53 3 (.slice G1 (m+1) c1) (m+1) (L.flatMap aA.cells++x.cells))(hg:(wr.alloc o).grownBy w6 (Value.slice G m cc).ownBlock):
  Ht W0 (w6.setCell ⟨b,1,none⟩ (.slice G1 (m+1) c1)) b B1 bar G1 (m+1) c1 (L++[x]):=by
 have lo:=h.lo;have hi:=h.hi;have sz:=h.sz
 have hr:∀ g,(Value.slice G m cc).ownBlock=some g→B1≤g:=fun g hg'=>(h.own.lt g hg').1
 have q1:some b≠(Value.slice G m cc).ownBlock:=fun e=>by have:=hr b e.symm;omega
 have hset:w6.grownBy (w6.setCell ⟨b,1,none⟩ (.slice G1 (m+1) c1)) (some b):=aU (World.grownBy.refl w6 (some b)) (.inl rfl) _
 refine⟨aw ((h.bel.alloc h.bel.size o).grown hg (by have:=h.bel.size;simp;omega) (fun j hj=>by have:=hr j hj;omega)) (by omega) _,?_,?_,by simp[h.len],lo,hi,?_⟩
 ·exact((h.box.alloc o).grownR hg q1).set 1 (by simp) _
 ·rw[List.flatMap_append]
  have:=oE (j:=1) hown hi (.slice G1 (m+1) c1)
  simpa using this
 ·have h1:=hg.size;have h2:=hset.size;simp at h1;omega
theorem Ht.dep {W0 wr:World}{b B1:Nat}{bar:Bool}{G:Option Addr}{m cc:Nat}{L:List aA}(h:Ht W0 wr b B1 bar G m cc L):(⟨bar,G,cc,L⟩:aq).own wr B1:=by
 unfold aq.own;simp only;rw[h.len];exact h.own
theorem Ht.cells {W0 wr:World}{b B1:Nat}{bar:Bool}{G:Option Addr}{m cc:Nat}{L:List aA}(h:Ht W0 wr b B1 bar G m cc L):(⟨bar,G,cc,L⟩:aq).cells=[.bool bar,.slice G m cc]:=by unfold aq.cells;simp only;rw[h.len]
def Pp (l:List ba):Prop:=l.length≤64∧∀ d∈l,d.alts.length≤64∧∀ g∈d.alts,g.nm.size≤64∧g.ver.size≤64
def fq (r:List ba×Int)(w:World)(e:Ending)(w':World):Prop:=
 ∃ (A:Option Addr) (n c:Nat) (ds:List aq) (code:Int),e=.returned (.tuple #[.slice A n c,.int .i64 code])∧Below w.heap.size w w' ∧
  (if r.2=0 then code=0∧ds.map aq.pl=r.1∧iT w w' ds A n c∧Pp r.1 else code≠0∧(r.2≠-1→code=r.2)∧A=none∧n=0)
theorem mK {r:List ba×Int}{w w':World}{e:Int}(h:r.2=e)(h0:e≠0)(hb:Below w.heap.size w w'):fq r w (.returned (.tuple #[.slice none 0 0,.int .i64 e])) w':=
 ⟨none,0,0,[],e,rfl,hb,by rw[if_neg (by rw[h];exact h0)];exact⟨h0,fun _=>h.symm,rfl,rfl⟩⟩
theorem rV {r:List ba×Int}{w w':World}{A:Option Addr}{n c:Nat}{ds:List aq}(h:r=(ds.map aq.pl,0))(hd:iT w w' ds A n c)(hf:Pp (ds.map aq.pl)):fq r w (.returned (.tuple #[.slice A n c,.int .i64 0])) w':=
 ⟨A,n,c,ds,0,rfl,hd.bel,by rw[h,if_pos rfl];exact⟨rfl,rfl,hd,hf⟩⟩
end
section
open Go.RowKit Go.Deep
def xI (gs:List aW):Prop:=∀ g∈gs,∀ t∈g.ts,t.archs.length≤t.ac
theorem Mt {w:World}{lo:Nat}{gs:List aW}(hg:∀ g∈gs,g.own w lo):xI gs:=fun g hm t ht=>nE ((hg g hm).archs t ht)
structure eX (w:World) (lo:Nat) (A:Option Addr) (n c:Nat) (gs:List aW):Prop where
 len:gs.length=n
 row:w.ownsRow lo 79 1 (.slice A n c) n (gs.map aW.sl)
 grp:∀ g∈gs,g.own w lo
theorem eX.ok {w:World}{lo:Nat}{A:Option Addr}{n c:Nat}{gs:List aW}(h:eX w lo A n c gs):py w A gs:=
 ⟨by rw[h.len];exact bA h.row,fun g hm=>bA (h.grp g hm).row,fun g hm t ht=>bA ((h.grp g hm).archs t ht)⟩
theorem eX.cap {w:World}{lo:Nat}{A:Option Addr}{n c:Nat}{gs:List aW}(h:eX w lo A n c gs):xI gs:=Mt h.grp
theorem eX.kept {w w':World}{lo g:Nat}{A:Option Addr}{n c:Nat}{gs:List aW}(h:eX w lo A n c gs)(hg:g<lo)(hw:w.grownBy w' (some g)):eX w' lo A n c gs:=⟨h.len,dh h.row hg hw,fun x hx=>(h.grp x hx).kept hg hw⟩
theorem eX.below {w w':World}{lo:Nat}{A:Option Addr}{n c:Nat}{gs:List aW}(h:eX w lo A n c gs)(hb:Below w.heap.size w w'):eX w' lo A n c gs:=⟨h.len,aR h.row hb,fun x hx=>(h.grp x hx).below hb⟩
def I8 (r:Option (List (List cL)))(w:World)(e:Ending)(w':World):Prop:=
 ∃ (A:Option Addr) (n c:Nat) (f:BA) (a code:Int),e=.returned (.tuple #[.slice A n c,gB f a code])∧Below w.heap.size w w' ∧
  (match r with
   | some L=>code=0∧∃ gs:List aW,gs.map aW.pl=L∧eX w' w.heap.size A n c gs
   | none=>code≠0∧A=none∧n=0)
theorem Gb {l:LU}(h:lY l=none):eT l=none:=by unfold eT;rw[h]
theorem I9 {l:LU}{L:List (List cL)}(h:lY l=some L)(h1:¬ uJ L=true):eT l=none:=by unfold eT;rw[h];simp[h1]
theorem Gc {l:LU}{L:List (List cL)}(h:lY l=some L)(h1:uJ L=true):eT l=some L:=by unfold eT;rw[h];simp[h1]
theorem Ja (s:BA)(w:World)(hG:Gl w)(hs:s.size≤4294967280):
  Calls Tryz.prog 53 #[.string s] w (I8 (eT (bl s)) w):=by
 obtain⟨W1,hW1⟩:∃ W1,(w.alloc (.cells #[.string ⟨#[]⟩,.int .i64 0,.int .i64 0] 101)).alloc (.cells #[.string s,.int .i64 0,.int .i64 0,.string ⟨#[]⟩,.int .i64 0,.int .i64 0] 144)=W1:=⟨_,rfl⟩
 have B1:Hid (Below w.heap.size w W1):=by rw[←hW1];exact(bR.alloc lr _).alloc (by simp) _
 have K1:Hid (aF W1 w.heap.size [.string ⟨#[]⟩,.int .i64 0,.int .i64 0]):=by rw[←hW1];exact(aF.new w [.string ⟨#[]⟩,.int .i64 0,.int .i64 0] _).alloc _
 have D1:Hid (DR W1 (w.heap.size+1) s 0 0 0):=by
  refine⟨⟨⟨#[]⟩,0,?_⟩,z0,lr⟩
  have:=aF.new (w.alloc (.cells #[.string ⟨#[]⟩,.int .i64 0,.int .i64 0] 101)) [.string s,.int .i64 0,.int .i64 0,.string ⟨#[]⟩,.int .i64 0,.int .i64 0] 144
  rw[←hW1];simpa using this
 have HG:Hid (sY (w.heap.size+1) W1):=⟨w,hG,B1.out,Nat.le_succ _⟩
 have hz1:w.heap.size<W1.heap.size:=K1.out.sz
 clear hG
 go_enter Tryz.func53,Tryz.ntmps53
 go_wp2_with fail
 clear hW1
 refine(I7 (w.heap.size+1) s W1 hs HG.out D1.out).mono ?_;rintro e w2 hpost
 cases hf:lY (bl s) with
 | none=>
  rw[hf] at hpost
  obtain⟨hg,rfl,p',n',c',hd⟩:=hpost
  have EN:=ae (Gb hf)
  have K2:=ae (K1.out.grownBy hg (by intro e;injection e with e;omega))
  have B2:=ae (gd B1.out hg (Nat.le_succ _))
  obtain⟨f,y,k⟩:=hd.cells
  have c1:=k.c1
  have r0:=K2.out.cell 0 _ rfl
  have r1:=K2.out.cell 1 _ rfl
  have r2:=K2.out.cell 2 _ rfl
  have fr0:=K2.out.free 0 (by simp)
  have fr1:=K2.out.free 1 (by simp)
  have fr2:=K2.out.free 2 (by simp)
  clear hf hg hd k
  go_wp2_with fail
  go_region
  go_wp2_with fail
  refine bodyPost_ret (v:=.tuple #[.slice none 0 0,.agg #[.string ⟨#[]⟩,.int .i64 p',.int .i64 3]]) (by simp[results,Tryz.results53,go_sem,r0,r1,r2]) rfl ?_
  refine⟨none,0,0,⟨#[]⟩,p',3,rfl,?_,by rw[EN.out];exact⟨by decide,rfl,rfl⟩⟩
  exact(aw (aw (aw B2.out lr _) lr _) lr _).drew
 | some L=>
  rw[hf] at hpost
  obtain⟨A,m,cc,gs,p',n',c',rfl,hS,hL,hcc⟩:=hpost
  have HS:=ae hS
  have K2:=ae (K1.out.grownBy hS.gr (by intro e;injection e with e;omega))
  have B2:=ae (gd B1.out hS.gr (Nat.le_succ _))
  obtain⟨f,y,k⟩:=hS.dr.cells
  have c3:=k.c3
  have c4:=k.c4
  have c5:=k.c5
  have r0:=K2.out.cell 0 _ rfl
  have r1:=K2.out.cell 1 _ rfl
  have r2:=K2.out.cell 2 _ rfl
  have fr0:=K2.out.free 0 (by simp)
  have fr1:=K2.out.free 1 (by simp)
  have fr2:=K2.out.free 2 (by simp)
  by_cases hc:c'=0
  ·have EN:=ae (Gc hf (hcc.1 hc))
   have HL:=ae hL
   subst hc
   have hml:=hS.len
   have hlo:w.heap.size≤W1.heap.size:=Nat.le_of_lt hz1
   have F3:Hid (eX (((w2.setCell ⟨w.heap.size,0,none⟩ (.string ⟨#[]⟩)).setCell ⟨w.heap.size,1,none⟩ (.int .i64 0)).setCell ⟨w.heap.size,2,none⟩ (.int .i64 0)) w.heap.size A m cc gs):=by
    refine⟨hml,?_,?_⟩
    ·exact cN (dh (dh (dh hS.row hz1 (bN _)) hz1 (bN _)) hz1 (bN _)) hlo
    ·exact fun g hg=>((((hS.grp g hg).kept hz1 (bN _)).kept hz1 (bN _)).kept hz1 (bN _)).base hlo
   clear hf hL hcc k hS hml
   go_wp2_with fail
   refine bodyPost_ret (v:=.tuple #[.slice A m cc,.agg #[.string ⟨#[]⟩,.int .i64 0,.int .i64 0]]) (by simp[results,Tryz.results53,go_sem,r0,r1,r2]) rfl ?_
   refine⟨A,m,cc,⟨#[]⟩,0,0,rfl,?_,?_⟩
   ·exact aw (aw (aw B2.out lr _) lr _) lr _
   ·rw[EN.out];exact⟨rfl,gs,HL.out,F3.out⟩
  ·have EN:=ae (I9 hf (fun h=>hc (hcc.2 h)))
   have HC:=zz.mk hc
   have hc1:(c' != 0)=true:=by simp[hc]
   clear hf hL hcc k hS hc
   go_wp2_with fail
   go_region
   go_wp2_with fail
   refine bodyPost_ret (v:=.tuple #[.slice none 0 0,.agg #[.string f,.int .i64 y,.int .i64 c']]) (by simp[results,Tryz.results53,go_sem,r0,r1,r2]) rfl ?_
   refine⟨none,0,0,f,y,c',rfl,?_,by rw[EN.out];exact⟨HC.out,rfl,rfl⟩⟩
   exact(aw (aw (aw B2.out lr _) lr _) lr _).drew
end
section
open Go.RowKit
def yv (fmt:Int)(bar:Bool)(ts:List (LU))(w:World)(e:Ending)(w':World):Prop:=
 ∃ (A:Option Addr) (n c:Nat) (ds:List aq) (code:Int),e=.returned (.tuple #[.slice A n c,.int .i64 code])∧Below w.heap.size w w' ∧
  (if ek fmt bar ts=0 then code=0∧ds.map aq.pl=cq fmt bar ts∧iT w w' ds A n c else code≠0∧(ek fmt bar ts≠-1→code=ek fmt bar ts)∧A=none∧n=0)
theorem vA {fmt:Int}{bar:Bool}{ts:List (LU)}{w w':World}{code:Int}(h:ek fmt bar ts≠0)(hc:code≠0)(he:ek fmt bar ts≠-1→code=ek fmt bar ts)(hb:Below w.heap.size w w'):yv fmt bar ts w (.returned (.tuple #[.slice none 0 0,.int .i64 code])) w':=
 ⟨none,0,0,[],code,rfl,hb,by rw[if_neg h];exact⟨hc,he,rfl,rfl⟩⟩
theorem PJ {fmt:Int}{bar:Bool}{ts:List (LU)}{w w':World}{A:Option Addr}{n c:Nat}{ds:List aq}(h:ek fmt bar ts=0)(hd:ds.map aq.pl=cq fmt bar ts)(hD:iT w w' ds A n c):yv fmt bar ts w (.returned (.tuple #[.slice A n c,.int .i64 0])) w':=
 ⟨A,n,c,ds,0,rfl,hD.bel,by rw[if_pos h];exact⟨rfl,hd,hD⟩⟩
theorem Kv {fmt:Int}(hf:dk fmt){bar:Bool}{l:List BA}{k:Nat}{x:BA}(hx:l[k]?=some x)(h0:∀ y∈l.take k,fp fmt bar (bl y)=0)(h:fp fmt bar (bl x)≠0):ek fmt bar (l.map bl)=fp fmt bar (bl x):=by
 have:bT (fp fmt bar) (l.map bl)=fp fmt bar (bl x):=by
  refine ko (k:=k) (by simp[hx]) (fun y hy=>?_) h
  rw[←List.map_take] at hy
  obtain⟨z,hz,rfl⟩:=List.mem_map.1 hy
  exact h0 z hz
 unfold ek
 rw[if_neg (fun hn=>hn hf),this,if_pos h]
theorem PK {fmt:Int}(hf:dk fmt){bar:Bool}{l:List BA}(h0:∀ y∈l,fp fmt bar (bl y)=0):ek fmt bar (l.map bl)=if 64<bH (cq fmt bar (l.map bl)) then 4 else 0:=by
 have:bT (fp fmt bar) (l.map bl)=0:=bB.2 (fun y hy=>by obtain⟨z,hz,rfl⟩:=List.mem_map.1 hy;exact h0 z hz)
 unfold ek
 rw[if_neg (fun hn=>hn hf),this,if_neg (by simp)]
theorem MU {fmt:Int}(hf:¬ dk fmt){bar:Bool}{ts:List (LU)}:ek fmt bar ts=9:=by unfold ek;rw[if_pos hf]
def zU (fmt:Int)(P:List ba)(i:Nat)(bar:Bool)(L:List aA)(j:Nat):List ba:=
 (P.take i).map (eV fmt 1)++⟨bar,(L.take j).map (fun g=>(bc fmt 1 g).1)++L.drop j⟩::P.drop (i+1)
def zV (fmt:Int)(P:List ba)(i:Nat):List ba:=(P.take i).map (eV fmt 1)++P.drop i
theorem Jw (fmt:Int)(P:List ba):zV fmt P 0=P:=by unfold zV;simp
theorem GE {fmt:Int}{P:List ba}{i:Nat}{d:ba}(h:P[i]?=some d):zV fmt P i=zU fmt P i d.bar d.alts 0:=by
 obtain⟨hi,hf⟩:=gS h
 unfold zV zU
 rw[List.drop_eq_getElem_cons hi,hf];simp
theorem Sd {fmt:Int}{P:List ba}{i:Nat}{d:ba}(h:P[i]?=some d):zU fmt P i d.bar d.alts d.alts.length=zV fmt P (i+1):=by
 unfold zV zU
 rw[aS h,List.map_append,List.map_singleton]
 simp[eV]
theorem PL {fmt:Int}{P:List ba}{i j:Nat}{bar:Bool}{L:List aA}(hi:i<P.length):(zU fmt P i bar L j)[i]?=some ⟨bar,(L.take j).map (fun g=>(bc fmt 1 g).1)++L.drop j⟩:=by
 unfold zU
 have hl:((P.take i).map (eV fmt 1)).length=i:=by rw[List.length_map,List.length_take];omega
 rw[List.getElem?_append_right (by omega),hl,Nat.sub_self];rfl
theorem Se {fmt:Int}{P:List ba}{i j:Nat}{bar:Bool}{L:List aA}{g:aA}(hi:i<P.length)(hg:L[j]?=some g):
  (zU fmt P i bar L j).set i ⟨bar,((L.take j).map (fun g=>(bc fmt 1 g).1)++L.drop j).set j (bc fmt 1 g).1⟩=zU fmt P i bar L (j+1):=by
 unfold zU
 have hl:((P.take i).map (eV fmt 1)).length=i:=by rw[List.length_map,List.length_take];omega
 obtain⟨hj,hf⟩:=gS hg
 rw[List.set_append_right _ _ (by omega),hl,Nat.sub_self,List.set_cons_zero]
 congr 2
 have hl2:((L.take j).map (fun g=>(bc fmt 1 g).1)).length=j:=by rw[List.length_map,List.length_take];omega
 rw[List.set_append_right _ _ (by omega),hl2,Nat.sub_self,List.drop_eq_getElem_cons hj,List.set_cons_zero,aS hg,List.map_append]
 simp
theorem PM (fmt:Int)(P:List ba):zV fmt P P.length=P.map (eV fmt 1):=by unfold zV;simp
theorem GF {fmt:Int}{L:List aA}{j:Nat}{g:aA}(hg:L[j]?=some g):((L.take j).map (fun g=>(bc fmt 1 g).1)++L.drop j)[j]?=some g:=by
 obtain⟨hj,hf⟩:=gS hg
 have hl2:((L.take j).map (fun g=>(bc fmt 1 g).1)).length=j:=by rw[List.length_map,List.length_take];omega
 rw[List.getElem?_append_right (by omega),hl2,Nat.sub_self,List.getElem?_drop];simpa using hg
theorem MV {fmt:Int}{P:List ba}{i j:Nat}{d:ba}{g:aA}(hd:P[i]?=some d)(hg:d.alts[j]?=some g)(h0:∀ y∈P.take i,∀ x∈y.alts,(bc fmt 1 x).2=0)(h1:∀ x∈d.alts.take j,(bc fmt 1 x).2=0)(h:(bc fmt 1 g).2≠0):lG fmt P=(bc fmt 1 g).2:=by
 obtain⟨hi,hf⟩:=gS hd
 obtain⟨hj,hfg⟩:=gS hg
 have e:P.flatMap ba.alts=((P.take i).flatMap ba.alts++d.alts.take j)++(g::(d.alts.drop (j+1)++(P.drop (i+1)).flatMap ba.alts)):=by
  conv=>lhs;rw[←List.take_append_drop i P,List.drop_eq_getElem_cons hi,hf,List.flatMap_append,List.flatMap_cons]
  conv=>lhs;rhs;lhs;rw[←List.take_append_drop j d.alts,List.drop_eq_getElem_cons hj,hfg]
  simp
 unfold lG
 rw[e,IR]
 ·unfold bT;rw[if_pos h]
 ·intro x hx
  rcases List.mem_append.1 hx with hx | hx
  ·obtain⟨y,hy,hxy⟩:=List.mem_flatMap.1 hx;exact h0 y hy x hxy
  ·exact h1 x hx
theorem GG {fmt:Int}{P:List ba}(h:∀ y∈P,∀ x∈y.alts,(bc fmt 1 x).2=0):lG fmt P=0:=by
 unfold lG;rw[bB];intro x hx;obtain⟨y,hy,hxy⟩:=List.mem_flatMap.1 hx;exact h y hy x hxy
theorem PN {ds:List aq}{i j:Nat}{d:aq}{x:aA}(h:ds[i]?=some d):(ds.set i { d with alts:=d.alts.set j x }).map aq.head=ds.map aq.head:=by
 rw[List.map_set]
 have:({ d with alts:=d.alts.set j x }:aq).head=d.head:=by unfold aq.head;simp
 rw[this]
 apply List.ext_getElem?
 intro k
 rw[List.getElem?_set]
 split
 ·rename_i e;subst e;rw[List.getElem?_map,h];simp;exact(gS h).1
 ·rfl
theorem PO {ds es:List aq}{i:Nat}{d e:aq}(h:ds.map aq.head=es.map aq.head)(hd:ds[i]?=some d)(he:es[i]?=some e):d.bar=e.bar∧d.aa=e.aa∧d.ac=e.ac∧d.alts.length=e.alts.length:=by
 have:=congrArg (·[i]?) h
 simp only[List.getElem?_map,hd,he,Option.map_some,Option.some.injEq] at this
 unfold aq.head at this
 injection this with h1 h2;injection h2 with h2 h3;injection h3 with h3 h4
 exact⟨h1,h2,h3,h4⟩
theorem iT.join {w wo w6 w7:World}{DS D:List aq}{O A O1:Option Addr}{n oc m c c1:Nat}(h:iT w wo DS O n oc)(h2:iT wo w6 D A m c)
  (hr:w7.ownsRow w.heap.size 33 2 (.slice O1 (n+m) c1) (n+m) (DS.flatMap aq.cells++D.flatMap aq.cells))(hg:w6.grownBy w7 (Value.slice O n oc).ownBlock):iT w w7 (DS++D) O1 (n+m) c1:=by
 have h6:=h.below h2.bel
 have hsz:=h.bel.size
 refine⟨by rw[List.length_append,h.len,h2.len],by rw[List.flatMap_append];exact hr,fun t ht=>?_,?_,h6.bel.grown hg h6.bel.size (fun j hj=>(h6.row.lt j hj).1)⟩
 ·rcases List.mem_append.1 ht with ht | ht
  ·exact da (h6.al t ht) h6.row (by decide) hg
  ·exact da (cN (h2.al t ht) hsz) h6.row (by decide) hg
 ·rw[List.pairwise_append]
  refine⟨h.far,h2.far,fun x hx y hy g hx' hy'=>?_⟩
  have a1:=((h.al x hx).lt g hx').2
  have a2:=((h2.al y hy).lt g hy').1
  omega
theorem Jx {P:List ba}{i:Nat}{d:ba}(h:P[i]?=some d):bH (P.take (i+1))=bH (P.take i)+d.alts.length:=by
 unfold bH;rw[aS h,List.map_append,List.sum_append];simp
theorem Jy {fmt:Int}{bar:Bool}{l:List BA}{k:Nat}{x:BA}(h:l[k]?=some x):cq fmt bar ((l.take (k+1)).map bl)=cq fmt bar ((l.take k).map bl)++(bX fmt bar (bl x)).1.map (eV fmt 1):=by
 unfold cq;rw[aS h,List.map_append,List.flatMap_append];simp[Dp]
theorem MW (a b:List ba):bH (a++b)=bH a+bH b:=by unfold bH;rw[List.map_append,List.sum_append]
theorem pL {l:List aq}{R:aq→aq→Prop}(hs:∀ a b,R a b→R b a)(h:l.Pairwise R){i:Nat}{x:aq}(hx:∀ j y,j≠i→l[j]?=some y→R x y):(l.set i x).Pairwise R:=by
 rw[List.pairwise_iff_getElem] at *
 intro a b ha hb hab
 rw[List.length_set] at ha hb
 rw[List.getElem_set,List.getElem_set]
 by_cases h1:i=a
 ·rw[if_pos h1,if_neg (by omega)];exact hx b _ (by omega) (gG hb)
 ·rw[if_neg h1]
  by_cases h2:i=b
  ·rw[if_pos h2];exact hs _ _ (hx a _ (by omega) (gG ha))
  ·rw[if_neg h2];exact h a b ha hb hab
theorem Qa {l:List aq}{i:Nat}{x:aq}(hi:l[i]?=some x)(b:Bool):(l.flatMap aq.cells).set (i*2) (.bool b)=(l.set i { x with bar:=b }).flatMap aq.cells:=by
 induction l generalizing i with
 | nil=>simp at hi
 | cons a r ih=>
  cases i with
  | zero=>simp at hi;subst hi;simp[aq.cells]
  | succ i=>
   have:=ih (i:=i) (by simpa using hi)
   rw[List.set_cons_succ,List.flatMap_cons,List.flatMap_cons,←this]
   rw[show(i+1)*2=i*2+2 by omega];rfl
theorem Qb {l:List aq}{i:Nat}{x:aq}(hi:l[i]?=some x)(G:Option Addr)(cc:Nat)(L:List aA):(l.flatMap aq.cells).set (i*2+1) (.slice G L.length cc)=(l.set i ⟨x.bar,G,cc,L⟩).flatMap aq.cells:=by
 induction l generalizing i with
 | nil=>simp at hi
 | cons a r ih=>
  cases i with
  | zero=>simp at hi;subst hi;simp[aq.cells]
  | succ i=>
   have:=ih (i:=i) (by simpa using hi)
   rw[List.set_cons_succ,List.flatMap_cons,List.flatMap_cons,←this]
   rw[show(i+1)*2+1=(i*2+1)+2 by omega];rfl
theorem GR {l:List aq}{i:Nat}{x y:aq}(hy:y∈l.set i x):y=x∨∃ j,j≠i∧l[j]?=some y:=by
 rw[List.mem_iff_getElem?] at hy
 obtain⟨k,hk⟩:=hy
 by_cases hki:k=i
 ·subst hki
  have hlt:k<l.length:=by
   have:=(gS hk).1;rwa [List.length_set] at this
  rw[List.getElem?_set_self hlt] at hk
  injection hk with hk
  exact .inl hk.symm
 ·rw[List.getElem?_set_ne (fun e=>hki e.symm)] at hk
  exact .inr ⟨k,hki,hk⟩
theorem iT.setBar {w wr:World}{ds:List aq}{g n c i:Nat}{x:aq}(h:iT w wr ds (some ⟨g,0,none⟩) n c)(hi:ds[i]?=some x)(b:Bool):
  iT w (wr.setCell ⟨g,i*2,none⟩ (.bool b)) (ds.set i { x with bar:=b }) (some ⟨g,0,none⟩) n c:=by
 have hs:=h.row.stored (i*2) (.bool b)
 have hgl:=h.row.lt g rfl
 refine⟨by rw[List.length_set];exact h.len,by rw[←Qa hi];exact hs.1,fun y hy=>?_,?_,h.bel.grown hs.2 h.bel.size (fun k hk=>by injection hk with hk;omega)⟩
 ·rcases GR hy with rfl | ⟨j,_,hj⟩
  ·exact da (h.al x (gM hi)) h.row (by decide) hs.2
  ·exact da (h.al y (gM hj)) h.row (by decide) hs.2
 ·exact pL mh h.far fun j y hji hj=>fun q hq=>vw h.far mh (fun e=>hji e.symm) hi hj q hq
theorem iT.setAlt {w w1 w6:World}{ds:List aq}{g n c i m c1:Nat}{G1:Option Addr}{x:aq}{a:aA}(h:iT w w1 ds (some ⟨g,0,none⟩) n c)(hi:ds[i]?=some x)(hm:x.alts.length=m)
  (hr:w6.ownsRow w.heap.size 53 3 (.slice G1 (m+1) c1) (m+1) (x.alts.flatMap aA.cells++a.cells))
  (hg:w1.grownBy w6 (Value.slice x.aa m x.ac).ownBlock)(ha:(Value.slice G1 (m+1) c1).ownBlock=(Value.slice x.aa m x.ac).ownBlock∨(Value.slice G1 (m+1) c1).ownBlock=some w1.heap.size):
  iT w (w6.setCell ⟨g,i*2+1,none⟩ (.slice G1 (m+1) c1)) (ds.set i ⟨x.bar,G1,c1,x.alts++[a]⟩) (some ⟨g,0,none⟩) n c:=by
 subst hm
 have hx:=h.al x (gM hi)
 have hrow:w6.ownsRow w.heap.size 33 2 (.slice (some ⟨g,0,none⟩) n c) n (ds.flatMap aq.cells):=h.row.kept hg (gt h.row hx (by decide))
 have hs:=hrow.stored (i*2+1) (.slice G1 (x.alts.length+1) c1)
 have hgl:=h.row.lt g rfl
 have hb6:Below w.heap.size w w6:=h.bel.grown hg h.bel.size (fun k hk=>(hx.lt k hk).1)
 refine⟨by rw[List.length_set];exact h.len,?_,fun y hy=>?_,?_,hb6.grown hs.2 hb6.size (fun k hk=>by injection hk with hk;omega)⟩
 ·have:=Qb hi G1 c1 (x.alts++[a])
  rw[List.length_append,List.length_singleton] at this
  rw[←this];exact hs.1
 ·rcases GR hy with rfl | ⟨j,hji,hj⟩
  ·unfold aq.own
   simp only[List.length_append,List.length_singleton,List.flatMap_append,List.flatMap_cons,List.flatMap_nil,List.append_nil]
   exact da hr hrow (by decide) hs.2
  ·have hf:=vw h.far mh (fun e=>hji e.symm) hi hj
   have hy6:y.own w6 w.heap.size:=by
    refine(h.al y (gM hj)).kept hg ?_
    cases hq:(Value.slice y.aa y.alts.length y.ac).ownBlock with
    | none=>exact .inl rfl
    | some q=>right;intro e;exact hf q e.symm hq
   exact da hy6 hrow (by decide) hs.2
 ·refine pL mh h.far fun j y hji hj=>?_
  intro q hq
  have hf:=vw h.far mh (fun e=>hji e.symm) hi hj
  have hq':(Value.slice G1 (x.alts.length+1) c1).ownBlock=some q:=by unfold aq.blk at hq;simpa using hq
  rcases ha with ha | ha
  ·rw[ha] at hq';exact hf q hq'
  ·rw[ha] at hq';injection hq' with hq'
   intro e;have:=((h.al y (gM hj)).lt q e).2;omega
def yF:aq:=⟨false,none,0,[]⟩
theorem Qc (n i:Nat)(h:i<n*2):((List.replicate n yF).flatMap aq.cells)[i]?=some (if i % 2=0 then .bool false else .slice none 0 0):=by
 induction n generalizing i with
 | zero=>omega
 | succ n ih=>
  rw[List.replicate_succ,List.flatMap_cons]
  match i with
  | 0=>rfl
  | 1=>rfl
  | i+2=>
   have:=ih i (by omega)
   rw[show(i+2) % 2=i % 2 by omega,←this];rfl
theorem Ne (n:Nat):((List.replicate n yF).flatMap aq.cells).length=n*2:=by
 induction n with
 | zero=>rfl
 | succ n ih=>rw[List.replicate_succ,List.flatMap_cons,List.length_append,ih];simp[aq.cells];omega
theorem Nf (n:Nat):(madeCells (Value.agg #[.bool false,.slice none 0 0]).cells (n*2)).toList=(List.replicate n yF).flatMap aq.cells:=by
 apply List.ext_getElem?
 intro i
 by_cases h:i<n*2
 ·rw[Qc n i h]
  rw[Array.getElem?_toList]
  unfold madeCells
  rcases Nat.mod_two_eq_zero_or_one i with e | e
  ·simp[h,Value.cells,e]
  ·simp[h,Value.cells,e]
 ·rw[List.getElem?_eq_none (by simp[size_madeCells];omega),List.getElem?_eq_none (by rw[Ne];omega)]
theorem iT.made {w w0 w1:World}{n g:Nat}(hb:Below w.heap.size w w0)(hr:w1.ownsRow w.heap.size 33 2 (.slice (some ⟨g,0,none⟩) n n) n (madeCells (Value.agg #[.bool false,.slice none 0 0]).cells (n*2)).toList)(hg:w0.grownBy w1 none):
  iT w w1 (List.replicate n yF) (some ⟨g,0,none⟩) n n:=by
 refine⟨by simp,by rw[←Nf];exact hr,fun d hd=>?_,?_,hb.grown hg hb.size (by simp)⟩
 ·obtain rfl:=List.eq_of_mem_replicate hd;exact World.ownsRow_nil _ _ _ _
 ·rw[List.pairwise_iff_getElem]
  intro i j hi hj hij
  simp only[List.getElem_replicate]
  intro g hg'
  exact absurd hg' (by simp[yF,aq.blk,Value.ownBlock])
end
section
open Go.RowKit Go.Deep
theorem BS {B:Nat}{w W:World}(h:Below B w W):Below B w W.drew:=⟨h.os,h.tape,h.output,h.size,h.block⟩
end
end Go.Proofs.YtkjdbpjglobbjaaGreatDoor
