/- A part of the proof. -/
import Derived.Laws.BytesArg
import Derived.Test.YtlglfpbhapmhiaaGreatDoorK08
import Derived.Test.YtlglfpbhapmhiaaGreatDoorK31
set_option maxRecDepth 100000
set_option maxHeartbeats 20000000
set_option linter.unusedVariables false
set_option linter.unusedSimpArgs false
namespace Go.Proofs.YtlglfpbhapmhiaaGreatDoor
section
open Go.RowKit Go.Deep
theorem yQ {f deep n:Nat}{l:LU}(h:aV l=[]∨aV l=[41]):gA (f+1) deep n l=none:=by unfold gA;rw[if_pos h]
theorem EH {f n:Nat}{l:LU}(h:aV l=[40]):gA (f+1) 32 n l=none:=by unfold gA;rw[if_neg (by rw[h];simp),if_pos h];rfl
theorem Hx {f deep n:Nat}{l:LU}(h:aV l=[40])(hd:deep≠32):gA (f+1) deep n l=jR f (deep+1) n [] [] (bd l):=by rw[gA,if_neg (by rw[h];simp),if_pos h,if_neg hd]
theorem EI {f deep n:Nat}{l:LU}(h0:¬ (aV l=[]∨aV l=[41]))(h:aV l≠[40]):gA (f+1) deep n l=ir n l:=by rw[gA,if_neg h0,if_neg h]
theorem Cz {r:Option (ow×LU×Nat)}{a hi m m0 deep n:Nat}{l:LU}{w W W':World}{e:Ending}(R:oc w W a hi l n m)(h:bZ r a hi m deep n W e W')(hm:m≤m0)(hW:w.heap.size+2≤W.heap.size):
  ∃ (T:ak) (f:BA) (x c:Int),e=.returned (.tuple #[T.val,ed f x c])∧vj W' w.heap.size ∧
   bZ r a hi m0 deep n w (.returned (.tuple #[T.val,ed f x c])) (jB W' w.heap.size (.string T.op) (.string T.nm) (.int .i64 T.aop) (.string T.ver) (.slice T.ka T.kids.length T.kc) (.string f) (.int .i64 x) (.int .i64 c)):=by
 obtain⟨h1,h2⟩:=h
 have tw:=R.two.step h1 R.alt
 have gr:=aj R.gr h1
 cases r with
 | none=>
  obtain⟨f,x,c,h3,h4⟩:=h2
  exact⟨ld,f,x,c,h3,tw,bZ.no rfl (cg gr lr _ _ _ _ _ _ _ _) h4⟩
 | some y=>
  obtain⟨t,l',n'⟩:=y
  obtain⟨T,m',a1,a2,a3,a4,a5,a6,a7,a8,a9⟩:=h2
  exact⟨T,⟨#[]⟩,0,0,a1,tw,bZ.yes (by rw[a2]) (cg gr lr _ _ _ _ _ _ _ _) a3 ((sw a4 (by omega) _ _ _ _ _ _ _ _).base (by omega)) a5 a6 a7 (qw a8 R.lt _ _ _ _ _ _ _ _) (by omega)⟩
theorem LE (F:Nat)(IH:∀ f,f<F→Lz f):Ly F:=by
 intro a hi n m deep l w hF hG h hn hd
 obtain⟨f0,rfl⟩:∃ f0,F=f0+1:=⟨F-1,by omega⟩
 have HF:=ae hF
 have HIH:=ae IH
 obtain⟨W0,hW0⟩:∃ W0,(w.alloc (.cells #[.string ⟨#[]⟩,.string ⟨#[]⟩,.int .i64 0,.string ⟨#[]⟩,.slice none 0 0] 170)).alloc (.cells #[.string ⟨#[]⟩,.int .i64 0,.int .i64 0] 163)=W0:=⟨_,rfl⟩
 have S0:Hid (oc w W0 a hi l n m):=by rw[←hW0];exact oc.start hG h _ _
 have z0:W0.heap.size=w.heap.size+2:=by rw[←hW0];simp
 obtain⟨b,off,c,T,p,k,hT,h2⟩:=S0.out.pr.cells
 have HT:=ae hT
 obtain⟨c0,c1,f0',f1,t0,t1,ne,m1,mc,cz,tz⟩:=k
 clear h h2 hT
 obtain⟨W1,hW1⟩:∃ W1,W0.alloc (.cells #[.string T,.int .i64 p] 221)=W1:=⟨_,rfl⟩
 have B1:Hid (Below W0.heap.size W0 W1):=by rw[←hW1];exact bR.alloc lr _
 have S1:Hid (oc w W1 a hi l n m):=S0.out.below B1.out
 have K1:Hid (av W1 W0.heap.size [.string T,.int .i64 p]):=by rw[←hW1];exact av.new W0 [.string T,.int .i64 p] _
 have HZ0:=ae z0
 have HZ1:Hid (w.heap.size+2≤W1.heap.size):=by have:=B1.out.size;show _≤_;omega
 clear S0 hG z0 hF IH B1
 go_enter Tryz.func176,Tryz.ntmps176
 go_upto_region 2 with(fail)
 clear hW0 hW1 c0 c1 f0' f1 t0 t1 ne m1 mc cz
 have t0:=K1.out.cell 0 _ rfl
 have t1:=K1.out.cell 1 _ rfl
 by_cases h1:bl T=[]
 ·have E1:T.toList=[]:=by rw[ai];exact h1
  have E2:T.toList.isEmpty=true:=by rw[E1];rfl
  have EN:Hid (gA (f0+1) deep n l=none):=yQ (.inl (by rw[←HT.out];exact h1))
  clear h1
  go_wp2_with fail
  refine(dJ T p 3 _).mono ?_;rintro e w2 ⟨rfl,hb⟩
  have S2:=ae (S1.out.below hb)
  have tc:=S2.out.two.c
  obtain⟨x0,x1,x2,x3,x4,y0,y1,y2,g0,g1,g2,g3,g4,k0,k1,k2⟩:=tc
  clear hb
  unfold ed
  go_wp2_with fail
  refine bodyPost_ret (od _ S2.out.two.c rfl rfl _ _ _ _ _ _ _ _ ⟨rfl,rfl,rfl,rfl,rfl,rfl,rfl,rfl⟩) rfl ?_
  exact bZ.no EN.out (cg S2.out.gr lr _ _ _ _ _ _ _ _) (by decide)
 have F1:(T.toList==([]:LU))=false:=by rw[ai,bF];exact h1
 have F2:T.toList.isEmpty=false:=by rw[ai,List.isEmpty_eq_false_iff];exact h1
 have F3:¬ T.toList=[]:=by rw[ai];exact h1
 by_cases h2:bl T=[41]
 ·have E1:T.toList=[41]:=by rw[ai];exact h2
  have EN:Hid (gA (f0+1) deep n l=none):=yQ (.inr (by rw[←HT.out];exact h2))
  clear h1 h2 F1 F2 F3
  go_wp2_with fail
  refine(dJ T p 3 _).mono ?_;rintro e w2 ⟨rfl,hb⟩
  have S2:=ae (S1.out.below hb)
  have tc:=S2.out.two.c
  obtain⟨x0,x1,x2,x3,x4,y0,y1,y2,g0,g1,g2,g3,g4,k0,k1,k2⟩:=tc
  clear hb
  unfold ed
  go_wp2_with fail
  refine bodyPost_ret (od _ S2.out.two.c rfl rfl _ _ _ _ _ _ _ _ ⟨rfl,rfl,rfl,rfl,rfl,rfl,rfl,rfl⟩) rfl ?_
  exact bZ.no EN.out (cg S2.out.gr lr _ _ _ _ _ _ _ _) (by decide)
 by_cases h3:bl T=[40]
 ·have E1:T.toList=[40]:=by rw[ai];exact h3
  have HL:Hid (aV l=[40]):=by show _=_;rw[←HT.out];exact h3
  clear h1 h2 h3 F1 F2 F3
  by_cases h32:deep=32
  ·have EN:Hid (gA (f0+1) deep n l=none):=by show _=_;rw[h32];exact EH HL.out
   have q32:((deep:Int)==32)=true:=by simp[h32]
   clear h32
   go_wp2_with fail
   refine(dJ T p 4 _).mono ?_;rintro e w2 ⟨rfl,hb⟩
   have S2:=ae (S1.out.below hb)
   have tc:=S2.out.two.c
   obtain⟨x0,x1,x2,x3,x4,y0,y1,y2,g0,g1,g2,g3,g4,k0,k1,k2⟩:=tc
   clear hb
   unfold ed
   go_wp2_with fail
   refine bodyPost_ret (od _ S2.out.two.c rfl rfl _ _ _ _ _ _ _ _ ⟨rfl,rfl,rfl,rfl,rfl,rfl,rfl,rfl⟩) rfl ?_
   exact bZ.no EN.out (cg S2.out.gr lr _ _ _ _ _ _ _ _) (by decide)
  ·have EG:=ae (Hx (f:=f0) (n:=n) HL.out h32)
   have q32:((deep:Int)==32)=false:=by simp;omega
   have HD:Hid (deep<32):=by show _<_;omega
   clear h32
   go_wp2_with fail
   refine(gB a hi n m l W1 S1.out.pr (by rw[HL.out];simp)).mono ?_;rintro e w2 ⟨rfl,hp,hg,hm2⟩
   have S2:=ae (S1.out.step hg hp)
   have HZ2:Hid (w.heap.size+2≤w2.heap.size):=by have:=hg.size;have:=HZ1.out;show _≤_;omega
   have hG:=HIH.out f0 (by omega) a hi n (m-1) deep (bd l) w2 (by have:=HF.out;have:=iY (l:=l) (by rw[HL.out];simp);omega) S2.out.gl S2.out.pr hn HD.out
   clear hp hg hm2 t0 t1
   go_wp2_with fail
   refine hG.mono ?_;rintro e w3 hpost
   obtain⟨T',f,x,c',rfl,tw,hfin⟩:=Cz S2.out hpost (m0:=m) (by omega) HZ2.out
   have HFIN:=ae hfin
   have HTW:=ae tw
   have tc:=tw.c
   obtain⟨x0,x1,x2,x3,x4,y0,y1,y2,g0,g1,g2,g3,g4,k0,k1,k2⟩:=tc
   clear hpost hfin hG tw
   unfold ed ak.val
   go_wp2_with fail
   refine bodyPost_ret (od _ HTW.out.c rfl rfl _ _ _ _ _ _ _ _ ⟨rfl,rfl,rfl,rfl,rfl,rfl,rfl,rfl⟩) rfl ?_
   rw[EG.out];exact HFIN.out
 ·have F4:(T.toList==([41]:LU))=false:=by rw[ai,bF];exact h2
  have F5:(T.toList==([40]:LU))=false:=by rw[ai,bF];exact h3
  have EA:Hid (gA (f0+1) deep n l=ir n l):=by
   show _=_
   rw[HT.out] at h1 h2 h3
   exact EI (by rintro(h | h)<;>contradiction) h3
  clear h1 h2 h3
  have hA:=EF a hi n m deep l W1 S1.out.gl S1.out.pr hn hd
  go_wp2_with fail
  refine hA.mono ?_;rintro e w3 hpost
  obtain⟨T',f,x,c',rfl,tw,hfin⟩:=Cz S1.out hpost lr HZ1.out
  have HFIN:=ae hfin
  have HTW:=ae tw
  have tc:=tw.c
  obtain⟨x0,x1,x2,x3,x4,y0,y1,y2,g0,g1,g2,g3,g4,k0,k1,k2⟩:=tc
  clear hpost hfin hA tw t0 t1
  unfold ed ak.val
  go_wp2_with fail
  refine bodyPost_ret (od _ HTW.out.c rfl rfl _ _ _ _ _ _ _ _ ⟨rfl,rfl,rfl,rfl,rfl,rfl,rfl,rfl⟩) rfl ?_
  rw[EA.out];exact HFIN.out
theorem yR (F:Nat):Ly F∧Lz F:=by
 induction F using Nat.strongRecOn with
 | _ F ih=>exact⟨LE F fun f hf=>(ih f hf).2,LD F fun f hf=>(ih f hf).1⟩
theorem vj.off {W W':World}{s a:Nat}(h:vj W s)(hg:W.grownBy W' (some a))(hs:s+1<a):vj W' s:=
 ⟨h.b0.grownBy hg (by simp;omega),h.b1.grownBy hg (by simp;omega)⟩
theorem mQ {w W:World}{s:Nat}(h:Below w.heap.size w W)(hs:w.heap.size≤s)(v0 v1 v2 v3 v4 u0 u1 u2:Value):Below w.heap.size w (jB W s v0 v1 v2 v3 v4 u0 u1 u2):=by
 unfold jB
 repeat' refine ag ?_ (by omega) _
 exact h
theorem ci {B:Nat}{w W:World}(h:Below B w W):Below B w W.drew:=⟨h.os,h.tape,h.output,h.size,h.block⟩
def eE (s:BA)(w:World)(e:Ending)(w':World):Prop:=
 ∃ (T:ak) (f:BA) (x c:Int),e=.returned (.tuple #[T.val,ed f x c])∧Below w.heap.size w w'∧match fj (bl s) with
  | none=>c≠0∧T=ld
  | some t=>c=0∧T.pl=t∧fC T∧bE w' w.heap.size none T∧T.ht≤32∧T.cnt≤64
theorem eE.no {s:BA}{w w':World}{f:BA}{x c:Int}(hr:fj (bl s)=none)(hb:Below w.heap.size w w')(hc:c≠0):eE s w (.returned (.tuple #[ld.val,ed f x c])) w':=⟨ld,f,x,c,rfl,hb,by rw[hr];exact⟨hc,rfl⟩⟩
theorem eE.yes {s:BA}{w w':World}{T:ak}(hr:fj (bl s)=some T.pl)(hb:Below w.heap.size w w')(h1:fC T)(h2:bE w' w.heap.size none T)(h3:T.ht≤32)(h4:T.cnt≤64):eE s w (.returned (.tuple #[T.val,ed ⟨#[]⟩ 0 0])) w':=⟨T,⟨#[]⟩,0,0,rfl,hb,by rw[hr];exact⟨rfl,rfl,h1,h2,h3,h4⟩⟩
theorem yS {l:LU}(h:gA (2*l.length+2) 0 0 l=none):fj l=none:=by unfold fj;rw[h]
theorem yT {l r:LU}{d:ow}{n:Nat}(h:gA (2*l.length+2) 0 0 l=some (d,r,n))(hr:aV r≠[]):fj l=none:=by unfold fj;rw[h];simp only;rw[if_neg hr]
theorem yU {l r:LU}{d:ow}{n:Nat}(h:gA (2*l.length+2) 0 0 l=some (d,r,n))(hr:aV r=[]):fj l=some d:=by unfold fj;rw[h];simp only;rw[if_pos hr]
theorem EJ (tmps:Array Value){W:World}{s:Nat}(h:Bc W s)(h2:tmps[2]?=some (.pointer (some ⟨s,0,none⟩)))(h3:tmps[3]?=some (.pointer (some ⟨s+1,0,none⟩)))(v0 v1 v2 v3 v4 u0 u1 u2:Value)
  (hv:v0.oneCell'=true∧v1.oneCell'=true∧v2.oneCell'=true∧v3.oneCell'=true∧v4.oneCell'=true∧u0.oneCell'=true∧u1.oneCell'=true∧u2.oneCell'=true):
  (results Tryz.f125 tmps).run Tryz.prog (jB W s v0 v1 v2 v3 v4 u0 u1 u2)=.ok (.tuple #[.agg #[v0,v1,v2,v3,v4],.agg #[u0,u1,u2]]) (jB W s v0 v1 v2 v3 v4 u0 u1 u2):=by
 obtain⟨x0,x1,x2,x3,x4,y0,y1,y2,_,_,_,_,_,_,_,_⟩:=h
 simp(maxDischargeDepth:=10) [results,Tryz.results125,h2,h3,go_sem,x0,x1,x2,x3,x4,y0,y1,y2]
theorem sF (tmps:Array Value){W:World}{s:Nat}(h:Bc W s)(h2:tmps[2]?=some (.pointer (some ⟨s,0,none⟩)))(h3:tmps[3]?=some (.pointer (some ⟨s+1,0,none⟩)))(v0 v1 v2 v3 v4 u0 u1 u2:Value)
  (hv:v0.oneCell'=true∧v1.oneCell'=true∧v2.oneCell'=true∧v3.oneCell'=true∧v4.oneCell'=true∧u0.oneCell'=true∧u1.oneCell'=true∧u2.oneCell'=true):
  (results Tryz.f125 tmps).run Tryz.prog (jB W s v0 v1 v2 v3 v4 u0 u1 u2).drew=.ok (.tuple #[.agg #[v0,v1,v2,v3,v4],.agg #[u0,u1,u2]]) (jB W s v0 v1 v2 v3 v4 u0 u1 u2).drew:=by
 obtain⟨x0,x1,x2,x3,x4,y0,y1,y2,_,_,_,_,_,_,_,_⟩:=h
 simp(maxDischargeDepth:=10) [results,Tryz.results125,h2,h3,go_sem,x0,x1,x2,x3,x4,y0,y1,y2]
theorem PR.start {W w1:World}{s:BA}{xs:List vd}{A:OA}{n c:Nat}(h:vf W w1 xs A n c)(hx:xs.map (fun x=>bl x.text)=dS (s.size+1) (bl s))(hz:∀ x∈xs,x.text.size≤s.size)(hs:s.size≤4294967280)(t:TypeId):PR (w1.alloc (.cells #[.slice A n c,.int .i64 0] t)) w1.heap.size (w1.heap.size+1) (bl s) 0 n:=by
 have hn:0<n:=by
  rw[←h.len,←List.length_map (f:=fun x:vd=>bl x.text),hx]
  obtain⟨r,e,_⟩:=mO s.size (bl s)
  rw[e];simp
 rcases h.row.2 with⟨_,h0⟩ | ⟨g,cap,cur,hv,h1,h2,h3,h4,h5,h6⟩
 ·omega
 ·injection hv with hA _ hc
  subst hc
  have hg:g<w1.heap.size:=by rw[Array.getElem?_eq_some_iff] at h2;exact h2.1
  refine⟨⟨g,0,c,s.size,xs,?_,?_,h.len,hx,by rw[ah];exact Nat.le_refl _,by omega,by omega,h3,h4,fun x hx=>Nat.le_trans (hz x hx) hs⟩,by omega,by simp⟩
  ·rw[←hA];exact av.new w1 [.slice A n c,.int .i64 0] t
  ·rw[←hA];exact(cP h.row).below (bR.alloc lr _)
theorem Bg (s:BA)(w:World)(hG:Gl w)(hs:s.size≤1000000):
  Calls Tryz.prog 125 #[.string s] w (eE s w):=by
 have HG:=ae hG
 obtain⟨W0,hW0⟩:∃ W0,(w.alloc (.cells #[.string ⟨#[]⟩,.string ⟨#[]⟩,.int .i64 0,.string ⟨#[]⟩,.slice none 0 0] 170)).alloc (.cells #[.string ⟨#[]⟩,.int .i64 0,.int .i64 0] 163)=W0:=⟨_,rfl⟩
 have T0:Hid (vj W0 w.heap.size):=by rw[←hW0];exact vj.new w _ _
 have B0:Hid (Below w.heap.size w W0):=by rw[←hW0];exact(bR.alloc lr _).alloc (by simp) _
 have Z0:Hid (W0.heap.size=w.heap.size+2):=by rw[←hW0];show _=_;simp
 clear hG
 go_enter Tryz.func125,Tryz.ntmps125
 go_wp2_with fail
 clear hW0
 refine(AV s W0 (by omega)).mono ?_;rintro e w1 ⟨A,n,c,xs,rfl,hrow,hnn,hxs,hxz⟩
 obtain⟨W2,hW2⟩:∃ W2,w1.alloc (.cells #[.slice A n c,.int .i64 0] 218)=W2:=⟨_,rfl⟩
 have P2:Hid (PR W2 w1.heap.size (w1.heap.size+1) (bl s) 0 n):=by rw[←hW2];exact PR.start hrow hxs hxz (by omega) _
 have B2:Hid (Below w.heap.size w W2):=by rw[←hW2];exact(ap B0.out hrow.bel).alloc (by have:=hrow.bel.size;have:=Z0.out;omega) _
 have T2:Hid (vj W2 w.heap.size):=by rw[←hW2];exact(T0.out.below hrow.bel).below (bR.alloc lr _)
 have Z2:Hid (w.heap.size+2≤w1.heap.size):=by have:=hrow.bel.size;have:=Z0.out;show _≤_;omega
 have G2:Hid (oO w1.heap.size W2):=⟨w,HG.out,B2.out,by have:=Z2.out;omega⟩
 clear hrow hnn hxs hxz B0 T0
 go_upto_region 2 with(fail)
 clear hW2
 have hD:=(yR (2*(bl s).length+2)).1 w1.heap.size (w1.heap.size+1) 0 n 0 (bl s) W2 (by omega) G2.out P2.out (by omega) (by omega)
 have hD:=Calls.int hD (args':=#[.pointer (some ⟨w1.heap.size,0,none⟩),.int .i64 0]) rfl
 go_wp2_with fail
 refine hD.mono ?_;rintro e w3 ⟨hg,hpost⟩
 clear hD
 have T3:=ae (T2.out.off hg (by have:=Z2.out;omega))
 have B3:=ae (cY B2.out hg (by have:=Z2.out;omega))
 have Z3:Hid (w.heap.size+2≤w3.heap.size):=by have:=T3.out.b1.sz;have:=hg.size;have:=P2.out.hz;have:=Z2.out;show _≤_;omega
 cases hr:gA (2*(bl s).length+2) 0 0 (bl s) with
 | none=>
  rw[hr] at hpost
  obtain⟨ff,x,c,rfl,hc⟩:=hpost
  have EN:=ae (yS hr)
  have hc1:(c != 0)=true:=by simp[hc]
  have hc2:(c==0)=false:=by simp[hc]
  have HC:=tG.mk hc
  clear hr hc hg
  unfold ed
  rw[lL]
  go_upto_region 3 with(fail)
  obtain⟨W4,hW4⟩:∃ W4,(w3.alloc (.cells #[.string ⟨#[]⟩,.string ⟨#[]⟩,.int .i64 0,.string ⟨#[]⟩,.slice none 0 0] 170)).alloc (.cells #[.string ff,.int .i64 x,.int .i64 c] 163)=W4:=⟨_,rfl⟩
  have B4:Hid (Below w3.heap.size w3 W4):=by rw[←hW4];exact(bR.alloc lr _).alloc (by simp) _
  have K4:Hid (av W4 (w3.heap.size+1) [.string ff,.int .i64 x,.int .i64 c]):=by
   have:=av.new (w3.alloc (.cells #[.string ⟨#[]⟩,.string ⟨#[]⟩,.int .i64 0,.string ⟨#[]⟩,.slice none 0 0] 170)) [.string ff,.int .i64 x,.int .i64 c] 163
   rw[←hW4];show av _ _ _;simpa using this
  have T4:=ae (T3.out.below B4.out)
  have B5:=ae (ap B3.out B4.out)
  rw[hW4]
  clear hW4 T3 B3 B4
  have d0:=K4.out.cell 0 _ rfl
  have d1:=K4.out.cell 1 _ rfl
  have d2:=K4.out.cell 2 _ rfl
  have tc:=T4.out.c
  obtain⟨x0,x1,x2,x3,x4,y0,y1,y2,g0,g1,g2,g3,g4,k0,k1,k2⟩:=tc
  have hne1:¬ w.heap.size=w3.heap.size+1:=by have:=Z3.out;omega
  have hne2:¬ w3.heap.size+1=w.heap.size:=by have:=Z3.out;omega
  have hne3:¬ w.heap.size=w3.heap.size:=by have:=Z3.out;omega
  have hne4:¬ w3.heap.size=w.heap.size:=by have:=Z3.out;omega
  go_wp2_with fail
  go_region
  go_wp2_with fail
  refine bodyPost_ret (sF _ T4.out.c rfl rfl _ _ _ _ _ _ _ _ ⟨rfl,rfl,rfl,rfl,rfl,rfl,rfl,rfl⟩) rfl ?_
  exact eE.no EN.out (ci (mQ B5.out lr _ _ _ _ _ _ _ _)) HC.out
 | some r=>
  obtain⟨t,l1,n1⟩:=r
  rw[hr] at hpost
  obtain⟨T,m1,rfl,hT,hgd,hown,hht,hn1,hn64,hpr,hm1⟩:=hpost
  have HT:=ae hT
  have HR:=ae hr
  have HGD:=ae hgd
  have HHT:Hid (T.ht≤32):=by show _≤_;omega
  have HCN:Hid (T.cnt≤64):=by show _≤_;omega
  obtain⟨W4,hW4⟩:∃ W4,(w3.alloc (.cells T.cells.toArray 170)).alloc (.cells #[.string ⟨#[]⟩,.int .i64 0,.int .i64 0] 163)=W4:=⟨_,rfl⟩
  have B4:Hid (Below w3.heap.size w3 W4):=by rw[←hW4];exact(bR.alloc lr _).alloc (by simp) _
  have D4:Hid (av W4 w3.heap.size T.cells):=by rw[←hW4];exact(av.new w3 T.cells _).alloc _
  have K4:Hid (av W4 (w3.heap.size+1) [.string ⟨#[]⟩,.int .i64 0,.int .i64 0]):=by
   have:=av.new (w3.alloc (.cells T.cells.toArray 170)) [.string ⟨#[]⟩,.int .i64 0,.int .i64 0] 163
   rw[←hW4];show av _ _ _;simpa using this
  have T4:=ae (T3.out.below B4.out)
  have B5:=ae (ap B3.out B4.out)
  have P4:=ae (hpr.below B4.out)
  have O4:=ae ((hown.low B4.out).base (lo':=w.heap.size+2) (by have:=P2.out.sz;have:=Z2.out;omega))
  clear hr hT hgd hown hht hn1 hn64 hpr hm1 hg
  unfold ed ak.val
  go_upto_region 3 with(fail)
  have hW5:(w3.alloc (.cells #[.string T.op,.string T.nm,.int .i64 T.aop,.string T.ver,.slice T.ka T.kids.length T.kc] 170)).alloc (.cells #[.string ⟨#[]⟩,.int .i64 0,.int .i64 0] 163)=W4:=hW4
  rw[hW5]
  clear hW4 hW5 T3 B3 B4
  have e0:=K4.out.cell 0 _ rfl
  have e1:=K4.out.cell 1 _ rfl
  have e2:=K4.out.cell 2 _ rfl
  have tc:=T4.out.c
  obtain⟨x0,x1,x2,x3,x4,y0,y1,y2,g0,g1,g2,g3,g4,k0,k1,k2⟩:=tc
  obtain⟨b5,off5,c5,P,q,k5,hP,-⟩:=P4.out.cells
  have HP:=ae hP
  obtain⟨r0,r1,r2,r3,r4,r5,r6,r7,r8,r9,tz5⟩:=k5
  clear hP
  by_cases hp:bl P=[]
  ·have E1:P.toList=[]:=by rw[ai];exact hp
   have E2:P.toList.isEmpty=true:=by rw[E1];rfl
   have EY:Hid (fj (bl s)=some T.pl):=by show _=_;rw[HT.out];exact yU HR.out (by rw[←HP.out];exact hp)
   have d0:=D4.out.cell 0 _ rfl
   have d1:=D4.out.cell 1 _ rfl
   have d2:=D4.out.cell 2 _ rfl
   have d3:=D4.out.cell 3 _ rfl
   have d4:=D4.out.cell 4 _ rfl
   clear hp
   go_wp2_with fail
   refine bodyPost_ret (EJ _ T4.out.c rfl rfl _ _ _ _ _ _ _ _ ⟨rfl,rfl,rfl,rfl,rfl,rfl,rfl,rfl⟩) rfl ?_
   exact eE.yes EY.out (mQ B5.out lr _ _ _ _ _ _ _ _) HGD.out ((sw O4.out (by omega) _ _ _ _ _ _ _ _).base (by omega)) HHT.out HCN.out
  ·have E1:(P.toList==([]:LU))=false:=by rw[ai,bF];exact hp
   have E2:P.toList.isEmpty=false:=by rw[ai,List.isEmpty_eq_false_iff];exact hp
   have E3:¬ P.toList=[]:=by rw[ai];exact hp
   have EN:Hid (fj (bl s)=none):=yT HR.out (by rw[←HP.out];exact hp)
   clear hp
   go_wp2_with fail
   refine(dJ P q 3 _).mono ?_;rintro e w5 ⟨rfl,hb⟩
   have B6:=ae (ap B5.out hb)
   have T6:=ae (T4.out.below hb)
   have K6:=ae (K4.out.below hb)
   clear hb e0 e1 e2 x0 x1 x2 x3 x4 y0 y1 y2 g0 g1 g2 g3 g4 k0 k1 k2 r0 r1 r2 r3 r4 r5 r6 r7 r8 r9
   have e0:=K6.out.cell 0 _ rfl
   have e1:=K6.out.cell 1 _ rfl
   have e2:=K6.out.cell 2 _ rfl
   have h0:=K6.out.free 0 (by simp)
   have h1:=K6.out.free 1 (by simp)
   have h2:=K6.out.free 2 (by simp)
   unfold ed
   go_upto_region 5 with(fail)
   clear e0 e1 e2 h0 h1 h2
   obtain⟨W7,hW7⟩:∃ W7,((w5.setCell ⟨w3.heap.size+1,0,none⟩ (.string ⟨#[]⟩)).setCell ⟨w3.heap.size+1,1,none⟩ (.int .i64 q)).setCell ⟨w3.heap.size+1,2,none⟩ (.int .i64 3)=W7:=⟨_,rfl⟩
   have K7:Hid (av W7 (w3.heap.size+1) [.string ⟨#[]⟩,.int .i64 q,.int .i64 3]):=by rw[←hW7];exact((K6.out.set 0 (by simp) (.string ⟨#[]⟩)).set 1 (by simp) (.int .i64 q)).set 2 (by simp) (.int .i64 3)
   have ha:w.heap.size+1<w3.heap.size+1:=by have:=Z3.out;omega
   have T7:Hid (vj W7 w.heap.size):=by rw[←hW7];exact((T6.out.off (aR _) ha).off (aR _) ha).off (aR _) ha
   have B7:Hid (Below w.heap.size w W7):=by rw[←hW7];exact ag (ag (ag B6.out (by omega) _) (by omega) _) (by omega) _
   rw[hW7]
   clear hW7 T6 B6 K6 ha
   have e0:=K7.out.cell 0 _ rfl
   have e1:=K7.out.cell 1 _ rfl
   have e2:=K7.out.cell 2 _ rfl
   have tc:=T7.out.c
   obtain⟨x0,x1,x2,x3,x4,y0,y1,y2,g0,g1,g2,g3,g4,k0,k1,k2⟩:=tc
   have hne1:¬ w.heap.size=w3.heap.size+1:=by have:=Z3.out;omega
   have hne2:¬ w3.heap.size+1=w.heap.size:=by have:=Z3.out;omega
   have hne3:¬ w.heap.size=w3.heap.size:=by have:=Z3.out;omega
   have hne4:¬ w3.heap.size=w.heap.size:=by have:=Z3.out;omega
   go_wp2_with fail
   go_region
   go_wp2_with fail
   refine bodyPost_ret (sF _ T7.out.c rfl rfl _ _ _ _ _ _ _ _ ⟨rfl,rfl,rfl,rfl,rfl,rfl,rfl,rfl⟩) rfl ?_
   exact eE.no EN.out (ci (mQ B7.out lr _ _ _ _ _ _ _ _)) (by decide)
end
section
open Go.RowKit Go.Maps
def MK (l:LU):BA:=strOfNums (l.map fun c=>(c.toNat:Int))
theorem Fu (w:World)(A:OA)(c:Nat):(convert 33 9 (.slice A 0 c)).run Tryz.prog w=.ok (.string (strOfNums [])) w:=by
 cases A with
 | none=>exact run_convert_bytes_nil (P:=Tryz.prog) w _ 5 Tryz.underlying33 Tryz.underlying5 0 c _ Tryz.underlying9
 | some a=>
  rw[run_convert_bytes_string w _ _ 5 _ _ _ Tryz.underlying33 Tryz.underlying5 Tryz.underlying9,run_bytesToString w a 0 c [] rfl]
  rfl
theorem Fv {w:World}{A:OA}{c:Nat}{l:LU}(h:Rd w 1 A l.length (l.map vb)):(convert 33 9 (.slice A l.length c)).run Tryz.prog w=.ok (.string (MK l)) w:=by
 cases l with
 | nil=>exact Fu w A c
 | cons x r=>
  obtain⟨b,o,rfl,hc⟩:=h.2 (by simp)
  refine run_convert_bytes_arg (P:=Tryz.prog) w _ 5 Tryz.underlying33 Tryz.underlying5 b o _ c _ (by simp) (fun i hi=>?_) _ Tryz.underlying9
  have hi':i<((x::r).map fun c=>(c.toNat:Int)).length:=by simpa using hi
  rw[hc i (vb ((x::r)[i]'hi)) (by rw[List.getElem?_map,gG hi];rfl)]
  unfold vb
  rw[List.getD,gG hi',List.getElem_map]
  rfl
structure wX (W:World) (b o:Nat) (x:am):Prop where
 cell:∀ (j:Nat)(u:Value),x.cells[j]?=some u→W.cell? ⟨b,o+j,none⟩=some u
 data:Rd W 1 x.da x.data.length (x.data.map vb)
theorem wX.below {W W':World}{b o:Nat}{x:am}(h:wX W b o x)(hb:Below W.heap.size W W'):wX W' b o x:=
 ⟨fun j u hu=>(hb.cell (p:=⟨b,o+j,none⟩) (World.block_lt_of_cell? _ _ (h.cell j u hu))).trans (h.cell j u hu),h.data.below hb⟩
theorem wX.lim {W:World}{b o:Nat}{x:am}(h:wX W b o x):W.cell? ⟨b,o,none⟩=some (.string x.path)∧W.cell? ⟨b,o+1,none⟩=some (.int .i64 x.kind)∧W.cell? ⟨b,o+2,none⟩=some (.int .i64 x.mode)∧W.cell? ⟨b,o+3,none⟩=some (.int .i64 x.uid)∧W.cell? ⟨b,o+4,none⟩=some (.int .i64 x.gid)∧W.cell? ⟨b,o+5,none⟩=some (.string x.owner)∧W.cell? ⟨b,o+6,none⟩=some (.string x.group)∧W.cell? ⟨b,o+7,none⟩=some (.int .i64 x.mtime)∧W.cell? ⟨b,o+8,none⟩=some (.string x.link)∧W.cell? ⟨b,o+9,none⟩=some (.slice x.da x.data.length x.dc)∧(convert 33 9 (.slice x.da x.data.length x.dc)).run Tryz.prog W=.ok (.string (MK x.data)) W:=
 ⟨h.cell 0 _ rfl,h.cell 1 _ rfl,h.cell 2 _ rfl,h.cell 3 _ rfl,h.cell 4 _ rfl,h.cell 5 _ rfl,h.cell 6 _ rfl,h.cell 7 _ rfl,h.cell 8 _ rfl,h.cell 9 _ rfl,Fv h.data⟩
theorem wX.lim2 {W:World}{b o:Nat}{x y:am}(h:wX W b o y)(hs:x.same y):W.cell? ⟨b,o,none⟩=some (.string x.path)∧W.cell? ⟨b,o+1,none⟩=some (.int .i64 x.kind)∧W.cell? ⟨b,o+2,none⟩=some (.int .i64 x.mode)∧W.cell? ⟨b,o+3,none⟩=some (.int .i64 x.uid)∧W.cell? ⟨b,o+4,none⟩=some (.int .i64 x.gid)∧W.cell? ⟨b,o+5,none⟩=some (.string x.owner)∧W.cell? ⟨b,o+6,none⟩=some (.string x.group)∧W.cell? ⟨b,o+7,none⟩=some (.int .i64 x.mtime)∧W.cell? ⟨b,o+8,none⟩=some (.string x.link)∧W.cell? ⟨b,o+9,none⟩=some (.slice y.da x.data.length y.dc)∧(convert 33 9 (.slice y.da x.data.length y.dc)).run Tryz.prog W=.ok (.string (MK x.data)) W:=by
 rw[hs.path,hs.kind,hs.mode,hs.uid,hs.gid,hs.owner,hs.group,hs.mtime,hs.link,hs.data]
 exact h.lim
theorem vt (x y:am)(w:World):Calls Tryz.prog 39 #[.agg #[.string x.path,.int .i64 x.kind,.int .i64 x.mode,.int .i64 x.uid,.int .i64 x.gid,.string x.owner,.string x.group,.int .i64 x.mtime,.string x.link,.slice x.da x.data.length x.dc],.agg #[.string x.path,.int .i64 x.kind,.int .i64 x.mode,.int .i64 x.uid,.int .i64 x.gid,.string x.owner,.string x.group,.int .i64 x.mtime,.string x.link,.slice y.da x.data.length y.dc]] w fun e w'=>e=.returned (.bool true)∧Below w.heap.size w w':=by
 go_enter Tryz.func39,Tryz.ntmps39
 go_wp2_with fail
 go_ret
 exact⟨rfl,(bR.alloc lr _).alloc (by simp) _⟩
theorem IF (A B:OA)(c d:Nat)(l m:List am)(w:World)(hE:fL w A l)(hF:fL w B m)(hl:m.length=l.length)(hs:∀ (i:Nat)(x y:am),l[i]?=some x→m[i]?=some y→x.same y)(hn:l.length≤100000)(hd:∀ x∈l,x.data.length≤9223372036854775807):
  Calls Tryz.prog 13 #[.slice A l.length c,.slice B l.length d] w fun e w'=>e=.returned (.bool true)∧Below w.heap.size w w':=by
 have HE:=ae hE
 have HF:=ae hF
 have HL:=ae hl
 have HS:=ae hs
 have HD:=ae hd
 clear hE hF hl hs hd
 go_enter Tryz.func13,Tryz.ntmps13
 go_wp2_with fail
 go_loopw [5] (fun i wr=>∃ (k:Nat),k≤l.length∧i=.int .i64 k∧Hid (Below w.heap.size w wr)) (fun i _=>l.length-(intOf i).toNat)
 case atStart=>exact⟨0,z0,rfl,bR⟩
 case round=>
  obtain⟨k,hk,rfl,B1⟩:=hrel
  by_cases hlt:k<l.length
  case neg=>
   go_wp2_with fail
   go_ret
   exact⟨rfl,B1.out⟩
  obtain⟨x,hx⟩:∃ x,l[k]?=some x:=⟨_,gG hlt⟩
  have hlm:k<m.length:=by rw[HL.out];exact hlt
  obtain⟨y,hy⟩:∃ y,m[k]?=some y:=⟨_,gG hlm⟩
  obtain⟨b,off,hA,hel⟩:=((HE.out.below B1.out).row).elem bP k x hx
  obtain⟨b2,off2,hA2,hel2⟩:=((HF.out.below B1.out).row).elem bP k y hy
  have hix:=fun W=>aH (T:=28) (E:=35) (sz:=10) (c:=c) Tryz.underlying28 rfl Tryz.sizeOf35 hA hlt W
  have hix2:=fun W=>aH (T:=28) (E:=35) (sz:=10) (c:=d) Tryz.underlying28 rfl Tryz.sizeOf35 hA2 hlt W
  have X1:Hid (wX wr b (off+k*10) x):=⟨hel,(HE.out.below B1.out).all x (gM hx)⟩
  have Y1:Hid (wX wr b2 (off2+k*10) y):=⟨hel2,(HF.out.below B1.out).all y (gM hy)⟩
  have SM:=ae (HS.out k x y hx hy)
  have hdx:=HD.out x (gM hx)
  clear hx hy hA hA2 hel hel2 hlm
  go_wp2_with fail
  have B2:Hid (Below w.heap.size w wr.drew):=ci B1.out
  have X2:=ae (X1.out.below (ci (Below.refl _ wr)))
  have Y2:=ae (Y1.out.below (ci (Below.refl _ wr)))
  go_region_held3 (fun w'=>(w'.cell? ⟨b,off+k*10,none⟩=some (.string x.path)∧w'.cell? ⟨b,off+k*10+1,none⟩=some (.int .i64 x.kind)∧w'.cell? ⟨b,off+k*10+2,none⟩=some (.int .i64 x.mode)∧w'.cell? ⟨b,off+k*10+3,none⟩=some (.int .i64 x.uid)∧w'.cell? ⟨b,off+k*10+4,none⟩=some (.int .i64 x.gid)∧w'.cell? ⟨b,off+k*10+5,none⟩=some (.string x.owner)∧w'.cell? ⟨b,off+k*10+6,none⟩=some (.string x.group)∧w'.cell? ⟨b,off+k*10+7,none⟩=some (.int .i64 x.mtime)∧w'.cell? ⟨b,off+k*10+8,none⟩=some (.string x.link)∧w'.cell? ⟨b,off+k*10+9,none⟩=some (.slice x.da x.data.length x.dc)∧(convert 33 9 (.slice x.da x.data.length x.dc)).run Tryz.prog w'=.ok (.string (MK x.data)) w')∧(w'.cell? ⟨b2,off2+k*10,none⟩=some (.string x.path)∧w'.cell? ⟨b2,off2+k*10+1,none⟩=some (.int .i64 x.kind)∧w'.cell? ⟨b2,off2+k*10+2,none⟩=some (.int .i64 x.mode)∧w'.cell? ⟨b2,off2+k*10+3,none⟩=some (.int .i64 x.uid)∧w'.cell? ⟨b2,off2+k*10+4,none⟩=some (.int .i64 x.gid)∧w'.cell? ⟨b2,off2+k*10+5,none⟩=some (.string x.owner)∧w'.cell? ⟨b2,off2+k*10+6,none⟩=some (.string x.group)∧w'.cell? ⟨b2,off2+k*10+7,none⟩=some (.int .i64 x.mtime)∧w'.cell? ⟨b2,off2+k*10+8,none⟩=some (.string x.link)∧w'.cell? ⟨b2,off2+k*10+9,none⟩=some (.slice y.da x.data.length y.dc)∧(convert 33 9 (.slice y.da x.data.length y.dc)).run Tryz.prog w'=.ok (.string (MK x.data)) w'))
   (first
     | with_reducible exact⟨X1.out.lim,Y1.out.lim2 SM.out⟩
     | with_reducible exact⟨X2.out.lim,Y2.out.lim2 SM.out⟩
     | with_reducible exact⟨X3.out.lim,Y3.out.lim2 SM.out⟩
     | with_reducible exact⟨X4.out.lim,Y4.out.lim2 SM.out⟩)
   (first | (go_at_call 39;first
     | ((with_reducible refine(vt x y wr).mono ?_);rintro e w3 ⟨rfl,hb3⟩;have X3:=ae (X1.out.below hb3);have Y3:=ae (Y1.out.below hb3))
     | ((with_reducible refine(vt x y wr.drew).mono ?_);rintro e w3 ⟨rfl,hb3⟩;have X3:=ae (X2.out.below hb3);have Y3:=ae (Y2.out.below hb3))))
  have B3:Hid (Below w.heap.size w w3):=ap B1.out (show Below wr.heap.size wr w3 from⟨hb3.os,hb3.tape,hb3.output,hb3.size,hb3.block⟩)
  clear hb3 X1 X2 X3 Y1 Y2 Y3 B2 B1
  have hs_:True:=trivial
  rename_i hSS
  clear hSS
  go_wp2_with fail
  go_roundw
  case rel=>exact⟨k+1,by omega,by go_num,B3⟩
  case measure=>simp[intOf];omega
end
end Go.Proofs.YtlglfpbhapmhiaaGreatDoor
