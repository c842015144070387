/- A part of the proof. -/
import Derived.Test.YtlglfpbhapmhiaaGreatDoorK26
import Derived.Test.YtlglfpbhapmhiaaGreatDoorK28
import Derived.Test.YtlglfpbhapmhiaaGreatDoorK30
set_option maxRecDepth 100000
set_option maxHeartbeats 20000000
set_option linter.unusedVariables false
set_option linter.unusedSimpArgs false
namespace Go.Proofs.YtlglfpbhapmhiaaGreatDoor
section
open Go.RowKit Go.Deep
def sy (a:Nat)(w:World):Nat:=match w.cell? ⟨a,0,none⟩ with | some (.slice _ m _)=>m | _=>0
theorem PR.rest {w:World}{a hi n m:Nat}{l:LU}(h:PR w a hi l n m):sy a w=m:=by
 obtain⟨b,off,c,T,p,k,_,_⟩:=h.cells
 unfold sy;rw[k.c0]
theorem PR.dec {w w':World}{a hi n m n' m':Nat}{l l':LU}(h':PR w' a hi l' n' m')(h:PR w a hi l n m)(hk:m'<m):sy a w'<sy a w:=by rw[h'.rest,h.rest];exact hk
theorem od (tmps:Array Value){W:World}{s:Nat}(h:Bc W s)(h2:tmps[4]?=some (.pointer (some ⟨s,0,none⟩)))(h3:tmps[5]?=some (.pointer (some ⟨s+1,0,none⟩)))(v0 v1 v2 v3 v4 u0 u1 u2:Value)
  (hv:v0.oneCell'=true∧v1.oneCell'=true∧v2.oneCell'=true∧v3.oneCell'=true∧v4.oneCell'=true∧u0.oneCell'=true∧u1.oneCell'=true∧u2.oneCell'=true):
  (results Tryz.f176 tmps).run Tryz.prog (jB W s v0 v1 v2 v3 v4 u0 u1 u2)=.ok (.tuple #[.agg #[v0,v1,v2,v3,v4],.agg #[u0,u1,u2]]) (jB W s v0 v1 v2 v3 v4 u0 u1 u2):=by
 obtain⟨x0,x1,x2,x3,x4,y0,y1,y2,_,_,_,_,_,_,_,_⟩:=h
 simp(maxDischargeDepth:=10) [results,Tryz.results176,h2,h3,go_sem,x0,x1,x2,x3,x4,y0,y1,y2]
theorem Cy (tmps:Array Value){W:World}{s:Nat}(h:Bc W s)(h2:tmps[4]?=some (.pointer (some ⟨s,0,none⟩)))(h3:tmps[5]?=some (.pointer (some ⟨s+1,0,none⟩)))(v0 v1 v2 v3 v4 u0 u1 u2:Value)
  (hv:v0.oneCell'=true∧v1.oneCell'=true∧v2.oneCell'=true∧v3.oneCell'=true∧v4.oneCell'=true∧u0.oneCell'=true∧u1.oneCell'=true∧u2.oneCell'=true):
  (results Tryz.f212 tmps).run Tryz.prog (jB W s v0 v1 v2 v3 v4 u0 u1 u2)=.ok (.tuple #[.agg #[v0,v1,v2,v3,v4],.agg #[u0,u1,u2]]) (jB W s v0 v1 v2 v3 v4 u0 u1 u2):=by
 obtain⟨x0,x1,x2,x3,x4,y0,y1,y2,_,_,_,_,_,_,_,_⟩:=h
 simp(maxDischargeDepth:=10) [results,Tryz.results212,h2,h3,go_sem,x0,x1,x2,x3,x4,y0,y1,y2]
theorem lL:ld.val=.agg #[.string ⟨#[]⟩,.string ⟨#[]⟩,.int .i64 0,.string ⟨#[]⟩,.slice none 0 0]:=rfl
theorem Hw (tmps:Array Value){W:World}{s:Nat}(h:Bc W s)(h2:tmps[4]?=some (.pointer (some ⟨s,0,none⟩)))(h3:tmps[5]?=some (.pointer (some ⟨s+1,0,none⟩)))(v0 v1 v2 v3 v4 u0 u1 u2:Value)
  (hv:v0.oneCell'=true∧v1.oneCell'=true∧v2.oneCell'=true∧v3.oneCell'=true∧v4.oneCell'=true∧u0.oneCell'=true∧u1.oneCell'=true∧u2.oneCell'=true):
  (results Tryz.f212 tmps).run Tryz.prog (jB W s v0 v1 v2 v3 v4 u0 u1 u2).drew=.ok (.tuple #[.agg #[v0,v1,v2,v3,v4],.agg #[u0,u1,u2]]) (jB W s v0 v1 v2 v3 v4 u0 u1 u2).drew:=by
 obtain⟨x0,x1,x2,x3,x4,y0,y1,y2,_,_,_,_,_,_,_,_⟩:=h
 simp(maxDischargeDepth:=10) [results,Tryz.results212,h2,h3,go_sem,x0,x1,x2,x3,x4,y0,y1,y2]
theorem Be {w W:World}{a:Nat}(h:w.grownBy W (some a)):w.grownBy W.drew (some a):=kW h ⟨rfl,rfl,rfl,lr,fun _ _=>rfl⟩
theorem oc.wide {w W W':World}{a hi n m:Nat}{l:LU}{row:Option Nat}(h:oc w W a hi l n m)(k:W.grownBy W' row)(hr:∀ j,row=some j→w.heap.size+2≤j):oc w W' a hi l n m:=by
 have h1:=h.lt
 refine⟨⟨h.two.b0.grownBy k (fun e=>by have:=hr _ e.symm;omega),h.two.b1.grownBy k (fun e=>by have:=hr _ e.symm;omega)⟩,h.pr.grown k (fun j e=>by have:=hr j e;omega),gx h.gr k (fun j e=>by have:=hr j e;omega),?_,h1⟩
 obtain⟨w0,g1,g2,g3⟩:=h.gl
 have h2:=h.pr.lt
 refine⟨w0,g1,?_,g3⟩
 exact⟨k.os.trans g2.os,k.tape.trans g2.tape,k.output.trans g2.output,Nat.le_trans g2.size k.size,fun j hj=>(k.block j (by have:=g2.size;omega) (fun e=>by have:=hr j e.symm;omega)).trans (g2.block j hj)⟩
theorem fC.of_group {OP:BA}{ks:List ak}{T:ak}{A:OA}{c mm:Nat}(hop:Cu mm (bl OP))(hl:ks.length=mm)(h0:mm≠0)(hk:∀ k∈ks++[T],fC k):fC (.mk OP ⟨#[]⟩ 0 ⟨#[]⟩ A c (ks++[T])):=by
 refine .node OP A c _ (hop.word h0) ?_ hk
 rw[List.length_append,List.length_singleton,hl,hop.close];simpa using h0
theorem Calls.int {f:Nat}{args:Array Value}{w:World}{post:Ending→World→Prop}{args':Array Value}(h:Calls Tryz.prog f args w post)(e:args=args'):Calls Tryz.prog f args' w post:=e ▸ h
theorem Bf {op p:LU}{n:Nat}(h:aI op n p=true):p≠[]:=by
 unfold aI at h
 split at h
 ·exact(kr h).1
 ·rcases dO h with⟨h1,h2⟩ | ⟨_,_,h2⟩
  ·rcases h1 with h1 | h1<;>rw[h2,h1]<;>simp[eV,mw]
  ·rw[h2];simp[pD]
def Ly (f:Nat):Prop:=∀ (a hi n m deep:Nat)(l:LU)(w:World),2*l.length+1≤f→oO a w→PR w a hi l n m→n≤64→deep≤32 →
 Calls Tryz.prog 176 #[.pointer (some ⟨a,0,none⟩),.int .i64 deep] w (bZ (gA f deep n l) a hi m deep n w)
def Lz (f:Nat):Prop:=∀ (a hi n m deep:Nat)(l:LU)(w:World),2*l.length+2≤f→oO a w→PR w a hi l n m→n≤64→deep<32 →
 Calls Tryz.prog 212 #[.pointer (some ⟨a,0,none⟩),.int .i64 ((deep:Int)+1)] w (bZ (jR f (deep+1) n [] [] l) a hi m deep n w)
theorem sD (a b:List ak):kE (a++b)=kE a++kE b:=by rw[ix,ix,ix,List.map_append]
theorem qx {a:List ak}:kE a=[]↔a=[]:=by rw[ix];simp
theorem sE (a:List ak):(kE a).length=a.length:=by rw[ix];simp
theorem LB {ks:List ak}{d:Nat}(h:∀ k∈ks,k.ht+1≤d):yA ks≤d:=by
 by_cases h0:ks=[]
 ·subst h0;simp[yA]
 ·obtain⟨t,ht,he⟩:=wD h0;have:=h t ht;omega
theorem LD (F:Nat)(IH:∀ f,f<F→Ly f):Lz F:=by
 intro a hi n m deep l w hF hG h hn hd
 obtain⟨i0,hi0,hz0,hz1,hz2⟩:=info_parts oV
 obtain⟨f0,rfl⟩:∃ f0,F=f0+1:=⟨F-1,by omega⟩
 obtain⟨RR,hRR⟩:∃ RR,jR (f0+1) (deep+1) n [] [] l=RR:=⟨_,rfl⟩
 rw[hRR]
 have E0:Hid (RR=jR (f0+1) (deep+1) n (kE []) (bl ⟨#[]⟩) l):=hRR.symm
 have F0:Hid (2*l.length+2≤f0+1):=hF
 have HIH:=ae IH
 obtain⟨W1,hW1⟩:∃ W1,(w.alloc (.cells #[.string ⟨#[]⟩,.string ⟨#[]⟩,.int .i64 0,.string ⟨#[]⟩,.slice none 0 0] 170)).alloc (.cells #[.string ⟨#[]⟩,.int .i64 0,.int .i64 0] 163)=W1:=⟨_,rfl⟩
 have S1:Hid (oc w W1 a hi l n m):=by rw[←hW1];exact oc.start hG h _ _
 have hz:W1.heap.size=w.heap.size+2:=by rw[←hW1];simp
 have HZ:=ae hz
 clear hRR hF IH h hG hz
 go_enter Tryz.func212,Tryz.ntmps212
 go_upto_region 1 with(fail)
 clear hW1
 go_wp2_with fail
 go_loopw [] (fun wr=>∃ (lc:LU) (nc mc mm cc f:Nat) (OP:BA) (ks:List ak) (A:OA),nc≤64∧mm≤64∧Hid (xj W1 wr a hi lc nc mc OP ks A mm cc)∧Hid (oc w wr a hi lc nc mc)∧Hid (Cu mm (bl OP))∧Hid (RR=jR (f+1) (deep+1) nc (kE ks) (bl OP) lc)∧Hid (2*lc.length+2≤f+1)∧Hid (f≤f0)∧Hid (nc=n+cE ks)∧Hid (∀ k∈ks,k.ht+(deep+1)≤32)∧Hid (mc≤m)) (fun wr=>sy a wr)
 case atStart=>exact⟨l,n,m,0,0,f0,⟨#[]⟩,[],none,hn,by omega,xj.start S1.out.pr _,S1.out.below (bR.alloc lr _),Cu.start,E0,F0,lr,by simp[Hid,cE],by simp[Hid],lr⟩
 case round=>
  clear S1 E0 F0
  obtain⟨lc,nc,mc,mm,cc,f,OP,ks,A,hnc,hmm,HS,HR,HOP,HE,HF,HF0,HN,HH,HM⟩:=hrel
  have hDep:=Calls.int (HIH.out f (by have:=HF0.out;omega) a hi nc mc (deep+1) lc wr (by have:=HF.out;omega) HR.out.gl HR.out.pr hnc (by omega)) (args':=#[.pointer (some ⟨a,0,none⟩),.int .i64 ((deep:Int)+1)]) rfl
  go_wp2_with fail
  refine hDep.mono ?_;rintro e w2 ⟨hg,hpost⟩
  clear hDep
  cases hr:gA f (deep+1) nc lc with
  | none=>
   rw[hr] at hpost
   obtain⟨ff,x,c,rfl,hc⟩:=hpost
   have EN:Hid (RR=none):=HE.out.trans (Ez hr)
   have T2:=ae (HR.out.two.step hg HR.out.alt)
   have G2:=ae (aj HR.out.gr hg)
   have hc1:(c != 0)=true:=by simp[hc]
   have HC:=tG.mk hc
   have hsz:w.heap.size+1<w2.heap.size:=T2.out.b1.sz
   have HSZ:=ae hsz
   clear hr hc hg
   unfold ed
   rw[lL]
   go_upto_region 3 with(fail)
   obtain⟨W3,hW3⟩:∃ W3,(w2.alloc (.cells #[.string ⟨#[]⟩,.string ⟨#[]⟩,.int .i64 0,.string ⟨#[]⟩,.slice none 0 0] 170)).alloc (.cells #[.string ff,.int .i64 x,.int .i64 c] 163)=W3:=⟨_,rfl⟩
   have B3:Hid (Below w2.heap.size w2 W3):=by rw[←hW3];exact(bR.alloc lr _).alloc (by simp) _
   have K3:Hid (av W3 (w2.heap.size+1) [.string ff,.int .i64 x,.int .i64 c]):=by
    have:=av.new (w2.alloc (.cells #[.string ⟨#[]⟩,.string ⟨#[]⟩,.int .i64 0,.string ⟨#[]⟩,.slice none 0 0] 170)) [.string ff,.int .i64 x,.int .i64 c] 163
    rw[←hW3];show av _ _ _;simpa using this
   have T3:=ae (T2.out.below B3.out)
   have G3:=ae (kW G2.out B3.out)
   rw[hW3]
   clear hW3 hsz T2 G2
   have d0:=K3.out.cell 0 _ rfl
   have d1:=K3.out.cell 1 _ rfl
   have d2:=K3.out.cell 2 _ rfl
   have tc:=T3.out.c
   obtain⟨x0,x1,x2,x3,x4,y0,y1,y2,g0,g1,g2,g3,g4,k0,k1,k2⟩:=tc
   have hne1:¬ w.heap.size=w2.heap.size+1:=by have:=HSZ.out;omega
   have hne2:¬ w2.heap.size+1=w.heap.size:=by have:=HSZ.out;omega
   have hne3:¬ w.heap.size=w2.heap.size:=by have:=HSZ.out;omega
   have hne4:¬ w2.heap.size=w.heap.size:=by have:=HSZ.out;omega
   go_wp2_with fail
   go_region
   go_wp2_with fail
   refine bodyPost_ret (Hw _ T3.out.c rfl rfl _ _ _ _ _ _ _ _ ⟨rfl,rfl,rfl,rfl,rfl,rfl,rfl,rfl⟩) rfl ?_
   exact bZ.no EN.out (Be (cg G3.out lr _ _ _ _ _ _ _ _)) HC.out
  | some r=>
   obtain⟨t,l1,n1⟩:=r
   rw[hr] at hpost
   obtain⟨T,m1,rfl,hT,hgd,hown,hht,hn1,hn64,hpr,hm1⟩:=hpost
   have S2:=ae (HS.out.step hg hpr)
   have R2:=ae (HR.out.step hg hpr)
   have TB:=ae ((hown.old (bad':=(Value.slice A mm cc).ownBlock) (fun g e=>.inl (HS.out.row.lt g e).2)).base (lo':=W1.heap.size+1) (by have:=HS.out.box.sz;omega))
   have HT:=ae hT
   have HTM:=ae hr
   have HGD:=ae hgd
   have HHT:=ae hht
   have HN1:Hid (n1=n+cE (ks++[T])):=by show _=_;rw[de,hn1,HN.out];simp[cE];omega
   have HM1:Hid (m1<mc):=hm1
   have HL1:Hid (l1.length<lc.length):=(Cx f).1 _ _ _ _ _ _ hr
   have HN64:=ae hn64
   clear hr hg hT hgd hown hht hn1 hm1 hpr hn64 HS
   unfold ed ak.val
   go_upto_region 3 with(fail)
   obtain⟨W3,hW3⟩:∃ W3,(w2.alloc (.cells T.cells.toArray 170)).alloc (.cells #[.string ⟨#[]⟩,.int .i64 0,.int .i64 0] 163)=W3:=⟨_,rfl⟩
   have B3:Hid (Below w2.heap.size w2 W3):=by rw[←hW3];exact(bR.alloc lr _).alloc (by simp) _
   have KT3:Hid (av W3 w2.heap.size T.cells):=by rw[←hW3];exact(av.new w2 T.cells _).alloc _
   have KF3:Hid (av W3 (w2.heap.size+1) [.string ⟨#[]⟩,.int .i64 0,.int .i64 0]):=by
    have:=av.new (w2.alloc (.cells T.cells.toArray 170)) [.string ⟨#[]⟩,.int .i64 0,.int .i64 0] 163
    rw[←hW3];show av _ _ _;simpa using this
   have S3:=ae (S2.out.below B3.out)
   have R3:=ae (R2.out.below B3.out)
   have TB3:=ae ((TB.out.low B3.out).low ((Below.refl W3.heap.size W3).alloc lr (.cells T.cells.toArray 170)))
   have SA:=ae (S3.out.below ((Below.refl W3.heap.size W3).alloc lr (.cells T.cells.toArray 170)))
   have RA:=ae (R3.out.below ((Below.refl W3.heap.size W3).alloc lr (.cells T.cells.toArray 170)))
   have hW4:(w2.alloc (.cells #[.string T.op,.string T.nm,.int .i64 T.aop,.string T.ver,.slice T.ka T.kids.length T.kc] 170)).alloc (.cells #[.string ⟨#[]⟩,.int .i64 0,.int .i64 0] 163)=W3:=hW3
   rw[hW4]
   clear hW3 hW4 S2 R2 TB
   have k0:=KT3.out.cell 0 _ rfl
   have k1:=KT3.out.cell 1 _ rfl
   have k2:=KT3.out.cell 2 _ rfl
   have k3:=KT3.out.cell 3 _ rfl
   have k4:=KT3.out.cell 4 _ rfl
   have q2:=KF3.out.cell 2 _ rfl
   have x4:=S3.out.box.cell 4 _ rfl
   have hmm2:mm≤4294967280:=by omega
   go_upto_region 6 with(at_builtin;refine au _ rfl _ _ _ rfl (W1.heap.size+1) 170 i0 _ 5 80 Tryz.underlying168 hi0 hz0 hz1 hz2 rfl (by omega) (.slice A mm cc) mm _ rfl (SA.out.row) (W3.heap.size+1) (some ⟨W3.heap.size,0,none⟩) 1 1 T.cells rfl (by have:=rQ W3 170 (.string T.op) (.string T.nm) (.int .i64 T.aop) (.string T.ver) (.slice T.ka T.kids.length T.kc);simpa [ak.cells] using this) (by simp[Value.oneCell',ak.cells]) (by simp only[maxLen];omega) (by omega) (by simp;have:=S3.out.box.sz;omega) ?_;intro v1 w4 o1 g1 a1;obtain⟨A3,c3,rfl⟩:=aL o1;have bx:=ae (SA.out.box.grownBy g1 (fun e=>by have:=(SA.out.row.lt _ e.symm).1;omega));have y4:=bx.out.cell 4 _ rfl;have z4:=bx.out.free 4 (by simp);clear bx)
   clear k0 k1 k2 k3 k4 q2 x4 y4 z4
   have hw1:w.heap.size+2≤W1.heap.size:=by have:=HZ.out;omega
   have S5:=ae (SA.out.grow TB3.out HGD.out o1 g1 a1)
   have R5:=ae ((RA.out.wide g1 (fun j e=>by have:=(SA.out.row.lt j e).1;omega)).far (j:=4) hw1 (.slice A3 (mm+1) c3))
   have HW1:=ae hw1
   obtain⟨W5,hW5⟩:∃ W5,w4.setCell ⟨W1.heap.size,4,none⟩ (.slice A3 (mm+1) c3)=W5:=⟨_,rfl⟩
   rw[hW5] at S5 R5 ⊢
   clear hW5 hw1 o1 g1 a1 SA RA TB3 S3 R3 KT3 KF3 B3
   obtain⟨b5,off5,c5,P,q,k5,hP,-⟩:=R5.out.pr.cells
   have HP:=ae hP
   obtain⟨r0,r1,r2,r3,r4,r5,r6,r7,r8,r9,tz5⟩:=k5
   clear hP
   go_upto_region 7 with(fail)
   clear r0 r1 r2 r3 r4 r5 r6 r7 r8 r9
   obtain⟨W6,hW6⟩:∃ W6,W5.alloc (.cells #[.string P,.int .i64 q] 221)=W6:=⟨_,rfl⟩
   have B6:Hid (Below W5.heap.size W5 W6):=by rw[←hW6];exact bR.alloc lr _
   have KP6:Hid (av W6 W5.heap.size [.string P,.int .i64 q]):=by rw[←hW6];exact av.new W5 [.string P,.int .i64 q] _
   have S6:=ae (S5.out.below B6.out)
   have R6:=ae (R5.out.below B6.out)
   have HS5:Hid (w.heap.size+2≤W5.heap.size):=by have:=S5.out.box.sz;have:=HW1.out;show _≤_;omega
   rw[hW6]
   clear hW6 S5 R5 B6
   have p0:=KP6.out.cell 0 _ rfl
   have p1:=KP6.out.cell 1 _ rfl
   have u0:=S6.out.box.cell 0 _ rfl
   have u4:=S6.out.box.cell 4 _ rfl
   have hC:=pF OP (mm+1) W6
   rw[HOP.out.close] at hC
   have hC:=Calls.int hC (args':=#[.string OP,.int .i64 ((mm:Int)+1)]) rfl
   have hFo:=wI OP (mm+1) P W6 R6.out.gl.gl
   have hFo:=Calls.int hFo (args':=#[.string OP,.int .i64 ((mm:Int)+1),.string P]) rfl
   obtain⟨bb,hbb⟩:∃ bb:Bool,decide (bl P=[41]∧mm≠0)=bb:=⟨_,rfl⟩
   obtain⟨fb,hfb⟩:∃ fb:Bool,aI (bl OP) (mm+1) (bl P)=fb:=⟨_,rfl⟩
   obtain⟨cb,hcb⟩:∃ cb:Bool,decide (mm≠0)=cb:=⟨_,rfl⟩
   rw[hfb] at hFo
   rw[hcb] at hC
   have HFB:=ae hfb
   have HBB:=ae hbb
   have HCB:=ae hcb
   clear hbb hfb hcb
   go_cut [43] (fun v wx=>v=.bool bb∧W6=wx)
   case first=>
    clear hFo
    by_cases hp:bl P=[41]
    ·have E1:P.toList=[41]:=by rw[ai];exact hp
     have E2:Hid (bb=cb):=by show _=_;rw[←HBB.out,←HCB.out];simp[hp]
     clear hp
     go_wp2_with fail
     refine hC.mono ?_;rintro e w' ⟨rfl,rfl⟩
     go_wp2_with fail
     go_meet
     exact⟨by rw[E2.out],rfl⟩
    ·have E1:(P.toList==([41]:LU))=false:=by rw[ai,bF];exact hp
     have E2:Hid (bb=false):=by show _=_;rw[←HBB.out];exact dF (fun h=>hp h.1)
     clear hp
     go_wp2_with fail
     go_meet
     exact⟨by rw[E2.out],rfl⟩
   case rest=>
   obtain⟨rfl,rfl⟩:=hcut
   clear hC
   cases bb with
   | true=>
    obtain⟨hp41,hm0⟩:=dO HBB.out
    have HM0:=tG.mk hm0
    have HL41:Hid (aV l1=[41]):=by show _=_;rw[←HP.out];exact hp41
    have EY:Hid (RR=some (.node (bl OP) (kE (ks++[T])),bd l1,n1)):=by
     show _=_
     rw[HE.out,sD,show kE [T]=[t] by simp[kE,HT.out]]
     exact Hr HTM.out HL41.out (fun e=>hm0 (by have h1:=S6.out.len;rw[List.length_append,List.length_singleton,qx.1 e] at h1;simp at h1;omega))
    clear hp41 hm0 hFo
    go_wp2_with fail
    refine(gB a hi n1 m1 l1 W6 R6.out.pr (by rw[HL41.out];simp)).mono ?_;rintro e w7 ⟨rfl,hp,hg,hm2⟩
    have S7:=ae (S6.out.step hg hp)
    have R7:=ae (R6.out.step hg hp)
    clear hp hg hm2 p0 p1 u0 u4
    have u0:=S7.out.box.cell 0 _ rfl
    have u1:=S7.out.box.cell 1 _ rfl
    have u2:=S7.out.box.cell 2 _ rfl
    have u3:=S7.out.box.cell 3 _ rfl
    have u4:=S7.out.box.cell 4 _ rfl
    have tc:=R7.out.two.c
    obtain⟨x0,x1,x2,x3,x4,y0,y1,y2,g0,g1,g2,g3,g4,k0,k1,k2⟩:=tc
    have hne1:¬ w.heap.size=W1.heap.size:=by have:=HW1.out;omega
    have hne2:¬ W1.heap.size=w.heap.size:=by have:=HW1.out;omega
    have hne3:¬ w.heap.size+1=W1.heap.size:=by have:=HW1.out;omega
    have hne4:¬ W1.heap.size=w.heap.size+1:=by have:=HW1.out;omega
    go_wp2_with fail
    refine bodyPost_ret (Cy _ R7.out.two.c rfl rfl _ _ _ _ _ _ _ _ ⟨rfl,rfl,rfl,rfl,rfl,rfl,rfl,rfl⟩) rfl ?_
    have ln:=S7.out.len
    have hrow:=S7.out.row
    rw[←ln] at hrow
    have hown:bE w7 (W1.heap.size+1) none (.mk OP ⟨#[]⟩ 0 ⟨#[]⟩ A3 c3 (ks++[T])):=.mk _ hrow (fun g _=>by simp) (fun k hk=>(S7.out.kids k hk).any)
    rw[←ln]
    refine bZ.yes (T:=.mk OP ⟨#[]⟩ 0 ⟨#[]⟩ A3 c3 (ks++[T])) ?_ (cg R7.out.gr lr _ _ _ _ _ _ _ _) (fC.of_group HOP.out (by rw[List.length_append,List.length_singleton] at ln;omega) HM0.out S7.out.good) ((sw hown (by have:=HW1.out;omega) _ _ _ _ _ _ _ _).base (by have:=HW1.out;omega)) ?_ ?_ HN64.out (qw R7.out.pr R7.out.lt _ _ _ _ _ _ _ _) (by have:=HM1.out;have:=HM.out;omega)
    ·rw[EY.out,wF _ _ _ _ _ _ _ (kr (HOP.out.word HM0.out)).1]
    ·rw[va]
     have:yA (ks++[T])≤32-deep:=LB (fun k hk=>by
      rcases List.mem_append.1 hk with hk | hk
      ·have:=HH.out k hk;omega
      ·obtain rfl:=List.mem_singleton.1 hk;have:=HHT.out;omega)
     show yA (ks++[T])+deep≤32
     omega
    ·rw[HN1.out,eW (by simp[ak.kids])];rfl
   | false=>
   have HB:Hid (¬ (aV l1=[41]∧kE ks≠[])):=by
    rintro⟨h1,h2⟩
    refine of_decide_eq_false HBB.out ⟨by rw[HP.out];exact h1,fun e=>h2 ?_⟩
    have:=S6.out.len
    rw[List.length_append,List.length_singleton] at this
    rw[qx];exact List.length_eq_zero_iff.1 (by omega)
   go_wp2_with fail
   refine hFo.mono ?_;rintro e w' ⟨rfl,rfl⟩
   clear hFo
   cases fb with
   | false=>
    have EN:Hid (RR=none):=by
     show _=_;rw[HE.out]
     refine Hs HTM.out HB.out ?_
     have:=S6.out.len
     rw[List.length_append,List.length_singleton] at this
     rw[sE,←HP.out,show ks.length+1=mm+1 by omega];exact HFB.out
    go_wp2_with fail
    refine(dJ P q 3 _).mono ?_;rintro e w7 ⟨rfl,hb⟩
    have R7:=ae (R6.out.below hb)
    have tc:=R7.out.two.c
    obtain⟨x0,x1,x2,x3,x4,y0,y1,y2,g0,g1,g2,g3,g4,k0,k1,k2⟩:=tc
    clear hb
    unfold ed
    go_wp2_with fail
    refine bodyPost_ret (Cy _ R7.out.two.c rfl rfl _ _ _ _ _ _ _ _ ⟨rfl,rfl,rfl,rfl,rfl,rfl,rfl,rfl⟩) rfl ?_
    exact bZ.no EN.out (cg R7.out.gr lr _ _ _ _ _ _ _ _) (by decide)
   | true=>
    have HL1N:Hid (aV l1≠[]):=by have:=Bf HFB.out;rwa [HP.out] at this
    have LN:Hid (ks.length=mm):=by have:=S6.out.len;rw[List.length_append,List.length_singleton] at this;show _=_;omega
    have F1:Hid (2*(bd l1).length+2≤f-1+1∧f=f-1+1):=by have h1:=HF.out;have h2:=HL1.out;have h3:=iY HL1N.out;constructor<;>omega
    have EN:Hid (RR=jR (f-1+1) (deep+1) n1 (kE (ks++[T])) (if mm=0 then bl P else bl OP) (bd l1)):=by
     show _=_
     rw[HE.out,EC HTM.out HB.out (by rw[sE,LN.out,←HP.out];exact HFB.out),←F1.out.2,sD,show kE [T]=[t] by simp[kE,HT.out],HP.out]
     congr 1
     by_cases h0:mm=0
     ·rw[if_pos h0,if_pos (by rw[qx];exact List.length_eq_zero_iff.1 (by rw[LN.out,h0]))]
     ·rw[if_neg h0,if_neg (by rw[qx];intro e;have:=LN.out;rw[e] at this;simp at this;omega)]
    have HOP2:=ae (HOP.out.next HFB.out)
    have HH2:Hid (∀ k∈ks++[T],k.ht+(deep+1)≤32):=by
     intro k hk
     rcases List.mem_append.1 hk with hk | hk
     ·exact HH.out k hk
     ·obtain rfl:=List.mem_singleton.1 hk;exact HHT.out
    have hmm3:mm+1≤64:=by have h1:=fX (ks++[T]);have h2:=HN1.out;have h3:=HN64.out;rw[List.length_append,List.length_singleton,LN.out] at h1;omega
    by_cases h0:mm=0
    ·have e0:bl OP=[]:=HOP.out.nil.2 h0
     have E1:OP.toList=[]:=by rw[ai];exact e0
     have E2:OP.toList.isEmpty=true:=by rw[E1];rfl
     rw[if_pos h0] at EN HOP2
     have z0:=S6.out.box.free 0 (by simp)
     have S7:=ae (S6.out.put P)
     have R7:=ae (R6.out.far (j:=0) HW1.out (.string P))
     clear e0 h0
     go_wp2_with fail
     refine(gB a hi n1 m1 l1 _ R7.out.pr HL1N.out).mono ?_;rintro e w7 ⟨rfl,hp,hg,hm2⟩
     have S8:=ae (S7.out.step hg hp)
     have R8:=ae (R7.out.step hg hp)
     have MD:Hid (m1-1<mc):=by have:=HM1.out;show _<_;omega
     clear hp hg hm2
     go_wp2_with fail
     go_roundw
     case rel=>exact⟨bd l1,n1,m1-1,mm+1,c3,f-1,P,ks++[T],A3,HN64.out,hmm3,S8,R8,HOP2,EN,F1.out.1,by have:=HF0.out;show _≤_;omega,HN1,HH2,by have:=MD.out;have:=HM.out;show _≤_;omega⟩
     case measure=>exact R8.out.pr.dec HR.out.pr MD.out
    ·have e0:bl OP≠[]:=fun e=>h0 (HOP.out.nil.1 e)
     have E1:(OP.toList==([]:LU))=false:=by rw[ai,bF];exact e0
     have E2:OP.toList.isEmpty=false:=by rw[ai,List.isEmpty_eq_false_iff];exact e0
     have E3:¬ OP.toList=[]:=by rw[ai];exact e0
     rw[if_neg h0] at EN HOP2
     clear e0 h0
     go_wp2_with fail
     refine(gB a hi n1 m1 l1 _ R6.out.pr HL1N.out).mono ?_;rintro e w7 ⟨rfl,hp,hg,hm2⟩
     have S8:=ae (S6.out.step hg hp)
     have R8:=ae (R6.out.step hg hp)
     have MD:Hid (m1-1<mc):=by have:=HM1.out;show _<_;omega
     clear hp hg hm2
     go_wp2_with fail
     go_roundw
     case rel=>exact⟨bd l1,n1,m1-1,mm+1,c3,f-1,OP,ks++[T],A3,HN64.out,hmm3,S8,R8,HOP2,EN,F1.out.1,by have:=HF0.out;show _≤_;omega,HN1,HH2,by have:=MD.out;have:=HM.out;show _≤_;omega⟩
     case measure=>exact R8.out.pr.dec HR.out.pr MD.out
end
end Go.Proofs.YtlglfpbhapmhiaaGreatDoor
