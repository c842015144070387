/- A part of the proof. -/
import Derived.Test.YtlglfpbhapmhiaaGreatDoorL19
import Derived.Test.YtlglfpbhapmhiaaGreatDoorL25
set_option maxRecDepth 100000
set_option maxHeartbeats 20000000
set_option linter.unusedVariables false
set_option linter.unusedSimpArgs false
namespace Go.Proofs.YtlglfpbhapmhiaaGreatDoor
variable{l r:LU}{a c deep f hi m n s:Nat}{A:OA}{W W' w w':World}
section
open Go.RowKit Go.Deep
def vx (a:Nat)(w:World):Nat:=match w.cell? ⟨a,0,none⟩ with | some (.slice _ m _)=>m | _=>0
theorem PR.rest (h:PR w a hi l n m):vx a w=m:=by
 obtain⟨b,off,c,T,p,k,_,_⟩:=h.cells;unfold vx;rw[k.c0]
theorem PR.dec {n' m':Nat}{l':LU}(h':PR w' a hi l' n' m')(h:PR w a hi l n m)(hk:m'<m):vx a w'<vx a w:=by rw[h'.rest,h.rest];exact hk
theorem qg (tmps:Array Value)(h:Fy W s)(h2:tmps[4]?=some (.pointer (some ⟨s,0,none⟩)))(h3:tmps[5]?=some (.pointer (some ⟨s+1,0,none⟩)))(v0 v1 v2 v3 v4 u0 u1 u2:Value)
  (hv:v0.oneCell'=true/\v1.oneCell'=true/\v2.oneCell'=true/\v3.oneCell'=true/\v4.oneCell'=true/\u0.oneCell'=true/\u1.oneCell'=true/\u2.oneCell'=true):
  (results Tryz.f176 tmps).run Tryz.prog (kY W s v0 v1 v2 v3 v4 u0 u1 u2)=.ok (.tuple #[.agg #[v0,v1,v2,v3,v4],.agg #[u0,u1,u2]]) (kY W s v0 v1 v2 v3 v4 u0 u1 u2):=by
 obtain⟨x0,x1,x2,x3,x4,y0,y1,y2,_,_,_,_,_,_,_,_⟩:=h;simp(maxDischargeDepth:=10) [results,Tryz.results176,h2,h3,go_sem,x0,x1,x2,x3,x4,y0,y1,y2]
theorem Hk (tmps:Array Value)(h:Fy W s)(h2:tmps[4]?=some (.pointer (some ⟨s,0,none⟩)))(h3:tmps[5]?=some (.pointer (some ⟨s+1,0,none⟩)))(v0 v1 v2 v3 v4 u0 u1 u2:Value)
  (hv:v0.oneCell'=true/\v1.oneCell'=true/\v2.oneCell'=true/\v3.oneCell'=true/\v4.oneCell'=true/\u0.oneCell'=true/\u1.oneCell'=true/\u2.oneCell'=true):
  (results Tryz.f212 tmps).run Tryz.prog (kY W s v0 v1 v2 v3 v4 u0 u1 u2)=.ok (.tuple #[.agg #[v0,v1,v2,v3,v4],.agg #[u0,u1,u2]]) (kY W s v0 v1 v2 v3 v4 u0 u1 u2):=by
 obtain⟨x0,x1,x2,x3,x4,y0,y1,y2,_,_,_,_,_,_,_,_⟩:=h;simp(maxDischargeDepth:=10) [results,Tryz.results212,h2,h3,go_sem,x0,x1,x2,x3,x4,y0,y1,y2]
theorem nO:mX.val=.agg #[.string ⟨#[]⟩,.string ⟨#[]⟩,.int .i64 0,.string ⟨#[]⟩,.slice none 0 0]:=rfl
theorem ME (tmps:Array Value)(h:Fy W s)(h2:tmps[4]?=some (.pointer (some ⟨s,0,none⟩)))(h3:tmps[5]?=some (.pointer (some ⟨s+1,0,none⟩)))(v0 v1 v2 v3 v4 u0 u1 u2:Value)
  (hv:v0.oneCell'=true/\v1.oneCell'=true/\v2.oneCell'=true/\v3.oneCell'=true/\v4.oneCell'=true/\u0.oneCell'=true/\u1.oneCell'=true/\u2.oneCell'=true):
  (results Tryz.f212 tmps).run Tryz.prog (kY W s v0 v1 v2 v3 v4 u0 u1 u2).drew=.ok (.tuple #[.agg #[v0,v1,v2,v3,v4],.agg #[u0,u1,u2]]) (kY W s v0 v1 v2 v3 v4 u0 u1 u2).drew:=by
 obtain⟨x0,x1,x2,x3,x4,y0,y1,y2,_,_,_,_,_,_,_,_⟩:=h;simp(maxDischargeDepth:=10) [results,Tryz.results212,h2,h3,go_sem,x0,x1,x2,x3,x4,y0,y1,y2]
theorem FC (h:w.grownBy W (some a)):w.grownBy W.drew (some a):=mT h ⟨rfl,rfl,rfl,lr,fun _ _=>rfl⟩
theorem qf.wide {row:Option Nat}(h:qf w W a hi l n m)(k:W.grownBy W' row)(hr:∀ j,row=some j->w.heap.size+2<=j):qf w W' a hi l n m:=by
 have h1:=h.lt;refine⟨⟨h.two.b0.grownBy k (fun e=>by have:=hr _ e.symm;omega),h.two.b1.grownBy k (fun e=>by have:=hr _ e.symm;omega)⟩,h.pr.grown k (fun j e=>by have:=hr j e;omega),iL h.gr k (fun j e=>by have:=hr j e;omega),?_,h1⟩;obtain⟨w0,g1,g2,g3⟩:=h.gl;have h2:=h.pr.lt;refine⟨w0,g1,?_,g3⟩;exact⟨k.os.trans g2.os,k.tape.trans g2.tape,k.output.trans g2.output,Nat.le_trans g2.size k.size,fun j hj=>(k.block j (by have:=g2.size;omega) (fun e=>by have:=hr j e.symm;omega)).trans (g2.block j hj)⟩
theorem gL.of_group {OP:BA}{ks:List an}{T:an}{mm:Nat}(hop:Hg mm (bl OP))(hl:ks.length=mm)(h0:mm≠0)(hk:∀ k∈ks++[T],gL k):gL (.mk OP ⟨#[]⟩ 0 ⟨#[]⟩ A c (ks++[T])):=by
 refine .node OP A c _ (hop.word h0) ?_ hk;rw[List.length_append,List.length_singleton,hl,hop.close];simpa using h0
theorem Calls.int {args:Array Value}{post:Ending->World->Prop}{args':Array Value}(h:Calls Tryz.prog f args w post)(e:args=args'):Calls Tryz.prog f args' w post:=e ▸ h
theorem FD {op p:LU}(h:aM op n p=true):p≠[]:=by
 unfold aM at h;split at h
 ·exact(mo h).1
 ·rcases dO h with⟨h1,h2⟩ | ⟨_,_,h2⟩
  ·rcases h1 with h1 | h1<;>rw[h2,h1]<;>simp[gt,oF]
  ·rw[h2];simp[rV]
def Ra (f:Nat):Prop:=∀ (a hi n m deep:Nat)(l:LU)(w:World),2*l.length+1<=f->qU a w->PR w a hi l n m->n<=64->deep<=32 ->
 Calls Tryz.prog 176 #[.pointer (some ⟨a,0,none⟩),.int .i64 deep] w (cG (iN f deep n l) a hi m deep n w)
def Rb (f:Nat):Prop:=∀ (a hi n m deep:Nat)(l:LU)(w:World),2*l.length+2<=f->qU a w->PR w a hi l n m->n<=64->deep<32 ->
 Calls Tryz.prog 212 #[.pointer (some ⟨a,0,none⟩),.int .i64 ((deep:Int)+1)] w (cG (lM f (deep+1) n [] [] l) a hi m deep n w)
theorem vy (a b:List an):mE (a++b)=mE a++mE b:=by rw[jH,jH,jH,List.map_append]
theorem tB {a:List an}:mE a=[]↔a=[]:=by rw[jH];simp
theorem vz (a:List an):(mE a).length=a.length:=by rw[jH];simp
theorem Rc {ks:List an}{d:Nat}(h:∀ k∈ks,k.ht+1<=d):Cc ks<=d:=by
 by_cases h0:ks=[]
 ·subst h0;simp[Cc]
 ·obtain⟨t,ht,he⟩:=zV h0;have:=h t ht;omega
theorem Re (F:Nat)(IH:∀ f,f<F->Ra f):Rb F:=by
 intro a hi n m deep l w hF hG h hn hd;obtain⟨i0,hi0,hz0,hz1,hz2⟩:=info_parts rc;obtain⟨f0,rfl⟩:∃ f0,F=f0+1:=⟨F-1,by omega⟩
 obtain⟨RR,hRR⟩:∃ RR,lM (f0+1) (deep+1) n [] [] l=RR:=⟨_,rfl⟩
 rw[hRR];have E0:Hid (RR=lM (f0+1) (deep+1) n (mE []) (bl ⟨#[]⟩) l):=hRR.symm;have F0:Hid (2*l.length+2<=f0+1):=hF;have HIH:=ae IH;obtain⟨W1,hW1⟩:∃ W1,(w.alloc (.cells #[.string ⟨#[]⟩,.string ⟨#[]⟩,.int .i64 0,.string ⟨#[]⟩,.slice none 0 0] 170)).alloc (.cells #[.string ⟨#[]⟩,.int .i64 0,.int .i64 0] 163)=W1:=⟨_,rfl⟩
 have S1:Hid (qf w W1 a hi l n m):=by rw[<-hW1];exact qf.start hG h _ _
 have hz:W1.heap.size=w.heap.size+2:=by rw[<-hW1];simp
 have HZ:=ae hz;clear hRR hF IH h hG hz;go_in;go_upto_region 1 with(fail)
 clear hW1;go_wp2;go_loopw [] (fun wr=>∃ (lc:LU) (nc mc mm cc f:Nat) (OP:BA) (ks:List an) (A:OA),nc<=64/\mm<=64/\Hid (AK W1 wr a hi lc nc mc OP ks A mm cc)/\Hid (qf w wr a hi lc nc mc)/\Hid (Hg mm (bl OP))/\Hid (RR=lM (f+1) (deep+1) nc (mE ks) (bl OP) lc)/\Hid (2*lc.length+2<=f+1)/\Hid (f<=f0)/\Hid (nc=n+cZ ks)/\Hid (∀ k∈ks,k.ht+(deep+1)<=32)/\Hid (mc<=m)) (fun wr=>vx a wr)
 case atStart=>exact⟨l,n,m,0,0,f0,⟨#[]⟩,[],none,hn,by omega,AK.start S1.out.pr _,S1.out.below (bR.alloc lr _),Hg.start,E0,F0,lr,by simp[Hid,cZ],by simp[Hid],lr⟩
 case round=>
  clear S1 E0 F0;obtain⟨lc,nc,mc,mm,cc,f,OP,ks,A,hnc,hmm,HS,HR,HOP,HE,HF,HF0,HN,HH,HM⟩:=hrel;have hDep:=Calls.int (HIH.out f (by have:=HF0.out;omega) a hi nc mc (deep+1) lc wr (by have:=HF.out;omega) HR.out.gl HR.out.pr hnc (by omega)) (args':=#[.pointer (some ⟨a,0,none⟩),.int .i64 ((deep:Int)+1)]) rfl;go_wp2_with fail;refine hDep.mono ?_;rintro e w2 ⟨hg,hpost⟩;clear hDep;cases hr:iN f (deep+1) nc lc with
  | none=>
   rw[hr] at hpost;obtain⟨ff,x,c,rfl,hc⟩:=hpost;have EN:Hid (RR=none):=HE.out.trans (JH hr);have T2:=ae (HR.out.two.step hg HR.out.alt);have G2:=ae (ak HR.out.gr hg);have hc1:(c != 0)=true:=by simp[hc]
   have HC:=wQ.mk hc;have hsz:w.heap.size+1<w2.heap.size:=T2.out.b1.sz;have HSZ:=ae hsz;clear hr hc hg;unfold fj;rw[nO];go_upto_region 3 with(fail)
   obtain⟨W3,hW3⟩:∃ W3,(w2.alloc (.cells #[.string ⟨#[]⟩,.string ⟨#[]⟩,.int .i64 0,.string ⟨#[]⟩,.slice none 0 0] 170)).alloc (.cells #[.string ff,.int .i64 x,.int .i64 c] 163)=W3:=⟨_,rfl⟩
   have B3:Hid (Below w2.heap.size w2 W3):=by rw[<-hW3];exact(bR.alloc lr _).alloc (by simp) _
   have K3:Hid (ax W3 (w2.heap.size+1) [.string ff,.int .i64 x,.int .i64 c]):=by
    have:=ax.new (w2.alloc (.cells #[.string ⟨#[]⟩,.string ⟨#[]⟩,.int .i64 0,.string ⟨#[]⟩,.slice none 0 0] 170)) [.string ff,.int .i64 x,.int .i64 c] 163;rw[<-hW3];show ax _ _ _;simpa using this
   have T3:=ae (T2.out.below B3.out);have G3:=ae (mT G2.out B3.out);rw[hW3];clear hW3 hsz T2 G2;have d0:=K3.out.cell 0 _ rfl;have d1:=K3.out.cell 1 _ rfl;have d2:=K3.out.cell 2 _ rfl;have tc:=T3.out.c;obtain⟨x0,x1,x2,x3,x4,y0,y1,y2,g0,g1,g2,g3,g4,k0,k1,k2⟩:=tc;have hne1:¬ w.heap.size=w2.heap.size+1:=by have:=HSZ.out;omega
   have hne2:¬ w2.heap.size+1=w.heap.size:=by have:=HSZ.out;omega
   have hne3:¬ w.heap.size=w2.heap.size:=by have:=HSZ.out;omega
   have hne4:¬ w2.heap.size=w.heap.size:=by have:=HSZ.out;omega
   go_wp2;go_region;go_wp2_with fail;refine bodyPost_ret (ME _ T3.out.c rfl rfl _ _ _ _ _ _ _ _ ⟨rfl,rfl,rfl,rfl,rfl,rfl,rfl,rfl⟩) rfl ?_;exact cG.no EN.out (FC (cH G3.out lr _ _ _ _ _ _ _ _)) HC.out
  | some r=>
   obtain⟨t,l1,n1⟩:=r;rw[hr] at hpost;obtain⟨T,m1,rfl,hT,hgd,hown,hht,hn1,hn64,hpr,hm1⟩:=hpost;have S2:=ae (HS.out.step hg hpr);have R2:=ae (HR.out.step hg hpr);have TB:=ae ((hown.old (bad':=(Value.slice A mm cc).ownBlock) (fun g e=>.inl (HS.out.row.lt g e).2)).base (lo':=W1.heap.size+1) (by have:=HS.out.box.sz;omega));have HT:=ae hT;have HTM:=ae hr;have HGD:=ae hgd;have HHT:=ae hht;have HN1:Hid (n1=n+cZ (ks++[T])):=by show _=_;rw[dX,hn1,HN.out];simp[cZ];omega
   have HM1:Hid (m1<mc):=hm1;have HL1:Hid (l1.length<lc.length):=(Hj f).1 _ _ _ _ _ _ hr;have HN64:=ae hn64;clear hr hg hT hgd hown hht hn1 hm1 hpr hn64 HS;unfold fj an.val;go_upto_region 3 with(fail)
   obtain⟨W3,hW3⟩:∃ W3,(w2.alloc (.cells T.cells.toArray 170)).alloc (.cells #[.string ⟨#[]⟩,.int .i64 0,.int .i64 0] 163)=W3:=⟨_,rfl⟩
   have B3:Hid (Below w2.heap.size w2 W3):=by rw[<-hW3];exact(bR.alloc lr _).alloc (by simp) _
   have KT3:Hid (ax W3 w2.heap.size T.cells):=by rw[<-hW3];exact(ax.new w2 T.cells _).alloc _
   have KF3:Hid (ax W3 (w2.heap.size+1) [.string ⟨#[]⟩,.int .i64 0,.int .i64 0]):=by
    have:=ax.new (w2.alloc (.cells T.cells.toArray 170)) [.string ⟨#[]⟩,.int .i64 0,.int .i64 0] 163;rw[<-hW3];show ax _ _ _;simpa using this
   have S3:=ae (S2.out.below B3.out);have R3:=ae (R2.out.below B3.out);have TB3:=ae ((TB.out.low B3.out).low ((Below.refl W3.heap.size W3).alloc lr (.cells T.cells.toArray 170)));have SA:=ae (S3.out.below ((Below.refl W3.heap.size W3).alloc lr (.cells T.cells.toArray 170)));have RA:=ae (R3.out.below ((Below.refl W3.heap.size W3).alloc lr (.cells T.cells.toArray 170)));have hW4:(w2.alloc (.cells #[.string T.op,.string T.nm,.int .i64 T.aop,.string T.ver,.slice T.ka T.kids.length T.kc] 170)).alloc (.cells #[.string ⟨#[]⟩,.int .i64 0,.int .i64 0] 163)=W3:=hW3;rw[hW4];clear hW3 hW4 S2 R2 TB;have k0:=KT3.out.cell 0 _ rfl;have k1:=KT3.out.cell 1 _ rfl;have k2:=KT3.out.cell 2 _ rfl;have k3:=KT3.out.cell 3 _ rfl;have k4:=KT3.out.cell 4 _ rfl;have q2:=KF3.out.cell 2 _ rfl;have x4:=S3.out.box.cell 4 _ rfl;have hmm2:mm<=4294967280:=by omega
   go_upto_region 6 with(at_builtin;refine au _ rfl _ _ _ rfl (W1.heap.size+1) 170 i0 _ 5 80 Tryz.underlying168 hi0 hz0 hz1 hz2 rfl (by omega) (.slice A mm cc) mm _ rfl (SA.out.row) (W3.heap.size+1) (some ⟨W3.heap.size,0,none⟩) 1 1 T.cells rfl (by have:=uP W3 170 (.string T.op) (.string T.nm) (.int .i64 T.aop) (.string T.ver) (.slice T.ka T.kids.length T.kc);simpa [an.cells] using this) (by simp[Value.oneCell',an.cells]) (by simp only[maxLen];omega) (by omega) (by simp;have:=S3.out.box.sz;omega) ?_;intro v1 w4 o1 g1 a1;obtain⟨A3,c3,rfl⟩:=aN o1;have bx:=ae (SA.out.box.grownBy g1 (fun e=>by have:=(SA.out.row.lt _ e.symm).1;omega));have y4:=bx.out.cell 4 _ rfl;have z4:=bx.out.free 4 (by simp);clear bx)
   clear k0 k1 k2 k3 k4 q2 x4 y4 z4;have hw1:w.heap.size+2<=W1.heap.size:=by have:=HZ.out;omega
   have S5:=ae (SA.out.grow TB3.out HGD.out o1 g1 a1);have R5:=ae ((RA.out.wide g1 (fun j e=>by have:=(SA.out.row.lt j e).1;omega)).far (j:=4) hw1 (.slice A3 (mm+1) c3));have HW1:=ae hw1;obtain⟨W5,hW5⟩:∃ W5,w4.setCell ⟨W1.heap.size,4,none⟩ (.slice A3 (mm+1) c3)=W5:=⟨_,rfl⟩
   rw[hW5] at S5 R5 |-;clear hW5 hw1 o1 g1 a1 SA RA TB3 S3 R3 KT3 KF3 B3;obtain⟨b5,off5,c5,P,q,k5,hP,-⟩:=R5.out.pr.cells;have HP:=ae hP;obtain⟨r0,r1,r2,r3,r4,r5,r6,r7,r8,r9,tz5⟩:=k5;clear hP;go_upto_region 7 with(fail)
   clear r0 r1 r2 r3 r4 r5 r6 r7 r8 r9;obtain⟨W6,hW6⟩:∃ W6,W5.alloc (.cells #[.string P,.int .i64 q] 221)=W6:=⟨_,rfl⟩
   have B6:Hid (Below W5.heap.size W5 W6):=by rw[<-hW6];exact bR.alloc lr _
   have KP6:Hid (ax W6 W5.heap.size [.string P,.int .i64 q]):=by rw[<-hW6];exact ax.new W5 [.string P,.int .i64 q] _
   have S6:=ae (S5.out.below B6.out);have R6:=ae (R5.out.below B6.out);have HS5:Hid (w.heap.size+2<=W5.heap.size):=by have:=S5.out.box.sz;have:=HW1.out;show _<=_;omega
   rw[hW6];clear hW6 S5 R5 B6;have p0:=KP6.out.cell 0 _ rfl;have p1:=KP6.out.cell 1 _ rfl;have u0:=S6.out.box.cell 0 _ rfl;have u4:=S6.out.box.cell 4 _ rfl;have hC:=rX OP (mm+1) W6;rw[HOP.out.close] at hC;have hC:=Calls.int hC (args':=#[.string OP,.int .i64 ((mm:Int)+1)]) rfl;have hFo:=Ab OP (mm+1) P W6 R6.out.gl.gl;have hFo:=Calls.int hFo (args':=#[.string OP,.int .i64 ((mm:Int)+1),.string P]) rfl;obtain⟨bb,hbb⟩:∃ bb:Bool,decide (bl P=[41]/\mm≠0)=bb:=⟨_,rfl⟩
   obtain⟨fb,hfb⟩:∃ fb:Bool,aM (bl OP) (mm+1) (bl P)=fb:=⟨_,rfl⟩
   obtain⟨cb,hcb⟩:∃ cb:Bool,decide (mm≠0)=cb:=⟨_,rfl⟩
   rw[hfb] at hFo;rw[hcb] at hC;have HFB:=ae hfb;have HBB:=ae hbb;have HCB:=ae hcb;clear hbb hfb hcb;go_cut [43] (fun v wx=>v=.bool bb/\W6=wx)
   case first=>
    clear hFo;by_cases hp:bl P=[41]
    ·have E1:P.toList=[41]:=by rw[aj];exact hp
     have E2:Hid (bb=cb):=by show _=_;rw[<-HBB.out,<-HCB.out];simp[hp]
     clear hp;go_wp2_with fail;refine hC.mono ?_;rintro e w' ⟨rfl,rfl⟩;go_wp2;go_meet;exact⟨by rw[E2.out],rfl⟩
    ·have E1:(P.toList==([41]:LU))=false:=by rw[aj,bF];exact hp
     have E2:Hid (bb=false):=by show _=_;rw[<-HBB.out];exact dF (fun h=>hp h.1)
     clear hp;go_wp2;go_meet;exact⟨by rw[E2.out],rfl⟩
   case rest=>
   obtain⟨rfl,rfl⟩:=hcut;clear hC;cases bb with
   | true=>
    obtain⟨hp41,hm0⟩:=dO HBB.out;have HM0:=wQ.mk hm0;have HL41:Hid (bd l1=[41]):=by show _=_;rw[<-HP.out];exact hp41
    have EY:Hid (RR=some (.node (bl OP) (mE (ks++[T])),bw l1,n1)):=by
     show _=_;rw[HE.out,vy,show mE [T]=[t] by simp[mE,HT.out]];exact Mx HTM.out HL41.out (fun e=>hm0 (by have h1:=S6.out.len;rw[List.length_append,List.length_singleton,tB.1 e] at h1;simp at h1;omega))
    clear hp41 hm0 hFo;go_wp2_with fail;refine(iO a hi n1 m1 l1 W6 R6.out.pr (by rw[HL41.out];simp)).mono ?_;rintro e w7 ⟨rfl,hp,hg,hm2⟩;have S7:=ae (S6.out.step hg hp);have R7:=ae (R6.out.step hg hp);clear hp hg hm2 p0 p1 u0 u4;have u0:=S7.out.box.cell 0 _ rfl;have u1:=S7.out.box.cell 1 _ rfl;have u2:=S7.out.box.cell 2 _ rfl;have u3:=S7.out.box.cell 3 _ rfl;have u4:=S7.out.box.cell 4 _ rfl;have tc:=R7.out.two.c;obtain⟨x0,x1,x2,x3,x4,y0,y1,y2,g0,g1,g2,g3,g4,k0,k1,k2⟩:=tc;have hne1:¬ w.heap.size=W1.heap.size:=by have:=HW1.out;omega
    have hne2:¬ W1.heap.size=w.heap.size:=by have:=HW1.out;omega
    have hne3:¬ w.heap.size+1=W1.heap.size:=by have:=HW1.out;omega
    have hne4:¬ W1.heap.size=w.heap.size+1:=by have:=HW1.out;omega
    go_wp2_with fail;refine bodyPost_ret (Hk _ R7.out.two.c rfl rfl _ _ _ _ _ _ _ _ ⟨rfl,rfl,rfl,rfl,rfl,rfl,rfl,rfl⟩) rfl ?_;have ln:=S7.out.len;have hrow:=S7.out.row;rw[<-ln] at hrow;have hown:bT w7 (W1.heap.size+1) none (.mk OP ⟨#[]⟩ 0 ⟨#[]⟩ A3 c3 (ks++[T])):=.mk _ hrow (fun g _=>by simp) (fun k hk=>(S7.out.kids k hk).any);rw[<-ln];refine cG.yes (T:=.mk OP ⟨#[]⟩ 0 ⟨#[]⟩ A3 c3 (ks++[T])) ?_ (cH R7.out.gr lr _ _ _ _ _ _ _ _) (gL.of_group HOP.out (by rw[List.length_append,List.length_singleton] at ln;omega) HM0.out S7.out.good) ((vu hown (by have:=HW1.out;omega) _ _ _ _ _ _ _ _).base (by have:=HW1.out;omega)) ?_ ?_ HN64.out (tA R7.out.pr R7.out.lt _ _ _ _ _ _ _ _) (by have:=HM1.out;have:=HM.out;omega)
    ·rw[EY.out,zY _ _ _ _ _ _ _ (mo (HOP.out.word HM0.out)).1]
    ·rw[yv];have:Cc (ks++[T])<=32-deep:=Rc (fun k hk=>by
      rcases List.mem_append.1 hk with hk | hk
      ·have:=HH.out k hk;omega
      ·obtain rfl:=List.mem_singleton.1 hk;have:=HHT.out;omega)
     show Cc (ks++[T])+deep<=32;omega
    ·rw[HN1.out,gu (by simp[an.kids])];rfl
   | false=>
   have HB:Hid (¬ (bd l1=[41]/\mE ks≠[])):=by
    rintro⟨h1,h2⟩;refine of_decide_eq_false HBB.out ⟨by rw[HP.out];exact h1,fun e=>h2 ?_⟩;have:=S6.out.len;rw[List.length_append,List.length_singleton] at this;rw[tB];exact List.length_eq_zero_iff.1 (by omega)
   go_wp2_with fail;refine hFo.mono ?_;rintro e w' ⟨rfl,rfl⟩;clear hFo;cases fb with
   | false=>
    have EN:Hid (RR=none):=by
     show _=_;rw[HE.out];refine My HTM.out HB.out ?_;have:=S6.out.len;rw[List.length_append,List.length_singleton] at this;rw[vz,<-HP.out,show ks.length+1=mm+1 by omega];exact HFB.out
    go_wp2_with fail;refine(eO P q 3 _).mono ?_;rintro e w7 ⟨rfl,hb⟩;have R7:=ae (R6.out.below hb);have tc:=R7.out.two.c;obtain⟨x0,x1,x2,x3,x4,y0,y1,y2,g0,g1,g2,g3,g4,k0,k1,k2⟩:=tc;clear hb;unfold fj;go_wp2_with fail;refine bodyPost_ret (Hk _ R7.out.two.c rfl rfl _ _ _ _ _ _ _ _ ⟨rfl,rfl,rfl,rfl,rfl,rfl,rfl,rfl⟩) rfl ?_;exact cG.no EN.out (cH R7.out.gr lr _ _ _ _ _ _ _ _) (by decide)
   | true=>
    have HL1N:Hid (bd l1≠[]):=by have:=FD HFB.out;rwa [HP.out] at this
    have LN:Hid (ks.length=mm):=by have:=S6.out.len;rw[List.length_append,List.length_singleton] at this;show _=_;omega
    have F1:Hid (2*(bw l1).length+2<=f-1+1/\f=f-1+1):=by have h1:=HF.out;have h2:=HL1.out;have h3:=kw HL1N.out;constructor<;>omega
    have EN:Hid (RR=lM (f-1+1) (deep+1) n1 (mE (ks++[T])) (if mm=0 then bl P else bl OP) (bw l1)):=by
     show _=_;rw[HE.out,JI HTM.out HB.out (by rw[vz,LN.out,<-HP.out];exact HFB.out),<-F1.out.2,vy,show mE [T]=[t] by simp[mE,HT.out],HP.out];congr 1;by_cases h0:mm=0
     ·rw[if_pos h0,if_pos (by rw[tB];exact List.length_eq_zero_iff.1 (by rw[LN.out,h0]))]
     ·rw[if_neg h0,if_neg (by rw[tB];intro e;have:=LN.out;rw[e] at this;simp at this;omega)]
    have HOP2:=ae (HOP.out.next HFB.out);have HH2:Hid (∀ k∈ks++[T],k.ht+(deep+1)<=32):=by
     intro k hk;rcases List.mem_append.1 hk with hk | hk
     ·exact HH.out k hk
     ·obtain rfl:=List.mem_singleton.1 hk;exact HHT.out
    have hmm3:mm+1<=64:=by have h1:=ij (ks++[T]);have h2:=HN1.out;have h3:=HN64.out;rw[List.length_append,List.length_singleton,LN.out] at h1;omega
    by_cases h0:mm=0
    ·have e0:bl OP=[]:=HOP.out.nil.2 h0;have E1:OP.toList=[]:=by rw[aj];exact e0
     have E2:OP.toList.isEmpty=true:=by rw[E1];rfl
     rw[if_pos h0] at EN HOP2;have z0:=S6.out.box.free 0 (by simp);have S7:=ae (S6.out.put P);have R7:=ae (R6.out.far (j:=0) HW1.out (.string P));clear e0 h0;go_wp2_with fail;refine(iO a hi n1 m1 l1 _ R7.out.pr HL1N.out).mono ?_;rintro e w7 ⟨rfl,hp,hg,hm2⟩;have S8:=ae (S7.out.step hg hp);have R8:=ae (R7.out.step hg hp);have MD:Hid (m1-1<mc):=by have:=HM1.out;show _<_;omega
     clear hp hg hm2;go_wp2;go_roundw
     case rel=>exact⟨bw l1,n1,m1-1,mm+1,c3,f-1,P,ks++[T],A3,HN64.out,hmm3,S8,R8,HOP2,EN,F1.out.1,by have:=HF0.out;show _<=_;omega,HN1,HH2,by have:=MD.out;have:=HM.out;show _<=_;omega⟩
     case measure=>exact R8.out.pr.dec HR.out.pr MD.out
    ·have e0:bl OP≠[]:=fun e=>h0 (HOP.out.nil.1 e);have E1:(OP.toList==([]:LU))=false:=by rw[aj,bF];exact e0
     have E2:OP.toList.isEmpty=false:=by rw[aj,List.isEmpty_eq_false_iff];exact e0
     have E3:¬ OP.toList=[]:=by rw[aj];exact e0
     rw[if_neg h0] at EN HOP2;clear e0 h0;go_wp2_with fail;refine(iO a hi n1 m1 l1 _ R6.out.pr HL1N.out).mono ?_;rintro e w7 ⟨rfl,hp,hg,hm2⟩;have S8:=ae (S6.out.step hg hp);have R8:=ae (R6.out.step hg hp);have MD:Hid (m1-1<mc):=by have:=HM1.out;show _<_;omega
     clear hp hg hm2;go_wp2;go_roundw
     case rel=>exact⟨bw l1,n1,m1-1,mm+1,c3,f-1,OP,ks++[T],A3,HN64.out,hmm3,S8,R8,HOP2,EN,F1.out.1,by have:=HF0.out;show _<=_;omega,HN1,HH2,by have:=MD.out;have:=HM.out;show _<=_;omega⟩
     case measure=>exact R8.out.pr.dec HR.out.pr MD.out
theorem Cs (h:bd l=[]\/bd l=[41]):iN (f+1) deep n l=none:=by unfold iN;rw[if_pos h]
theorem JM (h:bd l=[40]):iN (f+1) 32 n l=none:=by unfold iN;rw[if_neg (by rw[h];simp),if_pos h];rfl
theorem MF (h:bd l=[40])(hd:deep≠32):iN (f+1) deep n l=lM f (deep+1) n [] [] (bw l):=by rw[iN,if_neg (by rw[h];simp),if_pos h,if_neg hd]
theorem JN (h0:¬ (bd l=[]\/bd l=[41]))(h:bd l≠[40]):iN (f+1) deep n l=jE n l:=by rw[iN,if_neg h0,if_neg h]
theorem Hl {r:Option (qD×LU×Nat)}{m0:Nat}{e:Ending}(R:qf w W a hi l n m)(h:cG r a hi m deep n W e W')(hm:m<=m0)(hW:w.heap.size+2<=W.heap.size):
  ∃ (T:an) (f:BA) (x c:Int),e=.returned (.tuple #[T.val,fj f x c])/\yD W' w.heap.size /\
   cG r a hi m0 deep n w (.returned (.tuple #[T.val,fj f x c])) (kY W' w.heap.size (.string T.op) (.string T.nm) (.int .i64 T.aop) (.string T.ver) (.slice T.ka T.kids.length T.kc) (.string f) (.int .i64 x) (.int .i64 c)):=by
 obtain⟨h1,h2⟩:=h;have tw:=R.two.step h1 R.alt;have gr:=ak R.gr h1;cases r with
 | none=>
  obtain⟨f,x,c,h3,h4⟩:=h2;exact⟨mX,f,x,c,h3,tw,cG.no rfl (cH gr lr _ _ _ _ _ _ _ _) h4⟩
 | some y=>
  obtain⟨t,l',n'⟩:=y;obtain⟨T,m',a1,a2,a3,a4,a5,a6,a7,a8,a9⟩:=h2;exact⟨T,⟨#[]⟩,0,0,a1,tw,cG.yes (by rw[a2]) (cH gr lr _ _ _ _ _ _ _ _) a3 ((vu a4 (by omega) _ _ _ _ _ _ _ _).base (by omega)) a5 a6 a7 (tA a8 R.lt _ _ _ _ _ _ _ _) (by omega)⟩
theorem Rf (F:Nat)(IH:∀ f,f<F->Rb f):Ra F:=by
 intro a hi n m deep l w hF hG h hn hd;obtain⟨f0,rfl⟩:∃ f0,F=f0+1:=⟨F-1,by omega⟩
 have HF:=ae hF;have HIH:=ae IH;obtain⟨W0,hW0⟩:∃ W0,(w.alloc (.cells #[.string ⟨#[]⟩,.string ⟨#[]⟩,.int .i64 0,.string ⟨#[]⟩,.slice none 0 0] 170)).alloc (.cells #[.string ⟨#[]⟩,.int .i64 0,.int .i64 0] 163)=W0:=⟨_,rfl⟩
 have S0:Hid (qf w W0 a hi l n m):=by rw[<-hW0];exact qf.start hG h _ _
 have z0:W0.heap.size=w.heap.size+2:=by rw[<-hW0];simp
 obtain⟨b,off,c,T,p,k,hT,h2⟩:=S0.out.pr.cells;have HT:=ae hT;obtain⟨c0,c1,f0',f1,t0,t1,ne,m1,mc,cz,tz⟩:=k;clear h h2 hT;obtain⟨W1,hW1⟩:∃ W1,W0.alloc (.cells #[.string T,.int .i64 p] 221)=W1:=⟨_,rfl⟩
 have B1:Hid (Below W0.heap.size W0 W1):=by rw[<-hW1];exact bR.alloc lr _
 have S1:Hid (qf w W1 a hi l n m):=S0.out.below B1.out;have K1:Hid (ax W1 W0.heap.size [.string T,.int .i64 p]):=by rw[<-hW1];exact ax.new W0 [.string T,.int .i64 p] _
 have HZ0:=ae z0;have HZ1:Hid (w.heap.size+2<=W1.heap.size):=by have:=B1.out.size;show _<=_;omega
 clear S0 hG z0 hF IH B1;go_in;go_upto_region 2 with(fail)
 clear hW0 hW1 c0 c1 f0' f1 t0 t1 ne m1 mc cz;have t0:=K1.out.cell 0 _ rfl;have t1:=K1.out.cell 1 _ rfl;by_cases h1:bl T=[]
 ·have E1:T.toList=[]:=by rw[aj];exact h1
  have E2:T.toList.isEmpty=true:=by rw[E1];rfl
  have EN:Hid (iN (f0+1) deep n l=none):=Cs (.inl (by rw[<-HT.out];exact h1));clear h1;go_wp2_with fail;refine(eO T p 3 _).mono ?_;rintro e w2 ⟨rfl,hb⟩;have S2:=ae (S1.out.below hb);have tc:=S2.out.two.c;obtain⟨x0,x1,x2,x3,x4,y0,y1,y2,g0,g1,g2,g3,g4,k0,k1,k2⟩:=tc;clear hb;unfold fj;go_wp2_with fail;refine bodyPost_ret (qg _ S2.out.two.c rfl rfl _ _ _ _ _ _ _ _ ⟨rfl,rfl,rfl,rfl,rfl,rfl,rfl,rfl⟩) rfl ?_;exact cG.no EN.out (cH S2.out.gr lr _ _ _ _ _ _ _ _) (by decide)
 have F1:(T.toList==([]:LU))=false:=by rw[aj,bF];exact h1
 have F2:T.toList.isEmpty=false:=by rw[aj,List.isEmpty_eq_false_iff];exact h1
 have F3:¬ T.toList=[]:=by rw[aj];exact h1
 by_cases h2:bl T=[41]
 ·have E1:T.toList=[41]:=by rw[aj];exact h2
  have EN:Hid (iN (f0+1) deep n l=none):=Cs (.inr (by rw[<-HT.out];exact h2));clear h1 h2 F1 F2 F3;go_wp2_with fail;refine(eO T p 3 _).mono ?_;rintro e w2 ⟨rfl,hb⟩;have S2:=ae (S1.out.below hb);have tc:=S2.out.two.c;obtain⟨x0,x1,x2,x3,x4,y0,y1,y2,g0,g1,g2,g3,g4,k0,k1,k2⟩:=tc;clear hb;unfold fj;go_wp2_with fail;refine bodyPost_ret (qg _ S2.out.two.c rfl rfl _ _ _ _ _ _ _ _ ⟨rfl,rfl,rfl,rfl,rfl,rfl,rfl,rfl⟩) rfl ?_;exact cG.no EN.out (cH S2.out.gr lr _ _ _ _ _ _ _ _) (by decide)
 by_cases h3:bl T=[40]
 ·have E1:T.toList=[40]:=by rw[aj];exact h3
  have HL:Hid (bd l=[40]):=by show _=_;rw[<-HT.out];exact h3
  clear h1 h2 h3 F1 F2 F3;by_cases h32:deep=32
  ·have EN:Hid (iN (f0+1) deep n l=none):=by show _=_;rw[h32];exact JM HL.out
   have q32:((deep:Int)==32)=true:=by simp[h32]
   clear h32;go_wp2_with fail;refine(eO T p 4 _).mono ?_;rintro e w2 ⟨rfl,hb⟩;have S2:=ae (S1.out.below hb);have tc:=S2.out.two.c;obtain⟨x0,x1,x2,x3,x4,y0,y1,y2,g0,g1,g2,g3,g4,k0,k1,k2⟩:=tc;clear hb;unfold fj;go_wp2_with fail;refine bodyPost_ret (qg _ S2.out.two.c rfl rfl _ _ _ _ _ _ _ _ ⟨rfl,rfl,rfl,rfl,rfl,rfl,rfl,rfl⟩) rfl ?_;exact cG.no EN.out (cH S2.out.gr lr _ _ _ _ _ _ _ _) (by decide)
  ·have EG:=ae (MF (f:=f0) (n:=n) HL.out h32);have q32:((deep:Int)==32)=false:=by simp;omega
   have HD:Hid (deep<32):=by show _<_;omega
   clear h32;go_wp2_with fail;refine(iO a hi n m l W1 S1.out.pr (by rw[HL.out];simp)).mono ?_;rintro e w2 ⟨rfl,hp,hg,hm2⟩;have S2:=ae (S1.out.step hg hp);have HZ2:Hid (w.heap.size+2<=w2.heap.size):=by have:=hg.size;have:=HZ1.out;show _<=_;omega
   have hG:=HIH.out f0 (by omega) a hi n (m-1) deep (bw l) w2 (by have:=HF.out;have:=kw (l:=l) (by rw[HL.out];simp);omega) S2.out.gl S2.out.pr hn HD.out;clear hp hg hm2 t0 t1;go_wp2_with fail;refine hG.mono ?_;rintro e w3 hpost;obtain⟨T',f,x,c',rfl,tw,hfin⟩:=Hl S2.out hpost (m0:=m) (by omega) HZ2.out;have HFIN:=ae hfin;have HTW:=ae tw;have tc:=tw.c;obtain⟨x0,x1,x2,x3,x4,y0,y1,y2,g0,g1,g2,g3,g4,k0,k1,k2⟩:=tc;clear hpost hfin hG tw;unfold fj an.val;go_wp2_with fail;refine bodyPost_ret (qg _ HTW.out.c rfl rfl _ _ _ _ _ _ _ _ ⟨rfl,rfl,rfl,rfl,rfl,rfl,rfl,rfl⟩) rfl ?_;rw[EG.out];exact HFIN.out
 ·have F4:(T.toList==([41]:LU))=false:=by rw[aj,bF];exact h2
  have F5:(T.toList==([40]:LU))=false:=by rw[aj,bF];exact h3
  have EA:Hid (iN (f0+1) deep n l=jE n l):=by
   show _=_;rw[HT.out] at h1 h2 h3;exact JN (by rintro(h | h)<;>contradiction) h3
  clear h1 h2 h3;have hA:=JK a hi n m deep l W1 S1.out.gl S1.out.pr hn hd;go_wp2_with fail;refine hA.mono ?_;rintro e w3 hpost;obtain⟨T',f,x,c',rfl,tw,hfin⟩:=Hl S1.out hpost lr HZ1.out;have HFIN:=ae hfin;have HTW:=ae tw;have tc:=tw.c;obtain⟨x0,x1,x2,x3,x4,y0,y1,y2,g0,g1,g2,g3,g4,k0,k1,k2⟩:=tc;clear hpost hfin hA tw t0 t1;unfold fj an.val;go_wp2_with fail;refine bodyPost_ret (qg _ HTW.out.c rfl rfl _ _ _ _ _ _ _ _ ⟨rfl,rfl,rfl,rfl,rfl,rfl,rfl,rfl⟩) rfl ?_;rw[EA.out];exact HFIN.out
theorem Ct (F:Nat):Ra F/\Rb F:=by
 induction F using Nat.strongRecOn with
 | _ F ih=>exact⟨Rf F fun f hf=>(ih f hf).2,Re F fun f hf=>(ih f hf).1⟩
theorem yD.off (h:yD W s)(hg:W.grownBy W' (some a))(hs:s+1<a):yD W' s:=
 ⟨h.b0.grownBy hg (by simp;omega),h.b1.grownBy hg (by simp;omega)⟩
theorem pb (h:Below w.heap.size w W)(hs:w.heap.size<=s)(v0 v1 v2 v3 v4 u0 u1 u2:Value):Below w.heap.size w (kY W s v0 v1 v2 v3 v4 u0 u1 u2):=by
 unfold kY
 repeat' refine ai ?_ (by omega) _
 exact h
theorem bS {B:Nat}(h:Below B w W):Below B w W.drew:=⟨h.os,h.tape,h.output,h.size,h.block⟩
def fJ (s:BA)(w:World)(e:Ending)(w':World):Prop:=
 ∃ (T:an) (f:BA) (x c:Int),e=.returned (.tuple #[T.val,fj f x c])/\Below w.heap.size w w'/\match gF (bl s) with
  | none=>c≠0/\T=mX
  | some t=>c=0/\T.pl=t/\gL T/\bT w' w.heap.size none T/\T.ht<=32/\T.cnt<=64
theorem fJ.no {s:BA}{f:BA}{x c:Int}(hr:gF (bl s)=none)(hb:Below w.heap.size w w')(hc:c≠0):fJ s w (.returned (.tuple #[mX.val,fj f x c])) w':=⟨mX,f,x,c,rfl,hb,by rw[hr];exact⟨hc,rfl⟩⟩
theorem fJ.yes {s:BA}{T:an}(hr:gF (bl s)=some T.pl)(hb:Below w.heap.size w w')(h1:gL T)(h2:bT w' w.heap.size none T)(h3:T.ht<=32)(h4:T.cnt<=64):fJ s w (.returned (.tuple #[T.val,fj ⟨#[]⟩ 0 0])) w':=⟨T,⟨#[]⟩,0,0,rfl,hb,by rw[hr];exact⟨rfl,rfl,h1,h2,h3,h4⟩⟩
theorem Cu (h:iN (2*l.length+2) 0 0 l=none):gF l=none:=by unfold gF;rw[h]
theorem Cv {d:qD}(h:iN (2*l.length+2) 0 0 l=some (d,r,n))(hr:bd r≠[]):gF l=none:=by unfold gF;rw[h];simp only;rw[if_neg hr]
theorem Cw {d:qD}(h:iN (2*l.length+2) 0 0 l=some (d,r,n))(hr:bd r=[]):gF l=some d:=by unfold gF;rw[h];simp only;rw[if_pos hr]
theorem JO (tmps:Array Value)(h:Fy W s)(h2:tmps[2]?=some (.pointer (some ⟨s,0,none⟩)))(h3:tmps[3]?=some (.pointer (some ⟨s+1,0,none⟩)))(v0 v1 v2 v3 v4 u0 u1 u2:Value)
  (hv:v0.oneCell'=true/\v1.oneCell'=true/\v2.oneCell'=true/\v3.oneCell'=true/\v4.oneCell'=true/\u0.oneCell'=true/\u1.oneCell'=true/\u2.oneCell'=true):
  (results Tryz.f125 tmps).run Tryz.prog (kY W s v0 v1 v2 v3 v4 u0 u1 u2)=.ok (.tuple #[.agg #[v0,v1,v2,v3,v4],.agg #[u0,u1,u2]]) (kY W s v0 v1 v2 v3 v4 u0 u1 u2):=by
 obtain⟨x0,x1,x2,x3,x4,y0,y1,y2,_,_,_,_,_,_,_,_⟩:=h;simp(maxDischargeDepth:=10) [results,Tryz.results125,h2,h3,go_sem,x0,x1,x2,x3,x4,y0,y1,y2]
theorem vA (tmps:Array Value)(h:Fy W s)(h2:tmps[2]?=some (.pointer (some ⟨s,0,none⟩)))(h3:tmps[3]?=some (.pointer (some ⟨s+1,0,none⟩)))(v0 v1 v2 v3 v4 u0 u1 u2:Value)
  (hv:v0.oneCell'=true/\v1.oneCell'=true/\v2.oneCell'=true/\v3.oneCell'=true/\v4.oneCell'=true/\u0.oneCell'=true/\u1.oneCell'=true/\u2.oneCell'=true):
  (results Tryz.f125 tmps).run Tryz.prog (kY W s v0 v1 v2 v3 v4 u0 u1 u2).drew=.ok (.tuple #[.agg #[v0,v1,v2,v3,v4],.agg #[u0,u1,u2]]) (kY W s v0 v1 v2 v3 v4 u0 u1 u2).drew:=by
 obtain⟨x0,x1,x2,x3,x4,y0,y1,y2,_,_,_,_,_,_,_,_⟩:=h;simp(maxDischargeDepth:=10) [results,Tryz.results125,h2,h3,go_sem,x0,x1,x2,x3,x4,y0,y1,y2]
theorem PR.start {w1:World}{s:BA}{xs:List yx}(h:yy W w1 xs A n c)(hx:xs.map (fun x=>bl x.text)=eW (s.size+1) (bl s))(hz:∀ x∈xs,x.text.size<=s.size)(hs:s.size<=4294967280)(t:TypeId):PR (w1.alloc (.cells #[.slice A n c,.int .i64 0] t)) w1.heap.size (w1.heap.size+1) (bl s) 0 n:=by
 have hn:0<n:=by
  rw[<-h.len,<-List.length_map (f:=fun x:yx=>bl x.text),hx];obtain⟨r,e,_⟩:=oY s.size (bl s);rw[e];simp
 rcases h.row.2 with⟨_,h0⟩ | ⟨g,cap,cur,hv,h1,h2,h3,h4,h5,h6⟩
 ·omega
 ·injection hv with hA _ hc;subst hc;have hg:g<w1.heap.size:=by rw[Array.getElem?_eq_some_iff] at h2;exact h2.1
  refine⟨⟨g,0,c,s.size,xs,?_,?_,h.len,hx,by rw[ah];exact Nat.le_refl _,by omega,by omega,h3,h4,fun x hx=>Nat.le_trans (hz x hx) hs⟩,by omega,by simp⟩
  ·rw[<-hA];exact ax.new w1 [.slice A n c,.int .i64 0] t
  ·rw[<-hA];exact(bD h.row).below (bR.alloc lr _)
theorem FG (s:BA)(w:World)(hG:Gl w)(hs:s.size<=1000000):Calls Tryz.prog 125 #[.string s] w (fJ s w):=by
 have HG:=ae hG;obtain⟨W0,hW0⟩:∃ W0,(w.alloc (.cells #[.string ⟨#[]⟩,.string ⟨#[]⟩,.int .i64 0,.string ⟨#[]⟩,.slice none 0 0] 170)).alloc (.cells #[.string ⟨#[]⟩,.int .i64 0,.int .i64 0] 163)=W0:=⟨_,rfl⟩
 have T0:Hid (yD W0 w.heap.size):=by rw[<-hW0];exact yD.new w _ _
 have B0:Hid (Below w.heap.size w W0):=by rw[<-hW0];exact(bR.alloc lr _).alloc (by simp) _
 have Z0:Hid (W0.heap.size=w.heap.size+2):=by rw[<-hW0];show _=_;simp
 clear hG;go_in;go_wp2_with fail;clear hW0;refine(Fo s W0 (by omega)).mono ?_;rintro e w1 ⟨A,n,c,xs,rfl,hrow,hnn,hxs,hxz⟩;obtain⟨W2,hW2⟩:∃ W2,w1.alloc (.cells #[.slice A n c,.int .i64 0] 218)=W2:=⟨_,rfl⟩
 have P2:Hid (PR W2 w1.heap.size (w1.heap.size+1) (bl s) 0 n):=by rw[<-hW2];exact PR.start hrow hxs hxz (by omega) _
 have B2:Hid (Below w.heap.size w W2):=by rw[<-hW2];exact(aq B0.out hrow.bel).alloc (by have:=hrow.bel.size;have:=Z0.out;omega) _
 have T2:Hid (yD W2 w.heap.size):=by rw[<-hW2];exact(T0.out.below hrow.bel).below (bR.alloc lr _)
 have Z2:Hid (w.heap.size+2<=w1.heap.size):=by have:=hrow.bel.size;have:=Z0.out;show _<=_;omega
 have G2:Hid (qU w1.heap.size W2):=⟨w,HG.out,B2.out,by have:=Z2.out;omega⟩
 clear hrow hnn hxs hxz B0 T0;go_upto_region 2 with(fail)
 clear hW2;have hD:=(Ct (2*(bl s).length+2)).1 w1.heap.size (w1.heap.size+1) 0 n 0 (bl s) W2 (by omega) G2.out P2.out (by omega) (by omega);have hD:=Calls.int hD (args':=#[.pointer (some ⟨w1.heap.size,0,none⟩),.int .i64 0]) rfl;go_wp2_with fail;refine hD.mono ?_;rintro e w3 ⟨hg,hpost⟩;clear hD;have T3:=ae (T2.out.off hg (by have:=Z2.out;omega));have B3:=ae (dU B2.out hg (by have:=Z2.out;omega));have Z3:Hid (w.heap.size+2<=w3.heap.size):=by have:=T3.out.b1.sz;have:=hg.size;have:=P2.out.hz;have:=Z2.out;show _<=_;omega
 cases hr:iN (2*(bl s).length+2) 0 0 (bl s) with
 | none=>
  rw[hr] at hpost;obtain⟨ff,x,c,rfl,hc⟩:=hpost;have EN:=ae (Cu hr);have hc1:(c != 0)=true:=by simp[hc]
  have hc2:(c==0)=false:=by simp[hc]
  have HC:=wQ.mk hc;clear hr hc hg;unfold fj;rw[nO];go_upto_region 3 with(fail)
  obtain⟨W4,hW4⟩:∃ W4,(w3.alloc (.cells #[.string ⟨#[]⟩,.string ⟨#[]⟩,.int .i64 0,.string ⟨#[]⟩,.slice none 0 0] 170)).alloc (.cells #[.string ff,.int .i64 x,.int .i64 c] 163)=W4:=⟨_,rfl⟩
  have B4:Hid (Below w3.heap.size w3 W4):=by rw[<-hW4];exact(bR.alloc lr _).alloc (by simp) _
  have K4:Hid (ax W4 (w3.heap.size+1) [.string ff,.int .i64 x,.int .i64 c]):=by
   have:=ax.new (w3.alloc (.cells #[.string ⟨#[]⟩,.string ⟨#[]⟩,.int .i64 0,.string ⟨#[]⟩,.slice none 0 0] 170)) [.string ff,.int .i64 x,.int .i64 c] 163;rw[<-hW4];show ax _ _ _;simpa using this
  have T4:=ae (T3.out.below B4.out);have B5:=ae (aq B3.out B4.out);rw[hW4];clear hW4 T3 B3 B4;have d0:=K4.out.cell 0 _ rfl;have d1:=K4.out.cell 1 _ rfl;have d2:=K4.out.cell 2 _ rfl;have tc:=T4.out.c;obtain⟨x0,x1,x2,x3,x4,y0,y1,y2,g0,g1,g2,g3,g4,k0,k1,k2⟩:=tc;have hne1:¬ w.heap.size=w3.heap.size+1:=by have:=Z3.out;omega
  have hne2:¬ w3.heap.size+1=w.heap.size:=by have:=Z3.out;omega
  have hne3:¬ w.heap.size=w3.heap.size:=by have:=Z3.out;omega
  have hne4:¬ w3.heap.size=w.heap.size:=by have:=Z3.out;omega
  go_wp2;go_region;go_wp2_with fail;refine bodyPost_ret (vA _ T4.out.c rfl rfl _ _ _ _ _ _ _ _ ⟨rfl,rfl,rfl,rfl,rfl,rfl,rfl,rfl⟩) rfl ?_;exact fJ.no EN.out (bS (pb B5.out lr _ _ _ _ _ _ _ _)) HC.out
 | some r=>
  obtain⟨t,l1,n1⟩:=r;rw[hr] at hpost;obtain⟨T,m1,rfl,hT,hgd,hown,hht,hn1,hn64,hpr,hm1⟩:=hpost;have HT:=ae hT;have HR:=ae hr;have HGD:=ae hgd;have HHT:Hid (T.ht<=32):=by show _<=_;omega
  have HCN:Hid (T.cnt<=64):=by show _<=_;omega
  obtain⟨W4,hW4⟩:∃ W4,(w3.alloc (.cells T.cells.toArray 170)).alloc (.cells #[.string ⟨#[]⟩,.int .i64 0,.int .i64 0] 163)=W4:=⟨_,rfl⟩
  have B4:Hid (Below w3.heap.size w3 W4):=by rw[<-hW4];exact(bR.alloc lr _).alloc (by simp) _
  have D4:Hid (ax W4 w3.heap.size T.cells):=by rw[<-hW4];exact(ax.new w3 T.cells _).alloc _
  have K4:Hid (ax W4 (w3.heap.size+1) [.string ⟨#[]⟩,.int .i64 0,.int .i64 0]):=by
   have:=ax.new (w3.alloc (.cells T.cells.toArray 170)) [.string ⟨#[]⟩,.int .i64 0,.int .i64 0] 163;rw[<-hW4];show ax _ _ _;simpa using this
  have T4:=ae (T3.out.below B4.out);have B5:=ae (aq B3.out B4.out);have P4:=ae (hpr.below B4.out);have O4:=ae ((hown.low B4.out).base (lo':=w.heap.size+2) (by have:=P2.out.sz;have:=Z2.out;omega));clear hr hT hgd hown hht hn1 hn64 hpr hm1 hg;unfold fj an.val;go_upto_region 3 with(fail)
  have hW5:(w3.alloc (.cells #[.string T.op,.string T.nm,.int .i64 T.aop,.string T.ver,.slice T.ka T.kids.length T.kc] 170)).alloc (.cells #[.string ⟨#[]⟩,.int .i64 0,.int .i64 0] 163)=W4:=hW4;rw[hW5];clear hW4 hW5 T3 B3 B4;have e0:=K4.out.cell 0 _ rfl;have e1:=K4.out.cell 1 _ rfl;have e2:=K4.out.cell 2 _ rfl;have tc:=T4.out.c;obtain⟨x0,x1,x2,x3,x4,y0,y1,y2,g0,g1,g2,g3,g4,k0,k1,k2⟩:=tc;obtain⟨b5,off5,c5,P,q,k5,hP,-⟩:=P4.out.cells;have HP:=ae hP;obtain⟨r0,r1,r2,r3,r4,r5,r6,r7,r8,r9,tz5⟩:=k5;clear hP;by_cases hp:bl P=[]
  ·have E1:P.toList=[]:=by rw[aj];exact hp
   have E2:P.toList.isEmpty=true:=by rw[E1];rfl
   have EY:Hid (gF (bl s)=some T.pl):=by show _=_;rw[HT.out];exact Cw HR.out (by rw[<-HP.out];exact hp)
   have d0:=D4.out.cell 0 _ rfl;have d1:=D4.out.cell 1 _ rfl;have d2:=D4.out.cell 2 _ rfl;have d3:=D4.out.cell 3 _ rfl;have d4:=D4.out.cell 4 _ rfl;clear hp;go_wp2_with fail;refine bodyPost_ret (JO _ T4.out.c rfl rfl _ _ _ _ _ _ _ _ ⟨rfl,rfl,rfl,rfl,rfl,rfl,rfl,rfl⟩) rfl ?_;exact fJ.yes EY.out (pb B5.out lr _ _ _ _ _ _ _ _) HGD.out ((vu O4.out (by omega) _ _ _ _ _ _ _ _).base (by omega)) HHT.out HCN.out
  ·have E1:(P.toList==([]:LU))=false:=by rw[aj,bF];exact hp
   have E2:P.toList.isEmpty=false:=by rw[aj,List.isEmpty_eq_false_iff];exact hp
   have E3:¬ P.toList=[]:=by rw[aj];exact hp
   have EN:Hid (gF (bl s)=none):=Cv HR.out (by rw[<-HP.out];exact hp);clear hp;go_wp2_with fail;refine(eO P q 3 _).mono ?_;rintro e w5 ⟨rfl,hb⟩;have B6:=ae (aq B5.out hb);have T6:=ae (T4.out.below hb);have K6:=ae (K4.out.below hb);clear hb e0 e1 e2 x0 x1 x2 x3 x4 y0 y1 y2 g0 g1 g2 g3 g4 k0 k1 k2 r0 r1 r2 r3 r4 r5 r6 r7 r8 r9;have e0:=K6.out.cell 0 _ rfl;have e1:=K6.out.cell 1 _ rfl;have e2:=K6.out.cell 2 _ rfl;have h0:=K6.out.free 0 (by simp);have h1:=K6.out.free 1 (by simp);have h2:=K6.out.free 2 (by simp);unfold fj;go_upto_region 5 with(fail)
   clear e0 e1 e2 h0 h1 h2;obtain⟨W7,hW7⟩:∃ W7,((w5.setCell ⟨w3.heap.size+1,0,none⟩ (.string ⟨#[]⟩)).setCell ⟨w3.heap.size+1,1,none⟩ (.int .i64 q)).setCell ⟨w3.heap.size+1,2,none⟩ (.int .i64 3)=W7:=⟨_,rfl⟩
   have K7:Hid (ax W7 (w3.heap.size+1) [.string ⟨#[]⟩,.int .i64 q,.int .i64 3]):=by rw[<-hW7];exact((K6.out.set 0 (by simp) (.string ⟨#[]⟩)).set 1 (by simp) (.int .i64 q)).set 2 (by simp) (.int .i64 3)
   have ha:w.heap.size+1<w3.heap.size+1:=by have:=Z3.out;omega
   have T7:Hid (yD W7 w.heap.size):=by rw[<-hW7];exact((T6.out.off (aW _) ha).off (aW _) ha).off (aW _) ha
   have B7:Hid (Below w.heap.size w W7):=by rw[<-hW7];exact ai (ai (ai B6.out (by omega) _) (by omega) _) (by omega) _
   rw[hW7];clear hW7 T6 B6 K6 ha;have e0:=K7.out.cell 0 _ rfl;have e1:=K7.out.cell 1 _ rfl;have e2:=K7.out.cell 2 _ rfl;have tc:=T7.out.c;obtain⟨x0,x1,x2,x3,x4,y0,y1,y2,g0,g1,g2,g3,g4,k0,k1,k2⟩:=tc;have hne1:¬ w.heap.size=w3.heap.size+1:=by have:=Z3.out;omega
   have hne2:¬ w3.heap.size+1=w.heap.size:=by have:=Z3.out;omega
   have hne3:¬ w.heap.size=w3.heap.size:=by have:=Z3.out;omega
   have hne4:¬ w3.heap.size=w.heap.size:=by have:=Z3.out;omega
   go_wp2;go_region;go_wp2_with fail;refine bodyPost_ret (vA _ T7.out.c rfl rfl _ _ _ _ _ _ _ _ ⟨rfl,rfl,rfl,rfl,rfl,rfl,rfl,rfl⟩) rfl ?_;exact fJ.no EN.out (bS (pb B7.out lr _ _ _ _ _ _ _ _)) (by decide)
end
end Go.Proofs.YtlglfpbhapmhiaaGreatDoor
