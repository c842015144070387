/- A part of the proof that ModelPackages holds. No condition. -/
import Derived.Test.YtdfdllbebfoggaaGreatDoorC37
import Derived.Test.YtdfdllbebfoggaaGreatDoorC40
set_option maxRecDepth 100000
set_option maxHeartbeats 20000000
set_option linter.unusedVariables false
set_option linter.unusedSimpArgs false
namespace Go.Proofs.YtdfdllbebfoggaaGreatDoor
section
open Go.RowKit Go.Deep
def restOf (a:Nat)(w:World):Nat:=match w.cell? ⟨a,0,none⟩ with | some (.slice _ m _)=>m | _=>0
theorem PR.rest {w:World}{a hi n m:Nat}{l:List UInt8}(h:PR w a hi l n m):restOf a w=m:=by
 obtain⟨b,off,c,T,p,k,_,_⟩:=h.cells
 unfold restOf;rw[k.c0]
theorem PR.dec {w w':World}{a hi n m n' m':Nat}{l l':List UInt8}(h':PR w' a hi l' n' m')(h:PR w a hi l n m)(hk:m'<m):restOf a w'<restOf a w:=by rw[h'.rest,h.rest];exact hk
theorem dep_res (tmps:Array Value){W:World}{s:Nat}(h:TwoC W s)(h2:tmps[4]?=some (.pointer (some ⟨s,0,none⟩)))(h3:tmps[5]?=some (.pointer (some ⟨s+1,0,none⟩)))(v0 v1 v2 v3 v4 u0 u1 u2:Value)
  (hv:v0.oneCell'=true∧v1.oneCell'=true∧v2.oneCell'=true∧v3.oneCell'=true∧v4.oneCell'=true∧u0.oneCell'=true∧u1.oneCell'=true∧u2.oneCell'=true):
  (results Tryz.f128 tmps).run Tryz.prog (put8 W s v0 v1 v2 v3 v4 u0 u1 u2)=.ok (.tuple #[.agg #[v0,v1,v2,v3,v4],.agg #[u0,u1,u2]]) (put8 W s v0 v1 v2 v3 v4 u0 u1 u2):=by
 obtain⟨x0,x1,x2,x3,x4,y0,y1,y2,_,_,_,_,_,_,_,_⟩:=h
 simp(maxDischargeDepth:=10) [results,Tryz.results128,h2,h3,go_sem,x0,x1,x2,x3,x4,y0,y1,y2]
theorem grp_res (tmps:Array Value){W:World}{s:Nat}(h:TwoC W s)(h2:tmps[4]?=some (.pointer (some ⟨s,0,none⟩)))(h3:tmps[5]?=some (.pointer (some ⟨s+1,0,none⟩)))(v0 v1 v2 v3 v4 u0 u1 u2:Value)
  (hv:v0.oneCell'=true∧v1.oneCell'=true∧v2.oneCell'=true∧v3.oneCell'=true∧v4.oneCell'=true∧u0.oneCell'=true∧u1.oneCell'=true∧u2.oneCell'=true):
  (results Tryz.f182 tmps).run Tryz.prog (put8 W s v0 v1 v2 v3 v4 u0 u1 u2)=.ok (.tuple #[.agg #[v0,v1,v2,v3,v4],.agg #[u0,u1,u2]]) (put8 W s v0 v1 v2 v3 v4 u0 u1 u2):=by
 obtain⟨x0,x1,x2,x3,x4,y0,y1,y2,_,_,_,_,_,_,_,_⟩:=h
 simp(maxDischargeDepth:=10) [results,Tryz.results182,h2,h3,go_sem,x0,x1,x2,x3,x4,y0,y1,y2]
theorem zeroR_val:zeroR.val=.agg #[.string ⟨#[]⟩,.string ⟨#[]⟩,.int .i64 0,.string ⟨#[]⟩,.slice none 0 0]:=rfl
theorem grp_resD (tmps:Array Value){W:World}{s:Nat}(h:TwoC W s)(h2:tmps[4]?=some (.pointer (some ⟨s,0,none⟩)))(h3:tmps[5]?=some (.pointer (some ⟨s+1,0,none⟩)))(v0 v1 v2 v3 v4 u0 u1 u2:Value)
  (hv:v0.oneCell'=true∧v1.oneCell'=true∧v2.oneCell'=true∧v3.oneCell'=true∧v4.oneCell'=true∧u0.oneCell'=true∧u1.oneCell'=true∧u2.oneCell'=true):
  (results Tryz.f182 tmps).run Tryz.prog (put8 W s v0 v1 v2 v3 v4 u0 u1 u2).drew=.ok (.tuple #[.agg #[v0,v1,v2,v3,v4],.agg #[u0,u1,u2]]) (put8 W s v0 v1 v2 v3 v4 u0 u1 u2).drew:=by
 obtain⟨x0,x1,x2,x3,x4,y0,y1,y2,_,_,_,_,_,_,_,_⟩:=h
 simp(maxDischargeDepth:=10) [results,Tryz.results182,h2,h3,go_sem,x0,x1,x2,x3,x4,y0,y1,y2]
theorem grown_drew {w W:World}{a:Nat}(h:w.grownBy W (some a)):w.grownBy W.drew (some a):=grown_below h ⟨rfl,rfl,rfl,lr,fun _ _=>rfl⟩
theorem RdS.wide {w W W':World}{a hi n m:Nat}{l:List UInt8}{row:Option Nat}(h:RdS w W a hi l n m)(k:W.grownBy W' row)(hr:∀ j,row=some j→w.heap.size+2≤j):RdS w W' a hi l n m:=by
 have h1:=h.lt
 refine⟨⟨h.two.b0.grownBy k (fun e=>by have:=hr _ e.symm;omega),h.two.b1.grownBy k (fun e=>by have:=hr _ e.symm;omega)⟩,h.pr.grown k (fun j e=>by have:=hr j e;omega),grown_new h.gr k (fun j e=>by have:=hr j e;omega),?_,h1⟩
 obtain⟨w0,g1,g2,g3⟩:=h.gl
 have h2:=h.pr.lt
 refine⟨w0,g1,?_,g3⟩
 exact⟨k.os.trans g2.os,k.tape.trans g2.tape,k.output.trans g2.output,Nat.le_trans g2.size k.size,fun j hj=>(k.block j (by have:=g2.size;omega) (fun e=>by have:=hr j e.symm;omega)).trans (g2.block j hj)⟩
theorem TGood.of_group {OP:ByteArray}{ks:List RchM}{T:RchM}{A:Option Addr}{c mm:Nat}(hop:GOp mm (bl OP))(hl:ks.length=mm)(h0:mm≠0)(hk:∀ k∈ks++[T],TGood k):TGood (.mk OP ⟨#[]⟩ 0 ⟨#[]⟩ A c (ks++[T])):=by
 refine .node OP A c _ (hop.word h0) ?_ hk
 rw[List.length_append,List.length_singleton,hl,hop.close];simpa using h0
theorem Calls.int {f:Nat}{args:Array Value}{w:World}{post:Ending→World→Prop}{args':Array Value}(h:Calls Tryz.prog f args w post)(e:args=args'):Calls Tryz.prog f args' w post:=e ▸ h
theorem follows_ne {op p:List UInt8}{n:Nat}(h:rFollows op n p=true):p≠[]:=by
 unfold rFollows at h
 split at h
 ·exact(word_ne h).1
 ·rcases of_decide_eq_true h with⟨h1,h2⟩ | ⟨_,_,h2⟩
  ·rcases h1 with h1 | h1<;>rw[h2,h1]<;>simp[wAnd,wOr]
  ·rw[h2];simp[wElse]
def DepC (f:Nat):Prop:=∀ (a hi n m deep:Nat)(l:List UInt8)(w:World),2*l.length+1≤f→GlA a w→PR w a hi l n m→n≤64→deep≤32 →
 Calls Tryz.prog 128 #[.pointer (some ⟨a,0,none⟩),.int .i64 deep] w (DepPost (rDep f deep n l) a hi m deep n w)
def GrpC (f:Nat):Prop:=∀ (a hi n m deep:Nat)(l:List UInt8)(w:World),2*l.length+2≤f→GlA a w→PR w a hi l n m→n≤64→deep<32 →
 Calls Tryz.prog 182 #[.pointer (some ⟨a,0,none⟩),.int .i64 ((deep:Int)+1)] w (DepPost (rGrp f (deep+1) n [] [] l) a hi m deep n w)
theorem plL_append (a b:List RchM):plL (a++b)=plL a++plL b:=by rw[plL_map,plL_map,plL_map,List.map_append]
theorem plL_nil {a:List RchM}:plL a=[]↔a=[]:=by rw[plL_map];simp
theorem plL_length (a:List RchM):(plL a).length=a.length:=by rw[plL_map];simp
theorem htL_le {ks:List RchM}{d:Nat}(h:∀ k∈ks,k.ht+1≤d):htL ks≤d:=by
 by_cases h0:ks=[]
 ·subst h0;simp[htL]
 ·obtain⟨t,ht,he⟩:=htL_top h0;have:=h t ht;omega
theorem grp_of (F:Nat)(IH:∀ f,f<F→DepC f):GrpC F:=by
 intro a hi n m deep l w hF hG h hn hd
 obtain⟨i0,hi0,hz0,hz1,hz2⟩:=info_parts info_rich
 obtain⟨f0,rfl⟩:∃ f0,F=f0+1:=⟨F-1,by omega⟩
 obtain⟨RR,hRR⟩:∃ RR,rGrp (f0+1) (deep+1) n [] [] l=RR:=⟨_,rfl⟩
 rw[hRR]
 have E0:Hid (RR=rGrp (f0+1) (deep+1) n (plL []) (bl ⟨#[]⟩) l):=hRR.symm
 have F0:Hid (2*l.length+2≤f0+1):=hF
 have HIH:=hid IH
 obtain⟨W1,hW1⟩:∃ W1,(w.alloc (.cells #[.string ⟨#[]⟩,.string ⟨#[]⟩,.int .i64 0,.string ⟨#[]⟩,.slice none 0 0] 121)).alloc (.cells #[.string ⟨#[]⟩,.int .i64 0,.int .i64 0] 114)=W1:=⟨_,rfl⟩
 have S1:Hid (RdS w W1 a hi l n m):=by rw[←hW1];exact RdS.start hG h _ _
 have hz:W1.heap.size=w.heap.size+2:=by rw[←hW1];simp
 have HZ:=hid hz
 clear hRR hF IH h hG hz
 go_enter Tryz.func182,Tryz.ntmps182
 go_upto_region 1 with(fail)
 clear hW1
 go_wp2_with fail
 go_loopw [] (fun wr=>∃ (lc:List UInt8) (nc mc mm cc f:Nat) (OP:ByteArray) (ks:List RchM) (A:Option Addr),nc≤64∧mm≤64∧Hid (GrS W1 wr a hi lc nc mc OP ks A mm cc)∧Hid (RdS w wr a hi lc nc mc)∧Hid (GOp mm (bl OP))∧Hid (RR=rGrp (f+1) (deep+1) nc (plL ks) (bl OP) lc)∧Hid (2*lc.length+2≤f+1)∧Hid (f≤f0)∧Hid (nc=n+cntL ks)∧Hid (∀ k∈ks,k.ht+(deep+1)≤32)∧Hid (mc≤m)) (fun wr=>restOf a wr)
 case atStart=>exact⟨l,n,m,0,0,f0,⟨#[]⟩,[],none,hn,by omega,GrS.start S1.out.pr _,S1.out.below ((Below.refl _ _).alloc lr _),GOp.start,E0,F0,lr,by simp[Hid,cntL],by simp[Hid],lr⟩
 case round=>
  clear S1 E0 F0
  obtain⟨lc,nc,mc,mm,cc,f,OP,ks,A,hnc,hmm,HS,HR,HOP,HE,HF,HF0,HN,HH,HM⟩:=hrel
  have hDep:=Calls.int (HIH.out f (by have:=HF0.out;omega) a hi nc mc (deep+1) lc wr (by have:=HF.out;omega) HR.out.gl HR.out.pr hnc (by omega)) (args':=#[.pointer (some ⟨a,0,none⟩),.int .i64 ((deep:Int)+1)]) rfl
  go_wp2_with fail
  refine hDep.mono ?_;rintro e w2 ⟨hg,hpost⟩
  clear hDep
  cases hr:rDep f (deep+1) nc lc with
  | none=>
   rw[hr] at hpost
   obtain⟨ff,x,c,rfl,hc⟩:=hpost
   have EN:Hid (RR=none):=HE.out.trans (rGrp_none hr)
   have T2:=hid (HR.out.two.step hg HR.out.alt)
   have G2:=hid (grown_thru HR.out.gr hg)
   have hc1:(c != 0)=true:=by simp[hc]
   have HC:=HidN.mk hc
   have hsz:w.heap.size+1<w2.heap.size:=T2.out.b1.sz
   have HSZ:=hid hsz
   clear hr hc hg
   unfold fltV
   rw[zeroR_val]
   go_upto_region 3 with(fail)
   obtain⟨W3,hW3⟩:∃ W3,(w2.alloc (.cells #[.string ⟨#[]⟩,.string ⟨#[]⟩,.int .i64 0,.string ⟨#[]⟩,.slice none 0 0] 121)).alloc (.cells #[.string ff,.int .i64 x,.int .i64 c] 114)=W3:=⟨_,rfl⟩
   have B3:Hid (Below w2.heap.size w2 W3):=by rw[←hW3];exact((Below.refl _ _).alloc lr _).alloc (by simp) _
   have K3:Hid (Blk W3 (w2.heap.size+1) [.string ff,.int .i64 x,.int .i64 c]):=by
    have:=Blk.new (w2.alloc (.cells #[.string ⟨#[]⟩,.string ⟨#[]⟩,.int .i64 0,.string ⟨#[]⟩,.slice none 0 0] 121)) [.string ff,.int .i64 x,.int .i64 c] 114
    rw[←hW3];show Blk _ _ _;simpa using this
   have T3:=hid (T2.out.below B3.out)
   have G3:=hid (grown_below G2.out B3.out)
   rw[hW3]
   clear hW3 hsz T2 G2
   have d0:=K3.out.cell 0 _ rfl
   have d1:=K3.out.cell 1 _ rfl
   have d2:=K3.out.cell 2 _ rfl
   have tc:=T3.out.c
   obtain⟨x0,x1,x2,x3,x4,y0,y1,y2,g0,g1,g2,g3,g4,k0,k1,k2⟩:=tc
   have hne1:¬ w.heap.size=w2.heap.size+1:=by have:=HSZ.out;omega
   have hne2:¬ w2.heap.size+1=w.heap.size:=by have:=HSZ.out;omega
   have hne3:¬ w.heap.size=w2.heap.size:=by have:=HSZ.out;omega
   have hne4:¬ w2.heap.size=w.heap.size:=by have:=HSZ.out;omega
   go_wp2_with fail
   go_region
   go_wp2_with fail
   refine bodyPost_ret (grp_resD _ T3.out.c rfl rfl _ _ _ _ _ _ _ _ ⟨rfl,rfl,rfl,rfl,rfl,rfl,rfl,rfl⟩) rfl ?_
   exact DepPost.no EN.out (grown_drew (put8_grown G3.out lr _ _ _ _ _ _ _ _)) HC.out
  | some r=>
   obtain⟨t,l1,n1⟩:=r
   rw[hr] at hpost
   obtain⟨T,m1,rfl,hT,hgd,hown,hht,hn1,hn64,hpr,hm1⟩:=hpost
   have S2:=hid (HS.out.step hg hpr)
   have R2:=hid (HR.out.step hg hpr)
   have TB:=hid ((hown.old (bad':=(Value.slice A mm cc).ownBlock) (fun g e=>.inl (HS.out.row.lt g e).2)).base (lo':=W1.heap.size+1) (by have:=HS.out.box.sz;omega))
   have HT:=hid hT
   have HTM:=hid hr
   have HGD:=hid hgd
   have HHT:=hid hht
   have HN1:Hid (n1=n+cntL (ks++[T])):=by show _=_;rw[cntL_append,hn1,HN.out];simp[cntL];omega
   have HM1:Hid (m1<mc):=hm1
   have HL1:Hid (l1.length<lc.length):=(rDep_lt f).1 _ _ _ _ _ _ hr
   have HN64:=hid hn64
   clear hr hg hT hgd hown hht hn1 hm1 hpr hn64 HS
   unfold fltV RchM.val
   go_upto_region 3 with(fail)
   obtain⟨W3,hW3⟩:∃ W3,(w2.alloc (.cells T.cells.toArray 121)).alloc (.cells #[.string ⟨#[]⟩,.int .i64 0,.int .i64 0] 114)=W3:=⟨_,rfl⟩
   have B3:Hid (Below w2.heap.size w2 W3):=by rw[←hW3];exact((Below.refl _ _).alloc lr _).alloc (by simp) _
   have KT3:Hid (Blk W3 w2.heap.size T.cells):=by rw[←hW3];exact(Blk.new w2 T.cells _).alloc _
   have KF3:Hid (Blk W3 (w2.heap.size+1) [.string ⟨#[]⟩,.int .i64 0,.int .i64 0]):=by
    have:=Blk.new (w2.alloc (.cells T.cells.toArray 121)) [.string ⟨#[]⟩,.int .i64 0,.int .i64 0] 114
    rw[←hW3];show Blk _ _ _;simpa using this
   have S3:=hid (S2.out.below B3.out)
   have R3:=hid (R2.out.below B3.out)
   have TB3:=hid ((TB.out.low B3.out).low ((Below.refl W3.heap.size W3).alloc lr (.cells T.cells.toArray 121)))
   have SA:=hid (S3.out.below ((Below.refl W3.heap.size W3).alloc lr (.cells T.cells.toArray 121)))
   have RA:=hid (R3.out.below ((Below.refl W3.heap.size W3).alloc lr (.cells T.cells.toArray 121)))
   have hW4:(w2.alloc (.cells #[.string T.op,.string T.nm,.int .i64 T.aop,.string T.ver,.slice T.ka T.kids.length T.kc] 121)).alloc (.cells #[.string ⟨#[]⟩,.int .i64 0,.int .i64 0] 114)=W3:=hW3
   rw[hW4]
   clear hW3 hW4 S2 R2 TB
   have k0:=KT3.out.cell 0 _ rfl
   have k1:=KT3.out.cell 1 _ rfl
   have k2:=KT3.out.cell 2 _ rfl
   have k3:=KT3.out.cell 3 _ rfl
   have k4:=KT3.out.cell 4 _ rfl
   have q2:=KF3.out.cell 2 _ rfl
   have x4:=S3.out.box.cell 4 _ rfl
   have hmm2:mm≤4294967280:=by omega
   go_upto_region 6 with(at_builtin;refine wpList_append_any _ rfl _ _ _ rfl (W1.heap.size+1) 121 i0 _ 5 80 Tryz.underlying119 hi0 hz0 hz1 hz2 rfl (by omega) (.slice A mm cc) mm _ rfl (SA.out.row) (W3.heap.size+1) (some ⟨W3.heap.size,0,none⟩) 1 1 T.cells rfl (by have:=reads_five W3 121 (.string T.op) (.string T.nm) (.int .i64 T.aop) (.string T.ver) (.slice T.ka T.kids.length T.kc);simpa [RchM.cells] using this) (by simp[Value.oneCell',RchM.cells]) (by simp only[maxLen];omega) (by omega) (by simp;have:=S3.out.box.sz;omega) ?_;intro v1 w4 o1 g1 a1;obtain⟨A3,c3,rfl⟩:=owns_form o1;have bx:=hid (SA.out.box.grownBy g1 (fun e=>by have:=(SA.out.row.lt _ e.symm).1;omega));have y4:=bx.out.cell 4 _ rfl;have z4:=bx.out.free 4 (by simp);clear bx)
   clear k0 k1 k2 k3 k4 q2 x4 y4 z4
   have hw1:w.heap.size+2≤W1.heap.size:=by have:=HZ.out;omega
   have S5:=hid (SA.out.grow TB3.out HGD.out o1 g1 a1)
   have R5:=hid ((RA.out.wide g1 (fun j e=>by have:=(SA.out.row.lt j e).1;omega)).far (j:=4) hw1 (.slice A3 (mm+1) c3))
   have HW1:=hid hw1
   obtain⟨W5,hW5⟩:∃ W5,w4.setCell ⟨W1.heap.size,4,none⟩ (.slice A3 (mm+1) c3)=W5:=⟨_,rfl⟩
   rw[hW5] at S5 R5 ⊢
   clear hW5 hw1 o1 g1 a1 SA RA TB3 S3 R3 KT3 KF3 B3
   obtain⟨b5,off5,c5,P,q,k5,hP,-⟩:=R5.out.pr.cells
   have HP:=hid hP
   obtain⟨r0,r1,r2,r3,r4,r5,r6,r7,r8,r9,tz5⟩:=k5
   clear hP
   go_upto_region 7 with(fail)
   clear r0 r1 r2 r3 r4 r5 r6 r7 r8 r9
   obtain⟨W6,hW6⟩:∃ W6,W5.alloc (.cells #[.string P,.int .i64 q] 167)=W6:=⟨_,rfl⟩
   have B6:Hid (Below W5.heap.size W5 W6):=by rw[←hW6];exact(Below.refl _ _).alloc lr _
   have KP6:Hid (Blk W6 W5.heap.size [.string P,.int .i64 q]):=by rw[←hW6];exact Blk.new W5 [.string P,.int .i64 q] _
   have S6:=hid (S5.out.below B6.out)
   have R6:=hid (R5.out.below B6.out)
   have HS5:Hid (w.heap.size+2≤W5.heap.size):=by have:=S5.out.box.sz;have:=HW1.out;show _≤_;omega
   rw[hW6]
   clear hW6 S5 R5 B6
   have p0:=KP6.out.cell 0 _ rfl
   have p1:=KP6.out.cell 1 _ rfl
   have u0:=S6.out.box.cell 0 _ rfl
   have u4:=S6.out.box.cell 4 _ rfl
   have hC:=rdep_closes OP (mm+1) W6
   rw[HOP.out.close] at hC
   have hC:=Calls.int hC (args':=#[.string OP,.int .i64 ((mm:Int)+1)]) rfl
   have hFo:=rdep_follows OP (mm+1) P W6 R6.out.gl.gl
   have hFo:=Calls.int hFo (args':=#[.string OP,.int .i64 ((mm:Int)+1),.string P]) rfl
   obtain⟨bb,hbb⟩:∃ bb:Bool,decide (bl P=[41]∧mm≠0)=bb:=⟨_,rfl⟩
   obtain⟨fb,hfb⟩:∃ fb:Bool,rFollows (bl OP) (mm+1) (bl P)=fb:=⟨_,rfl⟩
   obtain⟨cb,hcb⟩:∃ cb:Bool,decide (mm≠0)=cb:=⟨_,rfl⟩
   rw[hfb] at hFo
   rw[hcb] at hC
   have HFB:=hid hfb
   have HBB:=hid hbb
   have HCB:=hid hcb
   clear hbb hfb hcb
   go_cut [43] (fun v wx=>v=.bool bb∧W6=wx)
   case first=>
    clear hFo
    by_cases hp:bl P=[41]
    ·have E1:P.toList=[41]:=by rw[bl_toList];exact hp
     have E2:Hid (bb=cb):=by show _=_;rw[←HBB.out,←HCB.out];simp[hp]
     clear hp
     go_wp2_with fail
     refine hC.mono ?_;rintro e w' ⟨rfl,rfl⟩
     go_wp2_with fail
     go_meet
     exact⟨by rw[E2.out],rfl⟩
    ·have E1:(P.toList==([41]:List UInt8))=false:=by rw[bl_toList,beq_eq_false_iff_ne];exact hp
     have E2:Hid (bb=false):=by show _=_;rw[←HBB.out];exact decide_eq_false (fun h=>hp h.1)
     clear hp
     go_wp2_with fail
     go_meet
     exact⟨by rw[E2.out],rfl⟩
   case rest=>
   obtain⟨rfl,rfl⟩:=hcut
   clear hC
   cases bb with
   | true=>
    obtain⟨hp41,hm0⟩:=of_decide_eq_true HBB.out
    have HM0:=HidN.mk hm0
    have HL41:Hid (rLook l1=[41]):=by show _=_;rw[←HP.out];exact hp41
    have EY:Hid (RR=some (.node (bl OP) (plL (ks++[T])),rNext l1,n1)):=by
     show _=_
     rw[HE.out,plL_append,show plL [T]=[t] by simp[plL,HT.out]]
     exact rGrp_end HTM.out HL41.out (fun e=>hm0 (by have h1:=S6.out.len;rw[List.length_append,List.length_singleton,plL_nil.1 e] at h1;simp at h1;omega))
    clear hp41 hm0 hFo
    go_wp2_with fail
    refine(rdep_next a hi n1 m1 l1 W6 R6.out.pr (by rw[HL41.out];simp)).mono ?_;rintro e w7 ⟨rfl,hp,hg,hm2⟩
    have S7:=hid (S6.out.step hg hp)
    have R7:=hid (R6.out.step hg hp)
    clear hp hg hm2 p0 p1 u0 u4
    have u0:=S7.out.box.cell 0 _ rfl
    have u1:=S7.out.box.cell 1 _ rfl
    have u2:=S7.out.box.cell 2 _ rfl
    have u3:=S7.out.box.cell 3 _ rfl
    have u4:=S7.out.box.cell 4 _ rfl
    have tc:=R7.out.two.c
    obtain⟨x0,x1,x2,x3,x4,y0,y1,y2,g0,g1,g2,g3,g4,k0,k1,k2⟩:=tc
    have hne1:¬ w.heap.size=W1.heap.size:=by have:=HW1.out;omega
    have hne2:¬ W1.heap.size=w.heap.size:=by have:=HW1.out;omega
    have hne3:¬ w.heap.size+1=W1.heap.size:=by have:=HW1.out;omega
    have hne4:¬ W1.heap.size=w.heap.size+1:=by have:=HW1.out;omega
    go_wp2_with fail
    refine bodyPost_ret (grp_res _ R7.out.two.c rfl rfl _ _ _ _ _ _ _ _ ⟨rfl,rfl,rfl,rfl,rfl,rfl,rfl,rfl⟩) rfl ?_
    have ln:=S7.out.len
    have hrow:=S7.out.row
    rw[←ln] at hrow
    have hown:TOwn w7 (W1.heap.size+1) none (.mk OP ⟨#[]⟩ 0 ⟨#[]⟩ A3 c3 (ks++[T])):=.mk _ hrow (fun g _=>by simp) (fun k hk=>(S7.out.kids k hk).any)
    rw[←ln]
    refine DepPost.yes (T:=.mk OP ⟨#[]⟩ 0 ⟨#[]⟩ A3 c3 (ks++[T])) ?_ (put8_grown R7.out.gr lr _ _ _ _ _ _ _ _) (TGood.of_group HOP.out (by rw[List.length_append,List.length_singleton] at ln;omega) HM0.out S7.out.good) ((put8_own hown (by have:=HW1.out;omega) _ _ _ _ _ _ _ _).base (by have:=HW1.out;omega)) ?_ ?_ HN64.out (put8_pr R7.out.pr R7.out.lt _ _ _ _ _ _ _ _) (by have:=HM1.out;have:=HM.out;omega)
    ·rw[EY.out,pl_node _ _ _ _ _ _ _ (word_ne (HOP.out.word HM0.out)).1]
    ·rw[ht_eq]
     have:htL (ks++[T])≤32-deep:=htL_le (fun k hk=>by
      rcases List.mem_append.1 hk with hk | hk
      ·have:=HH.out k hk;omega
      ·obtain rfl:=List.mem_singleton.1 hk;have:=HHT.out;omega)
     show htL (ks++[T])+deep≤32
     omega
    ·rw[HN1.out,cnt_node (by simp[RchM.kids])];rfl
   | false=>
   have HB:Hid (¬ (rLook l1=[41]∧plL ks≠[])):=by
    rintro⟨h1,h2⟩
    refine of_decide_eq_false HBB.out ⟨by rw[HP.out];exact h1,fun e=>h2 ?_⟩
    have:=S6.out.len
    rw[List.length_append,List.length_singleton] at this
    rw[plL_nil];exact List.length_eq_zero_iff.1 (by omega)
   go_wp2_with fail
   refine hFo.mono ?_;rintro e w' ⟨rfl,rfl⟩
   clear hFo
   cases fb with
   | false=>
    have EN:Hid (RR=none):=by
     show _=_;rw[HE.out]
     refine rGrp_bad HTM.out HB.out ?_
     have:=S6.out.len
     rw[List.length_append,List.length_singleton] at this
     rw[plL_length,←HP.out,show ks.length+1=mm+1 by omega];exact HFB.out
    go_wp2_with fail
    refine(rdep_fault P q 3 _).mono ?_;rintro e w7 ⟨rfl,hb⟩
    have R7:=hid (R6.out.below hb)
    have tc:=R7.out.two.c
    obtain⟨x0,x1,x2,x3,x4,y0,y1,y2,g0,g1,g2,g3,g4,k0,k1,k2⟩:=tc
    clear hb
    unfold fltV
    go_wp2_with fail
    refine bodyPost_ret (grp_res _ R7.out.two.c rfl rfl _ _ _ _ _ _ _ _ ⟨rfl,rfl,rfl,rfl,rfl,rfl,rfl,rfl⟩) rfl ?_
    exact DepPost.no EN.out (put8_grown R7.out.gr lr _ _ _ _ _ _ _ _) (by decide)
   | true=>
    have HL1N:Hid (rLook l1≠[]):=by have:=follows_ne HFB.out;rwa [HP.out] at this
    have LN:Hid (ks.length=mm):=by have:=S6.out.len;rw[List.length_append,List.length_singleton] at this;show _=_;omega
    have F1:Hid (2*(rNext l1).length+2≤f-1+1∧f=f-1+1):=by have h1:=HF.out;have h2:=HL1.out;have h3:=rLook_next HL1N.out;constructor<;>omega
    have EN:Hid (RR=rGrp (f-1+1) (deep+1) n1 (plL (ks++[T])) (if mm=0 then bl P else bl OP) (rNext l1)):=by
     show _=_
     rw[HE.out,rGrp_more HTM.out HB.out (by rw[plL_length,LN.out,←HP.out];exact HFB.out),←F1.out.2,plL_append,show plL [T]=[t] by simp[plL,HT.out],HP.out]
     congr 1
     by_cases h0:mm=0
     ·rw[if_pos h0,if_pos (by rw[plL_nil];exact List.length_eq_zero_iff.1 (by rw[LN.out,h0]))]
     ·rw[if_neg h0,if_neg (by rw[plL_nil];intro e;have:=LN.out;rw[e] at this;simp at this;omega)]
    have HOP2:=hid (HOP.out.next HFB.out)
    have HH2:Hid (∀ k∈ks++[T],k.ht+(deep+1)≤32):=by
     intro k hk
     rcases List.mem_append.1 hk with hk | hk
     ·exact HH.out k hk
     ·obtain rfl:=List.mem_singleton.1 hk;exact HHT.out
    have hmm3:mm+1≤64:=by have h1:=cntL_len (ks++[T]);have h2:=HN1.out;have h3:=HN64.out;rw[List.length_append,List.length_singleton,LN.out] at h1;omega
    by_cases h0:mm=0
    ·have e0:bl OP=[]:=HOP.out.nil.2 h0
     have E1:OP.toList=[]:=by rw[bl_toList];exact e0
     have E2:OP.toList.isEmpty=true:=by rw[E1];rfl
     rw[if_pos h0] at EN HOP2
     have z0:=S6.out.box.free 0 (by simp)
     have S7:=hid (S6.out.put P)
     have R7:=hid (R6.out.far (j:=0) HW1.out (.string P))
     clear e0 h0
     go_wp2_with fail
     refine(rdep_next a hi n1 m1 l1 _ R7.out.pr HL1N.out).mono ?_;rintro e w7 ⟨rfl,hp,hg,hm2⟩
     have S8:=hid (S7.out.step hg hp)
     have R8:=hid (R7.out.step hg hp)
     have MD:Hid (m1-1<mc):=by have:=HM1.out;show _<_;omega
     clear hp hg hm2
     go_wp2_with fail
     go_roundw
     case rel=>exact⟨rNext l1,n1,m1-1,mm+1,c3,f-1,P,ks++[T],A3,HN64.out,hmm3,S8,R8,HOP2,EN,F1.out.1,by have:=HF0.out;show _≤_;omega,HN1,HH2,by have:=MD.out;have:=HM.out;show _≤_;omega⟩
     case measure=>exact R8.out.pr.dec HR.out.pr MD.out
    ·have e0:bl OP≠[]:=fun e=>h0 (HOP.out.nil.1 e)
     have E1:(OP.toList==([]:List UInt8))=false:=by rw[bl_toList,beq_eq_false_iff_ne];exact e0
     have E2:OP.toList.isEmpty=false:=by rw[bl_toList,List.isEmpty_eq_false_iff];exact e0
     have E3:¬ OP.toList=[]:=by rw[bl_toList];exact e0
     rw[if_neg h0] at EN HOP2
     clear e0 h0
     go_wp2_with fail
     refine(rdep_next a hi n1 m1 l1 _ R6.out.pr HL1N.out).mono ?_;rintro e w7 ⟨rfl,hp,hg,hm2⟩
     have S8:=hid (S6.out.step hg hp)
     have R8:=hid (R6.out.step hg hp)
     have MD:Hid (m1-1<mc):=by have:=HM1.out;show _<_;omega
     clear hp hg hm2
     go_wp2_with fail
     go_roundw
     case rel=>exact⟨rNext l1,n1,m1-1,mm+1,c3,f-1,OP,ks++[T],A3,HN64.out,hmm3,S8,R8,HOP2,EN,F1.out.1,by have:=HF0.out;show _≤_;omega,HN1,HH2,by have:=MD.out;have:=HM.out;show _≤_;omega⟩
     case measure=>exact R8.out.pr.dec HR.out.pr MD.out
end
section
open Go.RowKit Go.Deep
theorem rDep_end {f deep n:Nat}{l:List UInt8}(h:rLook l=[]∨rLook l=[41]):rDep (f+1) deep n l=none:=by unfold rDep;rw[if_pos h]
theorem rDep_deep {f n:Nat}{l:List UInt8}(h:rLook l=[40]):rDep (f+1) 32 n l=none:=by unfold rDep;rw[if_neg (by rw[h];simp),if_pos h];rfl
theorem rDep_grp {f deep n:Nat}{l:List UInt8}(h:rLook l=[40])(hd:deep≠32):rDep (f+1) deep n l=rGrp f (deep+1) n [] [] (rNext l):=by rw[rDep,if_neg (by rw[h];simp),if_pos h,if_neg hd]
theorem rDep_atom {f deep n:Nat}{l:List UInt8}(h0:¬ (rLook l=[]∨rLook l=[41]))(h:rLook l≠[40]):rDep (f+1) deep n l=rAtom n l:=by rw[rDep,if_neg h0,if_neg h]
theorem dep_fin {r:Option (Rch×List UInt8×Nat)}{a hi m m0 deep n:Nat}{l:List UInt8}{w W W':World}{e:Ending}(R:RdS w W a hi l n m)(h:DepPost r a hi m deep n W e W')(hm:m≤m0)(hW:w.heap.size+2≤W.heap.size):
  ∃ (T:RchM) (f:ByteArray) (x c:Int),e=.returned (.tuple #[T.val,fltV f x c])∧Two W' w.heap.size ∧
   DepPost r a hi m0 deep n w (.returned (.tuple #[T.val,fltV f x c])) (put8 W' w.heap.size (.string T.op) (.string T.nm) (.int .i64 T.aop) (.string T.ver) (.slice T.ka T.kids.length T.kc) (.string f) (.int .i64 x) (.int .i64 c)):=by
 obtain⟨h1,h2⟩:=h
 have tw:=R.two.step h1 R.alt
 have gr:=grown_thru R.gr h1
 cases r with
 | none=>
  obtain⟨f,x,c,h3,h4⟩:=h2
  exact⟨zeroR,f,x,c,h3,tw,DepPost.no rfl (put8_grown gr lr _ _ _ _ _ _ _ _) h4⟩
 | some y=>
  obtain⟨t,l',n'⟩:=y
  obtain⟨T,m',a1,a2,a3,a4,a5,a6,a7,a8,a9⟩:=h2
  exact⟨T,⟨#[]⟩,0,0,a1,tw,DepPost.yes (by rw[a2]) (put8_grown gr lr _ _ _ _ _ _ _ _) a3 ((put8_own a4 (by omega) _ _ _ _ _ _ _ _).base (by omega)) a5 a6 a7 (put8_pr a8 R.lt _ _ _ _ _ _ _ _) (by omega)⟩
theorem dep_of (F:Nat)(IH:∀ f,f<F→GrpC f):DepC F:=by
 intro a hi n m deep l w hF hG h hn hd
 obtain⟨f0,rfl⟩:∃ f0,F=f0+1:=⟨F-1,by omega⟩
 have HF:=hid hF
 have HIH:=hid IH
 obtain⟨W0,hW0⟩:∃ W0,(w.alloc (.cells #[.string ⟨#[]⟩,.string ⟨#[]⟩,.int .i64 0,.string ⟨#[]⟩,.slice none 0 0] 121)).alloc (.cells #[.string ⟨#[]⟩,.int .i64 0,.int .i64 0] 114)=W0:=⟨_,rfl⟩
 have S0:Hid (RdS w W0 a hi l n m):=by rw[←hW0];exact RdS.start hG h _ _
 have z0:W0.heap.size=w.heap.size+2:=by rw[←hW0];simp
 obtain⟨b,off,c,T,p,k,hT,h2⟩:=S0.out.pr.cells
 have HT:=hid hT
 obtain⟨c0,c1,f0',f1,t0,t1,ne,m1,mc,cz,tz⟩:=k
 clear h h2 hT
 obtain⟨W1,hW1⟩:∃ W1,W0.alloc (.cells #[.string T,.int .i64 p] 167)=W1:=⟨_,rfl⟩
 have B1:Hid (Below W0.heap.size W0 W1):=by rw[←hW1];exact(Below.refl _ _).alloc lr _
 have S1:Hid (RdS w W1 a hi l n m):=S0.out.below B1.out
 have K1:Hid (Blk W1 W0.heap.size [.string T,.int .i64 p]):=by rw[←hW1];exact Blk.new W0 [.string T,.int .i64 p] _
 have HZ0:=hid z0
 have HZ1:Hid (w.heap.size+2≤W1.heap.size):=by have:=B1.out.size;show _≤_;omega
 clear S0 hG z0 hF IH B1
 go_enter Tryz.func128,Tryz.ntmps128
 go_upto_region 2 with(fail)
 clear hW0 hW1 c0 c1 f0' f1 t0 t1 ne m1 mc cz
 have t0:=K1.out.cell 0 _ rfl
 have t1:=K1.out.cell 1 _ rfl
 by_cases h1:bl T=[]
 ·have E1:T.toList=[]:=by rw[bl_toList];exact h1
  have E2:T.toList.isEmpty=true:=by rw[E1];rfl
  have EN:Hid (rDep (f0+1) deep n l=none):=rDep_end (.inl (by rw[←HT.out];exact h1))
  clear h1
  go_wp2_with fail
  refine(rdep_fault T p 3 _).mono ?_;rintro e w2 ⟨rfl,hb⟩
  have S2:=hid (S1.out.below hb)
  have tc:=S2.out.two.c
  obtain⟨x0,x1,x2,x3,x4,y0,y1,y2,g0,g1,g2,g3,g4,k0,k1,k2⟩:=tc
  clear hb
  unfold fltV
  go_wp2_with fail
  refine bodyPost_ret (dep_res _ S2.out.two.c rfl rfl _ _ _ _ _ _ _ _ ⟨rfl,rfl,rfl,rfl,rfl,rfl,rfl,rfl⟩) rfl ?_
  exact DepPost.no EN.out (put8_grown S2.out.gr lr _ _ _ _ _ _ _ _) (by decide)
 have F1:(T.toList==([]:List UInt8))=false:=by rw[bl_toList,beq_eq_false_iff_ne];exact h1
 have F2:T.toList.isEmpty=false:=by rw[bl_toList,List.isEmpty_eq_false_iff];exact h1
 have F3:¬ T.toList=[]:=by rw[bl_toList];exact h1
 by_cases h2:bl T=[41]
 ·have E1:T.toList=[41]:=by rw[bl_toList];exact h2
  have EN:Hid (rDep (f0+1) deep n l=none):=rDep_end (.inr (by rw[←HT.out];exact h2))
  clear h1 h2 F1 F2 F3
  go_wp2_with fail
  refine(rdep_fault T p 3 _).mono ?_;rintro e w2 ⟨rfl,hb⟩
  have S2:=hid (S1.out.below hb)
  have tc:=S2.out.two.c
  obtain⟨x0,x1,x2,x3,x4,y0,y1,y2,g0,g1,g2,g3,g4,k0,k1,k2⟩:=tc
  clear hb
  unfold fltV
  go_wp2_with fail
  refine bodyPost_ret (dep_res _ S2.out.two.c rfl rfl _ _ _ _ _ _ _ _ ⟨rfl,rfl,rfl,rfl,rfl,rfl,rfl,rfl⟩) rfl ?_
  exact DepPost.no EN.out (put8_grown S2.out.gr lr _ _ _ _ _ _ _ _) (by decide)
 by_cases h3:bl T=[40]
 ·have E1:T.toList=[40]:=by rw[bl_toList];exact h3
  have HL:Hid (rLook l=[40]):=by show _=_;rw[←HT.out];exact h3
  clear h1 h2 h3 F1 F2 F3
  by_cases h32:deep=32
  ·have EN:Hid (rDep (f0+1) deep n l=none):=by show _=_;rw[h32];exact rDep_deep HL.out
   have q32:((deep:Int)==32)=true:=by simp[h32]
   clear h32
   go_wp2_with fail
   refine(rdep_fault T p 4 _).mono ?_;rintro e w2 ⟨rfl,hb⟩
   have S2:=hid (S1.out.below hb)
   have tc:=S2.out.two.c
   obtain⟨x0,x1,x2,x3,x4,y0,y1,y2,g0,g1,g2,g3,g4,k0,k1,k2⟩:=tc
   clear hb
   unfold fltV
   go_wp2_with fail
   refine bodyPost_ret (dep_res _ S2.out.two.c rfl rfl _ _ _ _ _ _ _ _ ⟨rfl,rfl,rfl,rfl,rfl,rfl,rfl,rfl⟩) rfl ?_
   exact DepPost.no EN.out (put8_grown S2.out.gr lr _ _ _ _ _ _ _ _) (by decide)
  ·have EG:=hid (rDep_grp (f:=f0) (n:=n) HL.out h32)
   have q32:((deep:Int)==32)=false:=by simp;omega
   have HD:Hid (deep<32):=by show _<_;omega
   clear h32
   go_wp2_with fail
   refine(rdep_next a hi n m l W1 S1.out.pr (by rw[HL.out];simp)).mono ?_;rintro e w2 ⟨rfl,hp,hg,hm2⟩
   have S2:=hid (S1.out.step hg hp)
   have HZ2:Hid (w.heap.size+2≤w2.heap.size):=by have:=hg.size;have:=HZ1.out;show _≤_;omega
   have hG:=HIH.out f0 (by omega) a hi n (m-1) deep (rNext l) w2 (by have:=HF.out;have:=rLook_next (l:=l) (by rw[HL.out];simp);omega) S2.out.gl S2.out.pr hn HD.out
   clear hp hg hm2 t0 t1
   go_wp2_with fail
   refine hG.mono ?_;rintro e w3 hpost
   obtain⟨T',f,x,c',rfl,tw,hfin⟩:=dep_fin S2.out hpost (m0:=m) (by omega) HZ2.out
   have HFIN:=hid hfin
   have HTW:=hid tw
   have tc:=tw.c
   obtain⟨x0,x1,x2,x3,x4,y0,y1,y2,g0,g1,g2,g3,g4,k0,k1,k2⟩:=tc
   clear hpost hfin hG tw
   unfold fltV RchM.val
   go_wp2_with fail
   refine bodyPost_ret (dep_res _ HTW.out.c rfl rfl _ _ _ _ _ _ _ _ ⟨rfl,rfl,rfl,rfl,rfl,rfl,rfl,rfl⟩) rfl ?_
   rw[EG.out];exact HFIN.out
 ·have F4:(T.toList==([41]:List UInt8))=false:=by rw[bl_toList,beq_eq_false_iff_ne];exact h2
  have F5:(T.toList==([40]:List UInt8))=false:=by rw[bl_toList,beq_eq_false_iff_ne];exact h3
  have EA:Hid (rDep (f0+1) deep n l=rAtom n l):=by
   show _=_
   rw[HT.out] at h1 h2 h3
   exact rDep_atom (by rintro(h | h)<;>contradiction) h3
  clear h1 h2 h3
  have hA:=rdep_atom a hi n m deep l W1 S1.out.gl S1.out.pr hn hd
  go_wp2_with fail
  refine hA.mono ?_;rintro e w3 hpost
  obtain⟨T',f,x,c',rfl,tw,hfin⟩:=dep_fin S1.out hpost lr HZ1.out
  have HFIN:=hid hfin
  have HTW:=hid tw
  have tc:=tw.c
  obtain⟨x0,x1,x2,x3,x4,y0,y1,y2,g0,g1,g2,g3,g4,k0,k1,k2⟩:=tc
  clear hpost hfin hA tw t0 t1
  unfold fltV RchM.val
  go_wp2_with fail
  refine bodyPost_ret (dep_res _ HTW.out.c rfl rfl _ _ _ _ _ _ _ _ ⟨rfl,rfl,rfl,rfl,rfl,rfl,rfl,rfl⟩) rfl ?_
  rw[EA.out];exact HFIN.out
theorem dep_grp_all (F:Nat):DepC F∧GrpC F:=by
 induction F using Nat.strongRecOn with
 | _ F ih=>exact⟨dep_of F fun f hf=>(ih f hf).2,grp_of F fun f hf=>(ih f hf).1⟩
end
section
open Go.RowKit Go.Deep
theorem look_eq {a b:List UInt8}(h:skipL a=skipL b):rLook a=rLook b∧rNext a=rNext b:=by
 unfold rLook rNext;rw[h];exact⟨rfl,rfl⟩
theorem rdep_res (tmps:Array Value){W:World}{s:Nat}(h:OneC W s)(h2:tmps[4]?=some (.pointer (some ⟨s,0,none⟩)))(v0 v1 v2 v3 v4:Value)
  (hv:v0.oneCell'=true∧v1.oneCell'=true∧v2.oneCell'=true∧v3.oneCell'=true∧v4.oneCell'=true):
  (results Tryz.f212 tmps).run Tryz.prog (put5 W s v0 v1 v2 v3 v4)=.ok (.agg #[v0,v1,v2,v3,v4]) (put5 W s v0 v1 v2 v3 v4):=by
 obtain⟨x0,x1,x2,x3,x4,_,_,_,_,_⟩:=h
 simp(maxDischargeDepth:=10) [results,Tryz.results212,h2,go_sem,x0,x1,x2,x3,x4]
structure GrX (w wr:World) (a:Nat) (s:ByteArray) (p n:Nat) (c:Int) (OP:ByteArray) (ks:List RchM) (A:Option Addr) (m cc:Nat):Prop where
 len:ks.length=m
 box:Blk wr w.heap.size [.string OP,.string ⟨#[]⟩,.int .i64 0,.string ⟨#[]⟩,.slice A m cc]
 row:wr.ownsRow (w.heap.size+1) 121 5 (.slice A m cc) m (ks.flatMap RchM.cells)
 kids:∀ k∈ks,TOwn wr (w.heap.size+1) (Value.slice A m cc).ownBlock k
 good:∀ k∈ks,TGood k
 rx:RX wr a s p n c
 gr:w.grownBy wr (some a)
 lt:a<w.heap.size
theorem GrX.start {w:World}{a:Nat}{s:ByteArray}{p n:Nat}{c:Int}(h:RX w a s p n c)(t:TypeId):GrX w (w.alloc (.cells #[.string ⟨#[]⟩,.string ⟨#[]⟩,.int .i64 0,.string ⟨#[]⟩,.slice none 0 0] t)) a s p n c ⟨#[]⟩ [] none 0 0:=
 ⟨rfl,Blk.new w _ t,World.ownsRow_nil _ _ _ _,by simp,by simp,h.alloc _,below_grows ((Below.refl _ _).alloc lr _) _,h.sz⟩
theorem GrX.step {w wr w':World}{a:Nat}{s:ByteArray}{p n p' n':Nat}{c c':Int}{OP:ByteArray}{ks:List RchM}{A:Option Addr}{m cc:Nat}(h:GrX w wr a s p n c OP ks A m cc)(hg:wr.grownBy w' (some a))(hd:RX w' a s p' n' c'):GrX w w' a s p' n' c' OP ks A m cc:=by
 have hlt:=h.lt
 exact⟨h.len,h.box.grownBy hg (by simp;omega),owns_kept h.row (by omega) hg,fun k hk=>(h.kids k hk).kept (by omega) hg,h.good,hd,grown_thru h.gr hg,h.lt⟩
theorem GrX.below {w wr w':World}{a:Nat}{s:ByteArray}{p n:Nat}{c:Int}{OP:ByteArray}{ks:List RchM}{A:Option Addr}{m cc:Nat}(h:GrX w wr a s p n c OP ks A m cc)(hb:Below wr.heap.size wr w'):GrX w w' a s p n c OP ks A m cc:=
 h.step (below_grows hb _) (h.rx.below hb)
theorem GrX.put {w wr:World}{a:Nat}{s:ByteArray}{p n:Nat}{c:Int}{OP:ByteArray}{ks:List RchM}{A:Option Addr}{m cc:Nat}(h:GrX w wr a s p n c OP ks A m cc)(P:ByteArray):GrX w (wr.setCell ⟨w.heap.size,0,none⟩ (.string P)) a s p n c P ks A m cc:=
 ⟨h.len,h.box.set 0 (by simp) _,owns_kept h.row (by omega) (kept_set _),fun k hk=>(h.kids k hk).kept (by omega) (kept_set _),h.good,h.rx.far (by have:=h.lt;omega) _,grown_new h.gr (kept_set _) (fun j e=>by injection e with e;omega),h.lt⟩
theorem GrX.grow {w wb w2:World}{a:Nat}{s:ByteArray}{p n:Nat}{c:Int}{OP:ByteArray}{ks:List RchM}{A A1:Option Addr}{m cc c1:Nat}{T:RchM}(h:GrX w wb a s p n c OP ks A m cc)(hT:TOwn wb (w.heap.size+1) (Value.slice A m cc).ownBlock T)(hgd:TGood T)
  (hr:w2.ownsRow (w.heap.size+1) 121 5 (.slice A1 (m+1) c1) (m+1) (ks.flatMap RchM.cells++T.cells))
  (hg:wb.grownBy w2 (Value.slice A m cc).ownBlock)(ha:(Value.slice A1 (m+1) c1).ownBlock=(Value.slice A m cc).ownBlock∨(Value.slice A1 (m+1) c1).ownBlock=some wb.heap.size):
  GrX w (w2.setCell ⟨w.heap.size,4,none⟩ (.slice A1 (m+1) c1)) a s p n c OP (ks++[T]) A1 (m+1) c1:=by
 have far:∀ j,(Value.slice A m cc).ownBlock=some j→w.heap.size+1≤j:=fun j hj=>(h.row.lt j hj).1
 have hz:=h.lt
 have bx:Blk w2 w.heap.size [.string OP,.string ⟨#[]⟩,.int .i64 0,.string ⟨#[]⟩,.slice A m cc]:=h.box.grownBy hg (fun e=>by have:=far _ e.symm;omega)
 refine⟨by simp[h.len],bx.set 4 (by simp) _,?_,fun k hk=>?_,fun k hk=>?_,?_,?_,h.lt⟩
 ·rw[List.flatMap_append]
  exact owns_kept (by simpa using hr) (by omega) (kept_set _)
 ·refine TOwn.kept ?_ (by omega) (kept_set _)
  rcases List.mem_append.1 hk with hk | hk
  ·exact(h.kids k hk).grown2 hg ha
  ·obtain rfl:=List.mem_singleton.1 hk
   exact hT.grown2 hg ha
 ·rcases List.mem_append.1 hk with hk | hk
  ·exact h.good k hk
  ·obtain rfl:=List.mem_singleton.1 hk;exact hgd
 ·exact(h.rx.grown hg (fun e=>by have:=far _ e.symm;omega)).far (by omega) _
 ·exact grown_new (grown_new h.gr hg (fun j e=>by have:=far j e;omega)) (kept_set _) (fun j e=>by injection e with e;omega)
def part (OP:ByteArray)(A:Option Addr)(cc:Nat)(ks:List RchM):RchM:=.mk OP ⟨#[]⟩ 0 ⟨#[]⟩ A cc ks
theorem part_val {OP:ByteArray}{A:Option Addr}{m cc:Nat}{ks:List RchM}(h:ks.length=m):(part OP A cc ks).val=.agg #[.string OP,.string ⟨#[]⟩,.int .i64 0,.string ⟨#[]⟩,.slice A m cc]:=by rw[←h];rfl
theorem follows_two {op p:List UInt8}{n:Nat}(hn:n≠1):rFollows op n p=(decide (n=2∧p=wElse∧(op=wIf∨op=wUnless))||decide (p=op∧(p=wAnd∨p=wOr))):=by
 unfold rFollows
 rw[if_neg hn,Bool.eq_iff_iff,Bool.or_eq_true,decide_eq_true_iff,decide_eq_true_iff,decide_eq_true_iff]
 constructor
 ·rintro(⟨h1,h2⟩ | ⟨h1,h2,h3⟩)
  ·right;exact⟨h2,by rw[h2];exact h1⟩
  ·left;exact⟨h2,h3,h1⟩
 ·rintro(⟨h1,h2,h3⟩ | ⟨h1,h2⟩)
  ·right;exact⟨h3,h1,h2⟩
  ·left;exact⟨by rw[←h1];exact h2,h1⟩
def ReC (F:Nat):Prop:=∀ (a:Nat)(s:ByteArray)(p n deep:Nat)(w:World),s.size≤4294967280→2*((bl s).drop p).length+1≤F→RX w a s p n 0→n≤64→deep≤32 →
 Calls Tryz.prog 212 #[.pointer (some ⟨a,0,none⟩),.int .i64 deep] w (RePost (rDep F deep n ((bl s).drop p)) a s deep p n w)
theorem re_of (F:Nat)(IH:∀ f,f<F→ReC f):ReC F:=by
 intro a s p n deep w hz hF h hn hd
 obtain⟨i0,hi0,hz0,hz1,hz2⟩:=info_parts info_rich
 obtain⟨f0,rfl⟩:∃ f0,F=f0+1:=⟨F-1,by omega⟩
 have HF:=hid hF
 have HIH:=hid IH
 obtain⟨RR,hRR⟩:∃ RR,rDep (f0+1) deep n ((bl s).drop p)=RR:=⟨_,rfl⟩
 rw[hRR]
 have HRR:=hid hRR.symm
 obtain⟨W0,hW0⟩:∃ W0,w.alloc (.cells #[.string ⟨#[]⟩,.string ⟨#[]⟩,.int .i64 0,.string ⟨#[]⟩,.slice none 0 0] 121)=W0:=⟨_,rfl⟩
 have S0:Hid (RdX w W0 a s p n 0):=by rw[←hW0];exact RdX.start h _
 have ha:=h.sz
 have hL:=r15_look a s p n 0 W0 hz S0.out.rx
 clear h hF IH hRR
 go_enter Tryz.func212,Tryz.ntmps212
 go_wp2_with fail
 clear hW0
 refine hL.mono ?_;rintro e w1 ⟨P,q,rfl,hr,hP,hN,hq,hpq,hg,hs⟩
 have S1:=hid (S0.out.step hg hr)
 have HP:=hid hP
 have HN:=hid hN
 clear hr hP hN hg hs hL S0
 obtain⟨bb,hbb⟩:∃ bb:Bool,decide (bl P=[]∨bl P=[41])=bb:=⟨_,rfl⟩
 have HBB:=hid hbb
 clear hbb
 go_upto_region 2 with(fail)
 go_cut [17] (fun v wx=>v=.bool bb∧w1=wx)
 case first=>
  by_cases h1:bl P=[]
  ·have E1:P.toList=[]:=by rw[bl_toList];exact h1
   have E2:Hid (bb=true):=by show _=_;rw[←HBB.out];exact decide_eq_true (.inl h1)
   clear h1
   go_wp2_with fail
   go_meet
   exact⟨by rw[E2.out],rfl⟩
  by_cases h3:bl P=[41]
  ·have E1:P.toList=[41]:=by rw[bl_toList];exact h3
   have E2:Hid (bb=true):=by show _=_;rw[←HBB.out];exact decide_eq_true (.inr h3)
   clear h1 h3
   go_wp2_with fail
   go_meet
   exact⟨by rw[E2.out],rfl⟩
  ·have E1:(P.toList==([]:List UInt8))=false:=by rw[bl_toList,beq_eq_false_iff_ne];exact h1
   have E4:(P.toList==([41]:List UInt8))=false:=by rw[bl_toList,beq_eq_false_iff_ne];exact h3
   have E5:P.toList.isEmpty=false:=by rw[bl_toList,List.isEmpty_eq_false_iff];exact h1
   have E2:Hid (bb=false):=by show _=_;rw[←HBB.out];exact decide_eq_false (by rintro(h | h)<;>contradiction)
   clear h1 h3
   go_wp2_with fail
   go_meet
   exact⟨by rw[E2.out],rfl⟩
 case rest=>
 obtain⟨rfl,rfl⟩:=hcut
 cases bb with
 | true=>
  have EN:Hid (RR=none):=by show _=_;rw[HRR.out];exact rDep_end (by rw[←HP.out];exact of_decide_eq_true HBB.out)
  go_wp2_with fail
  refine(r15_bad 3 a s q n 0 w1 S1.out.rx).mono ?_;rintro e w2 ⟨rfl,hr,hg⟩
  have S2:=hid (S1.out.step hg hr)
  obtain⟨x0,x1,x2,x3,x4,g0,g1,g2,g3,g4⟩:=S2.out.c
  clear hr hg
  go_wp2_with fail
  refine bodyPost_ret (rdep_res _ S2.out.c rfl _ _ _ _ _ ⟨rfl,rfl,rfl,rfl,rfl⟩) rfl ?_
  exact RePost.no zeroR EN.out (put5_grown S2.out.gr lr _ _ _ _ _) (by decide) (put5_rx S2.out.rx (by omega) _ _ _ _ _)
 | false=>
 have HB:Hid (¬ (rLook ((bl s).drop p)=[]∨rLook ((bl s).drop p)=[41])):=by rw[←HP.out];exact of_decide_eq_false HBB.out
 by_cases h40:bl P=[40]
 ·have E1:P.toList=[40]:=by rw[bl_toList];exact h40
  have HL:Hid (rLook ((bl s).drop p)=[40]):=by show _=_;rw[←HP.out];exact h40
  have PZ:P.size=1:=by rw[←bl_length,h40];rfl
  rw[PZ] at hq HN
  clear h40 PZ
  by_cases h32:deep=32
  ·have EN:Hid (RR=none):=by show _=_;rw[HRR.out,h32];exact rDep_deep HL.out
   have q32:((deep:Int)==32)=true:=by simp[h32]
   clear h32
   go_wp2_with fail
   refine(r15_bad 4 a s q n 0 w1 S1.out.rx).mono ?_;rintro e w2 ⟨rfl,hr,hg⟩
   have S2:=hid (S1.out.step hg hr)
   obtain⟨x0,x1,x2,x3,x4,g0,g1,g2,g3,g4⟩:=S2.out.c
   clear hr hg
   go_wp2_with fail
   refine bodyPost_ret (rdep_res _ S2.out.c rfl _ _ _ _ _ ⟨rfl,rfl,rfl,rfl,rfl⟩) rfl ?_
   exact RePost.no zeroR EN.out (put5_grown S2.out.gr lr _ _ _ _ _) (by decide) (put5_rx S2.out.rx (by omega) _ _ _ _ _)
  have q32:((deep:Int)==32)=false:=by simp;omega
  have hd32:deep<32:=by omega
  obtain⟨fx,xx,k⟩:=S1.out.rx.cells
  have c1:=k.c1
  have f1:=k.f1
  clear k
  have S2':Hid (RdX w (w1.setCell ⟨a,1,none⟩ (.int .i64 ((q+1:Nat):Int))) a s (q+1) n 0):=S1.out.step (kept_set _) (S1.out.rx.move hq)
  go_upto_region 11 with(fail)
  clear c1 f1
  obtain⟨W2,hW2⟩:∃ W2,w1.setCell ⟨a,1,none⟩ (.int .i64 ((q:Int)+1))=W2:=⟨_,rfl⟩
  rw[show((q+1:Nat):Int)=(q:Int)+1 from by omega,hW2] at S2'
  rw[hW2]
  clear hW2
  have HW2:Hid (w.heap.size<W2.heap.size):=S2'.out.box.sz
  have E0:Hid (RR=rGrp (f0-1+1) (deep+1) n (plL []) (bl ⟨#[]⟩) ((bl s).drop (q+1))):=by
   have h1:=HF.out;have h2:=rLook_next (l:=(bl s).drop p) (by rw[HL.out];simp)
   show _=_
   rw[HRR.out,rDep_grp HL.out h32,HN.out,show f0-1+1=f0 by omega];rfl
  have F0:Hid (2*((bl s).drop (q+1)).length+2≤f0-1+1∧f0-1+1=f0):=by
   have h1:=HF.out;have h2:=rLook_next (l:=(bl s).drop p) (by rw[HL.out];simp)
   rw[HN.out];constructor<;>omega
  clear h32 E1 q32 HRR HN hq
  go_wp2_with fail
  go_loopw [] (fun wr=>∃ (pc nc mm cc f:Nat) (OP:ByteArray) (ks:List RchM) (A:Option Addr),nc≤64∧mm≤64∧p<pc∧Hid (GrX W2 wr a s pc nc 0 OP ks A mm cc)∧Hid (RdX w wr a s pc nc 0)∧Hid (GOp mm (bl OP))∧Hid (RR=rGrp (f+1) (deep+1) nc (plL ks) (bl OP) ((bl s).drop pc))∧Hid (2*((bl s).drop pc).length+2≤f+1)∧Hid (f<f0)∧Hid (nc=n+cntL ks)∧Hid (∀ k∈ks,k.ht+(deep+1)≤32)) (fun wr=>s.size-atOf a wr)
  case atStart=>exact⟨q+1,n,0,0,f0-1,⟨#[]⟩,[],none,hn,by omega,by omega,GrX.start S2'.out.rx _,S2'.out.below ((Below.refl _ _).alloc lr _),GOp.start,E0,F0.out.1,by have:=F0.out.2;show _<_;omega,by simp[Hid,cntL],by simp[Hid]⟩
  case round=>
   clear S2' E0 F0 S1
   obtain⟨pc,nc,mm,cc,f,OP,ks,A,hnc,hmm,hpc,HS,HR,HOP,HE,HFU,HF0,HCN,HH⟩:=hrel
   have hDep:=Calls.int (HIH.out f (by have:=HF0.out;omega) a s pc nc (deep+1) wr hz (by have:=HFU.out;omega) HR.out.rx hnc (by omega)) (args':=#[.pointer (some ⟨a,0,none⟩),.int .i64 ((deep:Int)+1)]) rfl
   go_wp2_with fail
   refine hDep.mono ?_;rintro e w2 ⟨hg,T,rfl,hpost⟩
   clear hDep
   cases hr:rDep f (deep+1) nc ((bl s).drop pc) with
   | none=>
    rw[hr] at hpost
    obtain⟨p',n',c',hc,hx⟩:=hpost
    have EN:Hid (RR=none):=HE.out.trans (rGrp_none hr)
    have S2:=hid (HS.out.step hg hx)
    have R2:=hid (HR.out.step hg hx)
    have hc1:(c' != 0)=true:=by simp[hc]
    have HC:=HidN.mk hc
    clear hr hc hg hx
    obtain⟨W3,hW3⟩:∃ W3,w2.alloc (.cells T.cells.toArray 121)=W3:=⟨_,rfl⟩
    have S3:Hid (GrX W2 W3 a s p' n' c' OP ks A mm cc):=by rw[←hW3];exact S2.out.below ((Below.refl _ _).alloc lr _)
    have R3:Hid (RdX w W3 a s p' n' c'):=by rw[←hW3];exact R2.out.below ((Below.refl _ _).alloc lr _)
    have HW3:=hid hW3
    clear hW3
    unfold RchM.val
    go_upto_region 13 with(fail)
    have hW4:w2.alloc (.cells #[.string T.op,.string T.nm,.int .i64 T.aop,.string T.ver,.slice T.ka T.kids.length T.kc] 121)=W3:=HW3.out
    rw[hW4]
    clear hW4 HW3 S2 R2
    obtain⟨f',x',k⟩:=R3.out.rx.cells
    have c4:=k.c4
    clear k
    have u0:=S3.out.box.cell 0 _ rfl
    have u1:=S3.out.box.cell 1 _ rfl
    have u2:=S3.out.box.cell 2 _ rfl
    have u3:=S3.out.box.cell 3 _ rfl
    have u4:=S3.out.box.cell 4 _ rfl
    obtain⟨x0,x1,x2,x3,x4,g0,g1,g2,g3,g4⟩:=R3.out.c
    have hne1:¬ w.heap.size=W2.heap.size:=by have:=HW2.out;omega
    have hne2:¬ W2.heap.size=w.heap.size:=by have:=HW2.out;omega
    go_wp2_with fail
    refine bodyPost_ret (rdep_res _ R3.out.c rfl _ _ _ _ _ ⟨rfl,rfl,rfl,rfl,rfl⟩) rfl ?_
    have:=RePost.no (deep:=deep) (p:=p) (n:=n) (part OP A cc ks) EN.out (put5_grown R3.out.gr lr (.string OP) (.string ⟨#[]⟩) (.int .i64 0) (.string ⟨#[]⟩) (.slice A mm cc)) HC.out (put5_rx R3.out.rx (by omega) _ _ _ _ _)
    rw[part_val S3.out.len] at this
    exact this
   | some y=>
    obtain⟨t,l1,n1⟩:=y
    rw[hr] at hpost
    obtain⟨p1,hT,hgd,hown,hht,hn1,hn64,hx,hsk,hpp⟩:=hpost
    have S2:=hid (HS.out.step hg hx)
    have R2:=hid (HR.out.step hg hx)
    have TB:=hid ((hown.old (bad':=(Value.slice A mm cc).ownBlock) (fun g e=>.inl (HS.out.row.lt g e).2)).base (lo':=W2.heap.size+1) (by have:=HS.out.box.sz;omega))
    have HT:=hid hT
    have HTM:=hid hr
    have HGD:=hid hgd
    have HHT:=hid hht
    have HN1:Hid (n1=n+cntL (ks++[T])):=by show _=_;rw[cntL_append,hn1,HCN.out];simp[cntL];omega
    have HPP:Hid (pc<p1):=hpp
    have HL1:Hid (l1.length<((bl s).drop pc).length):=(rDep_lt f).1 _ _ _ _ _ _ hr
    have HN64:=hid hn64
    have HSK:=hid hsk
    have HCV:Hid (wr.heap.size≤w2.heap.size):=hg.size
    clear hr hg hT hgd hown hht hn1 hpp hx hn64 hsk HS
    obtain⟨W3,hW3⟩:∃ W3,w2.alloc (.cells T.cells.toArray 121)=W3:=⟨_,rfl⟩
    have B3:Hid (Below w2.heap.size w2 W3):=by rw[←hW3];exact(Below.refl _ _).alloc lr _
    have KT3:Hid (Blk W3 w2.heap.size T.cells):=by rw[←hW3];exact Blk.new w2 T.cells _
    have S3:=hid (S2.out.below B3.out)
    have R3:=hid (R2.out.below B3.out)
    have TB3:=hid ((TB.out.low B3.out).low ((Below.refl W3.heap.size W3).alloc lr (.cells T.cells.toArray 121)))
    have SA:=hid (S3.out.below ((Below.refl W3.heap.size W3).alloc lr (.cells T.cells.toArray 121)))
    have RA:=hid (R3.out.below ((Below.refl W3.heap.size W3).alloc lr (.cells T.cells.toArray 121)))
    have HW3:=hid hW3
    clear hW3 S2 R2 TB
    unfold RchM.val
    go_upto_region 13 with(fail)
    have hW4:w2.alloc (.cells #[.string T.op,.string T.nm,.int .i64 T.aop,.string T.ver,.slice T.ka T.kids.length T.kc] 121)=W3:=HW3.out
    rw[hW4]
    clear hW4 HW3
    have k0:=KT3.out.cell 0 _ rfl
    have k1:=KT3.out.cell 1 _ rfl
    have k2:=KT3.out.cell 2 _ rfl
    have k3:=KT3.out.cell 3 _ rfl
    have k4:=KT3.out.cell 4 _ rfl
    obtain⟨f',x',k⟩:=R3.out.rx.cells
    have c4:=k.c4
    clear k
    have x4:=S3.out.box.cell 4 _ rfl
    have hmm2:mm≤4294967280:=by omega
    go_upto_region 16 with(at_builtin;refine wpList_append_any _ rfl _ _ _ rfl (W2.heap.size+1) 121 i0 _ 5 80 Tryz.underlying119 hi0 hz0 hz1 hz2 rfl (by omega) (.slice A mm cc) mm _ rfl (SA.out.row) (W3.heap.size+1) (some ⟨W3.heap.size,0,none⟩) 1 1 T.cells rfl (by have:=reads_five W3 121 (.string T.op) (.string T.nm) (.int .i64 T.aop) (.string T.ver) (.slice T.ka T.kids.length T.kc);simpa [RchM.cells] using this) (by simp[Value.oneCell',RchM.cells]) (by simp only[maxLen];omega) (by omega) (by simp;have:=S3.out.box.sz;omega) ?_;intro v1 w4 o1 g1 a1;obtain⟨A3,c3,rfl⟩:=owns_form o1;have bx:=hid (SA.out.box.grownBy g1 (fun e=>by have:=(SA.out.row.lt _ e.symm).1;omega));have y4:=bx.out.cell 4 _ rfl;have z4:=bx.out.free 4 (by simp);clear bx)
    clear k0 k1 k2 k3 k4 c4 x4 y4 z4
    have S5:=hid (SA.out.grow TB3.out HGD.out o1 g1 a1)
    have R5:=hid ((RA.out.wide g1 (fun j e=>by have:=(SA.out.row.lt j e).1;have:=HW2.out;omega)).far (j:=4) HW2.out (.slice A3 (mm+1) c3))
    obtain⟨W5,hW5⟩:∃ W5,w4.setCell ⟨W2.heap.size,4,none⟩ (.slice A3 (mm+1) c3)=W5:=⟨_,rfl⟩
    rw[hW5] at S5 R5 ⊢
    clear hW5 o1 g1 a1 SA RA TB3 S3 R3 KT3 B3
    have hL:=r15_look a s p1 n1 0 W5 hz R5.out.rx
    go_wp2_with fail
    refine hL.mono ?_;rintro e w6 ⟨P6,q6,rfl,hr,hP6,hN6,hq6,hqq,hg,-⟩
    rw[(look_eq HSK.out).1] at hP6
    rw[(look_eq HSK.out).2] at hN6
    have S6:=hid (S5.out.step hg hr)
    have R6:=hid (R5.out.step hg hr)
    have HP6:=hid hP6
    have HN6:=hid hN6
    clear hL hr hg hP6 hN6 S5 R5
    have u0:=S6.out.box.cell 0 _ rfl
    have u4:=S6.out.box.cell 4 _ rfl
    obtain⟨bb,hbb⟩:∃ bb:Bool,decide (mm≠0∧bl P6=[41])=bb:=⟨_,rfl⟩
    have HBB:=hid hbb
    clear hbb
    have LN:Hid (ks.length=mm):=by have:=S6.out.len;rw[List.length_append,List.length_singleton] at this;show _=_;omega
    go_upto_region 18 with(fail)
    go_cut [67] (fun v wx=>v=.bool bb∧w6=wx)
    case first=>
     by_cases h0:mm=0
     ·have q1:decide ((1:Int)<(mm:Int)+1)=false:=decide_eq_false (by omega)
      have q2:decide (1<mm+1)=false:=decide_eq_false (by omega)
      have q3:decide (0<mm)=false:=decide_eq_false (by omega)
      have q4:decide ((0:Int)<(mm:Int))=false:=decide_eq_false (by omega)
      have E2:Hid (bb=false):=by show _=_;rw[←HBB.out];exact decide_eq_false (fun h=>h.1 h0)
      clear h0
      go_wp2_with fail
      go_meet
      exact⟨by rw[E2.out],rfl⟩
     ·have q1:decide ((1:Int)<(mm:Int)+1)=true:=decide_eq_true (by omega)
      have q2:decide (1<mm+1)=true:=decide_eq_true (by omega)
      have q3:decide (0<mm)=true:=decide_eq_true (by omega)
      have q4:decide ((0:Int)<(mm:Int))=true:=decide_eq_true (by omega)
      by_cases h1:bl P6=[41]
      ·have E1:P6.toList=[41]:=by rw[bl_toList];exact h1
       have E2:Hid (bb=true):=by show _=_;rw[←HBB.out];exact decide_eq_true ⟨h0,h1⟩
       clear h0 h1
       go_wp2_with fail
       go_meet
       exact⟨by rw[E2.out],rfl⟩
      ·have E1:(P6.toList==([41]:List UInt8))=false:=by rw[bl_toList,beq_eq_false_iff_ne];exact h1
       have E2:Hid (bb=false):=by show _=_;rw[←HBB.out];exact decide_eq_false (fun h=>h1 h.2)
       clear h0 h1
       go_wp2_with fail
       go_meet
       exact⟨by rw[E2.out],rfl⟩
    case rest=>
    obtain⟨rfl,rfl⟩:=hcut
    cases bb with
    | true=>
     obtain⟨hm0,hp41⟩:=of_decide_eq_true HBB.out
     have HM0:=HidN.mk hm0
     have P1:Hid (P6.size=1):=by show _=_;rw[←bl_length,hp41];rfl
     have EY:Hid (RR=some (.node (bl OP) (plL (ks++[T])),rNext l1,n1)):=by
      show _=_
      rw[HE.out,plL_append,show plL [T]=[t] by simp[plL,HT.out]]
      refine rGrp_end HTM.out (by rw[←HP6.out];exact hp41) (fun e=>hm0 ?_)
      rw[←LN.out,plL_nil.1 e];rfl
     clear hm0 hp41
     have S7':Hid (GrX W2 (w6.setCell ⟨a,1,none⟩ (.int .i64 ((q6+1:Nat):Int))) a s (q6+1) n1 0 OP (ks++[T]) A3 (mm+1) c3):=S6.out.step (kept_set _) (S6.out.rx.move (by have:=P1.out;omega))
     have R7':Hid (RdX w (w6.setCell ⟨a,1,none⟩ (.int .i64 ((q6+1:Nat):Int))) a s (q6+1) n1 0):=R6.out.step (kept_set _) (R6.out.rx.move (by have:=P1.out;omega))
     obtain⟨f',x',k⟩:=R6.out.rx.cells
     have c1:=k.c1
     have f1:=k.f1
     clear k u0 u4
     go_upto_region 20 with(fail)
     clear c1 f1
     obtain⟨W7,hW7⟩:∃ W7,w6.setCell ⟨a,1,none⟩ (.int .i64 ((q6:Int)+1))=W7:=⟨_,rfl⟩
     rw[show((q6+1:Nat):Int)=(q6:Int)+1 from by omega,hW7] at S7' R7'
     rw[hW7]
     clear hW7 S6 R6
     have u0:=S7'.out.box.cell 0 _ rfl
     have u1:=S7'.out.box.cell 1 _ rfl
     have u2:=S7'.out.box.cell 2 _ rfl
     have u3:=S7'.out.box.cell 3 _ rfl
     have u4:=S7'.out.box.cell 4 _ rfl
     obtain⟨x0,x1,x2,x3,x4,g0,g1,g2,g3,g4⟩:=R7'.out.c
     have hne1:¬ w.heap.size=W2.heap.size:=by have:=HW2.out;omega
     have hne2:¬ W2.heap.size=w.heap.size:=by have:=HW2.out;omega
     go_wp2_with fail
     refine bodyPost_ret (rdep_res _ R7'.out.c rfl _ _ _ _ _ ⟨rfl,rfl,rfl,rfl,rfl⟩) rfl ?_
     have ln:=S7'.out.len
     have hrow:=S7'.out.row
     rw[←ln] at hrow
     have hown:TOwn W7 (W2.heap.size+1) none (part OP A3 c3 (ks++[T])):=.mk _ hrow (fun g _=>by simp) (fun k hk=>(S7'.out.kids k hk).any)
     have:=RePost.yes (deep:=deep) (p:=p) (n:=n) (T:=part OP A3 c3 (ks++[T])) (r:=RR) (l':=rNext l1) (n':=n1) (p':=q6+1) (by rw[EY.out];unfold part;rw[pl_node _ _ _ _ _ _ _ (word_ne (HOP.out.word HM0.out)).1]) (put5_grown R7'.out.gr lr (.string OP) (.string ⟨#[]⟩) (.int .i64 0) (.string ⟨#[]⟩) (.slice A3 (mm+1) c3)) (TGood.of_group HOP.out LN.out HM0.out S7'.out.good) ((put5_own hown (by have:=HW2.out;omega) _ _ _ _ _).base (by have:=HW2.out;omega)) (by
      show htL (ks++[T])+deep≤32
      have:htL (ks++[T])≤32-deep:=htL_le (fun k hk=>by
       rcases List.mem_append.1 hk with hk | hk
       ·have:=HH.out k hk;omega
       ·obtain rfl:=List.mem_singleton.1 hk;have:=HHT.out;omega)
      omega) (by rw[HN1.out,cnt_node (by simp[part,RchM.kids])];rfl) HN64.out (put5_rx R7'.out.rx (by omega) _ _ _ _ _) (by rw[←HN6.out,P1.out]) (by have:=HPP.out;omega)
     rw[part_val ln] at this
     exact this
    | false=>
    have HB2:Hid (¬ (rLook l1=[41]∧plL ks≠[])):=by
     rintro⟨h1,h2⟩
     refine of_decide_eq_false HBB.out ⟨fun e=>h2 ?_,by rw[HP6.out];exact h1⟩
     rw[plL_nil];exact List.length_eq_zero_iff.1 (by rw[LN.out,e])
    have HFB:Hid (∀ b,rFollows (bl OP) (mm+1) (bl P6)=b→rFollows (bl OP) ((plL ks).length+1) (rLook l1)=b):=by
     intro b h;rw[plL_length,LN.out,←HP6.out];exact h
    have HNO:Hid (rFollows (bl OP) (mm+1) (bl P6)=false→RR=none):=fun h=>by rw[HE.out];exact rGrp_bad HTM.out HB2.out (HFB.out _ h)
    have HYES:Hid (rFollows (bl OP) (mm+1) (bl P6)=true→RR=rGrp (f-1+1) (deep+1) n1 (plL (ks++[T])) (if mm=0 then bl P6 else bl OP) ((bl s).drop (q6+P6.size))∧2*((bl s).drop (q6+P6.size)).length+2≤f-1+1∧f=f-1+1∧0<P6.size):=by
     intro h
     have hne:rLook l1≠[]:=by have:=follows_ne h;rwa [HP6.out] at this
     have h3:=rLook_next hne
     have h1:=HFU.out;have h2:=HL1.out
     have ef:f=f-1+1:=by omega
     refine⟨?_,by rw[HN6.out];omega,ef,?_⟩
     ·rw[HE.out,rGrp_more HTM.out HB2.out (HFB.out _ h),←ef,plL_append,show plL [T]=[t] by simp[plL,HT.out],HP6.out,HN6.out]
      congr 1
      by_cases h0:mm=0
      ·rw[if_pos h0,if_pos (by rw[plL_nil];exact List.length_eq_zero_iff.1 (by rw[LN.out,h0]))]
      ·rw[if_neg h0,if_neg (by rw[plL_nil];intro e;have:=LN.out;rw[e] at this;simp at this;omega)]
     ·rw[←bl_length,HP6.out];exact List.length_pos_iff.2 hne
    have HH2:Hid (∀ k∈ks++[T],k.ht+(deep+1)≤32):=by
     intro k hk
     rcases List.mem_append.1 hk with hk | hk
     ·exact HH.out k hk
     ·obtain rfl:=List.mem_singleton.1 hk;exact HHT.out
    have hmm3:mm+1≤64:=by have h1:=cntL_len (ks++[T]);have h2:=HN1.out;have h3:=HN64.out;rw[List.length_append,List.length_singleton,LN.out] at h1;omega
    by_cases h0:mm=0
    ·have q1:(((mm:Int)+1)==1)=true:=by simp[h0]
     have q2:((mm:Int)==0)=true:=by simp[h0]
     have hW:=r15_Word P6 w6
     have OP0:Hid (OP=⟨#[]⟩):=bl_inj (HOP.out.nil.2 h0)
     cases hwb:rWordB (bl P6) with
     | true=>
      rw[hwb] at hW
      have FB:Hid (rFollows (bl OP) (mm+1) (bl P6)=true):=by show _=_;rw[h0];exact hwb
      obtain⟨EN,fa,fb',pz⟩:=HYES.out FB.out
      have EN:=hid EN
      have F1:Hid (2*((bl s).drop (q6+P6.size)).length+2≤f-1+1∧f=f-1+1):=⟨fa,fb'⟩
      have PZ:=hid pz
      have HOP2:=hid (HOP.out.next FB.out)
      rw[if_pos h0] at EN HOP2
      have z0:=S6.out.box.free 0 (by simp)
      clear hwb fa fb' pz h0
      go_upto_region 21 with(fail)
      go_wp2_with fail
      refine hW.mono ?_;rintro e w' ⟨rfl,rfl⟩
      have S7:=hid (S6.out.put P6)
      have R7:=hid (R6.out.far (j:=0) HW2.out (.string P6))
      clear hW
      go_upto_region 28 with(fail)
      clear u0 u4 z0
      obtain⟨W7,hW7⟩:∃ W7,w6.setCell ⟨W2.heap.size,0,none⟩ (.string P6)=W7:=⟨_,rfl⟩
      rw[hW7] at S7 R7 ⊢
      clear hW7 S6 R6
      have S8':Hid (GrX W2 (W7.setCell ⟨a,1,none⟩ (.int .i64 ((q6+P6.size:Nat):Int))) a s (q6+P6.size) n1 0 P6 (ks++[T]) A3 (mm+1) c3):=S7.out.step (kept_set _) (S7.out.rx.move hq6)
      have R8':Hid (RdX w (W7.setCell ⟨a,1,none⟩ (.int .i64 ((q6+P6.size:Nat):Int))) a s (q6+P6.size) n1 0):=R7.out.step (kept_set _) (R7.out.rx.move hq6)
      obtain⟨f',x',k⟩:=R7.out.rx.cells
      have c1:=k.c1
      have f1:=k.f1
      clear k
      go_wp2_with fail
      clear c1 f1
      have PD:Hid (pc<q6+P6.size):=by have:=HPP.out;show _<_;omega
      go_roundw
      case rel=>exact⟨q6+P6.size,n1,mm+1,c3,f-1,P6,ks++[T],A3,HN64.out,hmm3,by have:=PD.out;omega,S8',R8',HOP2,EN,F1.out.1,by have:=HF0.out;show _<_;omega,HN1,HH2⟩
      case measure=>show s.size-atOf a (W7.setCell ⟨a,1,none⟩ (.int .i64 ((q6+P6.size:Nat):Int)))<_;rw[R8'.out.rx.at_,HR.out.rx.at_];have:=PD.out;have:=R8'.out.rx.le;omega
     | false=>
      rw[hwb] at hW
      have EN:Hid (RR=none):=HNO.out (by rw[h0];exact hwb)
      have q3:(((mm:Int)+1)==2)=false:=by simp;omega
      have q4:((mm:Int)==1)=false:=by simp;omega
      have q5:decide ((mm:Int)+1<2)=true:=decide_eq_true (by omega)
      have q6':decide (mm+1<2)=true:=decide_eq_true (by omega)
      have q7:decide ((mm:Int)<1)=true:=decide_eq_true (by omega)
      have q8:decide (mm<1)=true:=decide_eq_true (by omega)
      clear hwb h0
      go_wp2_with fail
      refine hW.mono ?_;rintro e w' ⟨rfl,rfl⟩
      clear hW
      go_wp2_with fail
      refine(r15_bad 3 a s q6 n1 0 w6 R6.out.rx).mono ?_;rintro e w7 ⟨rfl,hr,hg⟩
      have S7:=hid (S6.out.step hg hr)
      have R7:=hid (R6.out.step hg hr)
      clear hr hg u0 u4
      have u0:=S7.out.box.cell 0 _ rfl
      have u1:=S7.out.box.cell 1 _ rfl
      have u2:=S7.out.box.cell 2 _ rfl
      have u3:=S7.out.box.cell 3 _ rfl
      have u4:=S7.out.box.cell 4 _ rfl
      obtain⟨x0,x1,x2,x3,x4,g0,g1,g2,g3,g4⟩:=R7.out.c
      have hne1:¬ w.heap.size=W2.heap.size:=by have:=HW2.out;omega
      have hne2:¬ W2.heap.size=w.heap.size:=by have:=HW2.out;omega
      go_wp2_with fail
      refine bodyPost_ret (rdep_res _ R7.out.c rfl _ _ _ _ _ ⟨rfl,rfl,rfl,rfl,rfl⟩) rfl ?_
      have:=RePost.no (deep:=deep) (p:=p) (n:=n) (part OP A3 c3 (ks++[T])) EN.out (put5_grown R7.out.gr lr (.string OP) (.string ⟨#[]⟩) (.int .i64 0) (.string ⟨#[]⟩) (.slice A3 (mm+1) c3)) (by decide:(3:Int)≠0) (put5_rx R7.out.rx (by omega) _ _ _ _ _)
      rw[part_val S7.out.len] at this
      exact this
    ·have q1:(((mm:Int)+1)==1)=false:=by simp;omega
     have q2:((mm:Int)==0)=false:=by simp;omega
     have M0:Hid (1≤mm):=by show _≤_;omega
     have FT:=hid (follows_two (op:=bl OP) (p:=bl P6) (n:=mm+1) (by omega))
     obtain⟨eb,heb⟩:∃ eb:Bool,decide (mm+1=2∧bl P6=wElse∧(bl OP=wIf∨bl OP=wUnless))=eb:=⟨_,rfl⟩
     have HEB:=hid heb
     clear heb
     go_upto_region 23 with(fail)
     go_cut [100] (fun v wx=>v=.bool eb∧w6=wx)
     case first=>
      by_cases m1:mm=1
      ·have q3:(((mm:Int)+1)==2)=true:=by simp[m1]
       have q4:((mm:Int)==1)=true:=by simp[m1]
       by_cases pe:bl P6=wElse
       ·have E1:P6.toList=[101,108,115,101]:=by rw[bl_toList];exact pe
        by_cases o1:bl OP=wIf
        ·have F1:OP.toList=[105,102]:=by rw[bl_toList];exact o1
         have E2:Hid (eb=true):=by show _=_;rw[←HEB.out];exact decide_eq_true ⟨by omega,pe,.inl o1⟩
         clear m1 pe o1 h0
         go_wp2_with fail
         go_meet
         exact⟨by rw[E2.out],rfl⟩
        ·have F1:(OP.toList==([105,102]:List UInt8))=false:=by rw[bl_toList,beq_eq_false_iff_ne];exact o1
         by_cases o2:bl OP=wUnless
         ·have F2:OP.toList=[117,110,108,101,115,115]:=by rw[bl_toList];exact o2
          have E2:Hid (eb=true):=by show _=_;rw[←HEB.out];exact decide_eq_true ⟨by omega,pe,.inr o2⟩
          clear m1 pe o1 o2 h0 F1
          go_wp2_with fail
          go_meet
          exact⟨by rw[E2.out],rfl⟩
         ·have F2:(OP.toList==([117,110,108,101,115,115]:List UInt8))=false:=by rw[bl_toList,beq_eq_false_iff_ne];exact o2
          have E2:Hid (eb=false):=by show _=_;rw[←HEB.out];exact decide_eq_false (by rintro⟨_,_,h | h⟩<;>contradiction)
          clear m1 pe o1 o2 h0
          go_wp2_with fail
          go_meet
          exact⟨by rw[E2.out],rfl⟩
       ·have E1:(P6.toList==([101,108,115,101]:List UInt8))=false:=by rw[bl_toList,beq_eq_false_iff_ne];exact pe
        have E2:Hid (eb=false):=by show _=_;rw[←HEB.out];exact decide_eq_false (fun h=>pe h.2.1)
        clear m1 pe h0
        go_wp2_with fail
        go_meet
        exact⟨by rw[E2.out],rfl⟩
      ·have q3:(((mm:Int)+1)==2)=false:=by simp;omega
       have q4:((mm:Int)==1)=false:=by simp;omega
       have E2:Hid (eb=false):=by show _=_;rw[←HEB.out];exact decide_eq_false (fun h=>m1 (by omega))
       clear m1 h0
       go_wp2_with fail
       go_meet
       exact⟨by rw[E2.out],rfl⟩
     case rest=>
     obtain⟨rfl,rfl⟩:=hcut
     cases eb with
     | true=>
      have FB:Hid (rFollows (bl OP) (mm+1) (bl P6)=true):=by show _=_;rw[FT.out,HEB.out];rfl
      have PS:Hid (P6.size=4):=by have:=(of_decide_eq_true HEB.out).2.1;show _=_;rw[←bl_length,this];rfl
      obtain⟨EN,fa,fb',pz⟩:=HYES.out FB.out
      rw[PS.out] at EN fa
      have EN:=hid EN
      have F1:Hid (2*((bl s).drop (q6+4)).length+2≤f-1+1∧f=f-1+1):=⟨fa,fb'⟩
      have HOP2:=hid (HOP.out.next FB.out)
      rw[if_neg h0] at EN HOP2
      clear fa fb' pz h0
      have S8':Hid (GrX W2 (w6.setCell ⟨a,1,none⟩ (.int .i64 ((q6+4:Nat):Int))) a s (q6+4) n1 0 OP (ks++[T]) A3 (mm+1) c3):=S6.out.step (kept_set _) (S6.out.rx.move (by have:=PS.out;omega))
      have R8':Hid (RdX w (w6.setCell ⟨a,1,none⟩ (.int .i64 ((q6+4:Nat):Int))) a s (q6+4) n1 0):=R6.out.step (kept_set _) (R6.out.rx.move (by have:=PS.out;omega))
      obtain⟨f',x',k⟩:=R6.out.rx.cells
      have c1:=k.c1
      have f1:=k.f1
      clear k
      go_wp2_with fail
      clear c1 f1
      have PD:Hid (pc<q6+4):=by have:=HPP.out;show _<_;omega
      go_roundw
      case rel=>exact⟨q6+4,n1,mm+1,c3,f-1,OP,ks++[T],A3,HN64.out,hmm3,by have:=PD.out;omega,S8',R8',HOP2,EN,F1.out.1,by have:=HF0.out;show _<_;omega,HN1,HH2⟩
      case measure=>show s.size-atOf a (w6.setCell ⟨a,1,none⟩ (.int .i64 ((q6+4:Nat):Int)))<_;rw[R8'.out.rx.at_,HR.out.rx.at_];have:=PD.out;have:=R8'.out.rx.le;omega
     | false=>
      obtain⟨fb,hfb⟩:∃ fb,rFollows (bl OP) (mm+1) (bl P6)=fb:=⟨_,rfl⟩
      have FB:=hid hfb
      have FT2:Hid (fb=decide (bl P6=bl OP∧(bl P6=wAnd∨bl P6=wOr))):=by show _=_;rw[←hfb,FT.out,HEB.out,Bool.false_or]
      clear hfb
      go_upto_region 25 with(fail)
      go_cut [116] (fun v wx=>v=.bool (!fb)∧w6=wx)
      case first=>
       have q5:decide ((mm:Int)+1<2)=false:=decide_eq_false (by omega)
       have q6':decide (mm+1<2)=false:=decide_eq_false (by omega)
       have q7:decide ((mm:Int)<1)=false:=decide_eq_false (by omega)
       have q8:decide (mm<1)=false:=decide_eq_false (by omega)
       by_cases po:P6=OP
       ·subst po
        have q9:(P6.toList != P6.toList)=false:=by simp
        by_cases a1:bl P6=wAnd
        ·have F1:P6.toList=[97,110,100]:=by rw[bl_toList];exact a1
         have E2:Hid (fb=true):=by show _=_;rw[FT2.out];exact decide_eq_true ⟨rfl,.inl a1⟩
         clear a1 h0 q9
         go_wp2_with fail
         go_meet
         exact⟨by rw[E2.out];rfl,rfl⟩
        ·have F1:(P6.toList==([97,110,100]:List UInt8))=false:=by rw[bl_toList,beq_eq_false_iff_ne];exact a1
         have F1':(P6.toList != ([97,110,100]:List UInt8))=true:=by rw[bne,F1];rfl
         by_cases a2:bl P6=wOr
         ·have F2:P6.toList=[111,114]:=by rw[bl_toList];exact a2
          have E2:Hid (fb=true):=by show _=_;rw[FT2.out];exact decide_eq_true ⟨rfl,.inr a2⟩
          clear a1 a2 h0 q9 F1 F1'
          go_wp2_with fail
          go_meet
          exact⟨by rw[E2.out];rfl,rfl⟩
         ·have F2:(P6.toList==([111,114]:List UInt8))=false:=by rw[bl_toList,beq_eq_false_iff_ne];exact a2
          have F2':(P6.toList != ([111,114]:List UInt8))=true:=by rw[bne,F2];rfl
          have E2:Hid (fb=false):=by show _=_;rw[FT2.out];exact decide_eq_false (by rintro⟨_,h | h⟩<;>contradiction)
          clear a1 a2 h0
          go_wp2_with fail
          go_meet
          exact⟨by rw[E2.out];rfl,rfl⟩
       ·have q9:(P6.toList != OP.toList)=true:=by rw[bl_toList,bl_toList,bne_iff_ne];exact fun e=>po (bl_inj e)
        have q10:¬ P6.toList=OP.toList:=by rw[bl_toList,bl_toList];exact fun e=>po (bl_inj e)
        have E2:Hid (fb=false):=by show _=_;rw[FT2.out];exact decide_eq_false (fun h=>po (bl_inj h.1))
        clear h0 po
        go_wp2_with fail
        go_meet
        exact⟨by rw[E2.out];rfl,rfl⟩
      case rest=>
      obtain⟨rfl,rfl⟩:=hcut
      cases fb with
      | true=>
       obtain⟨EN,fa,fb',pz⟩:=HYES.out FB.out
       have EN:=hid EN
       have F1:Hid (2*((bl s).drop (q6+P6.size)).length+2≤f-1+1∧f=f-1+1):=⟨fa,fb'⟩
       have HOP2:=hid (HOP.out.next FB.out)
       rw[if_neg h0] at EN HOP2
       clear fa fb' pz h0
       have S8':Hid (GrX W2 (w6.setCell ⟨a,1,none⟩ (.int .i64 ((q6+P6.size:Nat):Int))) a s (q6+P6.size) n1 0 OP (ks++[T]) A3 (mm+1) c3):=S6.out.step (kept_set _) (S6.out.rx.move hq6)
       have R8':Hid (RdX w (w6.setCell ⟨a,1,none⟩ (.int .i64 ((q6+P6.size:Nat):Int))) a s (q6+P6.size) n1 0):=R6.out.step (kept_set _) (R6.out.rx.move hq6)
       obtain⟨f',x',k⟩:=R6.out.rx.cells
       have c1:=k.c1
       have f1:=k.f1
       clear k
       go_wp2_with fail
       clear c1 f1
       have PD:Hid (pc<q6+P6.size):=by have:=HPP.out;show _<_;omega
       go_roundw
       case rel=>exact⟨q6+P6.size,n1,mm+1,c3,f-1,OP,ks++[T],A3,HN64.out,hmm3,by have:=PD.out;omega,S8',R8',HOP2,EN,F1.out.1,by have:=HF0.out;show _<_;omega,HN1,HH2⟩
       case measure=>show s.size-atOf a (w6.setCell ⟨a,1,none⟩ (.int .i64 ((q6+P6.size:Nat):Int)))<_;rw[R8'.out.rx.at_,HR.out.rx.at_];have:=PD.out;have:=R8'.out.rx.le;omega
      | false=>
       have EN:=hid (HNO.out FB.out)
       clear h0
       go_wp2_with fail
       refine(r15_bad 3 a s q6 n1 0 w6 R6.out.rx).mono ?_;rintro e w7 ⟨rfl,hr,hg⟩
       have S7:=hid (S6.out.step hg hr)
       have R7:=hid (R6.out.step hg hr)
       clear hr hg u0 u4
       have u0:=S7.out.box.cell 0 _ rfl
       have u1:=S7.out.box.cell 1 _ rfl
       have u2:=S7.out.box.cell 2 _ rfl
       have u3:=S7.out.box.cell 3 _ rfl
       have u4:=S7.out.box.cell 4 _ rfl
       obtain⟨x0,x1,x2,x3,x4,g0,g1,g2,g3,g4⟩:=R7.out.c
       have hne1:¬ w.heap.size=W2.heap.size:=by have:=HW2.out;omega
       have hne2:¬ W2.heap.size=w.heap.size:=by have:=HW2.out;omega
       go_wp2_with fail
       refine bodyPost_ret (rdep_res _ R7.out.c rfl _ _ _ _ _ ⟨rfl,rfl,rfl,rfl,rfl⟩) rfl ?_
       have:=RePost.no (deep:=deep) (p:=p) (n:=n) (part OP A3 c3 (ks++[T])) EN.out (put5_grown R7.out.gr lr (.string OP) (.string ⟨#[]⟩) (.int .i64 0) (.string ⟨#[]⟩) (.slice A3 (mm+1) c3)) (by decide:(3:Int)≠0) (put5_rx R7.out.rx (by omega) _ _ _ _ _)
       rw[part_val S7.out.len] at this
       exact this
 ·have E1:(P.toList==([40]:List UInt8))=false:=by rw[bl_toList,beq_eq_false_iff_ne];exact h40
  have E2:(P.toList != ([40]:List UInt8))=true:=by rw[bne,E1];rfl
  have EA:Hid (RR=rAtom n ((bl s).drop p)):=by show _=_;rw[HRR.out];exact rDep_atom HB.out (by rw[←HP.out];exact h40)
  clear h40
  have hA:=r15_atom a s q n deep P ((bl s).drop p) w1 hz S1.out.rx HP.out HN.out hq hn hd
  go_wp2_with fail
  refine hA.mono ?_;rintro e w2 ⟨hg,T,rfl,hpost⟩
  have BX:=hid (S1.out.box.grownBy hg (by simp;omega))
  have x0:=BX.out.cell 0 _ rfl
  have x1:=BX.out.cell 1 _ rfl
  have x2:=BX.out.cell 2 _ rfl
  have x3:=BX.out.cell 3 _ rfl
  have x4:=BX.out.cell 4 _ rfl
  have g0:=BX.out.free 0 (by simp)
  have g1:=BX.out.free 1 (by simp)
  have g2:=BX.out.free 2 (by simp)
  have g3:=BX.out.free 3 (by simp)
  have g4:=BX.out.free 4 (by simp)
  have GG:=hid (grown_thru S1.out.gr hg)
  have HPST:=hid hpost
  have hsz:w.heap.size<w1.heap.size:=S1.out.box.sz
  have HSZ:=hid hsz
  clear hg hpost hA hsz
  unfold RchM.val
  go_wp2_with fail
  refine bodyPost_ret (rdep_res _ ⟨x0,x1,x2,x3,x4,g0,g1,g2,g3,g4⟩ rfl _ _ _ _ _ ⟨rfl,rfl,rfl,rfl,rfl⟩) rfl ?_
  have hp:=HPST.out
  refine⟨put5_grown GG.out lr _ _ _ _ _,T,rfl,?_⟩
  rw[EA.out]
  cases hr:rAtom n ((bl s).drop p) with
  | none=>
   rw[hr] at hp
   obtain⟨p',n',c',h1,h2⟩:=hp
   exact⟨p',n',c',h1,put5_rx h2 (by omega) _ _ _ _ _⟩
  | some y=>
   obtain⟨t,l',n'⟩:=y
   rw[hr] at hp
   obtain⟨p',a2,a3,a4,a5,a6,a7,a8,a9,a10⟩:=hp
   exact⟨p',a2,a3,(put5_own a4 HSZ.out _ _ _ _ _).base (by have:=HSZ.out;omega),a5,a6,a7,put5_rx a8 (by omega) _ _ _ _ _,a9,by omega⟩
theorem r15_dep (F:Nat):ReC F:=by
 induction F using Nat.strongRecOn with
 | _ F ih=>exact re_of F ih
end
section
open Go.RowKit Go.Deep
theorem Two.off {W W':World}{s a:Nat}(h:Two W s)(hg:W.grownBy W' (some a))(hs:s+1<a):Two W' s:=
 ⟨h.b0.grownBy hg (by simp;omega),h.b1.grownBy hg (by simp;omega)⟩
theorem put8_below {w W:World}{s:Nat}(h:Below w.heap.size w W)(hs:w.heap.size≤s)(v0 v1 v2 v3 v4 u0 u1 u2:Value):Below w.heap.size w (put8 W s v0 v1 v2 v3 v4 u0 u1 u2):=by
 unfold put8
 repeat' refine below_set ?_ (by omega) _
 exact h
theorem below_drew {B:Nat}{w W:World}(h:Below B w W):Below B w W.drew:=⟨h.os,h.tape,h.output,h.size,h.block⟩
def RParsePost (s:ByteArray)(w:World)(e:Ending)(w':World):Prop:=
 ∃ (T:RchM) (f:ByteArray) (x c:Int),e=.returned (.tuple #[T.val,fltV f x c])∧Below w.heap.size w w'∧match rParse (bl s) with
  | none=>c≠0∧T=zeroR
  | some t=>c=0∧T.pl=t∧TGood T∧TOwn w' w.heap.size none T∧T.ht≤32∧T.cnt≤64
theorem RParsePost.no {s:ByteArray}{w w':World}{f:ByteArray}{x c:Int}(hr:rParse (bl s)=none)(hb:Below w.heap.size w w')(hc:c≠0):RParsePost s w (.returned (.tuple #[zeroR.val,fltV f x c])) w':=⟨zeroR,f,x,c,rfl,hb,by rw[hr];exact⟨hc,rfl⟩⟩
theorem RParsePost.yes {s:ByteArray}{w w':World}{T:RchM}(hr:rParse (bl s)=some T.pl)(hb:Below w.heap.size w w')(h1:TGood T)(h2:TOwn w' w.heap.size none T)(h3:T.ht≤32)(h4:T.cnt≤64):RParsePost s w (.returned (.tuple #[T.val,fltV ⟨#[]⟩ 0 0])) w':=⟨T,⟨#[]⟩,0,0,rfl,hb,by rw[hr];exact⟨rfl,rfl,h1,h2,h3,h4⟩⟩
theorem rParse_none {l:List UInt8}(h:rDep (2*l.length+2) 0 0 l=none):rParse l=none:=by unfold rParse;rw[h]
theorem rParse_rest {l r:List UInt8}{d:Rch}{n:Nat}(h:rDep (2*l.length+2) 0 0 l=some (d,r,n))(hr:rLook r≠[]):rParse l=none:=by unfold rParse;rw[h];simp only;rw[if_neg hr]
theorem rParse_some {l r:List UInt8}{d:Rch}{n:Nat}(h:rDep (2*l.length+2) 0 0 l=some (d,r,n))(hr:rLook r=[]):rParse l=some d:=by unfold rParse;rw[h];simp only;rw[if_pos hr]
theorem parse_res (tmps:Array Value){W:World}{s:Nat}(h:TwoC W s)(h2:tmps[2]?=some (.pointer (some ⟨s,0,none⟩)))(h3:tmps[3]?=some (.pointer (some ⟨s+1,0,none⟩)))(v0 v1 v2 v3 v4 u0 u1 u2:Value)
  (hv:v0.oneCell'=true∧v1.oneCell'=true∧v2.oneCell'=true∧v3.oneCell'=true∧v4.oneCell'=true∧u0.oneCell'=true∧u1.oneCell'=true∧u2.oneCell'=true):
  (results Tryz.f88 tmps).run Tryz.prog (put8 W s v0 v1 v2 v3 v4 u0 u1 u2)=.ok (.tuple #[.agg #[v0,v1,v2,v3,v4],.agg #[u0,u1,u2]]) (put8 W s v0 v1 v2 v3 v4 u0 u1 u2):=by
 obtain⟨x0,x1,x2,x3,x4,y0,y1,y2,_,_,_,_,_,_,_,_⟩:=h
 simp(maxDischargeDepth:=10) [results,Tryz.results88,h2,h3,go_sem,x0,x1,x2,x3,x4,y0,y1,y2]
theorem parse_resD (tmps:Array Value){W:World}{s:Nat}(h:TwoC W s)(h2:tmps[2]?=some (.pointer (some ⟨s,0,none⟩)))(h3:tmps[3]?=some (.pointer (some ⟨s+1,0,none⟩)))(v0 v1 v2 v3 v4 u0 u1 u2:Value)
  (hv:v0.oneCell'=true∧v1.oneCell'=true∧v2.oneCell'=true∧v3.oneCell'=true∧v4.oneCell'=true∧u0.oneCell'=true∧u1.oneCell'=true∧u2.oneCell'=true):
  (results Tryz.f88 tmps).run Tryz.prog (put8 W s v0 v1 v2 v3 v4 u0 u1 u2).drew=.ok (.tuple #[.agg #[v0,v1,v2,v3,v4],.agg #[u0,u1,u2]]) (put8 W s v0 v1 v2 v3 v4 u0 u1 u2).drew:=by
 obtain⟨x0,x1,x2,x3,x4,y0,y1,y2,_,_,_,_,_,_,_,_⟩:=h
 simp(maxDischargeDepth:=10) [results,Tryz.results88,h2,h3,go_sem,x0,x1,x2,x3,x4,y0,y1,y2]
theorem PR.start {W w1:World}{s:ByteArray}{xs:List PtM}{A:Option Addr}{n c:Nat}(h:PtRow W w1 xs A n c)(hx:xs.map (fun x=>bl x.text)=rToks (s.size+1) (bl s))(hz:∀ x∈xs,x.text.size≤s.size)(hs:s.size≤4294967280)(t:TypeId):PR (w1.alloc (.cells #[.slice A n c,.int .i64 0] t)) w1.heap.size (w1.heap.size+1) (bl s) 0 n:=by
 have hn:0<n:=by
  rw[←h.len,←List.length_map (f:=fun x:PtM=>bl x.text),hx]
  obtain⟨r,e,_⟩:=rToks_cons s.size (bl s)
  rw[e];simp
 rcases h.row.2 with⟨_,h0⟩ | ⟨g,cap,cur,hv,h1,h2,h3,h4,h5,h6⟩
 ·omega
 ·injection hv with hA _ hc
  subst hc
  have hg:g<w1.heap.size:=by rw[Array.getElem?_eq_some_iff] at h2;exact h2.1
  refine⟨⟨g,0,c,s.size,xs,?_,?_,h.len,hx,by rw[bl_length];exact Nat.le_refl _,by omega,by omega,h3,h4,fun x hx=>Nat.le_trans (hz x hx) hs⟩,by omega,by simp⟩
  ·rw[←hA];exact Blk.new w1 [.slice A n c,.int .i64 0] t
  ·rw[←hA];exact(owns_rd h.row).below ((Below.refl _ _).alloc lr _)
theorem rdep_Parse (s:ByteArray)(w:World)(hG:Gl w)(hs:s.size≤1000000):
  Calls Tryz.prog 88 #[.string s] w (RParsePost s w):=by
 have HG:=hid hG
 obtain⟨W0,hW0⟩:∃ W0,(w.alloc (.cells #[.string ⟨#[]⟩,.string ⟨#[]⟩,.int .i64 0,.string ⟨#[]⟩,.slice none 0 0] 121)).alloc (.cells #[.string ⟨#[]⟩,.int .i64 0,.int .i64 0] 114)=W0:=⟨_,rfl⟩
 have T0:Hid (Two W0 w.heap.size):=by rw[←hW0];exact Two.new w _ _
 have B0:Hid (Below w.heap.size w W0):=by rw[←hW0];exact((Below.refl _ _).alloc lr _).alloc (by simp) _
 have Z0:Hid (W0.heap.size=w.heap.size+2):=by rw[←hW0];show _=_;simp
 clear hG
 go_enter Tryz.func88,Tryz.ntmps88
 go_wp2_with fail
 clear hW0
 refine(rdep_parts s W0 (by omega)).mono ?_;rintro e w1 ⟨A,n,c,xs,rfl,hrow,hnn,hxs,hxz⟩
 obtain⟨W2,hW2⟩:∃ W2,w1.alloc (.cells #[.slice A n c,.int .i64 0] 164)=W2:=⟨_,rfl⟩
 have P2:Hid (PR W2 w1.heap.size (w1.heap.size+1) (bl s) 0 n):=by rw[←hW2];exact PR.start hrow hxs hxz (by omega) _
 have B2:Hid (Below w.heap.size w W2):=by rw[←hW2];exact(bthen B0.out hrow.bel).alloc (by have:=hrow.bel.size;have:=Z0.out;omega) _
 have T2:Hid (Two W2 w.heap.size):=by rw[←hW2];exact(T0.out.below hrow.bel).below ((Below.refl _ _).alloc lr _)
 have Z2:Hid (w.heap.size+2≤w1.heap.size):=by have:=hrow.bel.size;have:=Z0.out;show _≤_;omega
 have G2:Hid (GlA w1.heap.size W2):=⟨w,HG.out,B2.out,by have:=Z2.out;omega⟩
 clear hrow hnn hxs hxz B0 T0
 go_upto_region 2 with(fail)
 clear hW2
 have hD:=(dep_grp_all (2*(bl s).length+2)).1 w1.heap.size (w1.heap.size+1) 0 n 0 (bl s) W2 (by omega) G2.out P2.out (by omega) (by omega)
 have hD:=Calls.int hD (args':=#[.pointer (some ⟨w1.heap.size,0,none⟩),.int .i64 0]) rfl
 go_wp2_with fail
 refine hD.mono ?_;rintro e w3 ⟨hg,hpost⟩
 clear hD
 have T3:=hid (T2.out.off hg (by have:=Z2.out;omega))
 have B3:=hid (below_grown B2.out hg (by have:=Z2.out;omega))
 have Z3:Hid (w.heap.size+2≤w3.heap.size):=by have:=T3.out.b1.sz;have:=hg.size;have:=P2.out.hz;have:=Z2.out;show _≤_;omega
 cases hr:rDep (2*(bl s).length+2) 0 0 (bl s) with
 | none=>
  rw[hr] at hpost
  obtain⟨ff,x,c,rfl,hc⟩:=hpost
  have EN:=hid (rParse_none hr)
  have hc1:(c != 0)=true:=by simp[hc]
  have hc2:(c==0)=false:=by simp[hc]
  have HC:=HidN.mk hc
  clear hr hc hg
  unfold fltV
  rw[zeroR_val]
  go_upto_region 3 with(fail)
  obtain⟨W4,hW4⟩:∃ W4,(w3.alloc (.cells #[.string ⟨#[]⟩,.string ⟨#[]⟩,.int .i64 0,.string ⟨#[]⟩,.slice none 0 0] 121)).alloc (.cells #[.string ff,.int .i64 x,.int .i64 c] 114)=W4:=⟨_,rfl⟩
  have B4:Hid (Below w3.heap.size w3 W4):=by rw[←hW4];exact((Below.refl _ _).alloc lr _).alloc (by simp) _
  have K4:Hid (Blk W4 (w3.heap.size+1) [.string ff,.int .i64 x,.int .i64 c]):=by
   have:=Blk.new (w3.alloc (.cells #[.string ⟨#[]⟩,.string ⟨#[]⟩,.int .i64 0,.string ⟨#[]⟩,.slice none 0 0] 121)) [.string ff,.int .i64 x,.int .i64 c] 114
   rw[←hW4];show Blk _ _ _;simpa using this
  have T4:=hid (T3.out.below B4.out)
  have B5:=hid (bthen B3.out B4.out)
  rw[hW4]
  clear hW4 T3 B3 B4
  have d0:=K4.out.cell 0 _ rfl
  have d1:=K4.out.cell 1 _ rfl
  have d2:=K4.out.cell 2 _ rfl
  have tc:=T4.out.c
  obtain⟨x0,x1,x2,x3,x4,y0,y1,y2,g0,g1,g2,g3,g4,k0,k1,k2⟩:=tc
  have hne1:¬ w.heap.size=w3.heap.size+1:=by have:=Z3.out;omega
  have hne2:¬ w3.heap.size+1=w.heap.size:=by have:=Z3.out;omega
  have hne3:¬ w.heap.size=w3.heap.size:=by have:=Z3.out;omega
  have hne4:¬ w3.heap.size=w.heap.size:=by have:=Z3.out;omega
  go_wp2_with fail
  go_region
  go_wp2_with fail
  refine bodyPost_ret (parse_resD _ T4.out.c rfl rfl _ _ _ _ _ _ _ _ ⟨rfl,rfl,rfl,rfl,rfl,rfl,rfl,rfl⟩) rfl ?_
  exact RParsePost.no EN.out (below_drew (put8_below B5.out lr _ _ _ _ _ _ _ _)) HC.out
 | some r=>
  obtain⟨t,l1,n1⟩:=r
  rw[hr] at hpost
  obtain⟨T,m1,rfl,hT,hgd,hown,hht,hn1,hn64,hpr,hm1⟩:=hpost
  have HT:=hid hT
  have HR:=hid hr
  have HGD:=hid hgd
  have HHT:Hid (T.ht≤32):=by show _≤_;omega
  have HCN:Hid (T.cnt≤64):=by show _≤_;omega
  obtain⟨W4,hW4⟩:∃ W4,(w3.alloc (.cells T.cells.toArray 121)).alloc (.cells #[.string ⟨#[]⟩,.int .i64 0,.int .i64 0] 114)=W4:=⟨_,rfl⟩
  have B4:Hid (Below w3.heap.size w3 W4):=by rw[←hW4];exact((Below.refl _ _).alloc lr _).alloc (by simp) _
  have D4:Hid (Blk W4 w3.heap.size T.cells):=by rw[←hW4];exact(Blk.new w3 T.cells _).alloc _
  have K4:Hid (Blk W4 (w3.heap.size+1) [.string ⟨#[]⟩,.int .i64 0,.int .i64 0]):=by
   have:=Blk.new (w3.alloc (.cells T.cells.toArray 121)) [.string ⟨#[]⟩,.int .i64 0,.int .i64 0] 114
   rw[←hW4];show Blk _ _ _;simpa using this
  have T4:=hid (T3.out.below B4.out)
  have B5:=hid (bthen B3.out B4.out)
  have P4:=hid (hpr.below B4.out)
  have O4:=hid ((hown.low B4.out).base (lo':=w.heap.size+2) (by have:=P2.out.sz;have:=Z2.out;omega))
  clear hr hT hgd hown hht hn1 hn64 hpr hm1 hg
  unfold fltV RchM.val
  go_upto_region 3 with(fail)
  have hW5:(w3.alloc (.cells #[.string T.op,.string T.nm,.int .i64 T.aop,.string T.ver,.slice T.ka T.kids.length T.kc] 121)).alloc (.cells #[.string ⟨#[]⟩,.int .i64 0,.int .i64 0] 114)=W4:=hW4
  rw[hW5]
  clear hW4 hW5 T3 B3 B4
  have e0:=K4.out.cell 0 _ rfl
  have e1:=K4.out.cell 1 _ rfl
  have e2:=K4.out.cell 2 _ rfl
  have tc:=T4.out.c
  obtain⟨x0,x1,x2,x3,x4,y0,y1,y2,g0,g1,g2,g3,g4,k0,k1,k2⟩:=tc
  obtain⟨b5,off5,c5,P,q,k5,hP,-⟩:=P4.out.cells
  have HP:=hid hP
  obtain⟨r0,r1,r2,r3,r4,r5,r6,r7,r8,r9,tz5⟩:=k5
  clear hP
  by_cases hp:bl P=[]
  ·have E1:P.toList=[]:=by rw[bl_toList];exact hp
   have E2:P.toList.isEmpty=true:=by rw[E1];rfl
   have EY:Hid (rParse (bl s)=some T.pl):=by show _=_;rw[HT.out];exact rParse_some HR.out (by rw[←HP.out];exact hp)
   have d0:=D4.out.cell 0 _ rfl
   have d1:=D4.out.cell 1 _ rfl
   have d2:=D4.out.cell 2 _ rfl
   have d3:=D4.out.cell 3 _ rfl
   have d4:=D4.out.cell 4 _ rfl
   clear hp
   go_wp2_with fail
   refine bodyPost_ret (parse_res _ T4.out.c rfl rfl _ _ _ _ _ _ _ _ ⟨rfl,rfl,rfl,rfl,rfl,rfl,rfl,rfl⟩) rfl ?_
   exact RParsePost.yes EY.out (put8_below B5.out lr _ _ _ _ _ _ _ _) HGD.out ((put8_own O4.out (by omega) _ _ _ _ _ _ _ _).base (by omega)) HHT.out HCN.out
  ·have E1:(P.toList==([]:List UInt8))=false:=by rw[bl_toList,beq_eq_false_iff_ne];exact hp
   have E2:P.toList.isEmpty=false:=by rw[bl_toList,List.isEmpty_eq_false_iff];exact hp
   have E3:¬ P.toList=[]:=by rw[bl_toList];exact hp
   have EN:Hid (rParse (bl s)=none):=rParse_rest HR.out (by rw[←HP.out];exact hp)
   clear hp
   go_wp2_with fail
   refine(rdep_fault P q 3 _).mono ?_;rintro e w5 ⟨rfl,hb⟩
   have B6:=hid (bthen B5.out hb)
   have T6:=hid (T4.out.below hb)
   have K6:=hid (K4.out.below hb)
   clear hb e0 e1 e2 x0 x1 x2 x3 x4 y0 y1 y2 g0 g1 g2 g3 g4 k0 k1 k2 r0 r1 r2 r3 r4 r5 r6 r7 r8 r9
   have e0:=K6.out.cell 0 _ rfl
   have e1:=K6.out.cell 1 _ rfl
   have e2:=K6.out.cell 2 _ rfl
   have h0:=K6.out.free 0 (by simp)
   have h1:=K6.out.free 1 (by simp)
   have h2:=K6.out.free 2 (by simp)
   unfold fltV
   go_upto_region 5 with(fail)
   clear e0 e1 e2 h0 h1 h2
   obtain⟨W7,hW7⟩:∃ W7,((w5.setCell ⟨w3.heap.size+1,0,none⟩ (.string ⟨#[]⟩)).setCell ⟨w3.heap.size+1,1,none⟩ (.int .i64 q)).setCell ⟨w3.heap.size+1,2,none⟩ (.int .i64 3)=W7:=⟨_,rfl⟩
   have K7:Hid (Blk W7 (w3.heap.size+1) [.string ⟨#[]⟩,.int .i64 q,.int .i64 3]):=by rw[←hW7];exact((K6.out.set 0 (by simp) (.string ⟨#[]⟩)).set 1 (by simp) (.int .i64 q)).set 2 (by simp) (.int .i64 3)
   have ha:w.heap.size+1<w3.heap.size+1:=by have:=Z3.out;omega
   have T7:Hid (Two W7 w.heap.size):=by rw[←hW7];exact((T6.out.off (kept_set _) ha).off (kept_set _) ha).off (kept_set _) ha
   have B7:Hid (Below w.heap.size w W7):=by rw[←hW7];exact below_set (below_set (below_set B6.out (by omega) _) (by omega) _) (by omega) _
   rw[hW7]
   clear hW7 T6 B6 K6 ha
   have e0:=K7.out.cell 0 _ rfl
   have e1:=K7.out.cell 1 _ rfl
   have e2:=K7.out.cell 2 _ rfl
   have tc:=T7.out.c
   obtain⟨x0,x1,x2,x3,x4,y0,y1,y2,g0,g1,g2,g3,g4,k0,k1,k2⟩:=tc
   have hne1:¬ w.heap.size=w3.heap.size+1:=by have:=Z3.out;omega
   have hne2:¬ w3.heap.size+1=w.heap.size:=by have:=Z3.out;omega
   have hne3:¬ w.heap.size=w3.heap.size:=by have:=Z3.out;omega
   have hne4:¬ w3.heap.size=w.heap.size:=by have:=Z3.out;omega
   go_wp2_with fail
   go_region
   go_wp2_with fail
   refine bodyPost_ret (parse_resD _ T7.out.c rfl rfl _ _ _ _ _ _ _ _ ⟨rfl,rfl,rfl,rfl,rfl,rfl,rfl,rfl⟩) rfl ?_
   exact RParsePost.no EN.out (below_drew (put8_below B7.out lr _ _ _ _ _ _ _ _)) (by decide)
end
end Go.Proofs.YtdfdllbebfoggaaGreatDoor
