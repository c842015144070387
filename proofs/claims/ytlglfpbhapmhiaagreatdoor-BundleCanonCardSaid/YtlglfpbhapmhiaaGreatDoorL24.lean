/- A part of the proof. -/
import Derived.Test.YtlglfpbhapmhiaaGreatDoorL23
set_option maxRecDepth 100000
set_option maxHeartbeats 20000000
set_option linter.unusedVariables false
set_option linter.unusedSimpArgs false
namespace Go.Proofs.YtlglfpbhapmhiaaGreatDoor
section
open Go.RowKit Go.Deep
structure xq (w:World) (b:Nat) (ms:List (an×Nat)):Prop where
 map:fC w b ms
 val:∀ p∈ms,p.2=cZ p.1.kids
theorem xq.below {w w':World}{b:Nat}{ms:List (an×Nat)}(h:xq w b ms)(hb:Below w.heap.size w w'):xq w' b ms:=⟨h.map.below hb,h.val⟩
def Sx (T:an):Prop:=∀ (w:World)(b:Nat)(ms:List (an×Nat)),xq w b ms->bT w 0 none T->eM T->T.cnt<=64 ->
 Calls Tryz.prog 215 #[T.val,.map (some b)] w fun e w'=>e=.returned (.int .i64 T.cnt)/\w.grownBy w' (some b)/\∃ ms',xq w' b ms'
theorem Mu (T:an)(IH:∀ t:an,t.ht<T.ht->Sx t):Sx T:=by
 intro w b ms hM hO hS hc;have hmm:=@run_makeMap Tryz.prog;have HM:=ae hM;have HO:=ae hO;have HS:=ae hS;have HC:=ae hc;have HIH:=ae IH;clear hM hO hS IH hc;obtain⟨W1,hW1⟩:∃ W1,w.alloc (.cells #[.string T.op,.string T.nm,.int .i64 T.aop,.string T.ver,.slice T.ka T.kids.length T.kc] 170)=W1:=⟨_,rfl⟩
 have B1:Hid (Below w.heap.size w W1):=by rw[<-hW1];exact bR.alloc lr _
 have K1:Hid (ax W1 w.heap.size T.cells):=by rw[<-hW1];exact ax.new w T.cells _
 by_cases tk:T.kids=[]
 ·have o0:T.op.toList=[]:=by rw[aj];exact bX _ (HS.out.leaf tk)
  have o1:T.op.toList.isEmpty=true:=by rw[o0];rfl
  have E:Hid (T.cnt=1):=Mq tk;have M1:=ae (HM.out.below B1.out);have k0:=K1.out.cell 0 _ rfl;clear tk hmm;unfold an.val;go_in;go_wp2;go_ret;exact⟨aI (by rw[E.out];rfl),dW B1.out _,ms,M1.out⟩
 obtain⟨g,cur,hA,hg,-⟩:=mY HO.out tk;have o0:(T.op.toList==([]:LU))=false:=by rw[aj,bF];intro e;exact HS.out.node tk (by rw[<-ah,e];rfl)
 have o1:T.op.toList.isEmpty=false:=by rw[aj,bj];exact dF (HS.out.node tk)
 have o2:¬ T.op.toList=[]:=by intro e;rw[e] at o1;simp at o1
 have HKA:=ae hA;obtain⟨tl,htl⟩:∃ tl,T.kids.length=tl:=⟨_,rfl⟩
 have HTL:=ae htl;have htp:0<tl:=by rw[<-htl];exact List.length_pos_iff.2 tk
 have CN:Hid (T.cnt=cZ T.kids):=gu tk;have ht64:tl<=64:=by have h1:=ij T.kids;have:=HC.out;have:=CN.out;omega
 have hix3:∀ W:World,(Instr.indexAt 168 (.slice T.ka tl T.kc) (.int .i64 0)).run Tryz.prog W=.ok (.pointer (some ⟨g,0,none⟩)) W:=by
  have hix2:=fun W=>aB (T:=168) (E:=170) (sz:=5) (n:=tl) (c:=T.kc) (k:=0) Tryz.underlying168 rfl Tryz.sizeOf170 hA htp W;simp only[Nat.zero_mul,Nat.add_zero] at hix2;exact hix2
 have HTK:Hid (T.kids≠[]):=tk;have l1:((tl:Int)==0)=false:=by simp;omega
 have KEY:Hid (T.key=.agg #[.pointer (some ⟨g,0,none⟩),.int .i64 tl]):=by show _=_;unfold an.key;rw[HKA.out,HTL.out]
 have KV:Hid (T.val=.agg #[.string T.op,.string T.nm,.int .i64 T.aop,.string T.ver,.slice T.ka tl T.kc]):=by show _=_;unfold an.val;rw[HTL.out]
 have hw1:w.heap.size<W1.heap.size:=K1.out.sz;have hne:¬ w.heap.size=W1.heap.size:=by omega
 have u0:=K1.out.cell 0 _ rfl;have u4:=K1.out.cell 4 _ rfl;rw[htl] at hW1 u4;rw[KV.out];clear tk hA hg htl;go_in;go_upto_region 5 with(fail)
 clear hW1;go_region;obtain⟨W2,hW2⟩:∃ W2,(W1.alloc (.cells #[.pointer (some ⟨g,0,none⟩),.int .i64 tl] 288)).drew=W2:=⟨_,rfl⟩
 have B2:Hid (Below W1.heap.size W1 W2):=by rw[<-hW2];exact mZ ((Below.refl W1.heap.size W1).alloc lr _)
 have K2:Hid (ax W2 W1.heap.size [.pointer (some ⟨g,0,none⟩),.int .i64 tl]):=by rw[<-hW2];exact(ax.new W1 [.pointer (some ⟨g,0,none⟩),.int .i64 tl] _).drew
 have BW:Hid (Below w.heap.size w W2):=aq B1.out B2.out;have KB:=ae (K1.out.below B2.out);have M2:=ae (HM.out.below BW.out);have O2:=ae (HO.out.low BW.out);have hbw:b<w.heap.size:=HM.out.map.lt;rw[hW2];clear hW2 u0 u4 hix3 hw1 hne o0 o1 o2 l1;have v0:=K2.out.cell 0 _ rfl;have v1:=K2.out.cell 1 _ rfl;have u4:=KB.out.cell 4 _ rfl;rw[HTL.out] at u4;have hlook:=M2.out.map.look O2.out HTK.out;rw[KEY.out] at hlook;rcases hlook with hlk | ⟨p,hp,hpk,hlk⟩
 ·go_wp2_with fail;clear hlk v0 v1 u4;go_loopw [8,36] (fun sv iv wr=>∃ (i s:Nat) (ms:List (an×Nat)),sv=.int .i64 s/\iv=.int .i64 i/\i<=tl/\s<=64/\Hid (s=cZ (T.kids.take i))/\Hid (xq wr b ms)/\Hid (bT wr 0 none T)/\Hid (ax wr W1.heap.size [.pointer (some ⟨g,0,none⟩),.int .i64 tl])/\Hid (w.grownBy wr (some b))) (fun _ iv _=>tl-(intOf iv).toNat)
  case atStart=>exact⟨0,0,ms,rfl,rfl,z0,by omega,by simp[Hid,cZ],M2,O2,K2,dW BW.out _⟩
  case round=>
   clear M2 O2 BW KB;obtain⟨i,s,ms,rfl,rfl,hi,hs,HSM,HM2,HO2,HK2,HG⟩:=hrel;by_cases hlt:i<tl
   ·obtain⟨t,ht⟩:∃ t,T.kids[i]?=some t:=⟨_,gG (by rw[HTL.out];exact hlt)⟩
    have htm:Hid (t∈T.kids):=gM ht;obtain⟨b',off,hA,he⟩:=HO2.out.rd.cell i t ht;have e0:=he 0 _ rfl;have e1:=he 1 _ rfl;have e2:=he 2 _ rfl;have e3:=he 3 _ rfl;have e4:=he 4 _ rfl;simp only[Nat.add_zero] at e0;have hix:=fun W=>aB (T:=168) (E:=170) (sz:=5) (c:=T.kc) Tryz.underlying168 rfl Tryz.sizeOf170 hA hlt W;have SM:Hid (s+t.cnt=cZ (T.kids.take (i+1))):=by show _=_;rw[yw ht,HSM.out]
    have hs2:s+t.cnt<=64:=by have h1:=SM.out;have h2:=jI T.kids (i+1);have:=HC.out;have:=CN.out;omega
    obtain⟨W3,hW3⟩:∃ W3,wr.alloc (.cells #[.string t.op,.string t.nm,.int .i64 t.aop,.string t.ver,.slice t.ka t.kids.length t.kc] 170)=W3:=⟨_,rfl⟩
    have B3:Hid (Below wr.heap.size wr W3):=by rw[<-hW3];exact bR.alloc lr _
    have M3:=ae (HM2.out.below B3.out);have O3:=ae (HO2.out.low B3.out);have hcall:=HIH.out t (Mr htm.out) W3 b ms M3.out (O3.out.kids t htm.out) (HS.out.kids t htm.out) (by omega);unfold an.val at hcall;have K3:Hid (ax W3 wr.heap.size t.cells):=by rw[<-hW3];exact ax.new wr t.cells _
    have a0:=K3.out.cell 0 _ rfl;have a1:=K3.out.cell 1 _ rfl;have a2:=K3.out.cell 2 _ rfl;have a3:=K3.out.cell 3 _ rfl;have a4:=K3.out.cell 4 _ rfl;clear ht hA he;go_wp2_with fail;refine hcall.mono ?_;rintro e w4 ⟨rfl,hg,ms',hm'⟩;have K4:=ae ((HK2.out.below B3.out).grownBy hg (by simp;have:=B2.out.size;have:=hbw;have:=B1.out.size;omega));have O4:=ae (O3.out.tame (.map M3.out.map) hg);have M4:=ae hm';have G4:=ae (ak (mT HG.out B3.out) hg);clear hW3 hcall hg hm' a0 a1 a2 a3 a4 e0 e1 e2 e3 e4 hix;go_wp2;go_roundw
    case rel=>exact⟨i+1,s+t.cnt,ms',by congr 1;omega,by go_num,by omega,hs2,SM,M4,O4,K4,G4⟩
    case measure=>simp[intOf];omega
   ·have E:Hid (T.cnt=s):=by show _=_;rw[HSM.out,tL (by rw[HTL.out];omega),CN.out]
    obtain⟨w1,ms',r1,k1,g1,z1,f1,-,-⟩:=HM2.out.map.put HO2.out HTK.out s;rw[KEY.out] at r1;have M5:Hid (xq w1 b ms'):=⟨k1,fun p hp=>by
     rcases f1 p hp with⟨q,hq,rfl⟩ | ⟨h1,h2⟩
     ·exact HM2.out.val q hq
     ·rw[h1,h2,<-CN.out,E.out]⟩
    have G5:=ae (ak HG.out g1);have v0:=HK2.out.cell 0 _ rfl;have v1:=HK2.out.cell 1 _ rfl;clear k1 g1 z1 f1;go_wp2;go_ret;exact⟨aI (by rw[E.out]),G5.out,ms',M5.out⟩
 ·have E:Hid (p.2=T.cnt):=by show _=_;rw[CN.out,M2.out.val p hp,hpk]
  have G2:=ae (dW BW.out (some b));clear hp hpk;go_wp2;go_ret;exact⟨aI (by rw[E.out]),G2.out,ms,M2.out⟩
theorem Fs (T:an):Sx T:=by
 have:∀ n:Nat,∀ T:an,T.ht<n->Sx T:=by
  intro n
  induction n with
  | zero=>intro T h;omega
  | succ n ih=>intro T h;exact Mu T fun t ht=>ih t (by omega)
 exact this (T.ht+1) T (by omega)
theorem vt (nm:BA)(aop:Nat)(ver:BA)(hn:ed (bl nm)=true)(ho:aop<=5)(hv0:aop=0->ver.size=0)(hv:0<aop->dm 2 ver=0)(w:World)(hG:Gl w):Calls Tryz.prog 242 #[.agg #[.string ⟨#[]⟩,.string nm,.int .i64 aop,.string ver,.slice none 0 0]] w fun e w'=>e=.returned (.int .i64 0)/\Below w.heap.size w w':=by
 have hnz:=nK hn;have hN:=fun W=>nN nm W (by omega);rw[hn] at hN;have HG:=ae hG;have HV0:=ae hv0;have HV:=ae hv;clear hn hv0 hv hG;obtain⟨W1,hW1⟩:∃ W1,w.alloc (.cells #[.string ⟨#[]⟩,.string nm,.int .i64 aop,.string ver,.slice none 0 0] 170)=W1:=⟨_,rfl⟩
 have B1:Hid (Below w.heap.size w W1):=by rw[<-hW1];exact bR.alloc lr _
 have K1:Hid (ax W1 w.heap.size [.string ⟨#[]⟩,.string nm,.int .i64 aop,.string ver,.slice none 0 0]):=by rw[<-hW1];exact ax.new w [.string ⟨#[]⟩,.string nm,.int .i64 aop,.string ver,.slice none 0 0] _
 have k1:=K1.out.cell 1 _ rfl;have k2:=K1.out.cell 2 _ rfl;have k3:=K1.out.cell 3 _ rfl;have k4:=K1.out.cell 4 _ rfl;by_cases a0:aop=0
 ·have he:ver.toList=[]:=by rw[aj,bX ver (HV0.out a0)]
  have he2:ver.toList.isEmpty=true:=by rw[he];rfl
  subst a0;go_in;go_wp2_with fail;refine(hN _).mono ?_;rintro e w' ⟨rfl,rfl⟩;go_wp2;go_ret;exact⟨rfl,bR.alloc lr _⟩
 ·have hvv:=HV.out (by omega);have q0:((aop:Int)==0)=false:=by simp;omega
  have q1:decide ((aop:Int)<0)=false:=dF (by omega);have q2:decide ((5:Int)<(aop:Int))=false:=dF (by omega);have q3:decide (5<aop)=false:=dF (by omega);have hvz:=uZ hvv;have hC:=aZ 2 ver W1 (HG.out.below B1.out) (by omega);rw[hvv] at hC;clear a0 hvv hvz;go_in;go_wp2_with fail;refine(hN _).mono ?_;rintro e w' ⟨rfl,rfl⟩;go_wp2_with fail;refine hC.mono ?_;rintro e w2 ⟨rfl,hb⟩;have B2:=ae (aq B1.out hb);clear hb;go_wp2;go_ret;exact⟨rfl,B2.out⟩
theorem sV (w:World):Calls Tryz.prog 242 #[.agg #[.string ⟨#[]⟩,.string ⟨#[]⟩,.int .i64 0,.string ⟨#[]⟩,.slice none 0 0]] w fun e w'=>e=.returned (.int .i64 10)/\Below w.heap.size w w':=by
 have hN:=fun W=>nN ⟨#[]⟩ W (by decide);rw[show ed (bl ⟨#[]⟩)=false from by rfl] at hN;have B1:Hid (Below w.heap.size w (w.alloc (.cells #[.string ⟨#[]⟩,.string ⟨#[]⟩,.int .i64 0,.string ⟨#[]⟩,.slice none 0 0] 170))):=bR.alloc lr _;go_in;go_wp2_with fail;refine(hN _).mono ?_;rintro e w' ⟨rfl,rfl⟩;go_wp2;go_ret;exact⟨rfl,B1.out⟩
theorem Cn (w:World):Calls Tryz.prog 216 #[.agg #[.string ⟨#[]⟩,.string ⟨#[]⟩,.int .i64 0,.string ⟨#[]⟩,.slice none 0 0]] w fun e w'=>e=.returned (.int .i64 10)/\Below w.heap.size w w':=by
 have B1:Hid (Below w.heap.size w (w.alloc (.cells #[.string ⟨#[]⟩,.string ⟨#[]⟩,.int .i64 0,.string ⟨#[]⟩,.slice none 0 0] 170))):=bR.alloc lr _;go_in;go_wp2_with fail;refine(sV _).mono ?_;rintro e w2 ⟨rfl,hb⟩;have B2:=ae (aq B1.out hb);clear hb;go_wp2;go_ret;exact⟨rfl,B2.out⟩
def SI (T:an):Prop:=∀ w:World,Gl w->bT w 0 none T->T.cnt<=64->Calls Tryz.prog 216 #[T.val] w fun e w'=>e=.returned (.int .i64 0)/\Below w.heap.size w w'
theorem Fx {T:an}(h:gL T):SI T:=by
 induction h with
 | atom nm aop ver hn ho hv0 hv=>
  intro w hG _ _;have hA:=fun W hW=>vt nm aop ver hn ho hv0 hv W hW;have HG:=ae hG;clear hn ho hv0 hv hG;obtain⟨W1,hW1⟩:∃ W1,w.alloc (.cells #[.string ⟨#[]⟩,.string nm,.int .i64 aop,.string ver,.slice none 0 0] 170)=W1:=⟨_,rfl⟩
  have B1:Hid (Below w.heap.size w W1):=by rw[<-hW1];exact bR.alloc lr _
  have K1:Hid (ax W1 w.heap.size [.string ⟨#[]⟩,.string nm,.int .i64 aop,.string ver,.slice none 0 0]):=by rw[<-hW1];exact ax.new w [.string ⟨#[]⟩,.string nm,.int .i64 aop,.string ver,.slice none 0 0] _
  have k0:=K1.out.cell 0 _ rfl;have k1:=K1.out.cell 1 _ rfl;have k2:=K1.out.cell 2 _ rfl;have k3:=K1.out.cell 3 _ rfl;have k4:=K1.out.cell 4 _ rfl;show Calls Tryz.prog 216 #[.agg #[.string ⟨#[]⟩,.string nm,.int .i64 aop,.string ver,.slice none 0 0]] w _;go_in;go_wp2_with fail;refine(hA _ (HG.out.below B1.out)).mono ?_;rintro e w2 ⟨rfl,hb⟩;have B2:=ae (aq B1.out hb);clear hb;go_wp2;go_ret;exact⟨rfl,B2.out⟩
 | node op ka kc kids ho hc hk ih=>
  intro w hG hO hcn;have HG:=ae hG;have HO:=ae hO;have HIH:=ae ih;have hw:=(mo ho).1;have o0:(op.toList==([]:LU))=false:=by rw[aj,bF];exact hw
  have o2:¬ op.toList=[]:=by rw[aj];exact hw
  have o1:op.toList.isEmpty=false:=by rw[List.isEmpty_eq_false_iff];exact o2
  obtain⟨tl,htl⟩:∃ tl,kids.length=tl:=⟨_,rfl⟩
  have HTL:=ae htl;obtain⟨W1,hW1⟩:∃ W1,w.alloc (.cells #[.string op,.string ⟨#[]⟩,.int .i64 0,.string ⟨#[]⟩,.slice ka tl kc] 170)=W1:=⟨_,rfl⟩
  have B1:Hid (Below w.heap.size w W1):=by rw[<-hW1];exact bR.alloc lr _
  have K1:Hid (ax W1 w.heap.size [.string op,.string ⟨#[]⟩,.int .i64 0,.string ⟨#[]⟩,.slice ka tl kc]):=by rw[<-hW1];exact ax.new w [.string op,.string ⟨#[]⟩,.int .i64 0,.string ⟨#[]⟩,.slice ka tl kc] _
  have k0:=K1.out.cell 0 _ rfl;have k1:=K1.out.cell 1 _ rfl;have k2:=K1.out.cell 2 _ rfl;have k3:=K1.out.cell 3 _ rfl;have k4:=K1.out.cell 4 _ rfl;have hK:=vj op W1 (HG.out.below B1.out);rw[ho] at hK;have hC:=rX op tl W1;rw[<-htl,hc,htl] at hC;have O1:Hid (bT W1 0 none (.mk op ⟨#[]⟩ 0 ⟨#[]⟩ ka kc kids)):=HO.out.low B1.out;have CNE:=ae (gu (t:=.mk op ⟨#[]⟩ 0 ⟨#[]⟩ ka kc kids) (by have:=mj hc;intro e;simp only[an.kids] at e;rw[e] at this;simp at this));have HCN:Hid (cZ kids<=64):=by have h1:=CNE.out;simp only[an.kids] at h1;show _<=_;omega
  have htl9:tl<=64:=by have h1:=ij kids;have:=HCN.out;omega
  clear ho hc hk ih hG hO hw htl hcn CNE;show Calls Tryz.prog 216 #[.agg #[.string op,.string ⟨#[]⟩,.int .i64 0,.string ⟨#[]⟩,.slice ka kids.length kc]] w _;rw[HTL.out];go_in;go_wp2_with fail;refine hK.mono ?_;rintro e w' ⟨rfl,rfl⟩;go_wp2_with fail;refine hC.mono ?_;rintro e w' ⟨rfl,rfl⟩;clear hK hC;go_wp2_with fail;clear k0 k1 k2 k3 k4;go_loopw [2,29] (fun rv iv wr=>∃ i:Nat,rv=.int .i64 0/\iv=.int .i64 i/\i<=tl/\Hid (Below w.heap.size w wr)) (fun _ iv _=>tl-(intOf iv).toNat)
  case atStart=>exact⟨0,rfl,rfl,z0,B1⟩
  case round=>
   obtain⟨i,rfl,rfl,hi,HB⟩:=hrel;by_cases hlt:i<tl
   ·obtain⟨t,ht⟩:∃ t,kids[i]?=some t:=⟨_,gG (by rw[HTL.out];exact hlt)⟩
    have htm:Hid (t∈kids):=gM ht;have O2:=HO.out.low HB.out;obtain⟨b',off,hA,he⟩:=O2.rd.cell i t ht;have e0:=he 0 _ rfl;have e1:=he 1 _ rfl;have e2:=he 2 _ rfl;have e3:=he 3 _ rfl;have e4:=he 4 _ rfl;simp only[Nat.add_zero] at e0;have hix:=fun W=>aB (T:=168) (E:=170) (sz:=5) (n:=tl) (c:=kc) (A:=ka) Tryz.underlying168 rfl Tryz.sizeOf170 hA hlt W;obtain⟨W3,hW3⟩:∃ W3,wr.alloc (.cells #[.string t.op,.string t.nm,.int .i64 t.aop,.string t.ver,.slice t.ka t.kids.length t.kc] 170)=W3:=⟨_,rfl⟩
    have B3:Hid (Below wr.heap.size wr W3):=by rw[<-hW3];exact bR.alloc lr _
    have K3:Hid (ax W3 wr.heap.size t.cells):=by rw[<-hW3];exact ax.new wr t.cells _
    have B4:=ae (aq HB.out B3.out);have hcall:=HIH.out t htm.out W3 (HG.out.below B4.out) ((O2.low B3.out).kids t htm.out) (by have h1:=kq htm.out;have:=HCN.out;omega);unfold an.val at hcall;have a0:=K3.out.cell 0 _ rfl;have a1:=K3.out.cell 1 _ rfl;have a2:=K3.out.cell 2 _ rfl;have a3:=K3.out.cell 3 _ rfl;have a4:=K3.out.cell 4 _ rfl;clear ht hA he O2;go_wp2_with fail;refine hcall.mono ?_;rintro e w4 ⟨rfl,hb⟩;have B5:=ae (aq B4.out hb);clear hW3 hcall hb e0 e1 e2 e3 e4 hix a0 a1 a2 a3 a4;go_wp2;go_roundw
    case rel=>exact⟨i+1,rfl,by go_num,by omega,B5⟩
    case measure=>simp[intOf];omega
   ·go_wp2;go_ret;exact⟨rfl,HB.out⟩
theorem ng (T:an)(c:Int)(hS:eM T)(hcn:T.cnt<=64)(hht:T.ht<=32)(w:World)(hG:Gl w)(hO:bT w 0 none T)
  (hch:∀ W,Gl W->bT W 0 none T->Calls Tryz.prog 216 #[T.val] W fun e w'=>e=.returned (.int .i64 c)/\Below W.heap.size W w'):Calls Tryz.prog 178 #[T.val] w fun e w'=>e=.returned (.int .i64 c)/\Below w.heap.size w w':=by
 have hmm:=@run_makeMap Tryz.prog;have HG:=ae hG;have HO:=ae hO;have HCH:=ae hch;obtain⟨W1,hW1⟩:∃ W1,w.alloc (.cells #[.string T.op,.string T.nm,.int .i64 T.aop,.string T.ver,.slice T.ka T.kids.length T.kc] 170)=W1:=⟨_,rfl⟩
 have B1:Hid (Below w.heap.size w W1):=by rw[<-hW1];exact bR.alloc lr _
 have K1:Hid (ax W1 w.heap.size T.cells):=by rw[<-hW1];exact ax.new w T.cells _
 have k0:=K1.out.cell 0 _ rfl;have k1:=K1.out.cell 1 _ rfl;have k2:=K1.out.cell 2 _ rfl;have k3:=K1.out.cell 3 _ rfl;have k4:=K1.out.cell 4 _ rfl;have hD:=Fr T W1 (HO.out.low B1.out) hS hcn (by omega);have HA:Hid (∀ (W:World)(b:Nat)(ms:List (an×Nat)),xq W b ms->bT W 0 none T->Calls Tryz.prog 215 #[T.val,.map (some b)] W fun e w'=>e=.returned (.int .i64 T.cnt)/\W.grownBy w' (some b)/\∃ ms',xq w' b ms'):=fun W b ms h1 h2=>Fs T W b ms h1 h2 hS hcn;clear hS hG hO hch;unfold an.val at *;go_in;go_wp2_with fail;clear hW1;refine hD.mono ?_;rintro e w2 ⟨⟨r,rfl,hr⟩,hb⟩;have B2:=ae (aq B1.out hb);have K2:=ae (K1.out.below hb);clear hb k0 k1 k2 k3 k4;have k0:=K2.out.cell 0 _ rfl;have k1:=K2.out.cell 1 _ rfl;have k2:=K2.out.cell 2 _ rfl;have k3:=K2.out.cell 3 _ rfl;have k4:=K2.out.cell 4 _ rfl;have q1:decide ((32:Int)<(r:Int))=false:=dF (by omega);have q2:decide (32<r)=false:=dF (by omega);obtain⟨W3,hW3⟩:∃ W3,w2.alloc (.map #[] 0)=W3:=⟨_,rfl⟩
 have M3:Hid (xq W3 w2.heap.size []):=by rw[<-hW3];exact⟨fC.made w2,by simp⟩
 have B3:Hid (Below w2.heap.size w2 W3):=by rw[<-hW3];exact bR.alloc lr _
 have B4:=ae (aq B2.out B3.out);have hA:=HA.out W3 w2.heap.size [] M3.out (HO.out.low B4.out);have q3:decide ((64:Int)<(T.cnt:Int))=false:=dF (by omega);have q4:decide (64<T.cnt)=false:=dF (by omega);go_wp2_with fail;refine hA.mono ?_;rintro e w4 ⟨rfl,hg,ms',hm⟩;have K4:=ae ((K2.out.below B3.out).grownBy hg (by simp;have:=K2.out.sz;omega));have B5:=ae (dU B4.out hg B2.out.size);clear hW3 hg hm k0 k1 k2 k3 k4 hA;have k0:=K4.out.cell 0 _ rfl;have k1:=K4.out.cell 1 _ rfl;have k2:=K4.out.cell 2 _ rfl;have k3:=K4.out.cell 3 _ rfl;have k4:=K4.out.cell 4 _ rfl;go_wp2_with fail;refine(HCH.out w4 (HG.out.below B5.out) (HO.out.low B5.out)).mono ?_;rintro e w5 ⟨rfl,hb⟩;have B6:=ae (aq B5.out hb);clear hb;go_wp2;go_ret;exact⟨rfl,B6.out⟩
end
end Go.Proofs.YtlglfpbhapmhiaaGreatDoor
