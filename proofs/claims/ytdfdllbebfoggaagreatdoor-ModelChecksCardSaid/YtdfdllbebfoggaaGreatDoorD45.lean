/- A part of the proof that ModelChecks holds. No condition. -/
import Derived.Test.YtdfdllbebfoggaaGreatDoorD34
import Derived.Test.YtdfdllbebfoggaaGreatDoorD37
set_option maxRecDepth 100000
set_option maxHeartbeats 20000000
set_option linter.unusedVariables false
set_option linter.unusedSimpArgs false
namespace Go.Proofs.YtdfdllbebfoggaaGreatDoor
section
open Go.RowKit Go.Deep
theorem r15_inner_atom (nm:BA)(aop:Nat)(ver:BA)(hn:rnameB (bl nm)=true)(ho:aop≤5)(hv0:aop=0→ver.size=0)(hv:0<aop→verE 2 ver=0)(w:World):
  Calls Tryz.prog 260 #[.agg #[.string ⟨#[]⟩,.string nm,.int .i64 aop,.string ver,.slice none 0 0]] w fun e w'=>e=.returned (.int .i64 0)∧Below w.heap.size w w':=by
 have hnz:=rname_len hn
 have hN:=fun W=>r15_Name nm W (by omega)
 rw[hn] at hN
 have HV0:=hid hv0
 have HV:=hid hv
 clear hn hv0 hv
 obtain⟨W1,hW1⟩:∃ W1,w.alloc (.cells #[.string ⟨#[]⟩,.string nm,.int .i64 aop,.string ver,.slice none 0 0] 121)=W1:=⟨_,rfl⟩
 have B1:Hid (Below w.heap.size w W1):=by rw[←hW1];exact bR.alloc lr _
 have K1:Hid (Blk W1 w.heap.size [.string ⟨#[]⟩,.string nm,.int .i64 aop,.string ver,.slice none 0 0]):=by rw[←hW1];exact Blk.new w [.string ⟨#[]⟩,.string nm,.int .i64 aop,.string ver,.slice none 0 0] _
 have k0:=K1.out.cell 0 _ rfl
 have k1:=K1.out.cell 1 _ rfl
 have k2:=K1.out.cell 2 _ rfl
 have k3:=K1.out.cell 3 _ rfl
 have k4:=K1.out.cell 4 _ rfl
 by_cases a0:aop=0
 ·have he:ver.toList=[]:=by rw[bl_toList,bl_nil ver (HV0.out a0)]
  have he2:ver.toList.isEmpty=true:=by rw[he];rfl
  subst a0
  go_enter Tryz.func260,Tryz.ntmps260
  go_wp2_with fail
  refine(hN _).mono ?_;rintro e w' ⟨rfl,rfl⟩
  go_wp2_with fail
  go_ret
  exact⟨rfl,bR.alloc lr _⟩
 ·have hvv:=HV.out (by omega)
  have q0:((aop:Int)==0)=false:=by simp;omega
  have q1:decide ((aop:Int)<0)=false:=dF (by omega)
  have q2:decide ((5:Int)<(aop:Int))=false:=dF (by omega)
  have q3:decide (5<aop)=false:=dF (by omega)
  have hvz:=ver_size hvv
  have hC:=r12_Check 2 ver W1 (by omega)
  rw[hvv] at hC
  clear a0 hvv hvz
  go_enter Tryz.func260,Tryz.ntmps260
  go_wp2_with fail
  refine(hN _).mono ?_;rintro e w' ⟨rfl,rfl⟩
  go_wp2_with fail
  refine hC.mono ?_;rintro e w2 ⟨rfl,hb⟩
  have B2:=hid (bthen B1.out hb)
  clear hb
  go_wp2_with fail
  go_ret
  exact⟨rfl,B2.out⟩
theorem r15_inner0 (w:World):
  Calls Tryz.prog 260 #[.agg #[.string ⟨#[]⟩,.string ⟨#[]⟩,.int .i64 0,.string ⟨#[]⟩,.slice none 0 0]] w fun e w'=>e=.returned (.int .i64 10)∧Below w.heap.size w w':=by
 have hN:=fun W=>r15_Name ⟨#[]⟩ W (by decide)
 rw[show rnameB (bl ⟨#[]⟩)=false from by rfl] at hN
 have B1:Hid (Below w.heap.size w (w.alloc (.cells #[.string ⟨#[]⟩,.string ⟨#[]⟩,.int .i64 0,.string ⟨#[]⟩,.slice none 0 0] 121))):=bR.alloc lr _
 go_enter Tryz.func260,Tryz.ntmps260
 go_wp2_with fail
 refine(hN _).mono ?_;rintro e w' ⟨rfl,rfl⟩
 go_wp2_with fail
 go_ret
 exact⟨rfl,B1.out⟩
def RInC (T:RchM):Prop:=∀ w:World,TOwn w 0 none T→T.cnt≤64→Calls Tryz.prog 260 #[T.val] w fun e w'=>e=.returned (.int .i64 0)∧Below w.heap.size w w'
theorem r15_inner {T:RchM}(h:TGood T):RInC T:=by
 induction h with
 | atom nm aop ver hn ho hv0 hv=>
  intro w _ _
  exact r15_inner_atom nm aop ver hn ho hv0 hv w
 | node op ka kc kids ho hc hk ih=>
  intro w hO hcn
  have HO:=hid hO
  have HIH:=hid ih
  have hw:=(word_ne ho).1
  have o0:(op.toList==([]:LU))=false:=by rw[bl_toList,bF];exact hw
  have o2:¬ op.toList=[]:=by rw[bl_toList];exact hw
  have o1:op.toList.isEmpty=false:=by rw[List.isEmpty_eq_false_iff];exact o2
  obtain⟨tl,htl⟩:∃ tl,kids.length=tl:=⟨_,rfl⟩
  have HTL:=hid htl
  have CNE:=hid (cnt_node (t:=.mk op ⟨#[]⟩ 0 ⟨#[]⟩ ka kc kids) (by have:=closes_two hc;intro e;simp only[RchM.kids] at e;rw[e] at this;simp at this))
  have HCN:Hid (cntL kids≤64):=by have h1:=CNE.out;simp only[RchM.kids] at h1;show _≤_;omega
  have htl9:tl≤64:=by have h1:=cntL_len kids;have:=HCN.out;omega
  obtain⟨W1,hW1⟩:∃ W1,w.alloc (.cells #[.string op,.string ⟨#[]⟩,.int .i64 0,.string ⟨#[]⟩,.slice ka tl kc] 121)=W1:=⟨_,rfl⟩
  have B1:Hid (Below w.heap.size w W1):=by rw[←hW1];exact bR.alloc lr _
  have K1:Hid (Blk W1 w.heap.size [.string op,.string ⟨#[]⟩,.int .i64 0,.string ⟨#[]⟩,.slice ka tl kc]):=by rw[←hW1];exact Blk.new w [.string op,.string ⟨#[]⟩,.int .i64 0,.string ⟨#[]⟩,.slice ka tl kc] _
  have k0:=K1.out.cell 0 _ rfl
  have k1:=K1.out.cell 1 _ rfl
  have k2:=K1.out.cell 2 _ rfl
  have k3:=K1.out.cell 3 _ rfl
  have k4:=K1.out.cell 4 _ rfl
  have hK:=r15_Word op W1
  rw[ho] at hK
  have hC:=r15_right op tl W1 ho
  rw[←htl,hc,htl] at hC
  clear ho hc hk ih hO hw htl hcn CNE
  show Calls Tryz.prog 260 #[.agg #[.string op,.string ⟨#[]⟩,.int .i64 0,.string ⟨#[]⟩,.slice ka kids.length kc]] w _
  rw[HTL.out]
  go_enter Tryz.func260,Tryz.ntmps260
  go_wp2_with fail
  refine hK.mono ?_;rintro e w' ⟨rfl,rfl⟩
  go_wp2_with fail
  refine hC.mono ?_;rintro e w' ⟨rfl,rfl⟩
  clear hK hC
  go_wp2_with fail
  clear k0 k1 k2 k3 k4
  go_loopw [2,3] (fun rv iv wr=>∃ i:Nat,rv=.int .i64 0∧iv=.int .i64 i∧i≤tl∧Hid (Below w.heap.size w wr)∧Hid (Blk wr w.heap.size [.string op,.string ⟨#[]⟩,.int .i64 0,.string ⟨#[]⟩,.slice ka tl kc])) (fun _ iv _=>tl-(intOf iv).toNat)
  case atStart=>exact⟨0,rfl,rfl,z0,B1,K1⟩
  case round=>
   clear B1 K1
   obtain⟨i,rfl,rfl,hi,HB,HK⟩:=hrel
   have k4:=HK.out.cell 4 _ rfl
   by_cases hlt:i<tl
   ·obtain⟨t,ht⟩:∃ t,kids[i]?=some t:=⟨_,gG (by rw[HTL.out];exact hlt)⟩
    have htm:Hid (t∈kids):=gM ht
    have O2:=HO.out.low HB.out
    obtain⟨b',off,hA,he⟩:=O2.rd.cell i t ht
    have e0:=he 0 _ rfl
    have e1:=he 1 _ rfl
    have e2:=he 2 _ rfl
    have e3:=he 3 _ rfl
    have e4:=he 4 _ rfl
    simp only[Nat.add_zero] at e0
    have hix:=fun W=>idx_of (T:=119) (E:=121) (sz:=5) (n:=tl) (c:=kc) (A:=ka) Tryz.underlying119 rfl Tryz.sizeOf121 hA hlt W
    have hcall:=HIH.out t htm.out wr (O2.kids t htm.out) (by have h1:=cntL_mem htm.out;have:=HCN.out;omega)
    unfold RchM.val at hcall
    clear ht hA he O2
    go_wp2_with fail
    refine hcall.mono ?_;rintro e w4 ⟨rfl,hb⟩
    have B5:=hid (bthen HB.out hb)
    have K5:=hid (HK.out.below hb)
    clear hcall hb e0 e1 e2 e3 e4 hix k4
    go_wp2_with fail
    go_roundw
    case rel=>exact⟨i+1,rfl,by go_num,by omega,B5,K5⟩
    case measure=>simp[intOf];omega
   ·go_wp2_with fail
    go_ret
    exact⟨rfl,HB.out⟩
theorem r15_Check_any (T:RchM)(c:Int)(hS:TShape T)(hcn:T.cnt≤64)(hht:T.ht≤32)(w:World)(hO:TOwn w 0 none T)
  (hch:∀ W,TOwn W 0 none T→Calls Tryz.prog 260 #[T.val] W fun e w'=>e=.returned (.int .i64 c)∧Below W.heap.size W w'):
  Calls Tryz.prog 215 #[T.val] w fun e w'=>e=.returned (.int .i64 c)∧Below w.heap.size w w':=by
 have HO:=hid hO
 have HCH:=hid hch
 obtain⟨W1,hW1⟩:∃ W1,w.alloc (.cells #[.string T.op,.string T.nm,.int .i64 T.aop,.string T.ver,.slice T.ka T.kids.length T.kc] 121)=W1:=⟨_,rfl⟩
 have B1:Hid (Below w.heap.size w W1):=by rw[←hW1];exact bR.alloc lr _
 have K1:Hid (Blk W1 w.heap.size T.cells):=by rw[←hW1];exact Blk.new w T.cells _
 have k0:=K1.out.cell 0 _ rfl
 have k1:=K1.out.cell 1 _ rfl
 have k2:=K1.out.cell 2 _ rfl
 have k3:=K1.out.cell 3 _ rfl
 have k4:=K1.out.cell 4 _ rfl
 have hD:=r15_Depth T W1 (HO.out.low B1.out) hS hcn hht
 have HA:Hid (∀ W:World,TOwn W 0 none T→Calls Tryz.prog 259 #[T.val] W fun e w'=>e=.returned (.int .i64 T.cnt)∧Below W.heap.size W w'):=fun W h=>r15_Atoms T W h hS hcn
 have q1:decide ((32:Int)<(T.ht:Int))=false:=dF (by omega)
 have q2:decide (32<T.ht)=false:=dF (by omega)
 have q3:decide ((64:Int)<(T.cnt:Int))=false:=dF (by omega)
 have q4:decide (64<T.cnt)=false:=dF (by omega)
 clear hS hO hch
 unfold RchM.val at *
 go_enter Tryz.func215,Tryz.ntmps215
 go_wp2_with fail
 clear hW1
 refine hD.mono ?_;rintro e w2 ⟨rfl,hb⟩
 have B2:=hid (bthen B1.out hb)
 have K2:=hid (K1.out.below hb)
 clear hb k0 k1 k2 k3 k4 hD
 have k0:=K2.out.cell 0 _ rfl
 have k1:=K2.out.cell 1 _ rfl
 have k2:=K2.out.cell 2 _ rfl
 have k3:=K2.out.cell 3 _ rfl
 have k4:=K2.out.cell 4 _ rfl
 go_wp2_with fail
 refine(HA.out w2 (HO.out.low B2.out)).mono ?_;rintro e w4 ⟨rfl,hb⟩
 have B4:=hid (bthen B2.out hb)
 have K4:=hid (K2.out.below hb)
 clear hb k0 k1 k2 k3 k4
 have k0:=K4.out.cell 0 _ rfl
 have k1:=K4.out.cell 1 _ rfl
 have k2:=K4.out.cell 2 _ rfl
 have k3:=K4.out.cell 3 _ rfl
 have k4:=K4.out.cell 4 _ rfl
 go_wp2_with fail
 refine(HCH.out w4 (HO.out.low B4.out)).mono ?_;rintro e w5 ⟨rfl,hb⟩
 have B6:=hid (bthen B4.out hb)
 clear hb
 go_wp2_with fail
 go_ret
 exact⟨rfl,B6.out⟩
structure RdS (w W:World) (a hi:Nat) (l:LU) (n m:Nat):Prop where
 two:Two W w.heap.size
 pr:PR W a hi l n m
 gr:w.grownBy W (some a)
 gl:GlA a W
 lt:hi≤w.heap.size
theorem RdS.alt {w W:World}{a hi n m:Nat}{l:LU}(h:RdS w W a hi l n m):a<w.heap.size:=by have:=h.pr.lt;have:=h.lt;omega
theorem RdS.start {w:World}{a hi n m:Nat}{l:LU}(hG:GlA a w)(h:PR w a hi l n m)(t t':TypeId):RdS w ((w.alloc (.cells #[.string ⟨#[]⟩,.string ⟨#[]⟩,.int .i64 0,.string ⟨#[]⟩,.slice none 0 0] t)).alloc (.cells #[.string ⟨#[]⟩,.int .i64 0,.int .i64 0] t')) a hi l n m:=by
 have B:Below w.heap.size w ((w.alloc (.cells #[.string ⟨#[]⟩,.string ⟨#[]⟩,.int .i64 0,.string ⟨#[]⟩,.slice none 0 0] t)).alloc (.cells #[.string ⟨#[]⟩,.int .i64 0,.int .i64 0] t')):=(bR.alloc lr _).alloc (by simp) _
 exact⟨Two.new w t t',h.below B,below_grows B _,hG.below B,h.hz⟩
theorem RdS.step {w W W':World}{a hi n m n' m':Nat}{l l':LU}(h:RdS w W a hi l n m)(hg:W.grownBy W' (some a))(hd:PR W' a hi l' n' m'):RdS w W' a hi l' n' m':=
 ⟨h.two.step hg h.alt,hd,grown_thru h.gr hg,h.gl.kept hg,h.lt⟩
theorem RdS.below {w W W':World}{a hi n m:Nat}{l:LU}(h:RdS w W a hi l n m)(hb:Below W.heap.size W W'):RdS w W' a hi l n m:=h.step (below_grows hb _) (h.pr.below hb)
theorem RdS.far {w W:World}{a hi n m b j:Nat}{l:LU}(h:RdS w W a hi l n m)(hb:w.heap.size+2≤b)(v:Value):RdS w (W.setCell ⟨b,j,none⟩ v) a hi l n m:=by
 have h1:=h.lt
 refine⟨⟨h.two.b0.far (by omega) v,h.two.b1.far (by omega) v⟩,h.pr.far (by omega) v,only_setCell h.gr (.inr (by show _≤b;omega)) v,?_,h1⟩
 obtain⟨w0,g1,g2,g3⟩:=h.gl
 have h2:=h.pr.lt
 exact⟨w0,g1,below_set g2 (by omega) v,g3⟩
theorem Blk.stay {w W W':World}{a hi n m b:Nat}{l:LU}{vs:List Value}(k:Blk W b vs)(h:RdS w W a hi l n m)(hb:w.heap.size≤b)(hg:W.grownBy W' (some a)):Blk W' b vs:=k.grownBy hg (by have:=h.alt;simp;omega)
theorem leaf_own (W:World)(lo:Nat)(bad:Option Nat)(nm:BA)(o:Nat)(v:BA):TOwn W lo bad (.mk ⟨#[]⟩ nm o v none 0 []):=
 .mk _ (World.ownsRow_nil _ _ _ _) (fun g hg=>by simp[RchM.ka,RchM.kc,Value.ownBlock] at hg) (fun k hk=>by simp[RchM.kids] at hk)
theorem atom_long (l:LU):rAtom 64 l=none:=by unfold rAtom;rw[if_pos rfl]
theorem atom_noname {n:Nat}{l:LU}(h:rnameB (rLook l)=false):rAtom n l=none:=by
 unfold rAtom
 split
 ·rfl
 ·simp[h]
theorem atom_name {n:Nat}{l:LU}(h0:n≠64)(h:rnameB (rLook l)=true):rAtom n l=rAtomR (rLook l) (n+1) (rNext l):=by unfold rAtom;rw[if_neg h0,if_pos h]
theorem atom_any {nm:LU}{n:Nat}{l:LU}(h:rOp (rLook l)=0):rAtomR nm n l=some (.atom nm 0 [],l,n):=by unfold rAtomR;rw[if_pos h]
theorem atom_op {nm:LU}{n:Nat}{l:LU}(h:rOp (rLook l)≠0):rAtomR nm n l=rAtomV nm (rOp (rLook l)) n (rNext l):=by unfold rAtomR;rw[if_neg h]
theorem atom_nover {nm:LU}{o n:Nat}{l:LU}(h:rLook l=[]∨rLook l=[40]∨rLook l=[41]):rAtomV nm o n l=none:=by unfold rAtomV;rw[if_pos h]
theorem atom_badver {nm:LU}{o n:Nat}{l:LU}(h:verE 2 (mkB (rLook l))≠0):rAtomV nm o n l=none:=by
 unfold rAtomV
 split
 ·rfl
 ·simp[h]
theorem atom_ver {nm:LU}{o n:Nat}{l:LU}(h0:¬ (rLook l=[]∨rLook l=[40]∨rLook l=[41]))(h:verE 2 (mkB (rLook l))=0):rAtomV nm o n l=some (.atom nm o (rLook l),rNext l,n):=by unfold rAtomV;rw[if_neg h0,if_pos h]
theorem rOp_le (p:List UInt8):rOp p≤5:=by unfold rOp;repeat' split
                                          all_goals omega
theorem rOp_look {p:LU}(h:rOp p≠0):p≠[]:=by rintro rfl;exact h rfl
theorem rdep_atom (a hi n m deep:Nat)(l:LU)(w:World)(hG:GlA a w)(h:PR w a hi l n m)(hn:n≤64)(hd:deep≤32):
  Calls Tryz.prog 183 #[.pointer (some ⟨a,0,none⟩)] w (DepPost (rAtom n l) a hi m deep n w):=by
 obtain⟨W0,hW0⟩:∃ W0,(w.alloc (.cells #[.string ⟨#[]⟩,.string ⟨#[]⟩,.int .i64 0,.string ⟨#[]⟩,.slice none 0 0] 121)).alloc (.cells #[.string ⟨#[]⟩,.int .i64 0,.int .i64 0] 114)=W0:=⟨_,rfl⟩
 have S0:Hid (RdS w W0 a hi l n m):=by rw[←hW0];exact RdS.start hG h _ _
 have z0:W0.heap.size=w.heap.size+2:=by rw[←hW0];simp
 obtain⟨b,off,c,T,p,k,hT,h2⟩:=S0.out.pr.cells
 have HT:=hid hT
 obtain⟨c0,c1,f0,f1,t0,t1,ne,m1,mc,cz,tz⟩:=k
 clear h h2 hT
 obtain⟨W1,hW1⟩:∃ W1,W0.alloc (.cells #[.string T,.int .i64 p] 167)=W1:=⟨_,rfl⟩
 have S1:Hid (RdS w W1 a hi l n m):=by rw[←hW1];exact S0.out.below (bR.alloc lr _)
 have K1:Hid (Blk W1 W0.heap.size [.string T,.int .i64 p]):=by rw[←hW1];exact Blk.new W0 [.string T,.int .i64 p] _
 have HZ0:=hid z0
 clear S0 hG z0
 go_enter Tryz.func183,Tryz.ntmps183
 go_upto_region 2 with(fail)
 clear hW0 hW1 c0 c1 f0 f1 t0 t1 ne m1 mc cz
 have ha:=S1.out.alt
 have k1:=S1.out.pr.cells
 obtain⟨b1,off1,c1',T',p',k1,-,-⟩:=k1
 have c1:=k1.c1
 have f1:=k1.f1
 have t0:=K1.out.cell 0 _ rfl
 have t1:=K1.out.cell 1 _ rfl
 clear k1
 by_cases n64:n=64
 ·have EN:Hid (rAtom n l=none):=by show _=_;rw[n64];exact atom_long l
  have q64:((n:Int)==64)=true:=by simp[n64]
  clear n64
  go_wp2_with fail
  refine(rdep_fault T p 4 _).mono ?_;rintro e w2 ⟨rfl,hb⟩
  have S2:=hid (S1.out.below hb)
  have tc:=S2.out.two.c
  obtain⟨x0,x1,x2,x3,x4,y0,y1,y2,g0,g1,g2,g3,g4,k0,k1,k2⟩:=tc
  clear hb
  unfold fltV
  go_wp2_with fail
  refine bodyPost_ret (atom_res _ S2.out.two.c rfl rfl _ _ _ _ _ _ _ _ ⟨rfl,rfl,rfl,rfl,rfl,rfl,rfl,rfl⟩) rfl ?_
  exact DepPost.no EN.out (put8_grown S2.out.gr lr _ _ _ _ _ _ _ _) (by decide)
 have N64:Hid (n<64):=by show _<_;omega
 have q64:((n:Int)==64)=false:=by simp;omega
 have EN:Hid (rAtom n l=if rnameB (bl T) then rAtomR (bl T) (n+1) (rNext l) else none):=by
  show _=_;unfold rAtom;rw[if_neg n64,HT.out]
 clear n64
 go_wp2_with fail
 refine(rdep_Name T _ (by omega)).mono ?_;rintro e w2 ⟨rfl,rfl⟩
 cases hnm:rnameB (bl T) with
 | false=>
  rw[hnm] at EN
  clear hnm
  go_wp2_with fail
  refine(rdep_fault T p 10 _).mono ?_;rintro e w2 ⟨rfl,hb⟩
  have S2:=hid (S1.out.below hb)
  have tc:=S2.out.two.c
  obtain⟨x0,x1,x2,x3,x4,y0,y1,y2,g0,g1,g2,g3,g4,k0,k1,k2⟩:=tc
  clear hb
  unfold fltV
  go_wp2_with fail
  refine bodyPost_ret (atom_res _ S2.out.two.c rfl rfl _ _ _ _ _ _ _ _ ⟨rfl,rfl,rfl,rfl,rfl,rfl,rfl,rfl⟩) rfl ?_
  exact DepPost.no EN.out (put8_grown S2.out.gr lr _ _ _ _ _ _ _ _) (by decide)
 | true=>
 have ER:Hid (rAtom n l=rAtomR (bl T) (n+1) (rNext l)):=by have:=EN.out;rwa [hnm,if_pos rfl] at this
 clear EN
 have HNM:=hid hnm
 have HL:Hid (rLook l≠[]):=by have:=rname_len hnm;rw[←bl_length,HT.out] at this;intro e;rw[e] at this;simp at this
 have P2:Hid (PR (W1.setCell ⟨a,1,none⟩ (.int .i64 ((n:Int)+1))) a hi l (n+1) m):=by have:=S1.out.pr.count (n+1);rwa [show((n+1:Nat):Int)=(n:Int)+1 from by omega] at this
 have S2:=hid (S1.out.step (kept_set (j:=1) (.int .i64 ((n:Int)+1))) P2.out)
 have K2:=hid (K1.out.stay S1.out (by have:=HZ0.out;omega) (kept_set (a:=a) (j:=1) (.int .i64 ((n:Int)+1))))
 clear hnm
 go_wp2_with fail
 clear c1 f1 t0 t1
 refine(rdep_next a hi (n+1) m l _ P2.out HL.out).mono ?_;rintro e w3 ⟨rfl,hp,hg,hm2⟩
 have S3:=hid (S2.out.step hg hp)
 have K3:=hid (K2.out.stay S2.out (by have:=HZ0.out;omega) hg)
 have M2:=hid hm2
 clear hp hg P2 S2 K2 hm2
 have t0:=K3.out.cell 0 _ rfl
 go_upto_region 9 with(fail)
 clear t0
 obtain⟨W4,hW4⟩:∃ W4,w3.alloc (.cells #[.string ⟨#[]⟩,.string T,.int .i64 0,.string ⟨#[]⟩,.slice none 0 0] 121)=W4:=⟨_,rfl⟩
 have B4:Hid (Below w3.heap.size w3 W4):=by rw[←hW4];exact bR.alloc lr _
 have D4:Hid (Blk W4 w3.heap.size [.string ⟨#[]⟩,.string T,.int .i64 0,.string ⟨#[]⟩,.slice none 0 0]):=by rw[←hW4];exact Blk.new w3 [.string ⟨#[]⟩,.string T,.int .i64 0,.string ⟨#[]⟩,.slice none 0 0] _
 have S4:=hid (S3.out.below B4.out)
 have K4:=hid (K3.out.below B4.out)
 have H3:Hid (W0.heap.size<w3.heap.size):=K3.out.sz
 rw[hW4]
 clear hW4
 obtain⟨b4,off4,c4,T4,p4,k4,hT4,-⟩:=S4.out.pr.cells
 have HT4:=hid hT4
 obtain⟨r0,r1,r2,r3,r4,r5,r6,r7,r8,r9,tz4⟩:=k4
 have hR:=rdep_relation T4 W4 S4.out.gl.gl
 obtain⟨o,ho⟩:∃ o,rOp (bl T4)=o:=⟨_,rfl⟩
 rw[ho] at hR
 have HO:=hid ho
 have ho5:o≤5:=by rw[←ho];exact rOp_le _
 clear hT4 ho S3 B4
 go_wp2_with fail
 clear r0 r1 r2 r3 r4 r5 r6 r7 r8 r9
 refine hR.mono ?_;rintro e w5 ⟨rfl,rfl⟩
 clear hR
 by_cases o0:o=0
 ·have EY:Hid (rAtom n l=some ((RchM.mk ⟨#[]⟩ T 0 ⟨#[]⟩ none 0 []).pl,rNext l,n+1)):=by
   show _=_;rw[ER.out,pl_atom _ _ _ _ _ _ _ rfl];exact atom_any (by rw[←HT4.out,HO.out,o0])
  have q0:((o:Int)==0)=true:=by simp[o0]
  have tc:=S4.out.two.c
  obtain⟨x0,x1,x2,x3,x4,y0,y1,y2,g0,g1,g2,g3,g4,k0,k1,k2⟩:=tc
  have d0:=D4.out.cell 0 _ rfl
  have d1:=D4.out.cell 1 _ rfl
  have d2:=D4.out.cell 2 _ rfl
  have d3:=D4.out.cell 3 _ rfl
  have d4:=D4.out.cell 4 _ rfl
  clear o0
  go_wp2_with fail
  refine bodyPost_ret (atom_res _ S4.out.two.c rfl rfl _ _ _ _ _ _ _ _ ⟨rfl,rfl,rfl,rfl,rfl,rfl,rfl,rfl⟩) rfl ?_
  exact DepPost.yes (T:=.mk ⟨#[]⟩ T 0 ⟨#[]⟩ none 0 []) EY.out (put8_grown S4.out.gr lr _ _ _ _ _ _ _ _) (.atom T 0 ⟨#[]⟩ HNM.out (by omega) (fun _=>rfl) (fun h=>by omega)) (leaf_own _ _ _ _ _ _) (by simp[RchM.ht,htL];exact hd) (by simp[RchM.cnt]) (by have:=N64.out;omega) (put8_pr S4.out.pr S4.out.lt _ _ _ _ _ _ _ _) (by have:=M2.out;omega)
 have q0:((o:Int)==0)=false:=by simp[o0]
 have HL4:Hid (rLook (rNext l)≠[]):=by show ¬ _;rw[←HT4.out];exact rOp_look (by rw[HO.out];exact o0)
 have EV:Hid (rAtom n l=rAtomV (bl T) o (n+1) (rNext (rNext l))):=by show _=_;rw[ER.out,atom_op (by rw[←HT4.out,HO.out];exact o0),←HT4.out,HO.out]
 have OP:Hid (0<o):=by show _<_;omega
 have HZB:Hid (w.heap.size+2≤W0.heap.size):=by show _≤_;have:=HZ0.out;omega
 clear ER o0 HO HT4
 go_wp2_with fail
 refine(rdep_next a hi (n+1) (m-1) (rNext l) _ S4.out.pr HL4.out).mono ?_;rintro e w5 ⟨rfl,hp,hg,hm2⟩
 have S5:=hid (S4.out.step hg hp)
 have K5:=hid (K4.out.stay S4.out (by have:=HZB.out;omega) hg)
 have D5:=hid (D4.out.stay S4.out (by have:=HZB.out;have:=H3.out;omega) hg)
 have M3:=hid hm2
 clear hp hg hm2 S4 K4 D4 HL4
 have t0:=K5.out.cell 0 _ rfl
 have t1:=K5.out.cell 1 _ rfl
 have e0:=K5.out.free 0 (by simp)
 have e1:=K5.out.free 1 (by simp)
 obtain⟨b5,off5,c5,T5,p5,k5,hT5,hnx⟩:=S5.out.pr.cells
 have HT5:=hid hT5
 obtain⟨r0,r1,r2,r3,r4,r5,r6,r7,r8,r9,tz5⟩:=k5
 clear hT5 hnx
 go_upto_region 14 with(fail)
 clear t0 t1 e0 e1 r0 r1 r2 r3 r4 r5 r6 r7 r8 r9
 obtain⟨W6,hW6⟩:∃ W6,(w5.setCell ⟨W0.heap.size,0,none⟩ (.string T5)).setCell ⟨W0.heap.size,1,none⟩ (.int .i64 p5)=W6:=⟨_,rfl⟩
 have S6:Hid (RdS w W6 a hi (rNext (rNext l)) (n+1) (m-1-1)):=by rw[←hW6];exact(S5.out.far HZB.out _).far HZB.out _
 have K6:Hid (Blk W6 W0.heap.size [.string T5,.int .i64 p5]):=by rw[←hW6];exact(K5.out.set 0 (by simp) (.string T5)).set 1 (by simp) (.int .i64 p5)
 have D6:Hid (Blk W6 w3.heap.size [.string ⟨#[]⟩,.string T,.int .i64 0,.string ⟨#[]⟩,.slice none 0 0]):=by rw[←hW6];exact(D5.out.far (by have:=H3.out;omega) _).far (by have:=H3.out;omega) _
 rw[hW6]
 clear hW6 S5 K5 D5
 have t0:=K6.out.cell 0 _ rfl
 have t1:=K6.out.cell 1 _ rfl
 obtain⟨bb,hbb⟩:∃ bb:Bool,decide (bl T5=[]∨bl T5=[40]∨bl T5=[41])=bb:=⟨_,rfl⟩
 go_cut [74] (fun v wx=>v=.bool bb∧W6=wx)
 case first=>
  by_cases h1:bl T5=[]
  ·have E1:T5.toList=[]:=by rw[bl_toList];exact h1
   have E2:Hid (bb=true):=by show _=_;rw[←hbb];exact dT (.inl h1)
   clear hbb h1
   go_wp2_with fail
   go_meet
   exact⟨by rw[E2.out],rfl⟩
  by_cases h2:bl T5=[40]
  ·have E1:T5.toList=[40]:=by rw[bl_toList];exact h2
   have E2:Hid (bb=true):=by show _=_;rw[←hbb];exact dT (.inr (.inl h2))
   clear hbb h1 h2
   go_wp2_with fail
   go_meet
   exact⟨by rw[E2.out],rfl⟩
  by_cases h3:bl T5=[41]
  ·have E1:T5.toList=[41]:=by rw[bl_toList];exact h3
   have E2:Hid (bb=true):=by show _=_;rw[←hbb];exact dT (.inr (.inr h3))
   clear hbb h1 h2 h3
   go_wp2_with fail
   go_meet
   exact⟨by rw[E2.out],rfl⟩
  ·have E1:(T5.toList==([]:LU))=false:=by rw[bl_toList,bF];exact h1
   have E3:(T5.toList==([40]:LU))=false:=by rw[bl_toList,bF];exact h2
   have E4:(T5.toList==([41]:LU))=false:=by rw[bl_toList,bF];exact h3
   have E5:T5.toList.isEmpty=false:=by rw[bl_toList,List.isEmpty_eq_false_iff];exact h1
   have E2:Hid (bb=false):=by show _=_;rw[←hbb];exact dF (by rintro(h | h | h)<;>contradiction)
   clear hbb h1 h2 h3
   go_wp2_with fail
   go_meet
   exact⟨by rw[E2.out],rfl⟩
 case rest=>
 obtain⟨rfl,rfl⟩:=hcut
 cases bb with
 | true=>
  have EN:Hid (rAtom n l=none):=by show _=_;rw[EV.out];exact atom_nover (by rw[←HT5.out];exact dO hbb)
  clear hbb
  go_wp2_with fail
  refine(rdep_fault T5 p5 3 _).mono ?_;rintro e w2 ⟨rfl,hb⟩
  have S2:=hid (S6.out.below hb)
  have tc:=S2.out.two.c
  obtain⟨x0,x1,x2,x3,x4,y0,y1,y2,g0,g1,g2,g3,g4,k0,k1,k2⟩:=tc
  clear hb
  unfold fltV
  go_wp2_with fail
  refine bodyPost_ret (atom_res _ S2.out.two.c rfl rfl _ _ _ _ _ _ _ _ ⟨rfl,rfl,rfl,rfl,rfl,rfl,rfl,rfl⟩) rfl ?_
  exact DepPost.no EN.out (put8_grown S2.out.gr lr _ _ _ _ _ _ _ _) (by decide)
 | false=>
 have HB:Hid (¬ (rLook (rNext (rNext l))=[]∨rLook (rNext (rNext l))=[40]∨rLook (rNext (rNext l))=[41])):=by rw[←HT5.out];exact of_decide_eq_false hbb
 clear hbb
 obtain⟨ve,hve⟩:∃ ve,verE 2 T5=ve:=⟨_,rfl⟩
 have HV:=hid hve
 have hVC:=version_Check_any 2 T5 W6 S6.out.gl.gl (by omega)
 rw[hve] at hVC
 clear hve
 go_wp2_with fail
 clear t0 t1
 refine hVC.mono ?_;rintro e w7 ⟨rfl,hb7⟩
 have S7:=hid (S6.out.below hb7)
 have K7:=hid (K6.out.below hb7)
 have D7:=hid (D6.out.below hb7)
 have t0:=K7.out.cell 0 _ rfl
 have t1:=K7.out.cell 1 _ rfl
 clear hb7 hVC S6 K6 D6
 by_cases hv0:ve=0
 ·have q1:(ve != 0)=false:=by simp[hv0]
  have EY:Hid (rAtom n l=some ((RchM.mk ⟨#[]⟩ T o T5 none 0 []).pl,rNext (rNext (rNext l)),n+1)):=by
   show _=_;rw[EV.out,pl_atom _ _ _ _ _ _ _ rfl,atom_ver HB.out (by rw[←HT5.out,mk_bl,HV.out,hv0]),HT5.out]
  have VZ:Hid (verE 2 T5=0):=by show _=_;rw[HV.out,hv0]
  have HL5:Hid (rLook (rNext (rNext l))≠[]):=fun e=>HB.out (.inl e)
  clear hv0
  go_wp2_with fail
  refine(rdep_next a hi (n+1) (m-1-1) (rNext (rNext l)) _ S7.out.pr HL5.out).mono ?_;rintro e w8 ⟨rfl,hp,hg,hm3⟩
  have S8:=hid (S7.out.step hg hp)
  have K8:=hid (K7.out.stay S7.out (by have:=HZB.out;omega) hg)
  have D8:=hid (D7.out.stay S7.out (by have:=HZB.out;have:=H3.out;omega) hg)
  have M4:=hid hm3
  clear hp hg hm3 S7 K7 D7 t0 t1
  have t0:=K8.out.cell 0 _ rfl
  have d0:=D8.out.cell 0 _ rfl
  have d1:=D8.out.cell 1 _ rfl
  have d2:=D8.out.cell 2 _ rfl
  have d3:=D8.out.cell 3 _ rfl
  have d4:=D8.out.cell 4 _ rfl
  have h2:=D8.out.free 2 (by simp)
  have h3:=D8.out.free 3 (by simp)
  have hne:¬ W0.heap.size=w3.heap.size:=by have:=H3.out;omega
  have hne2:¬ w3.heap.size=W0.heap.size:=by have:=H3.out;omega
  go_wp2_with fail
  go_region
  clear t0 d0 d1 d2 d3 d4 h2 h3 hne hne2
  obtain⟨W9,hW9⟩:∃ W9,((w8.setCell ⟨w3.heap.size,2,none⟩ (.int .i64 o)).setCell ⟨w3.heap.size,3,none⟩ (.string T5)).drew=W9:=⟨_,rfl⟩
  have hd3:w.heap.size+2≤w3.heap.size:=by have:=H3.out;have:=HZB.out;omega
  have S9:Hid (RdS w W9 a hi (rNext (rNext (rNext l))) (n+1) (m-1-1-1)):=by rw[←hW9];exact((S8.out.far hd3 _).far hd3 _).below ⟨rfl,rfl,rfl,lr,fun _ _=>rfl⟩
  have D9:Hid (Blk W9 w3.heap.size [.string ⟨#[]⟩,.string T,.int .i64 o,.string T5,.slice none 0 0]):=by rw[←hW9];exact((D8.out.set 2 (by simp) (.int .i64 o)).set 3 (by simp) (.string T5)).drew
  rw[hW9]
  clear hW9 S8 K8 D8
  have tc:=S9.out.two.c
  obtain⟨x0,x1,x2,x3,x4,y0,y1,y2,g0,g1,g2,g3,g4,k0,k1,k2⟩:=tc
  have d0:=D9.out.cell 0 _ rfl
  have d1:=D9.out.cell 1 _ rfl
  have d2:=D9.out.cell 2 _ rfl
  have d3:=D9.out.cell 3 _ rfl
  have d4:=D9.out.cell 4 _ rfl
  go_wp2_with fail
  refine bodyPost_ret (atom_res _ S9.out.two.c rfl rfl _ _ _ _ _ _ _ _ ⟨rfl,rfl,rfl,rfl,rfl,rfl,rfl,rfl⟩) rfl ?_
  exact DepPost.yes (T:=.mk ⟨#[]⟩ T o T5 none 0 []) EY.out (put8_grown S9.out.gr lr _ _ _ _ _ _ _ _) (.atom T o T5 HNM.out ho5 (fun h=>by have:=OP.out;omega) (fun _=>VZ.out)) (leaf_own _ _ _ _ _ _) (by simp[RchM.ht,htL];exact hd) (by simp[RchM.cnt]) (by have:=N64.out;omega) (put8_pr S9.out.pr S9.out.lt _ _ _ _ _ _ _ _) (by have:=M2.out;omega)
 ·have q1:(ve != 0)=true:=by simp[hv0]
  have EN:Hid (rAtom n l=none):=by show _=_;rw[EV.out];exact atom_badver (by rw[←HT5.out,mk_bl,HV.out];exact hv0)
  have HVN:=HidN.mk hv0
  clear hv0
  go_wp2_with fail
  refine(rdep_fault T5 p5 ve _).mono ?_;rintro e w2 ⟨rfl,hb⟩
  have S2:=hid (S7.out.below hb)
  have tc:=S2.out.two.c
  obtain⟨x0,x1,x2,x3,x4,y0,y1,y2,g0,g1,g2,g3,g4,k0,k1,k2⟩:=tc
  clear hb
  unfold fltV
  go_wp2_with fail
  refine bodyPost_ret (atom_res _ S2.out.two.c rfl rfl _ _ _ _ _ _ _ _ ⟨rfl,rfl,rfl,rfl,rfl,rfl,rfl,rfl⟩) rfl ?_
  exact DepPost.no EN.out (put8_grown S2.out.gr lr _ _ _ _ _ _ _ _) HVN.out
abbrev put5 (W:World) (s:Nat) (v0 v1 v2 v3 v4:Value):World:=
 ((((W.setCell ⟨s,0,none⟩ v0).setCell ⟨s,1,none⟩ v1).setCell ⟨s,2,none⟩ v2).setCell ⟨s,3,none⟩ v3).setCell ⟨s,4,none⟩ v4
theorem put5_grown {w W:World}{a s:Nat}(h:w.grownBy W (some a))(hs:w.heap.size≤s)(v0 v1 v2 v3 v4:Value):w.grownBy (put5 W s v0 v1 v2 v3 v4) (some a):=by
 unfold put5
 repeat' refine only_setCell ?_ (.inr (by simp only;omega)) _
 exact h
theorem RX.far {w:World}{a b j:Nat}{s:BA}{p n:Nat}{c:Int}(h:RX w a s p n c)(hb:b≠a)(v:Value):RX (w.setCell ⟨b,j,none⟩ v) a s p n c:=h.grown (kept_set v) (by simp;omega)
theorem put5_rx {W:World}{a b:Nat}{s:BA}{p n:Nat}{c:Int}(h:RX W a s p n c)(hb:b≠a)(v0 v1 v2 v3 v4:Value):RX (put5 W b v0 v1 v2 v3 v4) a s p n c:=by
 unfold put5
 repeat' refine RX.far ?_ hb _
 exact h
theorem put5_own {W:World}{lo s:Nat}{bad:Option Nat}{T:RchM}(h:TOwn W lo bad T)(hs:s<lo)(v0 v1 v2 v3 v4:Value):TOwn (put5 W s v0 v1 v2 v3 v4) lo bad T:=by
 unfold put5
 repeat' refine TOwn.kept ?_ (by omega) (kept_set _)
 exact h
def RePost (r:Option (Rch×LU×Nat))(a:Nat)(s:BA)(deep p n:Nat)(w:World)(e:Ending)(w':World):Prop:=
 w.grownBy w' (some a)∧∃ T:RchM,e=.returned T.val∧match r with
  | none=>∃ (p' n':Nat) (c':Int),c'≠0∧RX w' a s p' n' c'
  | some (t,l',n')=>∃ p':Nat,T.pl=t∧TGood T∧TOwn w' w.heap.size none T∧T.ht+deep≤32∧n'=n+T.cnt∧n'≤64∧RX w' a s p' n' 0∧skipL ((bl s).drop p')=skipL l'∧p<p'
theorem RePost.no {r:Option (Rch×LU×Nat)}{a:Nat}{s:BA}{deep p n p' n':Nat}{c':Int}{w w':World}(T:RchM)(hr:r=none)(hg:w.grownBy w' (some a))(hc:c'≠0)(hx:RX w' a s p' n' c'):RePost r a s deep p n w (.returned T.val) w':=by
 subst hr;exact⟨hg,T,rfl,p',n',c',hc,hx⟩
theorem RePost.yes {r:Option (Rch×LU×Nat)}{a:Nat}{s:BA}{deep p n p' n':Nat}{l':LU}{w w':World}{T:RchM}(hr:r=some (T.pl,l',n'))(hg:w.grownBy w' (some a))(h1:TGood T)(h2:TOwn w' w.heap.size none T)(h3:T.ht+deep≤32)(h4:n'=n+T.cnt)(h5:n'≤64)(h6:RX w' a s p' n' 0)(h7:skipL ((bl s).drop p')=skipL l')(h8:p<p'):RePost r a s deep p n w (.returned T.val) w':=by
 subst hr;exact⟨hg,T,rfl,p',rfl,h1,h2,h3,h4,h5,h6,h7,h8⟩
structure RdX (w W:World) (a:Nat) (s:BA) (p n:Nat) (c:Int):Prop where
 box:Blk W w.heap.size [.string ⟨#[]⟩,.string ⟨#[]⟩,.int .i64 0,.string ⟨#[]⟩,.slice none 0 0]
 rx:RX W a s p n c
 gr:w.grownBy W (some a)
 lt:a<w.heap.size
theorem RdX.start {w:World}{a:Nat}{s:BA}{p n:Nat}{c:Int}(h:RX w a s p n c)(t:TypeId):RdX w (w.alloc (.cells #[.string ⟨#[]⟩,.string ⟨#[]⟩,.int .i64 0,.string ⟨#[]⟩,.slice none 0 0] t)) a s p n c:=
 ⟨Blk.new w _ t,h.alloc _,below_grows (bR.alloc lr _) _,h.sz⟩
theorem RdX.step {w W W':World}{a:Nat}{s:BA}{p n p' n':Nat}{c c':Int}(h:RdX w W a s p n c)(hg:W.grownBy W' (some a))(hd:RX W' a s p' n' c'):RdX w W' a s p' n' c':=
 ⟨h.box.grownBy hg (by have:=h.lt;simp;omega),hd,grown_thru h.gr hg,h.lt⟩
theorem RdX.below {w W W':World}{a:Nat}{s:BA}{p n:Nat}{c:Int}(h:RdX w W a s p n c)(hb:Below W.heap.size W W'):RdX w W' a s p n c:=h.step (below_grows hb _) (h.rx.below hb)
theorem RdX.far {w W:World}{a b j:Nat}{s:BA}{p n:Nat}{c:Int}(h:RdX w W a s p n c)(hb:w.heap.size<b)(v:Value):RdX w (W.setCell ⟨b,j,none⟩ v) a s p n c:=by
 have:=h.lt
 exact⟨h.box.far (by omega) v,h.rx.far (by omega) v,only_setCell h.gr (.inr (by show _≤b;omega)) v,h.lt⟩
theorem RdX.wide {w W W':World}{a:Nat}{s:BA}{p n:Nat}{c:Int}{row:Option Nat}(h:RdX w W a s p n c)(k:W.grownBy W' row)(hr:∀ j,row=some j→w.heap.size<j):RdX w W' a s p n c:=by
 have h1:=h.lt
 exact⟨h.box.grownBy k (fun e=>by have:=hr _ e.symm;omega),h.rx.grown k (fun e=>by have:=hr _ e.symm;omega),grown_new h.gr k (fun j e=>by have:=hr j e;omega),h1⟩
theorem Blk.stayX {w W W':World}{a b:Nat}{s:BA}{p n:Nat}{c:Int}{vs:List Value}(k:Blk W b vs)(h:RdX w W a s p n c)(hb:w.heap.size≤b)(hg:W.grownBy W' (some a)):Blk W' b vs:=k.grownBy hg (by have:=h.lt;simp;omega)
structure OneC (W:World) (s:Nat):Prop where
 x0:W.cell? ⟨s,0,none⟩=some (.string ⟨#[]⟩)
 x1:W.cell? ⟨s,1,none⟩=some (.string ⟨#[]⟩)
 x2:W.cell? ⟨s,2,none⟩=some (.int .i64 0)
 x3:W.cell? ⟨s,3,none⟩=some (.string ⟨#[]⟩)
 x4:W.cell? ⟨s,4,none⟩=some (.slice none 0 0)
 f0:W.frozen? ⟨s,0,none⟩=false
 f1:W.frozen? ⟨s,1,none⟩=false
 f2:W.frozen? ⟨s,2,none⟩=false
 f3:W.frozen? ⟨s,3,none⟩=false
 f4:W.frozen? ⟨s,4,none⟩=false
theorem RdX.c {w W:World}{a:Nat}{s:BA}{p n:Nat}{c:Int}(h:RdX w W a s p n c):OneC W w.heap.size:=
 ⟨h.box.cell 0 _ rfl,h.box.cell 1 _ rfl,h.box.cell 2 _ rfl,h.box.cell 3 _ rfl,h.box.cell 4 _ rfl,h.box.free 0 (by simp),h.box.free 1 (by simp),h.box.free 2 (by simp),h.box.free 3 (by simp),h.box.free 4 (by simp)⟩
theorem ratom_res (tmps:Array Value){W:World}{s:Nat}(h:OneC W s)(h2:tmps[4]?=some (.pointer (some ⟨s,0,none⟩)))(v0 v1 v2 v3 v4:Value)
  (hv:v0.oneCell'=true∧v1.oneCell'=true∧v2.oneCell'=true∧v3.oneCell'=true∧v4.oneCell'=true):
  (results Tryz.f255 tmps).run Tryz.prog (put5 W s v0 v1 v2 v3 v4)=.ok (.agg #[v0,v1,v2,v3,v4]) (put5 W s v0 v1 v2 v3 v4):=by
 obtain⟨x0,x1,x2,x3,x4,_,_,_,_,_⟩:=h
 simp(maxDischargeDepth:=10) [results,Tryz.results255,h2,go_sem,x0,x1,x2,x3,x4]
theorem r15_atom (a:Nat)(s:BA)(q n deep:Nat)(P:BA)(l:LU)(w:World)(hz:s.size≤4294967280)(h:RX w a s q n 0)(hP:bl P=rLook l)(hN:(bl s).drop (q+P.size)=rNext l)(hq:q+P.size≤s.size)(hn:n≤64)(hd:deep≤32):
  Calls Tryz.prog 255 #[.pointer (some ⟨a,0,none⟩),.string P] w (RePost (rAtom n l) a s deep q n w):=by
 obtain⟨W0,hW0⟩:∃ W0,w.alloc (.cells #[.string ⟨#[]⟩,.string ⟨#[]⟩,.int .i64 0,.string ⟨#[]⟩,.slice none 0 0] 121)=W0:=⟨_,rfl⟩
 have S0:Hid (RdX w W0 a s q n 0):=by rw[←hW0];exact RdX.start h _
 have HP:=hid hP
 have HN:=hid hN
 have ha:=h.sz
 obtain⟨f,x,k⟩:=S0.out.rx.cells
 have c5:=k.c5
 have f5:=k.f5
 have S1:Hid (RdX w (W0.setCell ⟨a,5,none⟩ (.int .i64 ((n:Int)+1))) a s q (n+1) 0):=S0.out.step (kept_set _) (S0.out.rx.count (n+1))
 obtain⟨W1,hW1⟩:∃ W1,W0.setCell ⟨a,5,none⟩ (.int .i64 ((n:Int)+1))=W1:=⟨_,rfl⟩
 have S1':Hid (RdX w W1 a s q (n+1) 0):=by rw[←hW1];exact S1.out
 clear h k hP hN S0 S1
 go_enter Tryz.func255,Tryz.ntmps255
 go_upto_region 2 with(fail)
 clear hW0 hW1 c5 f5
 obtain⟨f,x,k⟩:=S1'.out.rx.cells
 have c5:=k.c5
 clear k
 by_cases n64:n=64
 ·have EN:Hid (rAtom n l=none):=by show _=_;rw[n64];exact atom_long l
  have q1:decide ((64:Int)<((n+1:Nat):Int))=true:=dT (by omega)
  have q2:decide (64<n+1)=true:=dT (by omega)
  have q3:decide ((64:Int)<(n:Int)+1)=true:=dT (by omega)
  clear n64
  go_wp2_with fail
  refine(r15_bad 4 a s q (n+1) 0 W1 S1'.out.rx).mono ?_;rintro e w2 ⟨rfl,hr,hg⟩
  have S2:=hid (S1'.out.step hg hr)
  obtain⟨x0,x1,x2,x3,x4,g0,g1,g2,g3,g4⟩:=S2.out.c
  clear hr hg
  go_wp2_with fail
  refine bodyPost_ret (ratom_res _ S2.out.c rfl _ _ _ _ _ ⟨rfl,rfl,rfl,rfl,rfl⟩) rfl ?_
  exact RePost.no zeroR EN.out (put5_grown S2.out.gr lr _ _ _ _ _) (by decide) (put5_rx S2.out.rx (by omega) _ _ _ _ _)
 have N64:Hid (n<64):=by show _<_;omega
 have q1:decide ((64:Int)<((n+1:Nat):Int))=false:=dF (by omega)
 have q2:decide (64<n+1)=false:=dF (by omega)
 have q3:decide ((64:Int)<(n:Int)+1)=false:=dF (by omega)
 clear n64
 go_wp2_with fail
 clear c5 q1 q2 q3
 refine(r15_Name P _ (by omega)).mono ?_;rintro e w2 ⟨rfl,rfl⟩
 cases hnm:rnameB (bl P) with
 | false=>
  have EN:Hid (rAtom n l=none):=atom_noname (by rw[←HP.out];exact hnm)
  clear hnm
  go_wp2_with fail
  refine(r15_bad 10 a s q (n+1) 0 W1 S1'.out.rx).mono ?_;rintro e w2 ⟨rfl,hr,hg⟩
  have S2:=hid (S1'.out.step hg hr)
  obtain⟨x0,x1,x2,x3,x4,g0,g1,g2,g3,g4⟩:=S2.out.c
  clear hr hg
  go_wp2_with fail
  refine bodyPost_ret (ratom_res _ S2.out.c rfl _ _ _ _ _ ⟨rfl,rfl,rfl,rfl,rfl⟩) rfl ?_
  exact RePost.no zeroR EN.out (put5_grown S2.out.gr lr _ _ _ _ _) (by decide) (put5_rx S2.out.rx (by omega) _ _ _ _ _)
 | true=>
 have ER:Hid (rAtom n l=rAtomR (bl P) (n+1) (rNext l)):=by show _=_;rw[HP.out];exact atom_name (by have:=N64.out;omega) (by rw[←HP.out];exact hnm)
 have HNM:=hid hnm
 have hpz:Hid (0<P.size):=by have:=rname_len hnm;show _<_;omega
 clear hnm
 have H1:Hid (w.heap.size<W1.heap.size):=S1'.out.box.sz
 go_upto_region 9 with(fail)
 obtain⟨W2,hW2⟩:∃ W2,W1.alloc (.cells #[.string P,.int .i64 0,.string ⟨#[]⟩] 48)=W2:=⟨_,rfl⟩
 have S2:Hid (RdX w W2 a s q (n+1) 0):=by rw[←hW2];exact S1'.out.below (bR.alloc lr _)
 have A2:Hid (Blk W2 W1.heap.size [.string P,.int .i64 0,.string ⟨#[]⟩]):=by rw[←hW2];exact Blk.new W1 [.string P,.int .i64 0,.string ⟨#[]⟩] _
 rw[hW2]
 clear hW2 S1'
 obtain⟨f,x,k⟩:=S2.out.rx.cells
 have c1:=k.c1
 have f1:=k.f1
 clear k
 have S3:Hid (RdX w (W2.setCell ⟨a,1,none⟩ (.int .i64 ((q+P.size:Nat):Int))) a s (q+P.size) (n+1) 0):=S2.out.step (kept_set _) (S2.out.rx.move hq)
 have A3:Hid (Blk (W2.setCell ⟨a,1,none⟩ (.int .i64 ((q+P.size:Nat):Int))) W1.heap.size [.string P,.int .i64 0,.string ⟨#[]⟩]):=A2.out.stayX S2.out (by have:=H1.out;omega) (kept_set _)
 have hL:=r15_look a s (q+P.size) (n+1) 0 _ hz S3.out.rx
 rw[show((q+P.size:Nat):Int)=(q:Int)+(P.size:Int) from by omega] at hL
 go_wp2_with fail
 clear c1 f1
 refine hL.mono ?_;rintro e w4 ⟨P4,q4,rfl,hr,hP4,hN4,hq4,hqq,hg,hs4⟩
 clear hL
 rw[HN.out] at hP4 hN4 hs4
 have HS4:=hid hs4
 rw[show(q:Int)+(P.size:Int)=((q+P.size:Nat):Int) from by omega] at hg
 have S4:=hid (S3.out.step hg hr)
 have A4:=hid (A3.out.stayX S3.out (by have:=H1.out;omega) hg)
 have HP4:=hid hP4
 have HN4:=hid hN4
 have QQ:Hid (q<q4):=by have:=hpz.out;show _<_;omega
 clear hr hP4 hN4 hqq hg hs4 S2 A2 S3 A3
 have hO:=r15_Op P4 w4
 obtain⟨o,ho⟩:∃ o,rOp (bl P4)=o:=⟨_,rfl⟩
 rw[ho] at hO
 have HO:=hid ho
 have ho5:o≤5:=by rw[←ho];exact rOp_le _
 clear ho
 go_wp2_with fail
 refine hO.mono ?_;rintro e w5 ⟨rfl,hb⟩
 have S5:=hid (S4.out.below hb)
 have A5:=hid (A4.out.below hb)
 clear hO hb S4 A4
 have y1:=A5.out.cell 1 _ rfl
 have z1:=A5.out.free 1 (by simp)
 go_upto_region 12 with(fail)
 clear y1 z1
 obtain⟨W6,hW6⟩:∃ W6,w5.setCell ⟨W1.heap.size,1,none⟩ (.int .i64 o)=W6:=⟨_,rfl⟩
 have S6:Hid (RdX w W6 a s q4 (n+1) 0):=by rw[←hW6];exact S5.out.far H1.out _
 have A6:Hid (Blk W6 W1.heap.size [.string P,.int .i64 o,.string ⟨#[]⟩]):=by rw[←hW6];exact A5.out.set 1 (by simp) (.int .i64 o)
 rw[hW6]
 clear hW6 S5 A5
 have y0:=A6.out.cell 0 _ rfl
 have y1:=A6.out.cell 1 _ rfl
 have y2:=A6.out.cell 2 _ rfl
 by_cases o0:o=0
 ·have EY:Hid (rAtom n l=some ((RchM.mk ⟨#[]⟩ P 0 ⟨#[]⟩ none 0 []).pl,rNext l,n+1)):=by
   show _=_;rw[ER.out,pl_atom _ _ _ _ _ _ _ rfl];exact atom_any (by rw[←HP4.out,HO.out,o0])
  have DR':Hid (skipL ((bl s).drop q4)=skipL (rNext l)):=by show _=_;rw[HS4.out,skip_idem]
  subst o0
  obtain⟨x0,x1,x2,x3,x4,g0,g1,g2,g3,g4⟩:=S6.out.c
  go_wp2_with fail
  refine bodyPost_ret (ratom_res _ S6.out.c rfl _ _ _ _ _ ⟨rfl,rfl,rfl,rfl,rfl⟩) rfl ?_
  exact RePost.yes (T:=.mk ⟨#[]⟩ P 0 ⟨#[]⟩ none 0 []) EY.out (put5_grown S6.out.gr lr _ _ _ _ _) (.atom P 0 ⟨#[]⟩ HNM.out (by omega) (fun _=>rfl) (fun h=>by omega)) (leaf_own _ _ _ _ _ _) (by simp[RchM.ht,htL];exact hd) (by simp[RchM.cnt]) (by have:=N64.out;omega) (put5_rx S6.out.rx (by omega) _ _ _ _ _) DR'.out QQ.out
 have q0:decide ((0:Int)<(o:Int))=true:=dT (by omega)
 have q1:decide (0<o)=true:=dT (by omega)
 have EV:Hid (rAtom n l=rAtomV (bl P) o (n+1) (rNext (rNext l))):=by show _=_;rw[ER.out,atom_op (by rw[←HP4.out,HO.out];exact o0),←HP4.out,HO.out]
 have OP:Hid (0<o):=by show _<_;omega
 clear o0 ER
 obtain⟨f,x,k⟩:=S6.out.rx.cells
 have c1:=k.c1
 have f1:=k.f1
 clear k
 have S7:Hid (RdX w (W6.setCell ⟨a,1,none⟩ (.int .i64 ((q4+P4.size:Nat):Int))) a s (q4+P4.size) (n+1) 0):=S6.out.step (kept_set _) (S6.out.rx.move hq4)
 have A7:Hid (Blk (W6.setCell ⟨a,1,none⟩ (.int .i64 ((q4+P4.size:Nat):Int))) W1.heap.size [.string P,.int .i64 o,.string ⟨#[]⟩]):=A6.out.stayX S6.out (by have:=H1.out;omega) (kept_set _)
 have hL:=r15_look a s (q4+P4.size) (n+1) 0 _ hz S7.out.rx
 rw[show((q4+P4.size:Nat):Int)=(q4:Int)+(P4.size:Int) from by omega] at hL
 go_wp2_with fail
 clear c1 f1 y0 y1 y2
 refine hL.mono ?_;rintro e w8 ⟨P8,q8,rfl,hr,hP8,hN8,hq8,hqq,hg,hs8⟩
 clear hL
 rw[HN4.out] at hP8 hN8 hs8
 rw[show(q4:Int)+(P4.size:Int)=((q4+P4.size:Nat):Int) from by omega] at hg
 have S8:=hid (S7.out.step hg hr)
 have A8:=hid (A7.out.stayX S7.out (by have:=H1.out;omega) hg)
 have HP8:=hid hP8
 have HN8:=hid hN8
 have QQ8:Hid (q<q8):=by have:=QQ.out;show _<_;omega
 clear hr hP8 hN8 hqq hg hs8 S6 A6 S7 A7
 obtain⟨bb,hbb⟩:∃ bb:Bool,decide (bl P8=[]∨bl P8=[40]∨bl P8=[41])=bb:=⟨_,rfl⟩
 go_upto_region 15 with(fail)
 go_cut [72] (fun v wx=>v=.bool bb∧w8=wx)
 case first=>
  by_cases h1:bl P8=[]
  ·have E1:P8.toList=[]:=by rw[bl_toList];exact h1
   have E2:Hid (bb=true):=by show _=_;rw[←hbb];exact dT (.inl h1)
   clear hbb h1
   go_wp2_with fail
   go_meet
   exact⟨by rw[E2.out],rfl⟩
  by_cases h2:bl P8=[40]
  ·have E1:P8.toList=[40]:=by rw[bl_toList];exact h2
   have E2:Hid (bb=true):=by show _=_;rw[←hbb];exact dT (.inr (.inl h2))
   clear hbb h1 h2
   go_wp2_with fail
   go_meet
   exact⟨by rw[E2.out],rfl⟩
  by_cases h3:bl P8=[41]
  ·have E1:P8.toList=[41]:=by rw[bl_toList];exact h3
   have E2:Hid (bb=true):=by show _=_;rw[←hbb];exact dT (.inr (.inr h3))
   clear hbb h1 h2 h3
   go_wp2_with fail
   go_meet
   exact⟨by rw[E2.out],rfl⟩
  ·have E1:(P8.toList==([]:LU))=false:=by rw[bl_toList,bF];exact h1
   have E3:(P8.toList==([40]:LU))=false:=by rw[bl_toList,bF];exact h2
   have E4:(P8.toList==([41]:LU))=false:=by rw[bl_toList,bF];exact h3
   have E5:P8.toList.isEmpty=false:=by rw[bl_toList,List.isEmpty_eq_false_iff];exact h1
   have E2:Hid (bb=false):=by show _=_;rw[←hbb];exact dF (by rintro(h | h | h)<;>contradiction)
   clear hbb h1 h2 h3
   go_wp2_with fail
   go_meet
   exact⟨by rw[E2.out],rfl⟩
 case rest=>
 obtain⟨rfl,rfl⟩:=hcut
 cases bb with
 | true=>
  have EN:Hid (rAtom n l=none):=by show _=_;rw[EV.out];exact atom_nover (by rw[←HP8.out];exact dO hbb)
  clear hbb
  go_wp2_with fail
  refine(r15_bad 3 a s q8 (n+1) 0 w8 S8.out.rx).mono ?_;rintro e w2 ⟨rfl,hr,hg⟩
  have S2:=hid (S8.out.step hg hr)
  obtain⟨x0,x1,x2,x3,x4,g0,g1,g2,g3,g4⟩:=S2.out.c
  clear hr hg
  go_wp2_with fail
  refine bodyPost_ret (ratom_res _ S2.out.c rfl _ _ _ _ _ ⟨rfl,rfl,rfl,rfl,rfl⟩) rfl ?_
  exact RePost.no zeroR EN.out (put5_grown S2.out.gr lr _ _ _ _ _) (by decide) (put5_rx S2.out.rx (by omega) _ _ _ _ _)
 | false=>
 have HB:Hid (¬ (rLook (rNext (rNext l))=[]∨rLook (rNext (rNext l))=[40]∨rLook (rNext (rNext l))=[41])):=by rw[←HP8.out];exact of_decide_eq_false hbb
 clear hbb
 obtain⟨ve,hve⟩:∃ ve,verE 2 P8=ve:=⟨_,rfl⟩
 have HV:=hid hve
 have hVC:=r12_Check 2 P8 w8 (by omega)
 rw[hve] at hVC
 clear hve
 go_wp2_with fail
 refine hVC.mono ?_;rintro e w9 ⟨rfl,hb⟩
 have S9:=hid (S8.out.below hb)
 have A9:=hid (A8.out.below hb)
 clear hb hVC S8 A8
 by_cases hv0:ve=0
 ·have q2:(ve != 0)=false:=by simp[hv0]
  have EY:Hid (rAtom n l=some ((RchM.mk ⟨#[]⟩ P o P8 none 0 []).pl,rNext (rNext (rNext l)),n+1)):=by
   show _=_;rw[EV.out,pl_atom _ _ _ _ _ _ _ rfl,atom_ver HB.out (by rw[←HP8.out,mk_bl,HV.out,hv0]),HP8.out]
  have VZ:Hid (verE 2 P8=0):=by show _=_;rw[HV.out,hv0]
  clear hv0
  have y2:=A9.out.cell 2 _ rfl
  have z2:=A9.out.free 2 (by simp)
  go_upto_region 23 with(fail)
  clear y2 z2
  obtain⟨W10,hW10⟩:∃ W10,w9.setCell ⟨W1.heap.size,2,none⟩ (.string P8)=W10:=⟨_,rfl⟩
  have S10:Hid (RdX w W10 a s q8 (n+1) 0):=by rw[←hW10];exact S9.out.far H1.out _
  have A10:Hid (Blk W10 W1.heap.size [.string P,.int .i64 o,.string P8]):=by rw[←hW10];exact A9.out.set 2 (by simp) (.string P8)
  rw[hW10]
  clear hW10 S9 A9
  obtain⟨f,x,k⟩:=S10.out.rx.cells
  have c1:=k.c1
  have f1:=k.f1
  clear k
  have S11:Hid (RdX w (W10.setCell ⟨a,1,none⟩ (.int .i64 ((q8+P8.size:Nat):Int))) a s (q8+P8.size) (n+1) 0):=S10.out.step (kept_set _) (S10.out.rx.move hq8)
  have A11:Hid (Blk (W10.setCell ⟨a,1,none⟩ (.int .i64 ((q8+P8.size:Nat):Int))) W1.heap.size [.string P,.int .i64 o,.string P8]):=A10.out.stayX S10.out (by have:=H1.out;omega) (kept_set _)
  go_upto_region 24 with(fail)
  clear c1 f1
  obtain⟨W11,hW11⟩:∃ W11,W10.setCell ⟨a,1,none⟩ (.int .i64 ((q8:Int)+(P8.size:Int)))=W11:=⟨_,rfl⟩
  rw[show((q8+P8.size:Nat):Int)=(q8:Int)+(P8.size:Int) from by omega,hW11] at S11 A11
  rw[hW11]
  clear hW11 S10 A10
  obtain⟨x0,x1,x2,x3,x4,g0,g1,g2,g3,g4⟩:=S11.out.c
  have y0:=A11.out.cell 0 _ rfl
  have y1:=A11.out.cell 1 _ rfl
  have y2:=A11.out.cell 2 _ rfl
  go_wp2_with fail
  refine bodyPost_ret (ratom_res _ S11.out.c rfl _ _ _ _ _ ⟨rfl,rfl,rfl,rfl,rfl⟩) rfl ?_
  exact RePost.yes (T:=.mk ⟨#[]⟩ P o P8 none 0 []) EY.out (put5_grown S11.out.gr lr _ _ _ _ _) (.atom P o P8 HNM.out ho5 (fun h=>by have:=OP.out;omega) (fun _=>VZ.out)) (leaf_own _ _ _ _ _ _) (by simp[RchM.ht,htL];exact hd) (by simp[RchM.cnt]) (by have:=N64.out;omega) (put5_rx S11.out.rx (by omega) _ _ _ _ _) (by rw[HN8.out]) (by have:=QQ8.out;omega)
 ·have q2:(ve != 0)=true:=by simp[hv0]
  have EN:Hid (rAtom n l=none):=by show _=_;rw[EV.out];exact atom_badver (by rw[←HP8.out,mk_bl,HV.out];exact hv0)
  have HVN:=HidN.mk hv0
  clear hv0
  go_wp2_with fail
  refine(r15_bad ve a s q8 (n+1) 0 w9 S9.out.rx).mono ?_;rintro e w2 ⟨rfl,hr,hg⟩
  have S2:=hid (S9.out.step hg hr)
  obtain⟨x0,x1,x2,x3,x4,g0,g1,g2,g3,g4⟩:=S2.out.c
  clear hr hg
  go_wp2_with fail
  refine bodyPost_ret (ratom_res _ S2.out.c rfl _ _ _ _ _ ⟨rfl,rfl,rfl,rfl,rfl⟩) rfl ?_
  exact RePost.no zeroR EN.out (put5_grown S2.out.gr lr _ _ _ _ _) HVN.out (put5_rx S2.out.rx (by omega) _ _ _ _ _)
def restOf (a:Nat)(w:World):Nat:=match w.cell? ⟨a,0,none⟩ with | some (.slice _ m _)=>m | _=>0
theorem PR.rest {w:World}{a hi n m:Nat}{l:LU}(h:PR w a hi l n m):restOf a w=m:=by
 obtain⟨b,off,c,T,p,k,_,_⟩:=h.cells
 unfold restOf;rw[k.c0]
theorem PR.dec {w w':World}{a hi n m n' m':Nat}{l l':LU}(h':PR w' a hi l' n' m')(h:PR w a hi l n m)(hk:m'<m):restOf a w'<restOf a w:=by rw[h'.rest,h.rest];exact hk
theorem dep_res (tmps:Array Value){W:World}{s:Nat}(h:TwoC W s)(h2:tmps[4]?=some (.pointer (some ⟨s,0,none⟩)))(h3:tmps[5]?=some (.pointer (some ⟨s+1,0,none⟩)))(v0 v1 v2 v3 v4 u0 u1 u2:Value)
  (hv:v0.oneCell'=true∧v1.oneCell'=true∧v2.oneCell'=true∧v3.oneCell'=true∧v4.oneCell'=true∧u0.oneCell'=true∧u1.oneCell'=true∧u2.oneCell'=true):
  (results Tryz.f128 tmps).run Tryz.prog (put8 W s v0 v1 v2 v3 v4 u0 u1 u2)=.ok (.tuple #[.agg #[v0,v1,v2,v3,v4],.agg #[u0,u1,u2]]) (put8 W s v0 v1 v2 v3 v4 u0 u1 u2):=by
 obtain⟨x0,x1,x2,x3,x4,y0,y1,y2,_,_,_,_,_,_,_,_⟩:=h
 simp(maxDischargeDepth:=10) [results,Tryz.results128,h2,h3,go_sem,x0,x1,x2,x3,x4,y0,y1,y2]
theorem grp_res (tmps:Array Value){W:World}{s:Nat}(h:TwoC W s)(h2:tmps[4]?=some (.pointer (some ⟨s,0,none⟩)))(h3:tmps[5]?=some (.pointer (some ⟨s+1,0,none⟩)))(v0 v1 v2 v3 v4 u0 u1 u2:Value)
  (hv:v0.oneCell'=true∧v1.oneCell'=true∧v2.oneCell'=true∧v3.oneCell'=true∧v4.oneCell'=true∧u0.oneCell'=true∧u1.oneCell'=true∧u2.oneCell'=true):
  (results Tryz.f182 tmps).run Tryz.prog (put8 W s v0 v1 v2 v3 v4 u0 u1 u2)=.ok (.tuple #[.agg #[v0,v1,v2,v3,v4],.agg #[u0,u1,u2]]) (put8 W s v0 v1 v2 v3 v4 u0 u1 u2):=by
 obtain⟨x0,x1,x2,x3,x4,y0,y1,y2,_,_,_,_,_,_,_,_⟩:=h
 simp(maxDischargeDepth:=10) [results,Tryz.results182,h2,h3,go_sem,x0,x1,x2,x3,x4,y0,y1,y2]
theorem zeroR_val:zeroR.val=.agg #[.string ⟨#[]⟩,.string ⟨#[]⟩,.int .i64 0,.string ⟨#[]⟩,.slice none 0 0]:=rfl
theorem grp_resD (tmps:Array Value){W:World}{s:Nat}(h:TwoC W s)(h2:tmps[4]?=some (.pointer (some ⟨s,0,none⟩)))(h3:tmps[5]?=some (.pointer (some ⟨s+1,0,none⟩)))(v0 v1 v2 v3 v4 u0 u1 u2:Value)
  (hv:v0.oneCell'=true∧v1.oneCell'=true∧v2.oneCell'=true∧v3.oneCell'=true∧v4.oneCell'=true∧u0.oneCell'=true∧u1.oneCell'=true∧u2.oneCell'=true):
  (results Tryz.f182 tmps).run Tryz.prog (put8 W s v0 v1 v2 v3 v4 u0 u1 u2).drew=.ok (.tuple #[.agg #[v0,v1,v2,v3,v4],.agg #[u0,u1,u2]]) (put8 W s v0 v1 v2 v3 v4 u0 u1 u2).drew:=by
 obtain⟨x0,x1,x2,x3,x4,y0,y1,y2,_,_,_,_,_,_,_,_⟩:=h
 simp(maxDischargeDepth:=10) [results,Tryz.results182,h2,h3,go_sem,x0,x1,x2,x3,x4,y0,y1,y2]
theorem grown_drew {w W:World}{a:Nat}(h:w.grownBy W (some a)):w.grownBy W.drew (some a):=grown_below h ⟨rfl,rfl,rfl,lr,fun _ _=>rfl⟩
theorem RdS.wide {w W W':World}{a hi n m:Nat}{l:LU}{row:Option Nat}(h:RdS w W a hi l n m)(k:W.grownBy W' row)(hr:∀ j,row=some j→w.heap.size+2≤j):RdS w W' a hi l n m:=by
 have h1:=h.lt
 refine⟨⟨h.two.b0.grownBy k (fun e=>by have:=hr _ e.symm;omega),h.two.b1.grownBy k (fun e=>by have:=hr _ e.symm;omega)⟩,h.pr.grown k (fun j e=>by have:=hr j e;omega),grown_new h.gr k (fun j e=>by have:=hr j e;omega),?_,h1⟩
 obtain⟨w0,g1,g2,g3⟩:=h.gl
 have h2:=h.pr.lt
 refine⟨w0,g1,?_,g3⟩
 exact⟨k.os.trans g2.os,k.tape.trans g2.tape,k.output.trans g2.output,Nat.le_trans g2.size k.size,fun j hj=>(k.block j (by have:=g2.size;omega) (fun e=>by have:=hr j e.symm;omega)).trans (g2.block j hj)⟩
theorem TGood.of_group {OP:BA}{ks:List RchM}{T:RchM}{A:Option Addr}{c mm:Nat}(hop:GOp mm (bl OP))(hl:ks.length=mm)(h0:mm≠0)(hk:∀ k∈ks++[T],TGood k):TGood (.mk OP ⟨#[]⟩ 0 ⟨#[]⟩ A c (ks++[T])):=by
 refine .node OP A c _ (hop.word h0) ?_ hk
 rw[List.length_append,List.length_singleton,hl,hop.close];simpa using h0
theorem Calls.int {f:Nat}{args:Array Value}{w:World}{post:Ending→World→Prop}{args':Array Value}(h:Calls Tryz.prog f args w post)(e:args=args'):Calls Tryz.prog f args' w post:=e ▸ h
theorem follows_ne {op p:LU}{n:Nat}(h:rFollows op n p=true):p≠[]:=by
 unfold rFollows at h
 split at h
 ·exact(word_ne h).1
 ·rcases dO h with⟨h1,h2⟩ | ⟨_,_,h2⟩
  ·rcases h1 with h1 | h1<;>rw[h2,h1]<;>simp[wAnd,wOr]
  ·rw[h2];simp[wElse]
def DepC (f:Nat):Prop:=∀ (a hi n m deep:Nat)(l:LU)(w:World),2*l.length+1≤f→GlA a w→PR w a hi l n m→n≤64→deep≤32 →
 Calls Tryz.prog 128 #[.pointer (some ⟨a,0,none⟩),.int .i64 deep] w (DepPost (rDep f deep n l) a hi m deep n w)
def GrpC (f:Nat):Prop:=∀ (a hi n m deep:Nat)(l:LU)(w:World),2*l.length+2≤f→GlA a w→PR w a hi l n m→n≤64→deep<32 →
 Calls Tryz.prog 182 #[.pointer (some ⟨a,0,none⟩),.int .i64 ((deep:Int)+1)] w (DepPost (rGrp f (deep+1) n [] [] l) a hi m deep n w)
theorem plL_append (a b:List RchM):plL (a++b)=plL a++plL b:=by rw[plL_map,plL_map,plL_map,List.map_append]
theorem plL_nil {a:List RchM}:plL a=[]↔a=[]:=by rw[plL_map];simp
theorem plL_length (a:List RchM):(plL a).length=a.length:=by rw[plL_map];simp
theorem htL_le {ks:List RchM}{d:Nat}(h:∀ k∈ks,k.ht+1≤d):htL ks≤d:=by
 by_cases h0:ks=[]
 ·subst h0;simp[htL]
 ·obtain⟨t,ht,he⟩:=htL_top h0;have:=h t ht;omega
theorem grp_of (F:Nat)(IH:∀ f,f<F→DepC f):GrpC F:=by
 intro a hi n m deep l w hF hG h hn hd
 obtain⟨i0,hi0,hz0,hz1,hz2⟩:=info_parts info_rich
 obtain⟨f0,rfl⟩:∃ f0,F=f0+1:=⟨F-1,by omega⟩
 obtain⟨RR,hRR⟩:∃ RR,rGrp (f0+1) (deep+1) n [] [] l=RR:=⟨_,rfl⟩
 rw[hRR]
 have E0:Hid (RR=rGrp (f0+1) (deep+1) n (plL []) (bl ⟨#[]⟩) l):=hRR.symm
 have F0:Hid (2*l.length+2≤f0+1):=hF
 have HIH:=hid IH
 obtain⟨W1,hW1⟩:∃ W1,(w.alloc (.cells #[.string ⟨#[]⟩,.string ⟨#[]⟩,.int .i64 0,.string ⟨#[]⟩,.slice none 0 0] 121)).alloc (.cells #[.string ⟨#[]⟩,.int .i64 0,.int .i64 0] 114)=W1:=⟨_,rfl⟩
 have S1:Hid (RdS w W1 a hi l n m):=by rw[←hW1];exact RdS.start hG h _ _
 have hz:W1.heap.size=w.heap.size+2:=by rw[←hW1];simp
 have HZ:=hid hz
 clear hRR hF IH h hG hz
 go_enter Tryz.func182,Tryz.ntmps182
 go_upto_region 1 with(fail)
 clear hW1
 go_wp2_with fail
 go_loopw [] (fun wr=>∃ (lc:LU) (nc mc mm cc f:Nat) (OP:BA) (ks:List RchM) (A:Option Addr),nc≤64∧mm≤64∧Hid (GrS W1 wr a hi lc nc mc OP ks A mm cc)∧Hid (RdS w wr a hi lc nc mc)∧Hid (GOp mm (bl OP))∧Hid (RR=rGrp (f+1) (deep+1) nc (plL ks) (bl OP) lc)∧Hid (2*lc.length+2≤f+1)∧Hid (f≤f0)∧Hid (nc=n+cntL ks)∧Hid (∀ k∈ks,k.ht+(deep+1)≤32)∧Hid (mc≤m)) (fun wr=>restOf a wr)
 case atStart=>exact⟨l,n,m,0,0,f0,⟨#[]⟩,[],none,hn,by omega,GrS.start S1.out.pr _,S1.out.below (bR.alloc lr _),GOp.start,E0,F0,lr,by simp[Hid,cntL],by simp[Hid],lr⟩
 case round=>
  clear S1 E0 F0
  obtain⟨lc,nc,mc,mm,cc,f,OP,ks,A,hnc,hmm,HS,HR,HOP,HE,HF,HF0,HN,HH,HM⟩:=hrel
  have hDep:=Calls.int (HIH.out f (by have:=HF0.out;omega) a hi nc mc (deep+1) lc wr (by have:=HF.out;omega) HR.out.gl HR.out.pr hnc (by omega)) (args':=#[.pointer (some ⟨a,0,none⟩),.int .i64 ((deep:Int)+1)]) rfl
  go_wp2_with fail
  refine hDep.mono ?_;rintro e w2 ⟨hg,hpost⟩
  clear hDep
  cases hr:rDep f (deep+1) nc lc with
  | none=>
   rw[hr] at hpost
   obtain⟨ff,x,c,rfl,hc⟩:=hpost
   have EN:Hid (RR=none):=HE.out.trans (rGrp_none hr)
   have T2:=hid (HR.out.two.step hg HR.out.alt)
   have G2:=hid (grown_thru HR.out.gr hg)
   have hc1:(c != 0)=true:=by simp[hc]
   have HC:=HidN.mk hc
   have hsz:w.heap.size+1<w2.heap.size:=T2.out.b1.sz
   have HSZ:=hid hsz
   clear hr hc hg
   unfold fltV
   rw[zeroR_val]
   go_upto_region 3 with(fail)
   obtain⟨W3,hW3⟩:∃ W3,(w2.alloc (.cells #[.string ⟨#[]⟩,.string ⟨#[]⟩,.int .i64 0,.string ⟨#[]⟩,.slice none 0 0] 121)).alloc (.cells #[.string ff,.int .i64 x,.int .i64 c] 114)=W3:=⟨_,rfl⟩
   have B3:Hid (Below w2.heap.size w2 W3):=by rw[←hW3];exact(bR.alloc lr _).alloc (by simp) _
   have K3:Hid (Blk W3 (w2.heap.size+1) [.string ff,.int .i64 x,.int .i64 c]):=by
    have:=Blk.new (w2.alloc (.cells #[.string ⟨#[]⟩,.string ⟨#[]⟩,.int .i64 0,.string ⟨#[]⟩,.slice none 0 0] 121)) [.string ff,.int .i64 x,.int .i64 c] 114
    rw[←hW3];show Blk _ _ _;simpa using this
   have T3:=hid (T2.out.below B3.out)
   have G3:=hid (grown_below G2.out B3.out)
   rw[hW3]
   clear hW3 hsz T2 G2
   have d0:=K3.out.cell 0 _ rfl
   have d1:=K3.out.cell 1 _ rfl
   have d2:=K3.out.cell 2 _ rfl
   have tc:=T3.out.c
   obtain⟨x0,x1,x2,x3,x4,y0,y1,y2,g0,g1,g2,g3,g4,k0,k1,k2⟩:=tc
   have hne1:¬ w.heap.size=w2.heap.size+1:=by have:=HSZ.out;omega
   have hne2:¬ w2.heap.size+1=w.heap.size:=by have:=HSZ.out;omega
   have hne3:¬ w.heap.size=w2.heap.size:=by have:=HSZ.out;omega
   have hne4:¬ w2.heap.size=w.heap.size:=by have:=HSZ.out;omega
   go_wp2_with fail
   go_region
   go_wp2_with fail
   refine bodyPost_ret (grp_resD _ T3.out.c rfl rfl _ _ _ _ _ _ _ _ ⟨rfl,rfl,rfl,rfl,rfl,rfl,rfl,rfl⟩) rfl ?_
   exact DepPost.no EN.out (grown_drew (put8_grown G3.out lr _ _ _ _ _ _ _ _)) HC.out
  | some r=>
   obtain⟨t,l1,n1⟩:=r
   rw[hr] at hpost
   obtain⟨T,m1,rfl,hT,hgd,hown,hht,hn1,hn64,hpr,hm1⟩:=hpost
   have S2:=hid (HS.out.step hg hpr)
   have R2:=hid (HR.out.step hg hpr)
   have TB:=hid ((hown.old (bad':=(Value.slice A mm cc).ownBlock) (fun g e=>.inl (HS.out.row.lt g e).2)).base (lo':=W1.heap.size+1) (by have:=HS.out.box.sz;omega))
   have HT:=hid hT
   have HTM:=hid hr
   have HGD:=hid hgd
   have HHT:=hid hht
   have HN1:Hid (n1=n+cntL (ks++[T])):=by show _=_;rw[cntL_append,hn1,HN.out];simp[cntL];omega
   have HM1:Hid (m1<mc):=hm1
   have HL1:Hid (l1.length<lc.length):=(rDep_lt f).1 _ _ _ _ _ _ hr
   have HN64:=hid hn64
   clear hr hg hT hgd hown hht hn1 hm1 hpr hn64 HS
   unfold fltV RchM.val
   go_upto_region 3 with(fail)
   obtain⟨W3,hW3⟩:∃ W3,(w2.alloc (.cells T.cells.toArray 121)).alloc (.cells #[.string ⟨#[]⟩,.int .i64 0,.int .i64 0] 114)=W3:=⟨_,rfl⟩
   have B3:Hid (Below w2.heap.size w2 W3):=by rw[←hW3];exact(bR.alloc lr _).alloc (by simp) _
   have KT3:Hid (Blk W3 w2.heap.size T.cells):=by rw[←hW3];exact(Blk.new w2 T.cells _).alloc _
   have KF3:Hid (Blk W3 (w2.heap.size+1) [.string ⟨#[]⟩,.int .i64 0,.int .i64 0]):=by
    have:=Blk.new (w2.alloc (.cells T.cells.toArray 121)) [.string ⟨#[]⟩,.int .i64 0,.int .i64 0] 114
    rw[←hW3];show Blk _ _ _;simpa using this
   have S3:=hid (S2.out.below B3.out)
   have R3:=hid (R2.out.below B3.out)
   have TB3:=hid ((TB.out.low B3.out).low ((Below.refl W3.heap.size W3).alloc lr (.cells T.cells.toArray 121)))
   have SA:=hid (S3.out.below ((Below.refl W3.heap.size W3).alloc lr (.cells T.cells.toArray 121)))
   have RA:=hid (R3.out.below ((Below.refl W3.heap.size W3).alloc lr (.cells T.cells.toArray 121)))
   have hW4:(w2.alloc (.cells #[.string T.op,.string T.nm,.int .i64 T.aop,.string T.ver,.slice T.ka T.kids.length T.kc] 121)).alloc (.cells #[.string ⟨#[]⟩,.int .i64 0,.int .i64 0] 114)=W3:=hW3
   rw[hW4]
   clear hW3 hW4 S2 R2 TB
   have k0:=KT3.out.cell 0 _ rfl
   have k1:=KT3.out.cell 1 _ rfl
   have k2:=KT3.out.cell 2 _ rfl
   have k3:=KT3.out.cell 3 _ rfl
   have k4:=KT3.out.cell 4 _ rfl
   have q2:=KF3.out.cell 2 _ rfl
   have x4:=S3.out.box.cell 4 _ rfl
   have hmm2:mm≤4294967280:=by omega
   go_upto_region 6 with(at_builtin;refine wpList_append_any _ rfl _ _ _ rfl (W1.heap.size+1) 121 i0 _ 5 80 Tryz.underlying119 hi0 hz0 hz1 hz2 rfl (by omega) (.slice A mm cc) mm _ rfl (SA.out.row) (W3.heap.size+1) (some ⟨W3.heap.size,0,none⟩) 1 1 T.cells rfl (by have:=reads_five W3 121 (.string T.op) (.string T.nm) (.int .i64 T.aop) (.string T.ver) (.slice T.ka T.kids.length T.kc);simpa [RchM.cells] using this) (by simp[Value.oneCell',RchM.cells]) (by simp only[maxLen];omega) (by omega) (by simp;have:=S3.out.box.sz;omega) ?_;intro v1 w4 o1 g1 a1;obtain⟨A3,c3,rfl⟩:=owns_form o1;have bx:=hid (SA.out.box.grownBy g1 (fun e=>by have:=(SA.out.row.lt _ e.symm).1;omega));have y4:=bx.out.cell 4 _ rfl;have z4:=bx.out.free 4 (by simp);clear bx)
   clear k0 k1 k2 k3 k4 q2 x4 y4 z4
   have hw1:w.heap.size+2≤W1.heap.size:=by have:=HZ.out;omega
   have S5:=hid (SA.out.grow TB3.out HGD.out o1 g1 a1)
   have R5:=hid ((RA.out.wide g1 (fun j e=>by have:=(SA.out.row.lt j e).1;omega)).far (j:=4) hw1 (.slice A3 (mm+1) c3))
   have HW1:=hid hw1
   obtain⟨W5,hW5⟩:∃ W5,w4.setCell ⟨W1.heap.size,4,none⟩ (.slice A3 (mm+1) c3)=W5:=⟨_,rfl⟩
   rw[hW5] at S5 R5 ⊢
   clear hW5 hw1 o1 g1 a1 SA RA TB3 S3 R3 KT3 KF3 B3
   obtain⟨b5,off5,c5,P,q,k5,hP,-⟩:=R5.out.pr.cells
   have HP:=hid hP
   obtain⟨r0,r1,r2,r3,r4,r5,r6,r7,r8,r9,tz5⟩:=k5
   clear hP
   go_upto_region 7 with(fail)
   clear r0 r1 r2 r3 r4 r5 r6 r7 r8 r9
   obtain⟨W6,hW6⟩:∃ W6,W5.alloc (.cells #[.string P,.int .i64 q] 167)=W6:=⟨_,rfl⟩
   have B6:Hid (Below W5.heap.size W5 W6):=by rw[←hW6];exact bR.alloc lr _
   have KP6:Hid (Blk W6 W5.heap.size [.string P,.int .i64 q]):=by rw[←hW6];exact Blk.new W5 [.string P,.int .i64 q] _
   have S6:=hid (S5.out.below B6.out)
   have R6:=hid (R5.out.below B6.out)
   have HS5:Hid (w.heap.size+2≤W5.heap.size):=by have:=S5.out.box.sz;have:=HW1.out;show _≤_;omega
   rw[hW6]
   clear hW6 S5 R5 B6
   have p0:=KP6.out.cell 0 _ rfl
   have p1:=KP6.out.cell 1 _ rfl
   have u0:=S6.out.box.cell 0 _ rfl
   have u4:=S6.out.box.cell 4 _ rfl
   have hC:=rdep_closes OP (mm+1) W6
   rw[HOP.out.close] at hC
   have hC:=Calls.int hC (args':=#[.string OP,.int .i64 ((mm:Int)+1)]) rfl
   have hFo:=rdep_follows OP (mm+1) P W6 R6.out.gl.gl
   have hFo:=Calls.int hFo (args':=#[.string OP,.int .i64 ((mm:Int)+1),.string P]) rfl
   obtain⟨bb,hbb⟩:∃ bb:Bool,decide (bl P=[41]∧mm≠0)=bb:=⟨_,rfl⟩
   obtain⟨fb,hfb⟩:∃ fb:Bool,rFollows (bl OP) (mm+1) (bl P)=fb:=⟨_,rfl⟩
   obtain⟨cb,hcb⟩:∃ cb:Bool,decide (mm≠0)=cb:=⟨_,rfl⟩
   rw[hfb] at hFo
   rw[hcb] at hC
   have HFB:=hid hfb
   have HBB:=hid hbb
   have HCB:=hid hcb
   clear hbb hfb hcb
   go_cut [43] (fun v wx=>v=.bool bb∧W6=wx)
   case first=>
    clear hFo
    by_cases hp:bl P=[41]
    ·have E1:P.toList=[41]:=by rw[bl_toList];exact hp
     have E2:Hid (bb=cb):=by show _=_;rw[←HBB.out,←HCB.out];simp[hp]
     clear hp
     go_wp2_with fail
     refine hC.mono ?_;rintro e w' ⟨rfl,rfl⟩
     go_wp2_with fail
     go_meet
     exact⟨by rw[E2.out],rfl⟩
    ·have E1:(P.toList==([41]:LU))=false:=by rw[bl_toList,bF];exact hp
     have E2:Hid (bb=false):=by show _=_;rw[←HBB.out];exact dF (fun h=>hp h.1)
     clear hp
     go_wp2_with fail
     go_meet
     exact⟨by rw[E2.out],rfl⟩
   case rest=>
   obtain⟨rfl,rfl⟩:=hcut
   clear hC
   cases bb with
   | true=>
    obtain⟨hp41,hm0⟩:=dO HBB.out
    have HM0:=HidN.mk hm0
    have HL41:Hid (rLook l1=[41]):=by show _=_;rw[←HP.out];exact hp41
    have EY:Hid (RR=some (.node (bl OP) (plL (ks++[T])),rNext l1,n1)):=by
     show _=_
     rw[HE.out,plL_append,show plL [T]=[t] by simp[plL,HT.out]]
     exact rGrp_end HTM.out HL41.out (fun e=>hm0 (by have h1:=S6.out.len;rw[List.length_append,List.length_singleton,plL_nil.1 e] at h1;simp at h1;omega))
    clear hp41 hm0 hFo
    go_wp2_with fail
    refine(rdep_next a hi n1 m1 l1 W6 R6.out.pr (by rw[HL41.out];simp)).mono ?_;rintro e w7 ⟨rfl,hp,hg,hm2⟩
    have S7:=hid (S6.out.step hg hp)
    have R7:=hid (R6.out.step hg hp)
    clear hp hg hm2 p0 p1 u0 u4
    have u0:=S7.out.box.cell 0 _ rfl
    have u1:=S7.out.box.cell 1 _ rfl
    have u2:=S7.out.box.cell 2 _ rfl
    have u3:=S7.out.box.cell 3 _ rfl
    have u4:=S7.out.box.cell 4 _ rfl
    have tc:=R7.out.two.c
    obtain⟨x0,x1,x2,x3,x4,y0,y1,y2,g0,g1,g2,g3,g4,k0,k1,k2⟩:=tc
    have hne1:¬ w.heap.size=W1.heap.size:=by have:=HW1.out;omega
    have hne2:¬ W1.heap.size=w.heap.size:=by have:=HW1.out;omega
    have hne3:¬ w.heap.size+1=W1.heap.size:=by have:=HW1.out;omega
    have hne4:¬ W1.heap.size=w.heap.size+1:=by have:=HW1.out;omega
    go_wp2_with fail
    refine bodyPost_ret (grp_res _ R7.out.two.c rfl rfl _ _ _ _ _ _ _ _ ⟨rfl,rfl,rfl,rfl,rfl,rfl,rfl,rfl⟩) rfl ?_
    have ln:=S7.out.len
    have hrow:=S7.out.row
    rw[←ln] at hrow
    have hown:TOwn w7 (W1.heap.size+1) none (.mk OP ⟨#[]⟩ 0 ⟨#[]⟩ A3 c3 (ks++[T])):=.mk _ hrow (fun g _=>by simp) (fun k hk=>(S7.out.kids k hk).any)
    rw[←ln]
    refine DepPost.yes (T:=.mk OP ⟨#[]⟩ 0 ⟨#[]⟩ A3 c3 (ks++[T])) ?_ (put8_grown R7.out.gr lr _ _ _ _ _ _ _ _) (TGood.of_group HOP.out (by rw[List.length_append,List.length_singleton] at ln;omega) HM0.out S7.out.good) ((put8_own hown (by have:=HW1.out;omega) _ _ _ _ _ _ _ _).base (by have:=HW1.out;omega)) ?_ ?_ HN64.out (put8_pr R7.out.pr R7.out.lt _ _ _ _ _ _ _ _) (by have:=HM1.out;have:=HM.out;omega)
    ·rw[EY.out,pl_node _ _ _ _ _ _ _ (word_ne (HOP.out.word HM0.out)).1]
    ·rw[ht_eq]
     have:htL (ks++[T])≤32-deep:=htL_le (fun k hk=>by
      rcases List.mem_append.1 hk with hk | hk
      ·have:=HH.out k hk;omega
      ·obtain rfl:=List.mem_singleton.1 hk;have:=HHT.out;omega)
     show htL (ks++[T])+deep≤32
     omega
    ·rw[HN1.out,cnt_node (by simp[RchM.kids])];rfl
   | false=>
   have HB:Hid (¬ (rLook l1=[41]∧plL ks≠[])):=by
    rintro⟨h1,h2⟩
    refine of_decide_eq_false HBB.out ⟨by rw[HP.out];exact h1,fun e=>h2 ?_⟩
    have:=S6.out.len
    rw[List.length_append,List.length_singleton] at this
    rw[plL_nil];exact List.length_eq_zero_iff.1 (by omega)
   go_wp2_with fail
   refine hFo.mono ?_;rintro e w' ⟨rfl,rfl⟩
   clear hFo
   cases fb with
   | false=>
    have EN:Hid (RR=none):=by
     show _=_;rw[HE.out]
     refine rGrp_bad HTM.out HB.out ?_
     have:=S6.out.len
     rw[List.length_append,List.length_singleton] at this
     rw[plL_length,←HP.out,show ks.length+1=mm+1 by omega];exact HFB.out
    go_wp2_with fail
    refine(rdep_fault P q 3 _).mono ?_;rintro e w7 ⟨rfl,hb⟩
    have R7:=hid (R6.out.below hb)
    have tc:=R7.out.two.c
    obtain⟨x0,x1,x2,x3,x4,y0,y1,y2,g0,g1,g2,g3,g4,k0,k1,k2⟩:=tc
    clear hb
    unfold fltV
    go_wp2_with fail
    refine bodyPost_ret (grp_res _ R7.out.two.c rfl rfl _ _ _ _ _ _ _ _ ⟨rfl,rfl,rfl,rfl,rfl,rfl,rfl,rfl⟩) rfl ?_
    exact DepPost.no EN.out (put8_grown R7.out.gr lr _ _ _ _ _ _ _ _) (by decide)
   | true=>
    have HL1N:Hid (rLook l1≠[]):=by have:=follows_ne HFB.out;rwa [HP.out] at this
    have LN:Hid (ks.length=mm):=by have:=S6.out.len;rw[List.length_append,List.length_singleton] at this;show _=_;omega
    have F1:Hid (2*(rNext l1).length+2≤f-1+1∧f=f-1+1):=by have h1:=HF.out;have h2:=HL1.out;have h3:=rLook_next HL1N.out;constructor<;>omega
    have EN:Hid (RR=rGrp (f-1+1) (deep+1) n1 (plL (ks++[T])) (if mm=0 then bl P else bl OP) (rNext l1)):=by
     show _=_
     rw[HE.out,rGrp_more HTM.out HB.out (by rw[plL_length,LN.out,←HP.out];exact HFB.out),←F1.out.2,plL_append,show plL [T]=[t] by simp[plL,HT.out],HP.out]
     congr 1
     by_cases h0:mm=0
     ·rw[if_pos h0,if_pos (by rw[plL_nil];exact List.length_eq_zero_iff.1 (by rw[LN.out,h0]))]
     ·rw[if_neg h0,if_neg (by rw[plL_nil];intro e;have:=LN.out;rw[e] at this;simp at this;omega)]
    have HOP2:=hid (HOP.out.next HFB.out)
    have HH2:Hid (∀ k∈ks++[T],k.ht+(deep+1)≤32):=by
     intro k hk
     rcases List.mem_append.1 hk with hk | hk
     ·exact HH.out k hk
     ·obtain rfl:=List.mem_singleton.1 hk;exact HHT.out
    have hmm3:mm+1≤64:=by have h1:=cntL_len (ks++[T]);have h2:=HN1.out;have h3:=HN64.out;rw[List.length_append,List.length_singleton,LN.out] at h1;omega
    by_cases h0:mm=0
    ·have e0:bl OP=[]:=HOP.out.nil.2 h0
     have E1:OP.toList=[]:=by rw[bl_toList];exact e0
     have E2:OP.toList.isEmpty=true:=by rw[E1];rfl
     rw[if_pos h0] at EN HOP2
     have z0:=S6.out.box.free 0 (by simp)
     have S7:=hid (S6.out.put P)
     have R7:=hid (R6.out.far (j:=0) HW1.out (.string P))
     clear e0 h0
     go_wp2_with fail
     refine(rdep_next a hi n1 m1 l1 _ R7.out.pr HL1N.out).mono ?_;rintro e w7 ⟨rfl,hp,hg,hm2⟩
     have S8:=hid (S7.out.step hg hp)
     have R8:=hid (R7.out.step hg hp)
     have MD:Hid (m1-1<mc):=by have:=HM1.out;show _<_;omega
     clear hp hg hm2
     go_wp2_with fail
     go_roundw
     case rel=>exact⟨rNext l1,n1,m1-1,mm+1,c3,f-1,P,ks++[T],A3,HN64.out,hmm3,S8,R8,HOP2,EN,F1.out.1,by have:=HF0.out;show _≤_;omega,HN1,HH2,by have:=MD.out;have:=HM.out;show _≤_;omega⟩
     case measure=>exact R8.out.pr.dec HR.out.pr MD.out
    ·have e0:bl OP≠[]:=fun e=>h0 (HOP.out.nil.1 e)
     have E1:(OP.toList==([]:LU))=false:=by rw[bl_toList,bF];exact e0
     have E2:OP.toList.isEmpty=false:=by rw[bl_toList,List.isEmpty_eq_false_iff];exact e0
     have E3:¬ OP.toList=[]:=by rw[bl_toList];exact e0
     rw[if_neg h0] at EN HOP2
     clear e0 h0
     go_wp2_with fail
     refine(rdep_next a hi n1 m1 l1 _ R6.out.pr HL1N.out).mono ?_;rintro e w7 ⟨rfl,hp,hg,hm2⟩
     have S8:=hid (S6.out.step hg hp)
     have R8:=hid (R6.out.step hg hp)
     have MD:Hid (m1-1<mc):=by have:=HM1.out;show _<_;omega
     clear hp hg hm2
     go_wp2_with fail
     go_roundw
     case rel=>exact⟨rNext l1,n1,m1-1,mm+1,c3,f-1,OP,ks++[T],A3,HN64.out,hmm3,S8,R8,HOP2,EN,F1.out.1,by have:=HF0.out;show _≤_;omega,HN1,HH2,by have:=MD.out;have:=HM.out;show _≤_;omega⟩
     case measure=>exact R8.out.pr.dec HR.out.pr MD.out
end
end Go.Proofs.YtdfdllbebfoggaaGreatDoor
