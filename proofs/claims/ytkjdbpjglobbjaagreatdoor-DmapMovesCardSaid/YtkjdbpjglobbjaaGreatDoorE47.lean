/- A part of the proof of a law on dependencies in three formats. No condition. -/
import Derived.Test.YtkjdbpjglobbjaaGreatDoorE32
import Derived.Test.YtkjdbpjglobbjaaGreatDoorE42
import Derived.Test.YtkjdbpjglobbjaaGreatDoorE46
set_option maxRecDepth 100000
set_option maxHeartbeats 20000000
set_option linter.unusedVariables false
set_option linter.unusedSimpArgs false
namespace Go.Proofs.YtkjdbpjglobbjaaGreatDoor
section
open Go.RowKit
theorem yo {s:BA}{b:Bool}(h:s.toList.isEmpty=b):(bl s).isEmpty=b:=by rw[←ai];exact h
theorem zT (bar:Bool)(T:aj)(w:World)(hr:xT w T)(hn:T.cnt≤64)(hgd:dH T):
  Calls Tryz.prog 43 #[T.val,.bool bar] w (fq (kK bar T.pl) w):=by
 obtain⟨i0,hi,hz0,hz1,hz2⟩:=info_parts kN
 obtain⟨i1,hj,hy0,hy1,hy2⟩:=info_parts mg
 have HR:=ae hr
 have hkf:=nP hn
 obtain⟨W0,hW0⟩:∃ W0,w.alloc (.cells #[.string T.op,.string T.nm,.int .i64 T.aop,.string T.ver,.slice T.ka T.kids.length T.kc] 70)=W0:=⟨_,rfl⟩
 have B0:Hid (Below w.heap.size w W0):=by rw[←hW0];exact bR.alloc lr _
 have K0:Hid (aF W0 w.heap.size T.cells):=by rw[←hW0];exact aF.new w T.cells _
 have k0:=K0.out.cell 0 _ rfl
 have k1:=K0.out.cell 1 _ rfl
 have k2:=K0.out.cell 2 _ rfl
 have k3:=K0.out.cell 3 _ rfl
 have k4:=K0.out.cell 4 _ rfl
 clear hr
 cases bar
 rotate_left
 ·obtain⟨pb,hpb⟩:∃ pb,T.op.toList.isEmpty=pb:=⟨_,rfl⟩
  have HPB:=ae (yo hpb)
  unfold aj.val
  cases pb
  ·have E:Hid (kK true T.pl=([],11)):=by show _=_;rw[oO,if_neg];intro e;have:=HPB.out;rw[e] at this;cases this
   go_enter Tryz.func43,Tryz.ntmps43
   go_wp2_with fail
   go_ret2
   exact mK (by rw[E.out]) (by decide) B0.out
  ·have E:Hid (kK true T.pl=([⟨true,[cY T]⟩],0)):=by show _=_;rw[oO,if_pos (List.isEmpty_iff.1 HPB.out)]
   have DO:=ae (iT.one W0 true (cY T))
   go_enter Tryz.func43,Tryz.ntmps43
   go_wp2_with fail
   go_ret2
   exact rV (ds:=[⟨true,some ⟨W0.heap.size,0,none⟩,1,[cY T]⟩]) (by rw[E.out];rfl) (DO.out.base B0.out) ⟨by simp,fun d hd=>by rw[List.map_singleton] at hd;rw[List.mem_singleton.1 hd];exact⟨by simp[aq.pl],fun a ha=>by rw[show a=cY T from by simpa [aq.pl] using ha];exact ym hgd⟩⟩
 unfold aj.val
 obtain⟨ab,hab⟩:∃ ab,(T.op.toList == [97,110,100])=ab:=⟨_,rfl⟩
 have HAB:Hid (ab=decide (bl T.op=eU)):=by show _=_;rw[←hab,ai,bI,beq_iff_eq,decide_eq_true_iff];exact Iff.rfl
 obtain⟨W1,hW1⟩:∃ W1,W0.alloc (.cells #[.string T.op,.string T.nm,.int .i64 T.aop,.string T.ver,.slice T.ka T.kids.length T.kc] 70)=W1:=⟨_,rfl⟩
 have B1:Hid (Below W0.heap.size W0 W1):=by rw[←hW1];exact bR.alloc lr _
 have K1:=ae (K0.out.below B1.out)
 have LR:Hid (Rd W1 5 (some ⟨W0.heap.size,0,none⟩) 1 T.cells):=by
  have:=World.ownsRow_lit (base:=W0.heap.size) (e:=70) (size:=5) W0 T.cells.toArray 1 lr (by unfold maxLen;omega) rfl
  rw[show W0.alloc (.cells T.cells.toArray 70)=W1 from hW1] at this
  exact bA this
 have m0:=K1.out.cell 0 _ rfl
 have m4:=K1.out.cell 4 _ rfl
 have HR1:=ae ((HR.out.low B0.out).low B1.out)
 go_enter Tryz.func43,Tryz.ntmps43
 go_upto_if 27 with(fail)
 clear hW0 hW1
 go_cut [6] (fun s wx=>∃ (PA:Option Addr) (pc:Nat),s=.slice PA (cC T).length pc∧W1=wx∧Hid (Rd W1 5 PA (cC T).length ((cC T).flatMap aj.cells)))
 case first=>
  cases ab
  ·have E:Hid (cC T=[T]):=by show _=_;unfold cC;rw[if_neg (of_decide_eq_false HAB.out.symm)]
   go_wp2_with fail
   go_meet
   exact⟨_,_,by rw[E.out];rfl,by trivial,by rw[E.out];simpa [Hid] using LR.out⟩
  ·have E:Hid (cC T=T.kids):=by show _=_;unfold cC;rw[if_pos (dO HAB.out.symm)]
   go_wp2_with fail
   go_meet
   exact⟨_,_,by rw[E.out],by trivial,by rw[E.out];exact HR1.out.row⟩
 case rest=>
 obtain⟨PA,pc,rfl,rfl,PR⟩:=hcut
 have PGD:=ae (Jn hgd)
 clear hgd
 have PT:Hid (∀ p∈cC T,xT W1 p∧p.cnt≤64):=by
  intro p hp
  unfold cC at hp
  split at hp
  ·exact⟨HR1.out.kids p hp,hkf.2 p hp⟩
  ·rw[List.mem_singleton.1 hp];exact⟨HR1.out,hn⟩
 have hpl:(cC T).length≤64:=by
  unfold cC;split
  ·exact hkf.1
  ·simp
 have HBAD:=ae (fun (p:aj) hp h=>MP (T:=T) (p:=p) hp h)
 have HOK:=ae (PI (T:=T))
 have BW:=ae (ah B0.out B1.out)
 clear k0 k1 k2 k3 k4 m0 m4 LR K0 K1 hkf HR HR1 B0 B1 hab HAB
 generalize cC T=P at *
 generalize kK false T.pl=RR at *
 go_wp2_with fail
 go_loopw [7,32] (fun s7 s32 wr=>∃ (k:Nat) (O:Option Addr) (oc:Nat) (ds:List aq),s7=.slice O k oc∧s32=.int .i64 k∧k≤P.length∧Hid (∀ p∈P.take k,lk p=true)∧Hid (ds.map aq.pl=(P.take k).map fun p=>⟨false,(eM p).map cY⟩)∧Hid (iT W1 wr ds O k oc)) (fun _ i _=>P.length-(intOf i).toNat)
 case atStart=>exact⟨0,none,0,[],rfl,rfl,z0,by simp[Hid],rfl,iT.start W1⟩
 case round=>
  obtain⟨k,O,oc,ds,rfl,rfl,hk,HN,HO,D0⟩:=hrel
  by_cases hlt:k<P.length
  ·obtain⟨p,hp⟩:∃ p,P[k]?=some p:=⟨_,gG hlt⟩
   have hpm:=gM hp
   obtain⟨b,off,hA,he⟩:=(PR.out.below D0.out.bel).elem mL k p hp
   have e0:=he 0 _ rfl
   have e1:=he 1 _ rfl
   have e2:=he 2 _ rfl
   have e3:=he 3 _ rfl
   have e4:=he 4 _ rfl
   simp only[Nat.add_zero] at e0
   have hix:=fun W=>aH (T:=68) (E:=70) (sz:=5) (c:=pc) Tryz.underlying68 rfl Tryz.sizeOf70 hA hlt W
   have HPM:=ae hpm
   have HTK:=ae (aS hp)
   have PTD:=ae ((PT.out p hpm).1.low D0.out.bel)
   have pkf:=nP (PT.out p hpm).2
   clear hp hA he hpm
   obtain⟨wo,rfl⟩:∃ wo:World,wo=wr:=⟨_,rfl⟩
   obtain⟨W2,hW2⟩:∃ W2,wo.alloc (.cells #[.string p.op,.string p.nm,.int .i64 p.aop,.string p.ver,.slice p.ka p.kids.length p.kc] 70)=W2:=⟨_,rfl⟩
   have B2:Hid (Below wo.heap.size wo W2):=by rw[←hW2];exact bR.alloc lr _
   have K2:Hid (aF W2 wo.heap.size p.cells):=by rw[←hW2];exact aF.new wo p.cells _
   obtain⟨W3,hW3⟩:∃ W3,W2.alloc (.cells #[.string p.op,.string p.nm,.int .i64 p.aop,.string p.ver,.slice p.ka p.kids.length p.kc] 70)=W3:=⟨_,rfl⟩
   have B3:Hid (Below W2.heap.size W2 W3):=by rw[←hW3];exact bR.alloc lr _
   have K3:=ae (K2.out.below B3.out)
   have LR:Hid (Rd W3 5 (some ⟨W2.heap.size,0,none⟩) 1 p.cells):=by
    have:=World.ownsRow_lit (base:=W2.heap.size) (e:=70) (size:=5) W2 p.cells.toArray 1 lr (by unfold maxLen;omega) rfl
    rw[show W2.alloc (.cells p.cells.toArray 70)=W3 from hW3] at this
    exact bA this
   have q0:=K2.out.cell 0 _ rfl
   have q1:=K2.out.cell 1 _ rfl
   have q2:=K2.out.cell 2 _ rfl
   have q3:=K2.out.cell 3 _ rfl
   have q4:=K2.out.cell 4 _ rfl
   have m0:=K3.out.cell 0 _ rfl
   have m4:=K3.out.cell 4 _ rfl
   have PT3:=ae ((PTD.out.low B2.out).low B3.out)
   obtain⟨ob,hob⟩:∃ ob,(p.op.toList == [111,114])=ob:=⟨_,rfl⟩
   have HOB:Hid (ob=decide (bl p.op=eE)):=by show _=_;rw[←hob,ai,bI,beq_iff_eq,decide_eq_true_iff];exact Iff.rfl
   go_upto_if 40 with(fail)
   clear hW2 hW3 e0 e1 e2 e3 e4 hix
   go_cut [10] (fun s wx=>∃ (QA:Option Addr) (qc:Nat),s=.slice QA (eM p).length qc∧W3=wx∧Hid (Rd W3 5 QA (eM p).length ((eM p).flatMap aj.cells)))
   case first=>
    cases ob
    ·have E:Hid (eM p=[p]):=by show _=_;unfold eM;rw[if_neg (of_decide_eq_false HOB.out.symm)]
     go_wp2_with fail
     go_meet
     exact⟨_,_,by rw[E.out];rfl,by trivial,by rw[E.out];simpa [Hid] using LR.out⟩
    ·have E:Hid (eM p=p.kids):=by show _=_;unfold eM;rw[if_pos (dO HOB.out.symm)]
     go_wp2_with fail
     go_meet
     exact⟨_,_,by rw[E.out],by trivial,by rw[E.out];exact PT3.out.row⟩
   case rest=>
   obtain⟨QA,qc,rfl,rfl,QR⟩:=hcut
   have hql:(eM p).length≤64:=by
    unfold eM;split
    ·exact pkf.1
    ·simp
   have HLF:Hid (lk p=(eM p).all fun a=>(bl a.op).isEmpty):=rfl
   have D3:=ae (D0.out.below (ah B2.out B3.out))
   clear q0 q1 q2 q3 q4 m0 m4 LR K2 K3 pkf PTD PT3 B2 B3 hob HOB D0
   obtain⟨Q,hQ⟩:∃ Q,eM p=Q:=⟨_,rfl⟩
   have HQ:=ae hQ
   rw[hQ] at QR hql HLF
   rw[hQ]
   clear hQ
   have A0:=ae (Ht.start W3 false 33)
   go_wp2_with fail
   go_loopw [45] (fun i wx=>∃ (j cc:Nat) (G:Option Addr),j≤Q.length∧i=.int .i64 j∧Hid (∀ a∈Q.take j,(bl a.op).isEmpty=true)∧Hid (Ht W3 wx W3.heap.size (W3.heap.size+1) false G j cc ((Q.take j).map cY))) (fun i _=>Q.length-(intOf i).toNat)
   case atStart=>exact⟨0,0,none,z0,rfl,by simp[Hid],A0⟩
   case round=>
    clear A0
    obtain⟨j,cc,G,hj',rfl,HT,AL⟩:=hrel
    by_cases hlt4:j<Q.length
    ·obtain⟨a,ha⟩:∃ a,Q[j]?=some a:=⟨_,gG hlt4⟩
     obtain⟨b2,off2,hA2,he2⟩:=(QR.out.below AL.out.bel).elem mL j a ha
     have e0:=he2 0 _ rfl
     have e1:=he2 1 _ rfl
     have e2:=he2 2 _ rfl
     have e3:=he2 3 _ rfl
     have e4:=he2 4 _ rfl
     simp only[Nat.add_zero] at e0
     have hix2:=fun W=>aH (T:=68) (E:=70) (sz:=5) (c:=qc) Tryz.underlying68 rfl Tryz.sizeOf70 hA2 hlt4 W
     have HAM:=ae (gM ha)
     have HT2:=ae (aS ha)
     obtain⟨W5,hW5⟩:∃ W5,wr.alloc (.cells #[.string a.op,.string a.nm,.int .i64 a.aop,.string a.ver,.slice a.ka a.kids.length a.kc] 70)=W5:=⟨_,rfl⟩
     have B5:Hid (Below wr.heap.size wr W5):=by rw[←hW5];exact bR.alloc lr _
     have K5:Hid (aF W5 wr.heap.size a.cells):=by show aF _ _ _;rw[←hW5];exact aF.new wr a.cells _
     have k0:=K5.out.cell 0 _ rfl
     have k1:=K5.out.cell 1 _ rfl
     have k2:=K5.out.cell 2 _ rfl
     have k3:=K5.out.cell 3 _ rfl
     have AL5:=ae (AL.out.step B5.out)
     clear ha hA2 he2
     obtain⟨eb,heb⟩:∃ eb,a.op.toList.isEmpty=eb:=⟨_,rfl⟩
     have HEB:=ae (yo heb)
     cases eb
     ·have E:Hid (RR=([],11)):=HBAD.out p HPM.out (by rw[HLF.out,List.all_eq_false];exact⟨a,HAM.out,by rw[HEB.out];simp⟩)
      go_wp2_with fail
      go_ret2
      exact mK (by rw[E.out]) (by decide) (ah BW.out (ah D3.out.bel (ah AL.out.bel B5.out)))
     have HO2:=ae AL5.out.own
     have m1:=AL5.out.box.cell 1 _ rfl
     have hbz:=AL5.out.sz
     have FB:Hid (some W3.heap.size≠(Value.slice G j cc).ownBlock):=by intro e;have:=(HO2.out.lt _ e.symm).1;omega
     have hnw:¬ W3.heap.size=wr.heap.size:=by have:=AL.out.sz;omega
     have hnw2:¬ wr.heap.size=W3.heap.size:=by omega
     have HW5:=ae hW5
     clear hW5
     go_upto_region 19 with(fail)
     rw[HW5.out]
     go_wp2_with (
      at_builtin
      refine ak _ rfl _ _ _ rfl (W3.heap.size+1) 53 i1 _ 3 40 Tryz.underlying31 hj hy0 hy1 hy2 rfl (by omega) (.slice G j cc) j _ rfl (HO2.out.alloc _) (W5.heap.size+1) (some ⟨W5.heap.size,0,none⟩) 1 1 [.string a.nm,.int .i64 a.aop,.string a.ver] rfl (dI W5 _ _ _ _) (by simp[Value.oneCell']) (by simp only[maxLen];omega) (by omega) (by simp;omega) ?_
      intro v1 w6 hown1 hg1 hat1
      obtain⟨G1,c1,rfl⟩:=aG hown1
      have KB:=ae ((AL5.out.box.alloc (.cells #[.string a.nm,.int .i64 a.aop,.string a.ver] 53)).grownR hg1 FB.out)
      have m1':=KB.out.cell 1 _ rfl
      have m1f:=KB.out.free 1 (by simp))
     have N1:=ae (AL5.out.app _ (x:=cY a) hown1 hg1)
     clear hown1 hg1 hat1
     go_wp2_with fail
     go_roundw
     case rel=>exact⟨j+1,c1,G1,by omega,by go_num,ae (fun y hy=>by
      rw[HT2.out] at hy
      rcases List.mem_append.1 hy with hy | hy
      ·exact HT.out y hy
      ·rw[List.mem_singleton.1 hy];exact HEB.out),by rw[HT2.out,List.map_append];exact N1⟩
     case measure=>simp[intOf];omega
    ·obtain rfl:j=Q.length:=by omega
     have EG:Hid (lk p=true):=by
      show _=_;rw[HLF.out,List.all_eq_true];intro a ha;exact HT.out a (by rw[List.take_length];exact ha)
     have EL:Hid ((Q.take Q.length).map cY=Q.map cY):=by show _=_;rw[List.take_length]
     generalize (Q.take Q.length).map cY=LL at *
     have D1:=ae (D3.out.below AL.out.bel)
     have HO2:=ae D1.out.row
     have m0:=AL.out.box.cell 0 _ rfl
     have m1:=AL.out.box.cell 1 _ rfl
     have HBL:=ae D3.out.blk_lt
     have hwz:=D1.out.bel.size
     have hwy:=D3.out.bel.size
     go_wp2_with (
      at_builtin
      refine ak _ rfl _ _ _ rfl W1.heap.size 33 i0 _ 2 32 Tryz.underlying22 hi hz0 hz1 hz2 rfl (by omega) (.slice O k oc) k _ rfl (HO2.out.alloc _) (wr.heap.size+1) (some ⟨wr.heap.size,0,none⟩) 1 1 [.bool false,.slice G Q.length cc] rfl (kI wr _ _ _) (by simp[Value.oneCell']) (by simp only[maxLen];omega) (by omega) (by simp;omega) ?_
      intro v1 w6 hown1 hg1 hat1
      obtain⟨O1,c1,rfl⟩:=aG hown1)
     have N1:Hid (iT W1 w6 (ds++[⟨false,G,cc,LL⟩]) O1 (k+1) c1):=D1.out.grow AL.out.dep (by omega) (fun x hx g hg=>by have:=HBL.out x hx g hg;omega) (by rw[AL.out.cells];exact hown1) hg1
     clear hown1 hg1 hat1
     go_wp2_with fail
     go_roundw
     case rel=>exact⟨k+1,O1,c1,_,rfl,by go_num,by omega,ae (fun y hy=>by
      rw[HTK.out] at hy
      rcases List.mem_append.1 hy with hy | hy
      ·exact HN.out y hy
      ·rw[List.mem_singleton.1 hy];exact EG.out),by show _=_;rw[HTK.out,List.map_append,List.map_append,HO.out];congr 1;simp[aq.pl,EL.out,HQ.out],N1⟩
     case measure=>simp[intOf];omega
  ·have E:Hid (RR=(ds.map aq.pl,0)):=by
    show _=_
    rw[HOK.out,HO.out,tL (by omega)]
    intro p hp
    exact HN.out p (by rw[tL (by omega)];exact hp)
   have EF:Hid (Pp (ds.map aq.pl)):=by
    rw[HO.out,tL (by omega)]
    refine⟨by rw[List.length_map];exact hpl,fun d hd=>?_⟩
    obtain⟨p,hp,rfl⟩:=List.mem_map.1 hd
    refine⟨?_,fun a ha=>?_⟩
    ·show((eM p).map cY).length≤64
     rw[List.length_map]
     have:=(nP (PT.out p hp).2).1
     unfold eM;split
     ·exact this
     ·simp
    ·obtain⟨y,hy,rfl⟩:=List.mem_map.1 ha
     exact ym (MQ (PGD.out p hp) y hy)
   go_wp2_with fail
   go_ret2
   exact rV E.out (D0.out.base BW.out) EF.out
structure En (w:World):Prop where
 e:NY w
 p:Hr w
theorem En.below {w w':World}(h:En w)(hb:Below w.heap.size w w'):En w':=⟨h.e.below hb,h.p.below hb⟩
theorem fq.base {r:List ba×Int}{w w1 w':World}{e:Ending}(h:fq r w1 e w')(hb:Below w.heap.size w w1):fq r w e w':=by
 obtain⟨A,n,c,ds,code,he,hb1,hi⟩:=h
 refine⟨A,n,c,ds,code,he,ah hb hb1,?_⟩
 split at hi
 ·rename_i h0;rw[if_pos h0];exact⟨hi.1,hi.2.1,hi.2.2.1.base hb,hi.2.2.2⟩
 ·rename_i h0;rw[if_neg h0];exact hi
theorem tG {r:List ba×Int}{w w':World}{code:Int}(hr:r=([],-1))(hc:code≠0)(hb:Below w.heap.size w w'):fq r w (.returned (.tuple #[.slice none 0 0,.int .i64 code])) w':=
 ⟨none,0,0,[],code,rfl,hb,by rw[hr,if_neg (by decide)];exact⟨hc,fun h=>absurd rfl h,rfl,rfl⟩⟩
theorem Jq {bar:Bool}{s:LU}{L:List (List cL)}(h:eT s=some L):bX 1 bar s=pE bar L:=by unfold bX;rw[if_pos rfl,h]
theorem Dz {bar:Bool}{s:LU}(h:eT s=none):bX 1 bar s=([],-1):=by unfold bX;rw[if_pos rfl,h]
theorem Jr {bar:Bool}{s:LU}{d:gQ}(h:dD s=some d):bX 2 bar s=kK bar d:=by unfold bX;rw[if_neg (by decide),if_pos rfl,h]
theorem DA {bar:Bool}{s:LU}(h:dD s=none):bX 2 bar s=([],-1):=by unfold bX;rw[if_neg (by decide),if_pos rfl,h]
theorem Js {bar:Bool}{s:LU}{L:List dR}(h:eR s=some L):bX 3 bar s=rL bar L:=by unfold bX;rw[if_neg (by decide),if_neg (by decide),h]
theorem DB {bar:Bool}{s:LU}(h:eR s=none):bX 3 bar s=([],-1):=by unfold bX;rw[if_neg (by decide),if_neg (by decide),h]
def MS (A:Option Addr)(n c:Nat)(T:aj)(B:Option Addr)(m d:Nat):List Value:=[.slice A n c,.string T.op,.string T.nm,.int .i64 T.aop,.string T.ver,.slice T.ka T.kids.length T.kc,.slice B m d]
theorem Jt (bar:Bool)(s:BA)(w:World)(hG:En w)(hs:s.size≤1000000):
  Calls Tryz.prog 25 #[.int .i64 1,.string s,.bool bar] w (fq (bX 1 bar (bl s)) w):=by
 have HG:=ae hG
 clear hG
 go_enter Tryz.func25,Tryz.ntmps25
 go_wp2_with fail
 refine(yr s w HG.out.e.1 hs).mono ?_;rintro e w1 ⟨A,n,c,T,B,m,d,code,rfl,hb1,h1,h2,h3⟩
 have hm:=h1 rfl
 have B1:=ae hb1
 clear h1 h2 h3 hb1
 unfold nQ
 obtain⟨W2,hW2⟩:∃ W2,w1.alloc (.cells #[.slice A n c,.string T.op,.string T.nm,.int .i64 T.aop,.string T.ver,.slice T.ka T.kids.length T.kc,.slice B m d] 73)=W2:=⟨_,rfl⟩
 have B2:Hid (Below w1.heap.size w1 W2):=by rw[←hW2];exact bR.alloc lr _
 have K2:Hid (aF W2 w1.heap.size (MS A n c T B m d)):=by show aF _ _ _;rw[←hW2];exact aF.new w1 (MS A n c T B m d) _
 have k0:=K2.out.cell 0 _ rfl
 have k1:=K2.out.cell 1 _ rfl
 have k2:=K2.out.cell 2 _ rfl
 have k3:=K2.out.cell 3 _ rfl
 have k4:=K2.out.cell 4 _ rfl
 have k5:=K2.out.cell 5 _ rfl
 have k6:=K2.out.cell 6 _ rfl
 have BW:=ae (ah B1.out B2.out)
 have HW2:=ae hW2
 clear hW2
 unfold UF at hm
 cases hd:eT (bl s) with
 | none=>
  rw[hd] at hm
  have E:=ae (Dz (bar:=bar) hd)
  have q:(code != 0)=true:=by simpa [bne] using hm
  have HC:=ae hm
  clear hm hd
  go_upto_region 2 with(fail)
  rw[HW2.out]
  go_wp2_with fail
  go_ret2
  exact tG E.out HC.out BW.out
 | some L=>
  rw[hd] at hm
  obtain⟨rfl,gs,rfl,rfl,hm⟩:=hm
  have E:=ae (Jq (bar:=bar) hd)
  have HM:=ae hm
  clear hm hd
  go_upto_region 2 with(fail)
  rw[HW2.out]
  go_wp2_with fail
  refine(uY bar A c gs W2 (HM.out.1.below B2.out) HM.out.2.2.few HM.out.2.2.len (fun g hg t ht=>⟨(HM.out.2.2.ok g hg t ht).nmz,(HM.out.2.2.ok g hg t ht).verz⟩) HM.out.2.1).mono ?_
  rintro e w3 hT
  have HT:=ae (hT.base BW.out)
  obtain⟨A',n',c',ds,code',rfl,hb,hi⟩:=HT.out
  clear hT hb hi
  go_wp2_with fail
  go_ret2
  rw[E.out]
  exact HT.out
theorem Ju (bar:Bool)(s:BA)(w:World)(hG:En w)(hs:s.size≤1000000):
  Calls Tryz.prog 25 #[.int .i64 2,.string s,.bool bar] w (fq (bX 2 bar (bl s)) w):=by
 have HG:=ae hG
 clear hG
 go_enter Tryz.func25,Tryz.ntmps25
 go_wp2_with fail
 refine(qH s w HG.out.e.1 hs).mono ?_;rintro e w1 ⟨A,n,c,T,B,m,d,code,rfl,hb1,h1,h2,h3⟩
 have hm:=h2 rfl
 have B1:=ae hb1
 clear h1 h2 h3 hb1
 unfold nQ
 obtain⟨W2,hW2⟩:∃ W2,w1.alloc (.cells #[.slice A n c,.string T.op,.string T.nm,.int .i64 T.aop,.string T.ver,.slice T.ka T.kids.length T.kc,.slice B m d] 73)=W2:=⟨_,rfl⟩
 have B2:Hid (Below w1.heap.size w1 W2):=by rw[←hW2];exact bR.alloc lr _
 have K2:Hid (aF W2 w1.heap.size (MS A n c T B m d)):=by show aF _ _ _;rw[←hW2];exact aF.new w1 (MS A n c T B m d) _
 have k0:=K2.out.cell 0 _ rfl
 have k1:=K2.out.cell 1 _ rfl
 have k2:=K2.out.cell 2 _ rfl
 have k3:=K2.out.cell 3 _ rfl
 have k4:=K2.out.cell 4 _ rfl
 have k5:=K2.out.cell 5 _ rfl
 have k6:=K2.out.cell 6 _ rfl
 have BW:=ae (ah B1.out B2.out)
 have HW2:=ae hW2
 clear hW2
 unfold Uv at hm
 cases hd:dD (bl s) with
 | none=>
  rw[hd] at hm
  have E:=ae (DA (bar:=bar) hd)
  have q:(code != 0)=true:=by simpa [bne] using hm
  have HC:=ae hm
  clear hm hd
  go_upto_region 2 with(fail)
  rw[HW2.out]
  go_wp2_with fail
  go_ret2
  exact tG E.out HC.out BW.out
 | some L=>
  rw[hd] at hm
  obtain⟨rfl,rfl,hm⟩:=hm
  have E:=ae (Jr (bar:=bar) hd)
  have HM:=ae hm
  clear hm hd
  go_upto_region 2 with(fail)
  rw[HW2.out]
  go_wp2_with fail
  refine(zT bar T W2 (HM.out.1.low B2.out) HM.out.2.1 HM.out.2.2).mono ?_
  rintro e w3 hT
  have HT:=ae (hT.base BW.out)
  obtain⟨A',n',c',ds,code',rfl,hb,hi⟩:=HT.out
  clear hT hb hi
  go_wp2_with fail
  go_ret2
  rw[E.out]
  exact HT.out
theorem Jv (bar:Bool)(s:BA)(w:World)(hG:En w)(hs:s.size≤1000000):
  Calls Tryz.prog 25 #[.int .i64 3,.string s,.bool bar] w (fq (bX 3 bar (bl s)) w):=by
 have HG:=ae hG
 clear hG
 go_enter Tryz.func25,Tryz.ntmps25
 go_wp2_with fail
 refine(yu s w HG.out.e hs).mono ?_;rintro e w1 ⟨A,n,c,T,B,m,d,code,rfl,hb1,h1,h2,h3,-⟩
 have hm:=h3 rfl
 have B1:=ae hb1
 clear h1 h2 h3 hb1
 unfold nQ
 obtain⟨W2,hW2⟩:∃ W2,w1.alloc (.cells #[.slice A n c,.string T.op,.string T.nm,.int .i64 T.aop,.string T.ver,.slice T.ka T.kids.length T.kc,.slice B m d] 73)=W2:=⟨_,rfl⟩
 have B2:Hid (Below w1.heap.size w1 W2):=by rw[←hW2];exact bR.alloc lr _
 have K2:Hid (aF W2 w1.heap.size (MS A n c T B m d)):=by show aF _ _ _;rw[←hW2];exact aF.new w1 (MS A n c T B m d) _
 have k0:=K2.out.cell 0 _ rfl
 have k1:=K2.out.cell 1 _ rfl
 have k2:=K2.out.cell 2 _ rfl
 have k3:=K2.out.cell 3 _ rfl
 have k4:=K2.out.cell 4 _ rfl
 have k5:=K2.out.cell 5 _ rfl
 have k6:=K2.out.cell 6 _ rfl
 have BW:=ae (ah B1.out B2.out)
 have HW2:=ae hW2
 clear hW2
 unfold UG at hm
 cases hd:eR (bl s) with
 | none=>
  rw[hd] at hm
  have E:=ae (DB (bar:=bar) hd)
  have q:(code != 0)=true:=by simpa [bne] using hm
  have HC:=ae hm
  clear hm hd
  go_upto_region 2 with(fail)
  rw[HW2.out]
  go_wp2_with fail
  go_ret2
  exact tG E.out HC.out BW.out
 | some L=>
  rw[hd] at hm
  obtain⟨rfl,rfl,hm⟩:=hm
  have E:=ae (Js (bar:=bar) hd)
  have HM:=ae hm
  clear hm hd
  go_upto_region 2 with(fail)
  rw[HW2.out]
  go_wp2_with fail
  refine(xQ bar B d L W2 (HM.out.1.below B2.out) HM.out.2.1 HM.out.2.2).mono ?_
  rintro e w3 hT
  have HT:=ae (hT.base BW.out)
  obtain⟨A',n',c',ds,code',rfl,hb,hi⟩:=HT.out
  clear hT hb hi
  go_wp2_with fail
  go_ret2
  rw[E.out]
  exact HT.out
theorem MT (fmt:Int)(hf:dk fmt)(bar:Bool)(s:BA)(w:World)(hG:En w)(hs:s.size≤1000000):
  Calls Tryz.prog 25 #[.int .i64 fmt,.string s,.bool bar] w (fq (bX fmt bar (bl s)) w):=by
 rcases hf with rfl | rfl | rfl
 ·exact Jt bar s w hG hs
 ·exact Ju bar s w hG hs
 ·exact Jv bar s w hG hs
theorem oQ:∀ l:List aq,∀ u∈l.flatMap aq.cells,u.oneCell'=true
 | [],u,hu=>by simp at hu
 | d::r,u,hu=>by
  rw[List.flatMap_cons,List.mem_append] at hu
  rcases hu with hu | hu
  ·simp only[aq.cells,List.mem_cons,List.not_mem_nil,or_false] at hu
   rcases hu with rfl | rfl<;>rfl
  ·exact oQ r u hu
theorem mo (fmt:Int)(bar:Bool)(A:Option Addr)(c:Nat)(l:List BA)(w:World)(hG:En w)(hr:Rd w 1 A l.length (strCells l))(hl:l.length≤1000)(hz:∀ x∈l,x.size≤1000000):
  Calls Tryz.prog 9 #[.int .i64 fmt,.slice A l.length c,.bool bar] w (yv fmt bar (l.map bl) w):=by
 obtain⟨i0,hi,hz0,hz1,hz2⟩:=info_parts kN
 have HG:=ae hG;have HR:=ae hr;have HZ:=ae hz
 have HNF:=ae fun W=>fR fmt W
 clear hG hr hz
 by_cases hf:¬ dk fmt
 ·have E:=ae (MU hf (bar:=bar) (ts:=l.map bl))
  rw[dF hf] at HNF
  clear hf
  go_enter Tryz.func9,Tryz.ntmps9
  go_wp2_with fail
  refine(HNF.out _).mono ?_;rintro e w' ⟨rfl,rfl⟩
  go_wp2_with fail
  go_ret2
  exact vA (by rw[E.out];decide) (by decide) (fun _=>E.out.symm) bR
 have hf1:dk fmt:=Decidable.not_not.1 hf
 rw[dT hf1] at HNF
 have HF:=ae hf1
 clear hf hf1
 go_enter Tryz.func9,Tryz.ntmps9
 go_wp2_with fail
 refine(HNF.out _).mono ?_;rintro e w' ⟨rfl,rfl⟩
 go_wp2_with fail
 go_loopw [8,9,24] (fun s8 s9 s24 wr=>∃ (k:Nat) (O:Option Addr) (n oc cnt:Nat) (ds:List aq),s8=.slice O n oc∧s9=.int .i64 cnt∧s24=.int .i64 k∧k≤l.length∧n≤64*k∧cnt≤4096*k∧Hid (∀ y∈l.take k,fp fmt bar (bl y)=0)∧Hid (ds.map aq.pl=cq fmt bar ((l.take k).map bl))∧Hid (cnt=bH (cq fmt bar ((l.take k).map bl)))∧Hid (iT w wr ds O n oc)) (fun _ _ i _=>l.length-(intOf i).toNat)
 case atStart=>exact⟨0,none,0,0,0,[],rfl,rfl,rfl,z0,z0,z0,by simp[Hid],rfl,rfl,iT.start w⟩
 case round=>
  obtain⟨k,O,n,oc,cnt,ds,rfl,rfl,rfl,hk,hn,hcn,HN,HO,HCN,D0⟩:=hrel
  by_cases hlt:k<l.length
  ·obtain⟨x,hx⟩:∃ x,l[k]?=some x:=⟨_,gG hlt⟩
   obtain⟨b,off,hA,he⟩:=(HR.out.below D0.out.bel).str k x hx
   have hix:=fun W=>aH (T:=25) (E:=9) (sz:=1) (c:=c) Tryz.underlying25 rfl Tryz.sizeOf9 hA hlt W
   simp only[Nat.mul_one] at hix
   have hxs:=HZ.out x (gM hx)
   have HX:=ae hx
   have HXN:=ae (Jy (fmt:=fmt) (bar:=bar) hx)
   have HTK:=ae (aS hx)
   clear hx hA
   obtain⟨wo,rfl⟩:∃ wo:World,wo=wr:=⟨_,rfl⟩
   go_wp2_with fail
   refine(MT fmt HF.out bar x wo (HG.out.below D0.out.bel) hxs).mono ?_
   rintro e w1 ⟨A1,m,c1,D,code,rfl,hb1,hm⟩
   have B1:=ae hb1
   clear hb1 he hix
   by_cases hte:(bX fmt bar (bl x)).2=0
   rotate_left
   ·rw[if_neg hte] at hm
    obtain⟨hc0,hc1,rfl,rfl⟩:=hm
    have hfx:fp fmt bar (bl x)=(bX fmt bar (bl x)).2:=by unfold fp;rw[if_pos hte]
    have E:Hid (ek fmt bar (l.map bl)=(bX fmt bar (bl x)).2):=by show _=_;rw[Kv HF.out HX.out HN.out (by rw[hfx];exact hte),hfx]
    have HTE:=ae hte
    have q:(code != 0)=true:=by simpa [bne] using hc0
    have HC0:=ae hc0;have HC1:=ae hc1
    clear hc0 hc1 hte hfx
    go_wp2_with fail
    go_ret2
    exact vA (by rw[E.out];exact HTE.out) HC0.out (fun h=>by rw[E.out] at h ⊢;exact HC1.out h) (ah D0.out.bel B1.out)
   rw[if_pos hte] at hm
   obtain⟨rfl,hDP,hDS,hfew⟩:=hm
   have hfx:fp fmt bar (bl x)=lG fmt (bX fmt bar (bl x)).1:=by unfold fp;rw[if_neg (by rw[hte];simp)]
   have HFX:=ae hfx
   obtain⟨P,hP⟩:∃ P,(bX fmt bar (bl x)).1=P:=⟨_,rfl⟩
   rw[hP] at HXN HFX hDP hfew
   have HDP:=ae hDP
   have DS0:=ae hDS
   have HFW:=ae hfew
   have hml:m=P.length:=by rw[←hDP,List.length_map,hDS.len]
   have hm64:m≤64:=by rw[hml];exact hfew.1
   have HML:=ae hml
   have HBA:=ae (fun h=>Kv (fmt:=fmt) HF.out HX.out HN.out h)
   clear hte hfx hP hDP hDS hfew hml
   go_wp2_with fail
   go_loopw [9,40] (fun s9 s40 wx=>∃ (i cn:Nat) (D':List aq),s9=.int .i64 cn∧s40=.int .i64 i∧i≤m∧cn≤4096*k+64*i∧Hid (cn=cnt+bH (P.take i))∧Hid (D'.map aq.pl=zV fmt P i)∧Hid (∀ y∈P.take i,∀ g∈y.alts,(bc fmt 1 g).2=0)∧Hid (iT wo wx D' A1 m c1)) (fun _ i _=>m-(intOf i).toNat)
   case atStart=>exact⟨0,cnt,D,rfl,rfl,z0,by omega,rfl,by show _=_;rw[Jw];exact HDP.out,by simp[Hid],DS0⟩
   case round=>
    clear DS0
    obtain⟨i,cn,D',rfl,rfl,hi',hcn',HCI,HPL,HZI,DS1⟩:=hrel
    by_cases hlt2:i<m
    ·have HIP:Hid (i<P.length):=by have:=HML.out;show _<_;omega
     obtain⟨pd,hpd⟩:∃ pd,P[i]?=some pd:=⟨_,gG HIP.out⟩
     obtain⟨d,hd⟩:∃ d,D'[i]?=some d:=⟨_,gG (by rw[DS1.out.len];exact hlt2)⟩
     have hdpl:d.pl=pd:=by
      have h1:=congrArg (·[i]?) HPL.out
      rw[GE hpd] at h1
      simp only[List.getElem?_map,hd,PL HIP.out,Option.map_some,Option.some.injEq] at h1
      rw[h1];simp
     have HPD:=ae hpd;have HD:=ae hd
     have HDB:Hid (d.bar=pd.bar∧d.alts=pd.alts):=by rw[←hdpl];exact⟨rfl,rfl⟩
     have hdm:=gM hd
     have hal:d.alts.length≤64:=by rw[HDB.out.2];exact(HFW.out.2 pd (gM hpd)).1
     have HSM:Hid (∀ g∈pd.alts,g.nm.size≤64∧g.ver.size≤64):=(HFW.out.2 pd (gM hpd)).2
     have HLTG:=ae ((DS1.out.al d hdm).lt)
     obtain⟨b2,off2,hA2,he2⟩:=(DS1.out.ok.row.elem fI i d hd)
     have e0:=he2 0 _ rfl
     have e1:=he2 1 _ rfl
     simp only[Nat.add_zero] at e0
     have hix2:=fun W=>aH (T:=22) (E:=33) (sz:=2) (n:=m) (c:=c1) Tryz.underlying22 rfl Tryz.sizeOf33 hA2 hlt2 W
     clear hpd hd hA2 he2 hdpl hdm
     obtain⟨wi,rfl⟩:∃ wi:World,wi=wr:=⟨_,rfl⟩
     obtain⟨L,hLe⟩:∃ L,d.alts=L:=⟨_,rfl⟩
     rw[hLe] at hal HDB
     obtain⟨aa,haa⟩:∃ aa,d.aa=aa:=⟨_,rfl⟩
     obtain⟨ac,hac⟩:∃ ac,d.ac=ac:=⟨_,rfl⟩
     obtain⟨db,hdb⟩:∃ db,d.bar=db:=⟨_,rfl⟩
     rw[hdb] at HDB
     have e0':=e0
     rw[hdb] at e0'
     have e1':=e1
     rw[hLe,haa,hac] at e1'
     have HLE:=ae hLe;have HAA:=ae haa;have HAC:=ae hac;have HDBB:=ae hdb
     clear e0 e1 hLe haa hac hdb
     obtain⟨W2,hW2⟩:∃ W2,wi.alloc (.cells #[.bool db,.slice aa L.length ac] 33)=W2:=⟨_,rfl⟩
     have B2:Hid (Below wi.heap.size wi W2):=by rw[←hW2];exact bR.alloc lr _
     have K2:Hid (aF W2 wi.heap.size [.bool db,.slice aa L.length ac]):=by show aF _ _ _;rw[←hW2];exact aF.new wi [.bool db,.slice aa L.length ac] _
     have k1:=K2.out.cell 1 _ rfl
     have DS2:=ae (DS1.out.below B2.out)
     have hz2w:wi.heap.size<W2.heap.size:=K2.out.sz
     have HW2:=ae hW2
     clear hW2
     go_upto_region 14 with(fail)
     rw[HW2.out]
     go_wp2_with fail
     clear k1 HW2
     go_loopw [47] (fun s wx=>∃ (j:Nat) (D2:List aq),j≤L.length∧s=.int .i64 j∧Hid (D2.map aq.head=D'.map aq.head)∧Hid (D2.map aq.pl=zU fmt P i pd.bar L j)∧Hid (∀ g∈L.take j,(bc fmt 1 g).2=0)∧Hid (iT wo wx D2 A1 m c1)∧Hid (aF wx wi.heap.size [.bool db,.slice aa L.length ac])) (fun i _=>L.length-(intOf i).toNat)
     case atStart=>exact⟨0,D',z0,rfl,rfl,by show _=_;rw[HPL.out,GE HPD.out,HDB.out.2],by simp[Hid],DS2,K2⟩
     case round=>
      clear DS2 K2
      obtain⟨j,D2,hj',rfl,HHD,HMD,HZJ,DS3,K3⟩:=hrel
      have k1:=K3.out.cell 1 _ rfl
      by_cases hlt3:j<L.length
      ·obtain⟨g,hg⟩:∃ g,L[j]?=some g:=⟨_,gG hlt3⟩
       have hgL:pd.alts[j]?=some g:=by rw[←HDB.out.2];exact hg
       have hsm:=HSM.out g (gM hgL)
       obtain⟨d2,hd2⟩:∃ d2,D2[i]?=some d2:=⟨_,gG (by rw[DS3.out.len];exact hlt2)⟩
       obtain⟨hh1,hh2,hh3,hh4⟩:=PO HHD.out hd2 HD.out
       have hp2:d2.pl=⟨pd.bar,(L.take j).map (fun g=>(bc fmt 1 g).1)++L.drop j⟩:=by
        have h1:=congrArg (·[i]?) HMD.out
        simp only[List.getElem?_map,hd2,PL HIP.out,Option.map_some,Option.some.injEq] at h1
        exact h1
       have ha2:d2.alts=(L.take j).map (fun g=>(bc fmt 1 g).1)++L.drop j:=congrArg ba.alts hp2
       have hb2:d2.bar=pd.bar:=congrArg ba.bar hp2
       rw[HLE.out] at hh4
       rw[HAA.out] at hh2
       rw[HAC.out] at hh3
       have hown:=DS3.out.al d2 (gM hd2)
       unfold aq.own at hown
       obtain⟨g0,cp,hv,_,_⟩:=hown.form (by omega)
       have haa:aa=some ⟨g0,0,none⟩:=by rw[←hh2];injection hv
       have hg0:g0<wi.heap.size:=by
        refine(HLTG.out g0 ?_).2
        rw[HAA.out,haa];rfl
       obtain⟨b3,off3,hA3,he3⟩:=(bA hown).elem dw j g (by rw[ha2];exact GF hg)
       obtain⟨rfl,rfl⟩:g0=b3∧0=off3:=by rw[hh2,haa] at hA3;injection hA3 with hA3;injection hA3 with h1 h2 _;exact⟨h1,h2⟩
       have e0:=he3 0 _ rfl
       have e1:=he3 1 _ rfl
       have e2:=he3 2 _ rfl
       simp only[Nat.add_zero,Nat.zero_add] at e0 e1 e2
       have hix3:=fun W=>aH (T:=31) (E:=53) (sz:=3) (n:=L.length) (c:=ac) Tryz.underlying31 rfl Tryz.sizeOf53 haa hlt3 W
       simp only[Nat.zero_add] at hix3
       have HG2:=ae hg;have HGL:=ae hgL;have HD2:=ae hd2;have HA2:=ae ha2;have HB2:=ae hb2;have HAAE:=ae haa;have HH:=ae (show d2.aa=aa∧d2.ac=ac∧d2.alts.length=L.length from⟨hh2,hh3,hh4⟩)
       obtain⟨⟨ga,ec⟩,hr⟩:∃ r,bc fmt 1 g=r:=⟨_,rfl⟩
       have HRR:=ae hr
       have HAT:=ae (fun W hG=>nK fmt 1 g W hG (by omega) (by omega))
       rw[hr] at HAT
       unfold aA.val FJ at HAT
       clear hg hgL hd2 hh1 hh2 hh3 hh4 hp2 ha2 hb2 hown hv haa hA3 he3 hr
       go_wp2_with fail
       refine(HAT.out _ (HG.out.below (ah D0.out.bel DS3.out.bel)).p).mono ?_;rintro e w5 ⟨rfl,hb5⟩
       have DS5:=ae (DS3.out.below hb5)
       have K5:=ae (K3.out.below hb5)
       clear hb5 e0 e1 e2 k1 K3 DS3
       have B6a:Hid (Below w5.heap.size w5 (w5.alloc (.cells #[.string ga.nm,.int .i64 ga.op,.string ga.ver] 53))):=bR.alloc lr _
       by_cases hec:ec≠0
       ·have q:(ec != 0)=true:=by simpa [bne] using hec
        have hat:lG fmt P=ec:=by rw[MV HPD.out HGL.out HZI.out (by rw[←HDB.out.2];exact HZJ.out) (by rw[HRR.out];exact hec),HRR.out]
        have E:Hid (ek fmt bar (l.map bl)=ec):=by show _=_;rw[HBA.out (by rw[HFX.out,hat];exact hec),HFX.out,hat]
        have HEC:=ae hec
        clear hec hat
        go_wp2_with fail
        go_ret2
        exact vA (by rw[E.out];exact HEC.out) HEC.out (fun _=>E.out.symm) (ah D0.out.bel (ah DS5.out.bel B6a.out))
       have hec0:ec=0:=Decidable.not_not.1 hec
       have HZG:Hid ((bc fmt 1 g).2=0):=by show _=_;rw[HRR.out];exact hec0
       subst hec0
       clear hec B6a
       obtain⟨W6,hW6⟩:∃ W6,w5.alloc (.cells #[.string ga.nm,.int .i64 ga.op,.string ga.ver] 53)=W6:=⟨_,rfl⟩
       have B6:Hid (Below w5.heap.size w5 W6):=by rw[←hW6];exact bR.alloc lr _
       have K6:Hid (aF W6 w5.heap.size [.string ga.nm,.int .i64 ga.op,.string ga.ver]):=by show aF _ _ _;rw[←hW6];exact aF.new w5 [.string ga.nm,.int .i64 ga.op,.string ga.ver] _
       have DS6:=ae (DS5.out.below B6.out)
       have KD6:=ae (K5.out.below B6.out)
       have m0:=K6.out.cell 0 _ rfl
       have m1:=K6.out.cell 1 _ rfl
       have m2:=K6.out.cell 2 _ rfl
       have k1:=KD6.out.cell 1 _ rfl
       have hown6:=DS6.out.al d2 (gM HD2.out)
       unfold aq.own at hown6
       rw[HH.out.1,HAAE.out] at hown6
       have f0:=hown6.frozenAt (j*3)
       have f1:=hown6.frozenAt (j*3+1)
       have f2:=hown6.frozenAt (j*3+2)
       obtain⟨b4,off4,hA4,he4⟩:=(bA hown6).elem dw j g (by rw[HA2.out];exact GF HG2.out)
       obtain⟨rfl,rfl⟩:g0=b4∧0=off4:=by injection hA4 with hA4;injection hA4 with h1 h2 _;exact⟨h1,h2⟩
       have e0:=he4 0 _ rfl
       have e1:=he4 1 _ rfl
       have e2:=he4 2 _ rfl
       simp only[Nat.add_zero,Nat.zero_add] at e0 e1 e2
       have hw5z:wi.heap.size<w5.heap.size:=K5.out.sz
       have hne1:¬ g0=w5.heap.size:=by omega
       have hne2:¬ g0=wi.heap.size:=by omega
       have hne3:¬ wi.heap.size=g0:=by omega
       have hne4:¬ w5.heap.size=g0:=by omega
       have hne5:¬ wi.heap.size=w5.heap.size:=by omega
       have hne6:¬ w5.heap.size=wi.heap.size:=by omega
       have HW6:=ae hW6
       clear hW6 hown6 hA4 he4
       go_upto_region 18 with(fail)
       rw[HW6.out]
       go_wp2_with fail
       go_roundw
       case rel=>
        refine⟨j+1,D2.set i { d2 with alts:=d2.alts.set j ga },by omega,by go_num,by show _=_;rw[PN HD2.out];exact HHD.out,?_,ae (fun y hy=>?_),?_,?_⟩
        ·show _=_
         rw[List.map_set,HMD.out]
         have:=Se (fmt:=fmt) (bar:=pd.bar) HIP.out HG2.out
         rw[←this]
         congr 1
         show(⟨d2.bar,d2.alts.set j ga⟩:ba)=_
         rw[HB2.out,HA2.out,HRR.out]
        ·rw[aS HG2.out] at hy
         rcases List.mem_append.1 hy with hy | hy
         ·exact HZJ.out y hy
         ·rw[List.mem_singleton.1 hy];exact HZG.out
        ·exact DS6.out.put HD2.out (by rw[HH.out.2.2];exact hlt3) (by rw[HH.out.1];exact HAAE.out) rfl
        ·exact((KD6.out.far (by omega) _).far (by omega) _).far (by omega) _
       case measure=>simp[intOf];omega
      ·obtain rfl:j=L.length:=by omega
       have HLP:Hid (pd.alts.length=L.length):=by show _=_;rw[←HDB.out.2]
       have HCT:=ae (Jx HPD.out)
       have HTI:=ae (aS HPD.out)
       have HPN:Hid (D2.map aq.pl=zV fmt P (i+1)):=by show _=_;rw[HMD.out,HDB.out.2,Sd HPD.out]
       go_wp2_with fail
       go_roundw
       case rel=>exact⟨i+1,cn+L.length,D2,by go_num,by go_num,by omega,by omega,by show _=_;rw[HCT.out,HCI.out,HLP.out];omega,HPN,ae (fun y hy=>by
        rw[HTI.out] at hy
        rcases List.mem_append.1 hy with hy | hy
        ·exact HZI.out y hy
        ·rw[List.mem_singleton.1 hy];intro g hg;exact HZJ.out g (by rw[List.take_length,HDB.out.2];exact hg)),DS3⟩
       case measure=>simp[intOf];omega
    ·obtain rfl:i=m:=by omega
     have HZ0:Hid (fp fmt bar (bl x)=0):=by
      show _=_;rw[HFX.out]
      exact GG (fun y hy=>HZI.out y (by rw[tL (by have:=HML.out;omega)];exact hy))
     have HPE:Hid (D'.map aq.pl=P.map (eV fmt 1)):=by show _=_;rw[HPL.out,HML.out,PM]
     have HCE:Hid (cn=cnt+bH P):=by show _=_;rw[HCI.out,tL (by have:=HML.out;omega)]
     have D1:=ae (D0.out.below DS1.out.bel)
     have HO2:=ae D1.out.row
     have RL:=ae ((bA DS1.out.row).reads (by omega))
     have hwz:=D1.out.bel.size
     have HONE:=ae (oQ D')
     go_wp2_with (
      at_builtin
      refine ak _ rfl _ _ _ rfl w.heap.size 33 i0 _ 2 32 Tryz.underlying22 hi hz0 hz1 hz2 rfl (by omega) (.slice O n oc) n _ rfl HO2.out _ A1 i c1 _ rfl RL.out HONE.out (by simp only[maxLen];omega) (by omega) hwz ?_
      intro v1 w6 hown1 hg1 hat1
      obtain⟨O1,c2,rfl⟩:=aG hown1)
     have N1:Hid (iT w w6 (ds++D') O1 (n+i) c2):=D0.out.join DS1.out hown1 hg1
     clear hown1 hg1 hat1
     go_wp2_with fail
     go_roundw
     case rel=>exact⟨k+1,O1,n+i,c2,cn,_,rfl,rfl,by go_num,by omega,by omega,by omega,ae (fun y hy=>by
      rw[HTK.out] at hy
      rcases List.mem_append.1 hy with hy | hy
      ·exact HN.out y hy
      ·rw[List.mem_singleton.1 hy];exact HZ0.out),by show _=_;rw[HXN.out,List.map_append,HO.out,HPE.out],by show _=_;rw[HXN.out,MW,mI,←HCN.out];exact HCE.out,N1⟩
     case measure=>simp[intOf];omega
  ·have hall:∀ y∈l,fp fmt bar (bl y)=0:=fun y hy=>HN.out y (by rw[tL (by omega)];exact hy)
   have E:=ae (PK HF.out hall)
   have HT:Hid ((l.take k).map bl=l.map bl):=by show _=_;rw[tL (by omega)]
   clear hall
   by_cases h64:64<cnt
   ·have q1:decide ((64:Int)<(cnt:Int))=true:=dT (by omega)
    have q2:decide (64<cnt)=true:=dT h64
    have E4:Hid (ek fmt bar (l.map bl)=4):=by show _=_;rw[E.out,←HT.out,←HCN.out,if_pos h64]
    go_wp2_with fail
    go_ret2
    exact vA (by rw[E4.out];decide) (by decide) (fun _=>E4.out.symm) D0.out.bel
   ·have q1:decide ((64:Int)<(cnt:Int))=false:=dF (by omega)
    have q2:decide (64<cnt)=false:=dF h64
    have E4:Hid (ek fmt bar (l.map bl)=0):=by show _=_;rw[E.out,←HT.out,←HCN.out,if_neg h64]
    go_wp2_with fail
    go_ret2
    exact PJ E4.out (by rw[HO.out,HT.out]) D0.out
end
section
open Go.ChangeShapes Go.WideShapes Go.ChangeAt Go.RowKit
theorem Ag {H:Type}{enc:TypeId×Value→H}{P:Program}{w:World}{base:Nat}{sp:Nat→Bool}{held:Bool}{fuel:Nat}{t e:TypeId}{n:Nat}{cs:List Value}{zs:List (LU)}{p:List MemPlace}
  (ht:P.underlying t=some (.array n e))(he:P.underlying e=some .string)(hce:P.cellsOf e=1)(hct:P.cellsOf t=n)
  (h:DataW.trod enc P w base sp held fuel t cs=some (.agg (zs.map fun z=>.lit (.string z)),p)):cs=zs.map fun z=>Value.string ⟨z.toArray⟩:=by
 cases fuel with
 | zero=>simp[DataW.trod] at h
 | succ fuel=>
  simp only[DataW.trod,ht,hce,hct,Nat.mul_one] at h
  split at h
  ·rename_i hl
   obtain⟨xs,hm,hx⟩:=Option.map_eq_some_iff.1 h
   have hxs:xs.map (·.1)=zs.map fun z=>(DataW.lit (.string z):DataW H):=by
    have:=congrArg Prod.fst hx
    simpa using this
   have hxl:xs.length=n:=by simpa using Lib.mapM_length hm
   have hzl:zs.length=n:=by
    have:=congrArg List.length hxs
    simp at this
    omega
   apply List.ext_getElem?
   intro i
   by_cases hi:i<n
   ·obtain⟨b,hb,hf⟩:=Lib.mapM_at hm i i (by simp[hi])
    obtain⟨z,hc,rfl,_⟩:=DataW.trod_string he hf
    have h1:cs[i]?=some (.string z):=by
     have:=congrArg (·[0]?) hc
     simpa [List.getElem?_take,List.getElem?_drop] using this
    have h2:(xs.map (·.1))[i]?=some (DataW.lit (.string z.data.toList):DataW H):=by simp[hb]
    rw[hxs] at h2
    simp only[List.getElem?_map,Option.map_eq_some_iff,DataW.lit.injEq,Lit.string.injEq] at h2
    obtain⟨z',hz',rfl⟩:=h2
    simp[h1,hz']
   ·rw[List.getElem?_eq_none (by omega),List.getElem?_eq_none (by simp;omega)]
  ·cases h
theorem ib {P:Program}{w:World}{n:String}{d:DataW Unit}{r:List (String×DataW Unit)}{ps:List MemPlace}(h:DataW.LaidVars P w ((n,d)::r) ps):
  (∃ g t cs fuel p,P.globalNamed n=some g∧(P.globals[g]?).map (·.type)=some t∧w.var? P n=some cs∧DataW.trod (fun _=>()) P w 0 (fun _=>true) false fuel t cs.toList=some (d,p))∧∃ q,DataW.LaidVars P w r q:=by
 obtain⟨g,t,cs,fuel,p,q,h1,h2,h3,h4,h5,_⟩:=h
 exact⟨⟨g,t,cs,fuel,p,h1,h2,h3,h4⟩,q,h5⟩
theorem kr {P:Program}{w:World}{name:String}{zs:List (LU)}{g0:Nat}{t0 e:TypeId}{n:Nat}
  (hg:P.globalNamed name=some g0)(hty:(P.globals[g0]?).map (·.type)=some t0)(ht:P.underlying t0=some (.array n e))(he:P.underlying e=some .string)(hce:P.cellsOf e=1)(hct:P.cellsOf t0=n)
  (h:∃ g t cs fuel p,P.globalNamed name=some g∧(P.globals[g]?).map (·.type)=some t∧w.var? P name=some cs∧DataW.trod (fun _=>()) P w 0 (fun _=>true) false fuel t cs.toList=some (.agg (zs.map fun z=>.lit (.string z)),p))
  (i:Nat)(z:LU)(hi:zs[i]?=some z):w.cell? ⟨g0,i,none⟩=some (.string ⟨z.toArray⟩):=by
 obtain⟨g',t',cs,fuel,p,hg',ht',hvar,hd⟩:=h
 obtain rfl:=Option.some.inj (hg.symm.trans hg')
 obtain rfl:=Option.some.inj (hty.symm.trans ht')
 have hc:=Ag ht he hce hct hd
 rw[World.var?_cell hg hvar i,←Array.getElem?_toList,hc]
 simp[hi]
theorem Uo {P:Program}{w:World}{name:String}{k:IntKind}{zs:List Int}{g0:Nat}{t0 e:TypeId}{n:Nat}{D:DataW Unit}(hD:D=Lib.tabData k zs)
  (hg:P.globalNamed name=some g0)(hty:(P.globals[g0]?).map (·.type)=some t0)(ht:P.underlying t0=some (.array n e))(he:P.underlying e=some (.int k))(hce:P.cellsOf e=1)(hct:P.cellsOf t0=n)
  (h:∃ g t cs fuel p,P.globalNamed name=some g∧(P.globals[g]?).map (·.type)=some t∧w.var? P name=some cs∧DataW.trod (fun _=>()) P w 0 (fun _=>true) false fuel t cs.toList=some (D,p)):Lib.TabIs P w name k zs:=by
 obtain⟨g',t',cs,fuel,p,hg',ht',hvar,hd⟩:=h
 subst hD
 obtain rfl:=Option.some.inj (hg.symm.trans hg')
 obtain rfl:=Option.some.inj (hty.symm.trans ht')
 unfold Lib.TabIs
 rw[hvar,←Lib.cells_of_tab ht he hce hct hd]
theorem uz {W:World}(h:laidMetH Tryz.prog nW W)(hsh:W.ShapedOpen Tryz.prog):Hr W:=by
 obtain⟨ps,h0,_⟩:=DU h
 obtain⟨_,q1,h1⟩:=ib h0
 obtain⟨_,q2,h2⟩:=ib h1
 obtain⟨cp,q3,h3⟩:=ib h2
 obtain⟨_,q4,h4⟩:=ib h3
 obtain⟨c1,q5,h5⟩:=ib h4
 obtain⟨c2,q6,h6⟩:=ib h5
 obtain⟨c3,q7,h7⟩:=ib h6
 obtain⟨c4,q8,h8⟩:=ib h7
 obtain⟨c5,q9,h9⟩:=ib h8
 obtain⟨cv,q10,h10⟩:=ib h9
 refine⟨⟨Go.Proofs.cell_of_shapedOpen_int (zero:=#[.int .i64 0]) (t:=3) hsh (dO (by kernel_rfl)) (by kernel_rfl) rfl (by kernel_rfl) (by kernel_rfl) Tryz.underlying3,?_,?_,?_,?_,?_⟩,?_,?_⟩
 ·intro i hi
  have e:=kr (zs:=[[97,108,112,104,97],[98,101,116,97],[112,114,101],[114,99],[99,118,115],[115,118,110],[103,105,116],[104,103],[112]]) (g0:=7) (t0:=255) (e:=9) (n:=9) (by kernel_rfl) (by kernel_rfl) Tryz.underlying255 Tryz.underlying9 (by kernel_rfl) (by kernel_rfl) c1
  rcases(by omega:i=0∨i=1∨i=2∨i=3∨i=4∨i=5∨i=6∨i=7∨i=8) with rfl | rfl | rfl | rfl | rfl | rfl | rfl | rfl | rfl
  all_goals exact e _ _ rfl
 ·intro i hi
  have e:=kr (zs:=[[],[60,60],[60,61],[61],[62,61],[62,62]]) (g0:=2) (t0:=168) (e:=9) (n:=6) (by kernel_rfl) (by kernel_rfl) Tryz.underlying168 Tryz.underlying9 (by kernel_rfl) (by kernel_rfl) c3
  rcases(by omega:i=0∨i=1∨i=2∨i=3∨i=4∨i=5) with rfl | rfl | rfl | rfl | rfl | rfl
  all_goals exact e _ _ rfl
 ·intro i hi
  have e:=kr (zs:=[[],[60],[60,61],[61],[62,61],[62]]) (g0:=3) (t0:=168) (e:=9) (n:=6) (by kernel_rfl) (by kernel_rfl) Tryz.underlying168 Tryz.underlying9 (by kernel_rfl) (by kernel_rfl) c4
  rcases(by omega:i=0∨i=1∨i=2∨i=3∨i=4∨i=5) with rfl | rfl | rfl | rfl | rfl | rfl
  all_goals exact e _ _ rfl
 ·intro i hi
  have e:=kr (zs:=[[97,110,100],[111,114],[105,102],[117,110,108,101,115,115],[119,105,116,104],[119,105,116,104,111,117,116]]) (g0:=5) (t0:=168) (e:=9) (n:=6) (by kernel_rfl) (by kernel_rfl) Tryz.underlying168 Tryz.underlying9 (by kernel_rfl) (by kernel_rfl) c5
  rcases(by omega:i=0∨i=1∨i=2∨i=3∨i=4∨i=5) with rfl | rfl | rfl | rfl | rfl | rfl
  all_goals exact e _ _ rfl
 ·intro i hi
  have e:=kr (zs:=[[],[60],[60,61],[61],[62,61],[62],[126]]) (g0:=0) (t0:=119) (e:=9) (n:=7) (by kernel_rfl) (by kernel_rfl) Tryz.underlying119 Tryz.underlying9 (by kernel_rfl) (by kernel_rfl) c2
  rcases(by omega:i=0∨i=1∨i=2∨i=3∨i=4∨i=5∨i=6) with rfl | rfl | rfl | rfl | rfl | rfl | rfl
  all_goals exact e _ _ rfl
 ·intro i hi
  have e:=kr (zs:=[[97,108,112,104,97],[98,101,116,97],[112,114,101],[114,99]]) (g0:=1) (t0:=129) (e:=9) (n:=4) (by kernel_rfl) (by kernel_rfl) Tryz.underlying129 Tryz.underlying9 (by kernel_rfl) (by kernel_rfl) cv
  rcases(by omega:i=0∨i=1∨i=2∨i=3) with rfl | rfl | rfl | rfl
  all_goals exact e _ _ rfl
 ·exact Uo (by kernel_rfl) (g0:=10) (t0:=305) (e:=298) (n:=20) (by kernel_rfl) (by kernel_rfl) Tryz.underlying305 Tryz.underlying298 (by kernel_rfl) (by kernel_rfl) cp
theorem QC : Tryz.prog.globalNamed "errors.errorType" = some 4 := by kernel_rfl
theorem Up : (Tryz.prog.cutTypes.find? (·.1 == "internal/reflectlite.rtype")).map (·.2) = some 272 := by kernel_rfl
theorem Ns:((List.range Tryz.prog.types.size).filter fun t=>Tryz.prog.rowNamed t [101,114,114,111,114])=[157]:=by kernel_rfl
theorem DZ:typeHandle Tryz.prog 157=.pointer (some ⟨13,157,none⟩):=by kernel_rfl
theorem G0 {W:World}(h:laidMetH Tryz.prog nW W)(hsh:W.ShapedOpen Tryz.prog):NY W:=by
 refine⟨(uz h hsh).gl,?_⟩
 have h' : laidMet Tryz.prog kq W ∧ handlesMet Tryz.prog [("errors.errorType", Rows.laid_errors_errorType)] W := h
 obtain⟨name,u,ty,e1,e2,e3,e4,e5⟩:=h'.2 _ (List.mem_singleton.2 rfl)
 have en:name=[101,114,114,111,114]:=(Option.some.inj e1).symm
 subst en
 obtain rfl:=Option.some.inj (Up.symm.trans e2)
 have hm:ty∈(List.range Tryz.prog.types.size).filter fun t=>Tryz.prog.rowNamed t [101,114,114,111,114]:=List.mem_filter.2 ⟨List.mem_range.2 e3,e4⟩
 rw[Ns] at hm
 obtain rfl:=List.mem_singleton.1 hm
 rw[DZ] at e5
 simpa using World.var?_cell QC e5 0
theorem nX {W:World}(h:laidMetH Tryz.prog nW W)(hsh:W.ShapedOpen Tryz.prog):En W:=⟨G0 h hsh,uz h hsh⟩
end
end Go.Proofs.YtkjdbpjglobbjaaGreatDoor
