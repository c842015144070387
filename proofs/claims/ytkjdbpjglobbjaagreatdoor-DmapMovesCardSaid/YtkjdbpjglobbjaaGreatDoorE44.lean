/- A part of the proof of a law on dependencies in three formats. No condition. -/
import Derived.Test.YtkjdbpjglobbjaaGreatDoorE22
import Derived.Test.YtkjdbpjglobbjaaGreatDoorE23
import Derived.Test.YtkjdbpjglobbjaaGreatDoorE28
set_option maxRecDepth 100000
set_option maxHeartbeats 20000000
set_option linter.unusedVariables false
set_option linter.unusedSimpArgs false
namespace Go.Proofs.YtkjdbpjglobbjaaGreatDoor
section
open Go.RowKit Go.Deep
structure sc (w W:World) (a hi:Nat) (l:LU) (n m:Nat):Prop where
 two:BF W w.heap.size
 pr:PR W a hi l n m
 gr:w.grownBy W (some a)
 gl:sY a W
 lt:hi≤w.heap.size
theorem sc.alt {w W:World}{a hi n m:Nat}{l:LU}(h:sc w W a hi l n m):a<w.heap.size:=by have:=h.pr.lt;have:=h.lt;omega
theorem sc.start {w:World}{a hi n m:Nat}{l:LU}(hG:sY a w)(h:PR w a hi l n m)(t t':TypeId):sc w ((w.alloc (.cells #[.string ⟨#[]⟩,.string ⟨#[]⟩,.int .i64 0,.string ⟨#[]⟩,.slice none 0 0] t)).alloc (.cells #[.string ⟨#[]⟩,.int .i64 0,.int .i64 0] t')) a hi l n m:=by
 have B:Below w.heap.size w ((w.alloc (.cells #[.string ⟨#[]⟩,.string ⟨#[]⟩,.int .i64 0,.string ⟨#[]⟩,.slice none 0 0] t)).alloc (.cells #[.string ⟨#[]⟩,.int .i64 0,.int .i64 0] t')):=(bR.alloc lr _).alloc (by simp) _
 exact⟨BF.new w t t',h.below B,eK B _,hG.below B,h.hz⟩
theorem sc.step {w W W':World}{a hi n m n' m':Nat}{l l':LU}(h:sc w W a hi l n m)(hg:W.grownBy W' (some a))(hd:PR W' a hi l' n' m'):sc w W' a hi l' n' m':=
 ⟨h.two.step hg h.alt,hd,ap h.gr hg,h.gl.kept hg,h.lt⟩
theorem sc.below {w W W':World}{a hi n m:Nat}{l:LU}(h:sc w W a hi l n m)(hb:Below W.heap.size W W'):sc w W' a hi l n m:=h.step (eK hb _) (h.pr.below hb)
theorem sc.far {w W:World}{a hi n m b j:Nat}{l:LU}(h:sc w W a hi l n m)(hb:w.heap.size+2≤b)(v:Value):sc w (W.setCell ⟨b,j,none⟩ v) a hi l n m:=by
 have h1:=h.lt
 refine⟨⟨h.two.b0.far (by omega) v,h.two.b1.far (by omega) v⟩,h.pr.far (by omega) v,aU h.gr (.inr (by show _≤b;omega)) v,?_,h1⟩
 obtain⟨w0,g1,g2,g3⟩:=h.gl
 have h2:=h.pr.lt
 exact⟨w0,g1,aw g2 (by omega) v,g3⟩
theorem aF.stay {w W W':World}{a hi n m b:Nat}{l:LU}{vs:List Value}(k:aF W b vs)(h:sc w W a hi l n m)(hb:w.heap.size≤b)(hg:W.grownBy W' (some a)):aF W' b vs:=k.grownBy hg (by have:=h.alt;simp;omega)
theorem Gs (W:World)(lo:Nat)(bad:Option Nat)(nm:BA)(o:Nat)(v:BA):ce W lo bad (.mk ⟨#[]⟩ nm o v none 0 []):=
 .mk _ (World.ownsRow_nil _ _ _ _) (fun g hg=>by simp[aj.ka,aj.kc,Value.ownBlock] at hg) (fun k hk=>by simp[aj.kids] at hk)
theorem MH (l:LU):fX 64 l=none:=by unfold fX;rw[if_pos rfl]
theorem PB {nm:LU}{n:Nat}{l:LU}(h:Fn (aY l)=0):kH nm n l=some (.atom nm 0 [],l,n):=by unfold kH;rw[if_pos h]
theorem Sb {nm:LU}{n:Nat}{l:LU}(h:Fn (aY l)≠0):kH nm n l=jK nm (Fn (aY l)) n (bw l):=by unfold kH;rw[if_neg h]
theorem Jj {nm:LU}{o n:Nat}{l:LU}(h:aY l=[]∨aY l=[40]∨aY l=[41]):jK nm o n l=none:=by unfold jK;rw[if_pos h]
theorem Gt {nm:LU}{o n:Nat}{l:LU}(h:aV 2 (bz (aY l))≠0):jK nm o n l=none:=by
 unfold jK
 split
 ·rfl
 ·simp[h]
theorem PC {nm:LU}{o n:Nat}{l:LU}(h0:¬ (aY l=[]∨aY l=[40]∨aY l=[41]))(h:aV 2 (bz (aY l))=0):jK nm o n l=some (.atom nm o (aY l),bw l,n):=by unfold jK;rw[if_neg h0,if_pos h]
theorem TV (p:List UInt8):Fn p≤5:=by      unfold Fn;repeat' split
                                          all_goals omega
theorem PD {p:LU}(h:Fn p≠0):p≠[]:=by rintro rfl;exact h rfl
theorem MI (a hi n m deep:Nat)(l:LU)(w:World)(hG:sY a w)(h:PR w a hi l n m)(hn:n≤64)(hd:deep≤32):
  Calls Tryz.prog 130 #[.pointer (some ⟨a,0,none⟩)] w (dd (fX n l) a hi m deep n w):=by
 obtain⟨W0,hW0⟩:∃ W0,(w.alloc (.cells #[.string ⟨#[]⟩,.string ⟨#[]⟩,.int .i64 0,.string ⟨#[]⟩,.slice none 0 0] 70)).alloc (.cells #[.string ⟨#[]⟩,.int .i64 0,.int .i64 0] 101)=W0:=⟨_,rfl⟩
 have S0:Hid (sc w W0 a hi l n m):=by rw[←hW0];exact sc.start hG h _ _
 have z0:W0.heap.size=w.heap.size+2:=by rw[←hW0];simp
 obtain⟨b,off,c,T,p,k,hT,h2⟩:=S0.out.pr.cells
 have HT:=ae hT
 obtain⟨c0,c1,f0,f1,t0,t1,ne,m1,mc,cz,tz⟩:=k
 clear h h2 hT
 obtain⟨W1,hW1⟩:∃ W1,W0.alloc (.cells #[.string T,.int .i64 p] 154)=W1:=⟨_,rfl⟩
 have S1:Hid (sc w W1 a hi l n m):=by rw[←hW1];exact S0.out.below (bR.alloc lr _)
 have K1:Hid (aF W1 W0.heap.size [.string T,.int .i64 p]):=by rw[←hW1];exact aF.new W0 [.string T,.int .i64 p] _
 have HZ0:=ae z0
 clear S0 hG z0
 go_enter Tryz.func130,Tryz.ntmps130
 go_upto_region 2 with(fail)
 clear hW0 hW1 c0 c1 f0 f1 t0 t1 ne m1 mc cz
 have ha:=S1.out.alt
 have k1:=S1.out.pr.cells
 obtain⟨b1,off1,c1',T',p',k1,-,-⟩:=k1
 have c1:=k1.c1
 have f1:=k1.f1
 have t0:=K1.out.cell 0 _ rfl
 have t1:=K1.out.cell 1 _ rfl
 clear k1
 by_cases n64:n=64
 ·have EN:Hid (fX n l=none):=by show _=_;rw[n64];exact MH l
  have q64:((n:Int)==64)=true:=by simp[n64]
  clear n64
  go_wp2_with fail
  refine(fJ T p 4 _).mono ?_;rintro e w2 ⟨rfl,hb⟩
  have S2:=ae (S1.out.below hb)
  have tc:=S2.out.two.c
  obtain⟨x0,x1,x2,x3,x4,y0,y1,y2,g0,g1,g2,g3,g4,k0,k1,k2⟩:=tc
  clear hb
  unfold gB
  go_wp2_with fail
  refine bodyPost_ret (mj _ S2.out.two.c rfl rfl _ _ _ _ _ _ _ _ ⟨rfl,rfl,rfl,rfl,rfl,rfl,rfl,rfl⟩) rfl ?_
  exact dd.no EN.out (de S2.out.gr lr _ _ _ _ _ _ _ _) (by decide)
 have N64:Hid (n<64):=by show _<_;omega
 have q64:((n:Int)==64)=false:=by simp;omega
 have EN:Hid (fX n l=if fm (bl T) then kH (bl T) (n+1) (bw l) else none):=by
  show _=_;unfold fX;rw[if_neg n64,HT.out]
 clear n64
 go_wp2_with fail
 refine(BE T _ (by omega)).mono ?_;rintro e w2 ⟨rfl,rfl⟩
 cases hnm:fm (bl T) with
 | false=>
  rw[hnm] at EN
  clear hnm
  go_wp2_with fail
  refine(fJ T p 10 _).mono ?_;rintro e w2 ⟨rfl,hb⟩
  have S2:=ae (S1.out.below hb)
  have tc:=S2.out.two.c
  obtain⟨x0,x1,x2,x3,x4,y0,y1,y2,g0,g1,g2,g3,g4,k0,k1,k2⟩:=tc
  clear hb
  unfold gB
  go_wp2_with fail
  refine bodyPost_ret (mj _ S2.out.two.c rfl rfl _ _ _ _ _ _ _ _ ⟨rfl,rfl,rfl,rfl,rfl,rfl,rfl,rfl⟩) rfl ?_
  exact dd.no EN.out (de S2.out.gr lr _ _ _ _ _ _ _ _) (by decide)
 | true=>
 have ER:Hid (fX n l=kH (bl T) (n+1) (bw l)):=by have:=EN.out;rwa [hnm,if_pos rfl] at this
 clear EN
 have HNM:=ae hnm
 have HL:Hid (aY l≠[]):=by have:=mi hnm;rw[←af,HT.out] at this;intro e;rw[e] at this;simp at this
 have P2:Hid (PR (W1.setCell ⟨a,1,none⟩ (.int .i64 ((n:Int)+1))) a hi l (n+1) m):=by have:=S1.out.pr.count (n+1);rwa [show((n+1:Nat):Int)=(n:Int)+1 from by omega] at this
 have S2:=ae (S1.out.step (bN (j:=1) (.int .i64 ((n:Int)+1))) P2.out)
 have K2:=ae (K1.out.stay S1.out (by have:=HZ0.out;omega) (bN (a:=a) (j:=1) (.int .i64 ((n:Int)+1))))
 clear hnm
 go_wp2_with fail
 clear c1 f1 t0 t1
 refine(jr a hi (n+1) m l _ P2.out HL.out).mono ?_;rintro e w3 ⟨rfl,hp,hg,hm2⟩
 have S3:=ae (S2.out.step hg hp)
 have K3:=ae (K2.out.stay S2.out (by have:=HZ0.out;omega) hg)
 have M2:=ae hm2
 clear hp hg P2 S2 K2 hm2
 have t0:=K3.out.cell 0 _ rfl
 go_upto_region 9 with(fail)
 clear t0
 obtain⟨W4,hW4⟩:∃ W4,w3.alloc (.cells #[.string ⟨#[]⟩,.string T,.int .i64 0,.string ⟨#[]⟩,.slice none 0 0] 70)=W4:=⟨_,rfl⟩
 have B4:Hid (Below w3.heap.size w3 W4):=by rw[←hW4];exact bR.alloc lr _
 have D4:Hid (aF W4 w3.heap.size [.string ⟨#[]⟩,.string T,.int .i64 0,.string ⟨#[]⟩,.slice none 0 0]):=by rw[←hW4];exact aF.new w3 [.string ⟨#[]⟩,.string T,.int .i64 0,.string ⟨#[]⟩,.slice none 0 0] _
 have S4:=ae (S3.out.below B4.out)
 have K4:=ae (K3.out.below B4.out)
 have H3:Hid (W0.heap.size<w3.heap.size):=K3.out.sz
 rw[hW4]
 clear hW4
 obtain⟨b4,off4,c4,T4,p4,k4,hT4,-⟩:=S4.out.pr.cells
 have HT4:=ae hT4
 obtain⟨r0,r1,r2,r3,r4,r5,r6,r7,r8,r9,tz4⟩:=k4
 have hR:=zR T4 W4 S4.out.gl.gl
 obtain⟨o,ho⟩:∃ o,Fn (bl T4)=o:=⟨_,rfl⟩
 rw[ho] at hR
 have HO:=ae ho
 have ho5:o≤5:=by rw[←ho];exact TV _
 clear hT4 ho S3 B4
 go_wp2_with fail
 clear r0 r1 r2 r3 r4 r5 r6 r7 r8 r9
 refine hR.mono ?_;rintro e w5 ⟨rfl,rfl⟩
 clear hR
 by_cases o0:o=0
 ·have EY:Hid (fX n l=some ((aj.mk ⟨#[]⟩ T 0 ⟨#[]⟩ none 0 []).pl,bw l,n+1)):=by
   show _=_;rw[ER.out,oJ _ _ _ _ _ _ _ rfl];exact PB (by rw[←HT4.out,HO.out,o0])
  have q0:((o:Int)==0)=true:=by simp[o0]
  have tc:=S4.out.two.c
  obtain⟨x0,x1,x2,x3,x4,y0,y1,y2,g0,g1,g2,g3,g4,k0,k1,k2⟩:=tc
  have d0:=D4.out.cell 0 _ rfl
  have d1:=D4.out.cell 1 _ rfl
  have d2:=D4.out.cell 2 _ rfl
  have d3:=D4.out.cell 3 _ rfl
  have d4:=D4.out.cell 4 _ rfl
  clear o0
  go_wp2_with fail
  refine bodyPost_ret (mj _ S4.out.two.c rfl rfl _ _ _ _ _ _ _ _ ⟨rfl,rfl,rfl,rfl,rfl,rfl,rfl,rfl⟩) rfl ?_
  exact dd.yes (T:=.mk ⟨#[]⟩ T 0 ⟨#[]⟩ none 0 []) EY.out (de S4.out.gr lr _ _ _ _ _ _ _ _) (.atom T 0 ⟨#[]⟩ HNM.out (by omega) (fun _=>rfl) (fun h=>by omega)) (Gs _ _ _ _ _ _) (by simp[aj.ht,By];exact hd) (by simp[aj.cnt]) (by have:=N64.out;omega) (vy S4.out.pr S4.out.lt _ _ _ _ _ _ _ _) (by have:=M2.out;omega)
 have q0:((o:Int)==0)=false:=by simp[o0]
 have HL4:Hid (aY (bw l)≠[]):=by show ¬ _;rw[←HT4.out];exact PD (by rw[HO.out];exact o0)
 have EV:Hid (fX n l=jK (bl T) o (n+1) (bw (bw l))):=by show _=_;rw[ER.out,Sb (by rw[←HT4.out,HO.out];exact o0),←HT4.out,HO.out]
 have OP:Hid (0<o):=by show _<_;omega
 have HZB:Hid (w.heap.size+2≤W0.heap.size):=by show _≤_;have:=HZ0.out;omega
 clear ER o0 HO HT4
 go_wp2_with fail
 refine(jr a hi (n+1) (m-1) (bw l) _ S4.out.pr HL4.out).mono ?_;rintro e w5 ⟨rfl,hp,hg,hm2⟩
 have S5:=ae (S4.out.step hg hp)
 have K5:=ae (K4.out.stay S4.out (by have:=HZB.out;omega) hg)
 have D5:=ae (D4.out.stay S4.out (by have:=HZB.out;have:=H3.out;omega) hg)
 have M3:=ae hm2
 clear hp hg hm2 S4 K4 D4 HL4
 have t0:=K5.out.cell 0 _ rfl
 have t1:=K5.out.cell 1 _ rfl
 have e0:=K5.out.free 0 (by simp)
 have e1:=K5.out.free 1 (by simp)
 obtain⟨b5,off5,c5,T5,p5,k5,hT5,hnx⟩:=S5.out.pr.cells
 have HT5:=ae hT5
 obtain⟨r0,r1,r2,r3,r4,r5,r6,r7,r8,r9,tz5⟩:=k5
 clear hT5 hnx
 go_upto_region 14 with(fail)
 clear t0 t1 e0 e1 r0 r1 r2 r3 r4 r5 r6 r7 r8 r9
 obtain⟨W6,hW6⟩:∃ W6,(w5.setCell ⟨W0.heap.size,0,none⟩ (.string T5)).setCell ⟨W0.heap.size,1,none⟩ (.int .i64 p5)=W6:=⟨_,rfl⟩
 have S6:Hid (sc w W6 a hi (bw (bw l)) (n+1) (m-1-1)):=by rw[←hW6];exact(S5.out.far HZB.out _).far HZB.out _
 have K6:Hid (aF W6 W0.heap.size [.string T5,.int .i64 p5]):=by rw[←hW6];exact(K5.out.set 0 (by simp) (.string T5)).set 1 (by simp) (.int .i64 p5)
 have D6:Hid (aF W6 w3.heap.size [.string ⟨#[]⟩,.string T,.int .i64 0,.string ⟨#[]⟩,.slice none 0 0]):=by rw[←hW6];exact(D5.out.far (by have:=H3.out;omega) _).far (by have:=H3.out;omega) _
 rw[hW6]
 clear hW6 S5 K5 D5
 have t0:=K6.out.cell 0 _ rfl
 have t1:=K6.out.cell 1 _ rfl
 obtain⟨bb,hbb⟩:∃ bb:Bool,decide (bl T5=[]∨bl T5=[40]∨bl T5=[41])=bb:=⟨_,rfl⟩
 go_cut [74] (fun v wx=>v=.bool bb∧W6=wx)
 case first=>
  by_cases h1:bl T5=[]
  ·have E1:T5.toList=[]:=by rw[ai];exact h1
   have E2:Hid (bb=true):=by show _=_;rw[←hbb];exact dT (.inl h1)
   clear hbb h1
   go_wp2_with fail
   go_meet
   exact⟨by rw[E2.out],rfl⟩
  by_cases h2:bl T5=[40]
  ·have E1:T5.toList=[40]:=by rw[ai];exact h2
   have E2:Hid (bb=true):=by show _=_;rw[←hbb];exact dT (.inr (.inl h2))
   clear hbb h1 h2
   go_wp2_with fail
   go_meet
   exact⟨by rw[E2.out],rfl⟩
  by_cases h3:bl T5=[41]
  ·have E1:T5.toList=[41]:=by rw[ai];exact h3
   have E2:Hid (bb=true):=by show _=_;rw[←hbb];exact dT (.inr (.inr h3))
   clear hbb h1 h2 h3
   go_wp2_with fail
   go_meet
   exact⟨by rw[E2.out],rfl⟩
  ·have E1:(T5.toList==([]:LU))=false:=by rw[ai,bF];exact h1
   have E3:(T5.toList==([40]:LU))=false:=by rw[ai,bF];exact h2
   have E4:(T5.toList==([41]:LU))=false:=by rw[ai,bF];exact h3
   have E5:T5.toList.isEmpty=false:=by rw[ai,List.isEmpty_eq_false_iff];exact h1
   have E2:Hid (bb=false):=by show _=_;rw[←hbb];exact dF (by rintro(h | h | h)<;>contradiction)
   clear hbb h1 h2 h3
   go_wp2_with fail
   go_meet
   exact⟨by rw[E2.out],rfl⟩
 case rest=>
 obtain⟨rfl,rfl⟩:=hcut
 cases bb with
 | true=>
  have EN:Hid (fX n l=none):=by show _=_;rw[EV.out];exact Jj (by rw[←HT5.out];exact dO hbb)
  clear hbb
  go_wp2_with fail
  refine(fJ T5 p5 3 _).mono ?_;rintro e w2 ⟨rfl,hb⟩
  have S2:=ae (S6.out.below hb)
  have tc:=S2.out.two.c
  obtain⟨x0,x1,x2,x3,x4,y0,y1,y2,g0,g1,g2,g3,g4,k0,k1,k2⟩:=tc
  clear hb
  unfold gB
  go_wp2_with fail
  refine bodyPost_ret (mj _ S2.out.two.c rfl rfl _ _ _ _ _ _ _ _ ⟨rfl,rfl,rfl,rfl,rfl,rfl,rfl,rfl⟩) rfl ?_
  exact dd.no EN.out (de S2.out.gr lr _ _ _ _ _ _ _ _) (by decide)
 | false=>
 have HB:Hid (¬ (aY (bw (bw l))=[]∨aY (bw (bw l))=[40]∨aY (bw (bw l))=[41])):=by rw[←HT5.out];exact of_decide_eq_false hbb
 clear hbb
 obtain⟨ve,hve⟩:∃ ve,aV 2 T5=ve:=⟨_,rfl⟩
 have HV:=ae hve
 have hVC:=bh 2 T5 W6 S6.out.gl.gl (by omega)
 rw[hve] at hVC
 clear hve
 go_wp2_with fail
 clear t0 t1
 refine hVC.mono ?_;rintro e w7 ⟨rfl,hb7⟩
 have S7:=ae (S6.out.below hb7)
 have K7:=ae (K6.out.below hb7)
 have D7:=ae (D6.out.below hb7)
 have t0:=K7.out.cell 0 _ rfl
 have t1:=K7.out.cell 1 _ rfl
 clear hb7 hVC S6 K6 D6
 by_cases hv0:ve=0
 ·have q1:(ve != 0)=false:=by simp[hv0]
  have EY:Hid (fX n l=some ((aj.mk ⟨#[]⟩ T o T5 none 0 []).pl,bw (bw (bw l)),n+1)):=by
   show _=_;rw[EV.out,oJ _ _ _ _ _ _ _ rfl,PC HB.out (by rw[←HT5.out,iP,HV.out,hv0]),HT5.out]
  have VZ:Hid (aV 2 T5=0):=by show _=_;rw[HV.out,hv0]
  have HL5:Hid (aY (bw (bw l))≠[]):=fun e=>HB.out (.inl e)
  clear hv0
  go_wp2_with fail
  refine(jr a hi (n+1) (m-1-1) (bw (bw l)) _ S7.out.pr HL5.out).mono ?_;rintro e w8 ⟨rfl,hp,hg,hm3⟩
  have S8:=ae (S7.out.step hg hp)
  have K8:=ae (K7.out.stay S7.out (by have:=HZB.out;omega) hg)
  have D8:=ae (D7.out.stay S7.out (by have:=HZB.out;have:=H3.out;omega) hg)
  have M4:=ae hm3
  clear hp hg hm3 S7 K7 D7 t0 t1
  have t0:=K8.out.cell 0 _ rfl
  have d0:=D8.out.cell 0 _ rfl
  have d1:=D8.out.cell 1 _ rfl
  have d2:=D8.out.cell 2 _ rfl
  have d3:=D8.out.cell 3 _ rfl
  have d4:=D8.out.cell 4 _ rfl
  have h2:=D8.out.free 2 (by simp)
  have h3:=D8.out.free 3 (by simp)
  have hne:¬ W0.heap.size=w3.heap.size:=by have:=H3.out;omega
  have hne2:¬ w3.heap.size=W0.heap.size:=by have:=H3.out;omega
  go_wp2_with fail
  go_region
  clear t0 d0 d1 d2 d3 d4 h2 h3 hne hne2
  obtain⟨W9,hW9⟩:∃ W9,((w8.setCell ⟨w3.heap.size,2,none⟩ (.int .i64 o)).setCell ⟨w3.heap.size,3,none⟩ (.string T5)).drew=W9:=⟨_,rfl⟩
  have hd3:w.heap.size+2≤w3.heap.size:=by have:=H3.out;have:=HZB.out;omega
  have S9:Hid (sc w W9 a hi (bw (bw (bw l))) (n+1) (m-1-1-1)):=by rw[←hW9];exact((S8.out.far hd3 _).far hd3 _).below ⟨rfl,rfl,rfl,lr,fun _ _=>rfl⟩
  have D9:Hid (aF W9 w3.heap.size [.string ⟨#[]⟩,.string T,.int .i64 o,.string T5,.slice none 0 0]):=by rw[←hW9];exact((D8.out.set 2 (by simp) (.int .i64 o)).set 3 (by simp) (.string T5)).drew
  rw[hW9]
  clear hW9 S8 K8 D8
  have tc:=S9.out.two.c
  obtain⟨x0,x1,x2,x3,x4,y0,y1,y2,g0,g1,g2,g3,g4,k0,k1,k2⟩:=tc
  have d0:=D9.out.cell 0 _ rfl
  have d1:=D9.out.cell 1 _ rfl
  have d2:=D9.out.cell 2 _ rfl
  have d3:=D9.out.cell 3 _ rfl
  have d4:=D9.out.cell 4 _ rfl
  go_wp2_with fail
  refine bodyPost_ret (mj _ S9.out.two.c rfl rfl _ _ _ _ _ _ _ _ ⟨rfl,rfl,rfl,rfl,rfl,rfl,rfl,rfl⟩) rfl ?_
  exact dd.yes (T:=.mk ⟨#[]⟩ T o T5 none 0 []) EY.out (de S9.out.gr lr _ _ _ _ _ _ _ _) (.atom T o T5 HNM.out ho5 (fun h=>by have:=OP.out;omega) (fun _=>VZ.out)) (Gs _ _ _ _ _ _) (by simp[aj.ht,By];exact hd) (by simp[aj.cnt]) (by have:=N64.out;omega) (vy S9.out.pr S9.out.lt _ _ _ _ _ _ _ _) (by have:=M2.out;omega)
 ·have q1:(ve != 0)=true:=by simp[hv0]
  have EN:Hid (fX n l=none):=by show _=_;rw[EV.out];exact Gt (by rw[←HT5.out,iP,HV.out];exact hv0)
  have HVN:=zz.mk hv0
  clear hv0
  go_wp2_with fail
  refine(fJ T5 p5 ve _).mono ?_;rintro e w2 ⟨rfl,hb⟩
  have S2:=ae (S7.out.below hb)
  have tc:=S2.out.two.c
  obtain⟨x0,x1,x2,x3,x4,y0,y1,y2,g0,g1,g2,g3,g4,k0,k1,k2⟩:=tc
  clear hb
  unfold gB
  go_wp2_with fail
  refine bodyPost_ret (mj _ S2.out.two.c rfl rfl _ _ _ _ _ _ _ _ ⟨rfl,rfl,rfl,rfl,rfl,rfl,rfl,rfl⟩) rfl ?_
  exact dd.no EN.out (de S2.out.gr lr _ _ _ _ _ _ _ _) HVN.out
end
end Go.Proofs.YtkjdbpjglobbjaaGreatDoor
