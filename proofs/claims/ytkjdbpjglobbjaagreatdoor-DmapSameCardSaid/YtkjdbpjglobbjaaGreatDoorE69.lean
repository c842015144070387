/- A part of the proof of a law on dependencies in three formats. No condition. -/
import Derived.Test.YtkjdbpjglobbjaaGreatDoorE42
import Derived.Test.YtkjdbpjglobbjaaGreatDoorE68
set_option maxRecDepth 100000
set_option maxHeartbeats 20000000
set_option linter.unusedVariables false
set_option linter.unusedSimpArgs false
namespace Go.Proofs.YtkjdbpjglobbjaaGreatDoor
section
open Go.RowKit
theorem Hj {s t:BA}(h:¬ s=t):¬ s.toList=t.toList:=fun e=>h (dp (by rw[←ai,←ai,e]))
structure Tm (g:aA):Prop where
 ver:g.ver.size≤1000000
structure kX (g:aA):Prop where
 ver:g.op≠0→g.ver.size≤1000000
 op0:0≤g.op
 op5:g.op≤5
theorem Ak (fmt:Int)(hf:dk fmt)(a g:aA)(pA pF:Nat)(w:World)(hG:Gl w)(ha:kX a)(hg:Tm g)(h1:aF w pA [.string a.nm,.int .i64 a.op,.string a.ver])(h2:w.cell? ⟨pF,0,none⟩=some (.int .i64 fmt)):
  Calls Tryz.prog 99 #[g.val,.pointer (some ⟨pA,0,none⟩),.pointer (some ⟨pF,0,none⟩)] w fun e w'=>e=.returned (.bool (jP fmt a g))∧Below w.heap.size w w':=by
 obtain⟨W1,hW1⟩:∃ W1,w.alloc (.cells #[.string g.nm,.int .i64 g.op,.string g.ver] 53)=W1:=⟨_,rfl⟩
 have B1:Hid (Below w.heap.size w W1):=by rw[←hW1];exact bR.alloc lr _
 have K1:Hid (aF W1 w.heap.size [.string g.nm,.int .i64 g.op,.string g.ver]):=by show aF _ _ _;rw[←hW1];exact aF.new w [.string g.nm,.int .i64 g.op,.string g.ver] _
 have KA:=h1.below B1.out
 have a0:=KA.cell 0 _ rfl
 have a1:=KA.cell 1 _ rfl
 have a2:=KA.cell 2 _ rfl
 have f0:W1.cell? ⟨pF,0,none⟩=some (.int .i64 fmt):=(B1.out.cell (p:=⟨pF,0,none⟩) (World.block_lt_of_cell? _ _ h2)).trans h2
 have g0:=K1.out.cell 0 _ rfl
 have g1:=K1.out.cell 1 _ rfl
 have g2:=K1.out.cell 2 _ rfl
 have HW1:=ae hW1
 have ST:=ae fun (h:¬ a.op=0) W hb=>uG fmt hf a.op (by have:=ha.op0;omega) ha.op5 g.ver a.ver W (hG.below hb) hg.ver (ha.ver h)
 have HE:=ae (show jP fmt a g=if g.nm≠a.nm then false else if a.op=0 then true else if g.op=3 then gH fmt a.op g.ver a.ver else decide (fmt=2∧g.op=0) from rfl)
 obtain⟨R,hR⟩:∃ R,jP fmt a g=R:=⟨_,rfl⟩
 rw[hR] at HE ⊢
 unfold aA.val
 generalize hs:gH fmt a.op g.ver a.ver=sb at *
 clear hR hW1 KA h1 h2 hG ha hg hs
 obtain⟨an,ao,av⟩:=a
 obtain⟨gn,go,gv⟩:=g
 simp only at a0 a1 a2 g0 g1 g2 HE HW1 ST ⊢
 by_cases hn:gn=an
 rotate_left
 ·have hn':=Hj hn
  have hn2:(gn.toList==an.toList)=false:=by simpa using hn'
  have E:Hid (R=false):=by show _=_;rw[HE.out,if_pos hn]
  clear hn
  go_enter Tryz.func99,Tryz.ntmps99
  go_upto_region 1 with(fail)
  rw[HW1.out]
  go_wp2_with fail
  go_ret
  exact⟨am E.out.symm,B1.out⟩
 subst hn
 by_cases h0:ao=0
 ·have q0:(ao==0)=true:=by simp[h0]
  have E:Hid (R=true):=by show _=_;rw[HE.out,if_neg (by simp),if_pos h0]
  clear h0
  go_enter Tryz.func99,Tryz.ntmps99
  go_upto_region 1 with(fail)
  rw[HW1.out]
  go_wp2_with fail
  go_ret
  exact⟨am E.out.symm,B1.out⟩
 have q0:(ao==0)=false:=by simpa using h0
 have ST2:=ae (ST.out h0)
 by_cases h3:go=3
 ·have q3:(go==3)=true:=by simp[h3]
  have E:Hid (R=sb):=by show _=_;rw[HE.out,if_neg (by simp),if_neg h0,if_pos h3]
  clear h0 h3 ST
  go_enter Tryz.func99,Tryz.ntmps99
  go_upto_region 1 with(fail)
  rw[HW1.out]
  go_wp2_with fail
  refine(ST2.out _ B1.out).mono ?_;rintro e w2 ⟨rfl,hb2⟩
  have B2:=ae (ah B1.out hb2)
  clear hb2
  go_wp2_with fail
  go_ret
  exact⟨am E.out.symm,B2.out⟩
 have q3:(go==3)=false:=by simpa using h3
 have E:Hid (R=decide (fmt=2∧go=0)):=by show _=_;rw[HE.out,if_neg (by simp),if_neg h0,if_neg h3]
 clear h0 h3 ST ST2 HE
 by_cases h2:fmt=2
 ·have q2:(fmt==2)=true:=by simp[h2]
  obtain⟨b,hb⟩:∃ b,(go==0)=b:=⟨_,rfl⟩
  have E2:Hid (R=b):=by show _=_;rw[E.out,←hb];first | (simp[h2];done) | (simp[h2];rfl)
  clear h2 E
  cases b
  all_goals
   go_enter Tryz.func99,Tryz.ntmps99
   go_upto_region 1 with(fail)
   rw[HW1.out]
   go_wp2_with fail
   go_ret
   exact⟨am E2.out.symm,B1.out⟩
 ·have q2:(fmt==2)=false:=by simpa using h2
  have E2:Hid (R=false):=by show _=_;rw[E.out];simp[h2]
  clear h2 E
  go_enter Tryz.func99,Tryz.ntmps99
  go_upto_region 1 with(fail)
  rw[HW1.out]
  go_wp2_with fail
  go_ret
  exact⟨am E2.out.symm,B1.out⟩
structure Cl (w:World) (x:aB):Prop where
 row:Rd w 3 x.ga x.gives.length (x.gives.flatMap aA.cells)
 ver:x.ver.size≤1000000
 few:x.gives.length≤1000000
 all:∀ g∈x.gives,Tm g
theorem Cl.below {w w':World}{x:aB}(h:Cl w x)(hb:Below w.heap.size w w'):Cl w' x:=⟨h.row.below hb,h.ver,h.few,h.all⟩
theorem Ef (fmt:Int)(hf:dk fmt)(x:aB)(a:aA)(w:World)(hG:Gl w)(hx:Cl w x)(ha:kX a):
  Calls Tryz.prog 60 #[.int .i64 fmt,x.val,a.val] w fun e w'=>e=.returned (.bool (N8 fmt a x.plain))∧Below w.heap.size w w':=by
 obtain⟨W1,hW1⟩:∃ W1,((w.alloc (.cells #[.int .i64 fmt] 3)).alloc (.cells #[.string x.nm,.string x.ver,.slice x.ga x.gives.length x.gc] 48)).alloc (.cells #[.string a.nm,.int .i64 a.op,.string a.ver] 53)=W1:=⟨_,rfl⟩
 have B1:Hid (Below w.heap.size w W1):=by rw[←hW1];exact((bR.alloc lr _).alloc (by simp) _).alloc (by simp;omega) _
 have K0:Hid (aF W1 w.heap.size [.int .i64 fmt]):=by show aF _ _ _;rw[←hW1];exact((aF.new w [.int .i64 fmt] _).alloc _).alloc _
 have K1:Hid (aF W1 (w.heap.size+1) [.string x.nm,.string x.ver,.slice x.ga x.gives.length x.gc]):=by
  show aF _ _ _;rw[←hW1]
  have:=(aF.new (w.alloc (.cells #[.int .i64 fmt] 3)) [.string x.nm,.string x.ver,.slice x.ga x.gives.length x.gc] 48).alloc (.cells #[.string a.nm,.int .i64 a.op,.string a.ver] 53)
  simpa using this
 have K2:Hid (aF W1 (w.heap.size+2) [.string a.nm,.int .i64 a.op,.string a.ver]):=by
  show aF _ _ _;rw[←hW1]
  have:=aF.new ((w.alloc (.cells #[.int .i64 fmt] 3)).alloc (.cells #[.string x.nm,.string x.ver,.slice x.ga x.gives.length x.gc] 48)) [.string a.nm,.int .i64 a.op,.string a.ver] 53
  simpa using this
 have CF:=ae fun W (hb:Below W1.heap.size W1 W)=>qO 99 (.pointer (some ⟨w.heap.size+2,0,none⟩)) (.pointer (some ⟨w.heap.size,0,none⟩)) (jP fmt a) x.ga x.gc x.gives W ((hx.row.below B1.out).below hb) hx.few Tryz.call99
  (ae fun g hg W' hb'=>Ak fmt hf a g (w.heap.size+2) w.heap.size W' (hG.below (ah B1.out (ah hb hb'))) ha (hx.all g hg) (K2.out.below (ah hb hb')) ((K0.out.below (ah hb hb')).cell 0 _ rfl))
 have ST:=ae fun (h:¬ a.op=0) W hb=>uG fmt hf a.op (by have:=ha.op0;omega) ha.op5 x.ver a.ver W (hG.below hb) hx.ver (ha.ver h)
 have HE:=ae (show N8 fmt a x.plain=((decide (x.nm=a.nm)&&(decide (a.op=0)||gH fmt a.op x.ver a.ver))||x.gives.any (jP fmt a)) from rfl)
 obtain⟨R,hR⟩:∃ R,N8 fmt a x.plain=R:=⟨_,rfl⟩
 rw[hR] at HE ⊢
 obtain⟨sb,hs⟩:∃ b,gH fmt a.op x.ver a.ver=b:=⟨_,rfl⟩
 obtain⟨gb,hgb⟩:∃ b,x.gives.any (jP fmt a)=b:=⟨_,rfl⟩
 rw[hs] at HE ST
 rw[hgb] at HE CF
 unfold aB.val aA.val
 have a0:=K0.out.cell 0 _ rfl
 have b0:=K1.out.cell 0 _ rfl
 have b1:=K1.out.cell 1 _ rfl
 have b2:=K1.out.cell 2 _ rfl
 have c0:=K2.out.cell 0 _ rfl
 have c1:=K2.out.cell 1 _ rfl
 have c2:=K2.out.cell 2 _ rfl
 have z1:w.heap.size<W1.heap.size:=World.block_lt_of_cell? _ _ a0
 have z2:w.heap.size+1<W1.heap.size:=World.block_lt_of_cell? _ _ b0
 have HW1:=ae hW1
 clear hR hs hgb hW1 hG hx ha hf
 obtain⟨an,ao,av⟩:=a
 obtain⟨xn,xv,ga,gc,gives⟩:=x
 simp only at b0 b1 b2 c0 c1 c2 HE HW1 ST CF K1 K2 ⊢
 generalize gives.length=gl at *
 by_cases hn:xn=an
 rotate_left
 ·have hn':=Hj hn
  have E:Hid (R=gb):=by show _=_;rw[HE.out,dF hn];rfl
  clear hn ST HE
  go_enter Tryz.func60,Tryz.ntmps60
  go_upto_region 1 with(fail)
  rw[HW1.out]
  go_wp2_with fail
  refine(CF.out _ bR).mono ?_;rintro e w2 ⟨rfl,hb2⟩
  have B2:=ae (ah B1.out hb2)
  clear hb2
  go_wp2_with fail
  go_ret
  exact⟨am E.out.symm,B2.out⟩
 subst hn
 by_cases h0:ao=0
 ·have q0:(ao==0)=true:=by simp[h0]
  have E:Hid (R=true):=by show _=_;rw[HE.out,dT h0];simp
  clear h0 ST HE
  go_enter Tryz.func60,Tryz.ntmps60
  go_upto_region 1 with(fail)
  rw[HW1.out]
  go_wp2_with fail
  go_ret
  exact⟨am E.out.symm,B1.out⟩
 have q0:(ao==0)=false:=by simpa using h0
 have ST2:=ae (ST.out h0)
 have E:Hid (R=(sb||gb)):=by show _=_;rw[HE.out,dF h0];simp
 clear h0 ST HE
 cases sb
 ·have E2:Hid (R=gb):=by show _=_;rw[E.out];rfl
  clear E
  go_enter Tryz.func60,Tryz.ntmps60
  go_upto_region 1 with(fail)
  rw[HW1.out]
  go_wp2_with fail
  refine(ST2.out _ B1.out).mono ?_;rintro e w2 ⟨rfl,hb2⟩
  have B12:=ae hb2
  have B2:=ae (ah B1.out hb2)
  have d2:w2.cell? ⟨w.heap.size+1,2,none⟩=some (.slice ga gl gc):=(hb2.cell (p:=⟨w.heap.size+1,2,none⟩) z2).trans b2
  clear hb2 a0 b0 b1 b2 c0 c1 c2
  go_wp2_with fail
  refine(CF.out _ B12.out).mono ?_;rintro e w3 ⟨rfl,hb3⟩
  have B3:=ae (ah B2.out hb3)
  clear hb3
  go_wp2_with fail
  go_ret
  exact⟨am E2.out.symm,B3.out⟩
 ·have E2:Hid (R=true):=by show _=_;rw[E.out];rfl
  clear E
  go_enter Tryz.func60,Tryz.ntmps60
  go_upto_region 1 with(fail)
  rw[HW1.out]
  go_wp2_with fail
  refine(ST2.out _ B1.out).mono ?_;rintro e w2 ⟨rfl,hb2⟩
  have B2:=ae (ah B1.out hb2)
  clear hb2
  go_wp2_with fail
  go_ret
  exact⟨am E2.out.symm,B2.out⟩
theorem vj (fmt:Int)(hf:dk fmt)(x:aB)(a:aA)(p q:Nat)(w:World)(hG:Gl w)(hx:Cl w x)(ha:kX a)(h0:w.cell? ⟨p,0,none⟩=some (.int .i64 fmt))(h1:aF w q [.string a.nm,.int .i64 a.op,.string a.ver]):
  Calls Tryz.prog 59 #[x.val,.pointer (some ⟨p,0,none⟩),.pointer (some ⟨q,0,none⟩)] w fun e w'=>e=.returned (.bool (N8 fmt a x.plain))∧Below w.heap.size w w':=by
 have HG:=ae hG
 have B1:Hid (Below w.heap.size w (w.alloc (.cells #[.string x.nm,.string x.ver,.slice x.ga x.gives.length x.gc] 48))):=bR.alloc lr _
 have ST:=ae (Ef fmt hf x a _ (hG.below B1.out) (hx.below B1.out) ha)
 have c0:=h1.cell 0 _ rfl
 have c1:=h1.cell 1 _ rfl
 have c2:=h1.cell 2 _ rfl
 generalize N8 fmt a x.plain=R at *
 unfold aB.val aA.val at ST
 unfold aB.val
 obtain⟨gl,hgl⟩:∃ gl,x.gives.length=gl:=⟨_,rfl⟩
 rw[hgl] at ST B1 ⊢
 clear hgl hG h1 hx ha hf
 have hp:=World.block_lt_of_cell? _ _ h0
 have hq:=World.block_lt_of_cell? _ _ c0
 simp only at hp hq
 go_enter Tryz.func59,Tryz.ntmps59
 go_wp2_with fail
 refine ST.out.mono ?_;rintro e w2 ⟨rfl,hb2⟩
 have B2:=ae (ah B1.out hb2)
 clear hb2
 go_wp2_with fail
 go_ret
 exact⟨rfl,B2.out⟩
structure mT (w:World) (A:Option Addr) (l:List aB):Prop where
 row:Rd w 3 A l.length (l.flatMap aB.cells)
 all:∀ x∈l,Cl w x
 few:l.length≤1000000
theorem mT.below {w w':World}{A:Option Addr}{l:List aB}(h:mT w A l)(hb:Below w.heap.size w w'):mT w' A l:=⟨h.row.below hb,fun x hx=>(h.all x hx).below hb,h.few⟩
theorem NJ (f:bW→Bool)(l:List aB):(l.any fun x=>f x.plain)=(l.map aB.plain).any f:=by rw[List.any_map];rfl
theorem ja (fmt:Int)(hf:dk fmt)(A:Option Addr)(c:Nat)(l:List aB)(a:aA)(w:World)(hG:Gl w)(hs:mT w A l)(ha:kX a):
  Calls Tryz.prog 36 #[.int .i64 fmt,.slice A l.length c,a.val] w fun e w'=>e=.returned (.bool (iD fmt (l.map aB.plain) a))∧Below w.heap.size w w':=by
 obtain⟨W1,hW1⟩:∃ W1,(w.alloc (.cells #[.int .i64 fmt] 3)).alloc (.cells #[.string a.nm,.int .i64 a.op,.string a.ver] 53)=W1:=⟨_,rfl⟩
 have B1:Hid (Below w.heap.size w W1):=by rw[←hW1];exact(bR.alloc lr _).alloc (by simp) _
 have K0:Hid (aF W1 w.heap.size [.int .i64 fmt]):=by show aF _ _ _;rw[←hW1];exact(aF.new w [.int .i64 fmt] _).alloc _
 have K1:Hid (aF W1 (w.heap.size+1) [.string a.nm,.int .i64 a.op,.string a.ver]):=by
  show aF _ _ _;rw[←hW1]
  have:=aF.new (w.alloc (.cells #[.int .i64 fmt] 3)) [.string a.nm,.int .i64 a.op,.string a.ver] 53
  simpa using this
 have hs1:=hs.below B1.out
 have CF:=ae (ll 59 (.pointer (some ⟨w.heap.size,0,none⟩)) (.pointer (some ⟨w.heap.size+1,0,none⟩)) (fun x=>N8 fmt a x.plain) A c l W1 hs1.row hs1.few Tryz.call59
  (ae fun x hx W hb=>vj fmt hf x a w.heap.size (w.heap.size+1) W (hG.below (ah B1.out hb)) ((hs1.all x hx).below hb) ha ((K0.out.below hb).cell 0 _ rfl) (K1.out.below hb)))
 rw[NJ] at CF
 have HE:Hid (iD fmt (l.map aB.plain) a=(l.map aB.plain).any (N8 fmt a)):=rfl
 generalize (l.map aB.plain).any (N8 fmt a)=R at *
 rw[HE.out]
 clear HE
 unfold aA.val
 generalize l.length=n at *
 have HW1:=ae hW1
 clear hW1 hG hs ha hf hs1
 go_enter Tryz.func36,Tryz.ntmps36
 go_upto_region 1 with(fail)
 rw[HW1.out]
 go_wp2_with fail
 refine CF.out.mono ?_;rintro e w2 ⟨rfl,hb2⟩
 have B2:=ae (ah B1.out hb2)
 clear hb2
 go_wp2_with fail
 go_ret
 exact⟨rfl,B2.out⟩
def Cm (p:aj):Prop:=∀ a∈eM p,bl a.op=[]∧kX (cY a)
def uH (set:List bW)(p:aj):Bool:=(eM p).any fun a=>iD 2 set (cY a)
theorem zf (w:World)(A:Option Addr)(n c:Nat)(cs:List Value)(hc:cs.length=5){W1:World}(h:(w.alloc (.cells #[.slice A n c] 36)).alloc (.cells cs.toArray 70)=W1):
  Below w.heap.size w W1∧aF W1 w.heap.size [.slice A n c]∧aF W1 (w.heap.size+1) cs:=by
 subst h
 refine⟨(bR.alloc lr _).alloc (by simp) _,(aF.new w [.slice A n c] _).alloc _,?_⟩
 have:=aF.new (w.alloc (.cells #[.slice A n c] 36)) cs 70
 simpa using this
theorem Cn (A:Option Addr)(c:Nat)(l:List aB)(T:aj)(w:World)(hG:Gl w)(hs:mT w A l)(hT:bl T.op=[])(ha:kX (cY T)):
  Calls Tryz.prog 57 #[.slice A l.length c,T.val] w fun e w'=>e=.returned (.bool (iD 2 (l.map aB.plain) (cY T)))∧Below w.heap.size w w':=by
 have HA:=ae fun W hb=>ja 2 (.inr (.inl rfl)) A c l (cY T) W (hG.below hb) (hs.below hb) ha
 have hop:T.op=⟨#[]⟩:=dp hT
 generalize iD 2 (l.map aB.plain) (cY T)=R at *
 unfold aA.val cY at HA
 unfold aj.val
 rw[hop]
 clear hG hs hT ha hop
 simp only at HA
 generalize T.nm=nm at *
 generalize T.aop=aop at *
 generalize T.ver=ver at *
 generalize T.ka=ka at *
 generalize T.kids.length=kl at *
 generalize T.kc=kc at *
 generalize l.length=n at *
 obtain⟨W1,hW1⟩:∃ W1,(w.alloc (.cells #[.slice A n c] 36)).alloc (.cells #[.string ⟨#[]⟩,.string nm,.int .i64 aop,.string ver,.slice ka kl kc] 70)=W1:=⟨_,rfl⟩
 obtain⟨b1,k0,k1⟩:=zf w A n c [.string ⟨#[]⟩,.string nm,.int .i64 aop,.string ver,.slice ka kl kc] rfl hW1
 have B1:=ae b1
 have a0:=k0.cell 0 _ rfl
 have e0:=k1.cell 0 _ rfl
 have e1:=k1.cell 1 _ rfl
 have e2:=k1.cell 2 _ rfl
 have e3:=k1.cell 3 _ rfl
 have HW1:=ae hW1
 clear hW1 b1 k0 k1
 go_enter Tryz.func57,Tryz.ntmps57
 go_upto_region 1 with(fail)
 rw[HW1.out]
 go_wp2_with fail
 refine(HA.out _ B1.out).mono ?_;rintro e w2 ⟨rfl,hb2⟩
 have B2:=ae (ah B1.out hb2)
 clear hb2
 go_wp2_with fail
 go_ret
 exact⟨rfl,B2.out⟩
theorem NK (A:Option Addr)(c q:Nat)(n:Nat)(T:aj)(R:Bool)(w:World)(h0:w.cell? ⟨q,0,none⟩=some (.slice A n c))
  (hr:∀ W,Below w.heap.size w W→Calls Tryz.prog 57 #[.slice A n c,T.val] W fun e w'=>e=.returned (.bool R)∧Below W.heap.size W w'):
  Calls Tryz.prog 93 #[T.val,.pointer (some ⟨q,0,none⟩)] w fun e w'=>e=.returned (.bool R)∧Below w.heap.size w w':=by
 have HA:=ae hr
 unfold aj.val at HA
 unfold aj.val
 have hq:=World.block_lt_of_cell? _ _ h0
 simp only at hq
 clear hr
 generalize T.op=op at *
 generalize T.nm=nm at *
 generalize T.aop=aop at *
 generalize T.ver=ver at *
 generalize T.ka=ka at *
 generalize T.kids.length=kl at *
 generalize T.kc=kc at *
 have B1:Hid (Below w.heap.size w (w.alloc (.cells #[.string op,.string nm,.int .i64 aop,.string ver,.slice ka kl kc] 70))):=bR.alloc lr _
 go_enter Tryz.func93,Tryz.ntmps93
 go_wp2_with fail
 refine(HA.out _ B1.out).mono ?_;rintro e w2 ⟨rfl,hb2⟩
 have B2:=ae (ah B1.out hb2)
 clear hb2
 go_wp2_with fail
 go_ret
 exact⟨rfl,B2.out⟩
theorem NM (A:Option Addr)(c q:Nat)(n:Nat)(T:aj)(R:Bool)(w:World)(h0:w.cell? ⟨q,0,none⟩=some (.slice A n c))
  (hr:∀ W,Below w.heap.size w W→Calls Tryz.prog 57 #[.slice A n c,T.val] W fun e w'=>e=.returned (.bool R)∧Below W.heap.size W w'):
  Calls Tryz.prog 94 #[T.val,.pointer (some ⟨q,0,none⟩)] w fun e w'=>e=.returned (.bool (!R))∧Below w.heap.size w w':=by
 have HA:=ae hr
 unfold aj.val at HA
 unfold aj.val
 have hq:=World.block_lt_of_cell? _ _ h0
 simp only at hq
 clear hr
 generalize T.op=op at *
 generalize T.nm=nm at *
 generalize T.aop=aop at *
 generalize T.ver=ver at *
 generalize T.ka=ka at *
 generalize T.kids.length=kl at *
 generalize T.kc=kc at *
 have B1:Hid (Below w.heap.size w (w.alloc (.cells #[.string op,.string nm,.int .i64 aop,.string ver,.slice ka kl kc] 70))):=bR.alloc lr _
 go_enter Tryz.func94,Tryz.ntmps94
 go_wp2_with fail
 refine(HA.out _ B1.out).mono ?_;rintro e w2 ⟨rfl,hb2⟩
 have B2:=ae (ah B1.out hb2)
 clear hb2
 go_wp2_with fail
 go_ret
 exact⟨rfl,B2.out⟩
theorem SZ (A:Option Addr)(c:Nat)(n:Nat)(T:aj)(p:aj→Bool)(w:World)(hT:bl T.op=eE)(hr:Rd w 5 T.ka T.kids.length (T.kids.flatMap aj.cells))(hl:T.kids.length≤1000000)
  (hk:∀ k∈T.kids,∀ W,Below w.heap.size w W→Calls Tryz.prog 57 #[.slice A n c,k.val] W fun e w'=>e=.returned (.bool (p k))∧Below W.heap.size W w'):
  Calls Tryz.prog 57 #[.slice A n c,T.val] w fun e w'=>e=.returned (.bool (T.kids.any p))∧Below w.heap.size w w':=by
 have hop:T.op=⟨#[111,114]⟩:=dp hT
 obtain⟨W1,hW1⟩:∃ W1,(w.alloc (.cells #[.slice A n c] 36)).alloc (.cells #[.string ⟨#[111,114]⟩,.string T.nm,.int .i64 T.aop,.string T.ver,.slice T.ka T.kids.length T.kc] 70)=W1:=⟨_,rfl⟩
 obtain⟨b1,k0,k1⟩:=zf w A n c [.string ⟨#[111,114]⟩,.string T.nm,.int .i64 T.aop,.string T.ver,.slice T.ka T.kids.length T.kc] rfl hW1
 have CF:=ae (lm 93 (.pointer (some ⟨w.heap.size,0,none⟩)) p T.ka T.kc T.kids W1 (hr.below b1) hl Tryz.call93
  (ae fun k hkm W hb=>NK A c w.heap.size n k (p k) W ((k0.below hb).cell 0 _ rfl) fun W' hb'=>hk k hkm W' (ah b1 (ah hb hb'))))
 unfold aj.val
 rw[hop]
 generalize T.kids.any p=R at *
 have B1:=ae b1
 have a0:=k0.cell 0 _ rfl
 have e0:=k1.cell 0 _ rfl
 have e4:=k1.cell 4 _ rfl
 have HW1:=ae hW1
 clear hW1 b1 k0 k1 hop hT hr hl hk
 generalize T.nm=nm at *
 generalize T.aop=aop at *
 generalize T.ver=ver at *
 generalize T.ka=ka at *
 generalize T.kids.length=kl at *
 generalize T.kc=kc at *
 go_enter Tryz.func57,Tryz.ntmps57
 go_upto_region 1 with(fail)
 rw[HW1.out]
 go_wp2_with fail
 refine CF.out.mono ?_;rintro e w2 ⟨rfl,hb2⟩
 have B2:=ae (ah B1.out hb2)
 clear hb2
 go_wp2_with fail
 go_ret
 exact⟨rfl,B2.out⟩
theorem QT (A:Option Addr)(c:Nat)(n:Nat)(T:aj)(p:aj→Bool)(w:World)(hT:bl T.op=eU)(hr:Rd w 5 T.ka T.kids.length (T.kids.flatMap aj.cells))(hl:T.kids.length≤1000000)
  (hk:∀ k∈T.kids,∀ W,Below w.heap.size w W→Calls Tryz.prog 57 #[.slice A n c,k.val] W fun e w'=>e=.returned (.bool (p k))∧Below W.heap.size W w'):
  Calls Tryz.prog 57 #[.slice A n c,T.val] w fun e w'=>e=.returned (.bool (!(T.kids.any fun k=>!p k)))∧Below w.heap.size w w':=by
 have hop:T.op=⟨#[97,110,100]⟩:=dp hT
 obtain⟨W1,hW1⟩:∃ W1,(w.alloc (.cells #[.slice A n c] 36)).alloc (.cells #[.string ⟨#[97,110,100]⟩,.string T.nm,.int .i64 T.aop,.string T.ver,.slice T.ka T.kids.length T.kc] 70)=W1:=⟨_,rfl⟩
 obtain⟨b1,k0,k1⟩:=zf w A n c [.string ⟨#[97,110,100]⟩,.string T.nm,.int .i64 T.aop,.string T.ver,.slice T.ka T.kids.length T.kc] rfl hW1
 have CF:=ae (lm 94 (.pointer (some ⟨w.heap.size,0,none⟩)) (fun k=>!p k) T.ka T.kc T.kids W1 (hr.below b1) hl Tryz.call94
  (ae fun k hkm W hb=>NM A c w.heap.size n k (p k) W ((k0.below hb).cell 0 _ rfl) fun W' hb'=>hk k hkm W' (ah b1 (ah hb hb'))))
 unfold aj.val
 rw[hop]
 generalize (T.kids.any fun k=>!p k)=R at *
 have B1:=ae b1
 have a0:=k0.cell 0 _ rfl
 have e0:=k1.cell 0 _ rfl
 have e4:=k1.cell 4 _ rfl
 have HW1:=ae hW1
 clear hW1 b1 k0 k1 hop hT hr hl hk
 generalize T.nm=nm at *
 generalize T.aop=aop at *
 generalize T.ver=ver at *
 generalize T.ka=ka at *
 generalize T.kids.length=kl at *
 generalize T.kc=kc at *
 go_enter Tryz.func57,Tryz.ntmps57
 go_upto_region 1 with(fail)
 rw[HW1.out]
 go_wp2_with fail
 refine CF.out.mono ?_;rintro e w2 ⟨rfl,hb2⟩
 have B2:=ae (ah B1.out hb2)
 clear hb2
 go_wp2_with fail
 go_ret
 exact⟨rfl,B2.out⟩
theorem Co (A:Option Addr)(c:Nat)(l:List aB)(T:aj)(w:World)(hG:Gl w)(hs:mT w A l)(hr:xT w T)(hn:T.kids.length≤1000000)(hz:Cm T):
  Calls Tryz.prog 57 #[.slice A l.length c,T.val] w fun e w'=>e=.returned (.bool (uH (l.map aB.plain) T))∧Below w.heap.size w w':=by
 unfold Cm uH eM at *
 by_cases ho:bl T.op=eE
 ·rw[if_pos ho] at hz ⊢
  exact SZ A c l.length T _ w ho hr.row hn fun k hk W hb=>Cn A c l k W (hG.below hb) (hs.below hb) (hz k hk).1 (hz k hk).2
 ·rw[if_neg ho] at hz ⊢
  obtain⟨h1,h2⟩:=hz T (by simp)
  refine(Cn A c l T w hG hs h1 h2).mono fun e w' ⟨he,hb⟩=>⟨?_,hb⟩
  rw[he];simp
theorem QU (A:Option Addr)(c:Nat)(l:List aB)(T:aj)(w:World)(hG:Gl w)(hs:mT w A l)(hr:xT w T)(hc:T.cnt≤64)(hz:∀ p∈cC T,Cm p):
  Calls Tryz.prog 57 #[.slice A l.length c,T.val] w fun e w'=>e=.returned (.bool ((cC T).all (uH (l.map aB.plain))))∧Below w.heap.size w w':=by
 obtain⟨f1,f2⟩:=nP hc
 unfold cC at *
 by_cases ho:bl T.op=eU
 ·rw[if_pos ho] at hz ⊢
  refine(QT A c l.length T (uH (l.map aB.plain)) w ho hr.row (by omega) fun k hk W hb=>Co A c l k W (hG.below hb) (hs.below hb) ((hr.kids k hk).low hb) (by have:=(nP (f2 k hk)).1;omega) (hz k hk)).mono fun e w' ⟨he,hb⟩=>⟨?_,hb⟩
  rw[he];congr 2
  rw[bI];simp
 ·rw[if_neg ho] at hz ⊢
  refine(Co A c l T w hG hs hr (by omega) (hz T (by simp))).mono fun e w' ⟨he,hb⟩=>⟨?_,hb⟩
  rw[he];simp
theorem oX {α:Type}{f:α→Bool}{l:List α}{k:Nat}{x:α}(h:(l.take k).all f=true)(hx:l[k]?=some x)(hp:f x=true):(l.take (k+1)).all f=true:=by
 rw[aS hx,List.all_append,h];simp[hp]
theorem Eg {α:Type}{f:α→Bool}{l:List α}{x:α}(hx:x∈l)(hp:f x=false):l.all f=false:=by
 rw[Bool.eq_false_iff];intro h;rw[List.all_eq_true.1 h x hx] at hp;cases hp
theorem vG {α:Type}{f:α→Bool}{l:List α}{k:Nat}(h:(l.take k).all f=true)(hk:¬ k<l.length):l.all f=true:=by rwa [tL (by omega)] at h
theorem tU (A:Option Addr)(c q:Nat)(l:List aB)(t:cA)(w:World)(hG:Gl w)(hs:mT w A l)(ht:kX (jg t))(h0:w.cell? ⟨q,0,none⟩=some (.slice A l.length c)):
  Calls Tryz.prog 91 #[t.val,.pointer (some ⟨q,0,none⟩)] w fun e w'=>e=.returned (.bool (iD 1 (l.map aB.plain) (jg t)))∧Below w.heap.size w w':=by
 have HA:=ae fun W hb=>ja 1 (.inl rfl) A c l (jg t) W (hG.below hb) (hs.below hb) ht
 generalize iD 1 (l.map aB.plain) (jg t)=R at *
 have hq:=World.block_lt_of_cell? _ _ h0
 simp only at hq
 obtain⟨nm,op,ver,qu,aa,ac,archs⟩:=t
 unfold aA.val jg at HA
 unfold cA.val
 simp only at HA ⊢
 clear hG hs ht
 generalize l.length=n at *
 generalize archs.length=al at *
 have B1:Hid (Below w.heap.size w (w.alloc (.cells #[.string nm,.int .i64 op,.string ver,.string qu,.slice aa al ac] 81))):=bR.alloc lr _
 go_enter Tryz.func91,Tryz.ntmps91
 go_wp2_with fail
 refine(HA.out _ B1.out).mono ?_;rintro e w2 ⟨rfl,hb2⟩
 have B2:=ae (ah B1.out hb2)
 clear hb2
 go_wp2_with fail
 go_ret
 exact⟨rfl,B2.out⟩
def zh (set:List bW)(bar:Bool)(g:aW):Bool:=(g.ts.any fun t=>iD 1 set (jg t)) != bar
theorem vk (A:Option Addr)(c:Nat)(l:List aB)(B:Option Addr)(d:Nat)(gs:List aW)(bar:Bool)(w:World)(hG:Gl w)(hs:mT w A l)(hr:py w B gs)(hl:gs.length≤1000000)(hz:∀ g∈gs,g.ts.length≤1000000∧∀ t∈g.ts,kX (jg t)):
  Calls Tryz.prog 56 #[.slice A l.length c,.slice B gs.length d,.bool bar] w fun e w'=>e=.returned (.bool (gs.all (zh (l.map aB.plain) bar)))∧Below w.heap.size w w':=by
 have HG:=ae hG;have HS:=ae hs;have HR:=ae hr;have HZ:=ae hz
 obtain⟨W1,hW1⟩:∃ W1,w.alloc (.cells #[.slice A l.length c] 36)=W1:=⟨_,rfl⟩
 have B1:Hid (Below w.heap.size w W1):=by rw[←hW1];exact bR.alloc lr _
 have K1:Hid (aF W1 w.heap.size [.slice A l.length c]):=by show aF _ _ _;rw[←hW1];exact aF.new w [.slice A l.length c] _
 have CF:=ae fun (g:aW) (hg:g∈gs) W (hb:Below W1.heap.size W1 W)=>sH 91 (.pointer (some ⟨w.heap.size,0,none⟩)) (fun t=>iD 1 (l.map aB.plain) (jg t)) g.ga g.gc g.ts W (((HR.out.grp g hg).below B1.out).below hb) (HZ.out g hg).1 Tryz.call91
  (ae fun t ht W' hb'=>tU A c w.heap.size l t W' (HG.out.below (ah B1.out (ah hb hb'))) (HS.out.below (ah B1.out (ah hb hb'))) ((HZ.out g hg).2 t ht) ((K1.out.below (ah hb hb')).cell 0 _ rfl))
 have a0:=K1.out.cell 0 _ rfl
 have HW1:=ae hW1
 clear hW1 hG hs hr hz
 generalize l.length=n at *
 go_enter Tryz.func56,Tryz.ntmps56
 go_upto_region 1 with(fail)
 rw[HW1.out]
 clear a0
 go_wp2_with fail
 go_loopw [13] (fun i wr=>∃ k:Nat,k≤gs.length∧i=.int .i64 k∧Hid ((gs.take k).all (zh (l.map aB.plain) bar)=true)∧Hid (Below W1.heap.size W1 wr)) (fun i _=>gs.length-(intOf i).toNat)
 case atStart=>exact⟨0,z0,rfl,by simp[Hid],bR⟩
 case round=>
  obtain⟨k,hk,rfl,HN,HB⟩:=hrel
  by_cases hlt:k<gs.length
  ·obtain⟨x,hx⟩:∃ x,gs[k]?=some x:=⟨_,gG hlt⟩
   obtain⟨b,off,hA,he⟩:=((HR.out.row.below B1.out).below HB.out).2 (by omega)
   have e0:=he k x.sl (by rw[List.getElem?_map,hx];rfl)
   have hix:=fun W=>aH (T:=67) (E:=79) (sz:=1) (c:=d) Tryz.underlying67 rfl Tryz.sizeOf79 hA hlt W
   simp only[Nat.mul_one] at hix
   unfold aW.sl at e0
   have HX:=ae hx
   have CG:=ae (CF.out x (gM hx))
   obtain⟨r,hrr⟩:∃ r,(x.ts.any fun t=>iD 1 (l.map aB.plain) (jg t))=r:=⟨_,rfl⟩
   rw[hrr] at CG
   have GV:Hid (zh (l.map aB.plain) bar x=(r != bar)):=by show _=_;unfold zh;rw[hrr]
   clear hx hA he hrr
   generalize x.ts.length=xl at *
   generalize x.ga=xa at *
   generalize x.gc=xc at *
   go_wp2_with fail
   refine(CG.out _ HB.out).mono ?_;rintro e w2 ⟨rfl,hb2⟩
   have B2:=ae (ah HB.out hb2)
   clear hb2 e0 hix CG
   by_cases hq:r=bar
   ·subst hq
    have E:Hid (gs.all (zh (l.map aB.plain) r)=false):=Eg (gM HX.out) (by rw[GV.out];cases r<;>rfl)
    have q:(r==r)=true:=by simp
    have B9:=ae (ah B1.out B2.out)
    cases r
    all_goals
     go_wp2_with fail
     go_ret
     exact⟨am E.out.symm,B9.out⟩
   ·have GT:Hid ((gs.take (k+1)).all (zh (l.map aB.plain) bar)=true):=oX HN.out HX.out (by rw[GV.out];simpa [bne] using hq)
    have q:(r==bar)=false:=by simpa using hq
    clear hq
    cases r<;>cases bar
    all_goals first
     | (exfalso;revert q;decide)
     | (go_wp2_with fail
        go_roundw
        case rel=>exact⟨k+1,by omega,by go_num,GT,B2⟩
        case measure=>simp[intOf];omega)
  ·have E:Hid (gs.all (zh (l.map aB.plain) bar)=true):=vG HN.out hlt
   have B9:=ae (ah B1.out HB.out)
   go_wp2_with fail
   go_ret
   exact⟨am E.out.symm,B9.out⟩
theorem JT (A:Option Addr)(c:Nat)(l:List aB)(tA:Option Addr)(tc:Nat)(T:aj)(tB:Option Addr)(tm td:Nat)(gs:List aW)(bar:Bool)(w:World)(hG:Gl w)(hs:mT w A l)(hr:py w tA gs)(hl:gs.length≤1000000)(hz:∀ g∈gs,g.ts.length≤1000000∧∀ t∈g.ts,kX (jg t)):
  Calls Tryz.prog 34 #[.int .i64 1,.slice A l.length c,nQ tA gs.length tc T tB tm td,.bool bar] w fun e w'=>e=.returned (.bool (gs.all (zh (l.map aB.plain) bar)))∧Below w.heap.size w w':=by
 have HA:=ae fun W hb=>vk A c l tA tc gs bar W (hG.below hb) (hs.below hb) (hr.below hb) hl hz
 generalize gs.all (zh (l.map aB.plain) bar)=R at *
 unfold nQ
 clear hG hs hr hz
 generalize T.op=op at *
 generalize T.nm=nm at *
 generalize T.aop=aop at *
 generalize T.ver=ver at *
 generalize T.ka=ka at *
 generalize T.kids.length=kl at *
 generalize T.kc=kc at *
 generalize l.length=n at *
 generalize gs.length=m at *
 have B1:Hid (Below w.heap.size w (w.alloc (.cells #[.slice tA m tc,.string op,.string nm,.int .i64 aop,.string ver,.slice ka kl kc,.slice tB tm td] 73))):=bR.alloc lr _
 go_enter Tryz.func34,Tryz.ntmps34
 go_wp2_with fail
 refine(HA.out _ B1.out).mono ?_;rintro e w2 ⟨rfl,hb2⟩
 have B2:=ae (ah B1.out hb2)
 clear hb2
 go_wp2_with fail
 go_ret
 exact⟨rfl,B2.out⟩
theorem zi (A:Option Addr)(c:Nat)(l:List aB)(tA:Option Addr)(tn tc:Nat)(T:aj)(tB:Option Addr)(tm td:Nat)(bar:Bool)(w:World)(hG:Gl w)(hs:mT w A l)(hr:xT w T)(hc:T.cnt≤64)(hz:∀ p∈cC T,Cm p):
  Calls Tryz.prog 34 #[.int .i64 2,.slice A l.length c,nQ tA tn tc T tB tm td,.bool bar] w fun e w'=>e=.returned (.bool (((cC T).all (uH (l.map aB.plain))) != bar))∧Below w.heap.size w w':=by
 have HA:=ae fun W hb=>QU A c l T W (hG.below hb) (hs.below hb) (hr.low hb) hc hz
 generalize (cC T).all (uH (l.map aB.plain))=R at *
 unfold aj.val at HA
 unfold nQ
 clear hG hs hr hz hc
 generalize T.op=op at *
 generalize T.nm=nm at *
 generalize T.aop=aop at *
 generalize T.ver=ver at *
 generalize T.ka=ka at *
 generalize T.kids.length=kl at *
 generalize T.kc=kc at *
 generalize l.length=n at *
 have B1:Hid (Below w.heap.size w (w.alloc (.cells #[.slice tA tn tc,.string op,.string nm,.int .i64 aop,.string ver,.slice ka kl kc,.slice tB tm td] 73))):=bR.alloc lr _
 go_enter Tryz.func34,Tryz.ntmps34
 go_wp2_with fail
 refine(HA.out _ B1.out).mono ?_;rintro e w2 ⟨rfl,hb2⟩
 have B2:=ae (ah B1.out hb2)
 clear hb2
 go_wp2_with fail
 go_ret
 exact⟨rfl,B2.out⟩
def sI (set:List bW)(bar:Bool)(x:dR):Bool:=iD 3 set (iA x) != (bar||x.no)
theorem JU (A:Option Addr)(c:Nat)(l:List aB)(tA:Option Addr)(tn tc:Nat)(T:aj)(tB:Option Addr)(td:Nat)(L:List dR)(bar:Bool)(w:World)(hG:Gl w)(hs:mT w A l)(hr:Rd w 4 tB L.length (L.flatMap dR.cells))(hl:L.length≤1000000)(hz:∀ x∈L,kX (iA x)):
  Calls Tryz.prog 34 #[.int .i64 3,.slice A l.length c,nQ tA tn tc T tB L.length td,.bool bar] w fun e w'=>e=.returned (.bool (L.all (sI (l.map aB.plain) bar)))∧Below w.heap.size w w':=by
 have HG:=ae hG;have HS:=ae hs;have HR:=ae hr;have HZ:=ae hz
 unfold nQ
 clear hG hs hr hz
 generalize T.op=op at *
 generalize T.nm=nm at *
 generalize T.aop=aop at *
 generalize T.ver=ver at *
 generalize T.ka=ka at *
 generalize T.kids.length=kl at *
 generalize T.kc=kc at *
 have B1:Hid (Below w.heap.size w (w.alloc (.cells #[.slice tA tn tc,.string op,.string nm,.int .i64 aop,.string ver,.slice ka kl kc,.slice tB L.length td] 73))):=bR.alloc lr _
 go_enter Tryz.func34,Tryz.ntmps34
 go_wp2_with fail
 go_loopw [30] (fun i wr=>∃ k:Nat,k≤L.length∧i=.int .i64 k∧Hid ((L.take k).all (sI (l.map aB.plain) bar)=true)∧Hid (Below w.heap.size w wr)) (fun i _=>L.length-(intOf i).toNat)
 case atStart=>exact⟨0,z0,rfl,by simp[Hid],B1⟩
 case round=>
  clear B1
  obtain⟨k,hk,rfl,HN,HB⟩:=hrel
  by_cases hlt:k<L.length
  ·obtain⟨x,hx⟩:∃ x,L[k]?=some x:=⟨_,gG hlt⟩
   obtain⟨b,off,hA,he⟩:=(HR.out.below HB.out).elem vq k x hx
   have e0:=he 0 _ rfl
   have e1:=he 1 _ rfl
   have e2:=he 2 _ rfl
   have e3:=he 3 _ rfl
   simp only[Nat.add_zero] at e0
   have hix:=fun W=>aH (T:=71) (E:=86) (sz:=4) (c:=td) Tryz.underlying71 rfl Tryz.sizeOf86 hA hlt W
   have HX:=ae hx
   have AH:=ae fun W hb=>ja 3 (.inr (.inr rfl)) A c l (iA x) W (HG.out.below hb) (HS.out.below hb) (HZ.out x (gM hx))
   obtain⟨r,hrr⟩:∃ r,iD 3 (l.map aB.plain) (iA x)=r:=⟨_,rfl⟩
   rw[hrr] at AH
   have WV:Hid (sI (l.map aB.plain) bar x=(r != (bar||x.no))):=by show _=_;unfold sI;rw[hrr]
   unfold aA.val iA at AH
   simp only at AH
   obtain⟨xn,hxn⟩:∃ xn,x.no=xn:=⟨_,rfl⟩
   obtain⟨nm',hnm⟩:∃ nm,bz x.name=nm:=⟨_,rfl⟩
   obtain⟨vr,hvr⟩:∃ vr,bz x.ver=vr:=⟨_,rfl⟩
   obtain⟨xo,hxo⟩:∃ xo:Int,(x.op:Int)=xo:=⟨_,rfl⟩
   rw[hxn] at e0 WV
   rw[hnm] at e1 AH
   rw[hvr] at e3 AH
   rw[hxo] at e2 AH
   clear hx hA he hrr hxn hnm hvr hxo
   obtain⟨W2,hW2⟩:∃ W2,wr.alloc (.cells #[.bool xn,.string nm',.int .i64 xo,.string vr] 86)=W2:=⟨_,rfl⟩
   have B12:Hid (Below wr.heap.size wr W2):=by rw[←hW2];exact bR.alloc lr _
   have K2:Hid (aF W2 wr.heap.size [.bool xn,.string nm',.int .i64 xo,.string vr]):=by show aF _ _ _;rw[←hW2];exact aF.new wr [.bool xn,.string nm',.int .i64 xo,.string vr] _
   have k0:=K2.out.cell 0 _ rfl
   have k1:=K2.out.cell 1 _ rfl
   have k2:=K2.out.cell 2 _ rfl
   have k3:=K2.out.cell 3 _ rfl
   have hwz2:wr.heap.size<W2.heap.size:=K2.out.sz
   have B2:=ae (ah HB.out B12.out)
   have HW2:=ae hW2
   clear hW2 B12
   go_upto_region 9 with(fail)
   rw[HW2.out]
   go_wp2_with fail
   refine(AH.out _ B2.out).mono ?_;rintro e w3 ⟨rfl,hb3⟩
   have d0:w3.cell? ⟨wr.heap.size,0,none⟩=some (.bool xn):=(hb3.cell (p:=⟨wr.heap.size,0,none⟩) hwz2).trans k0
   have B3:=ae (ah B2.out hb3)
   clear hb3 e0 e1 e2 e3 hix AH k0 k1 k2 k3 K2
   by_cases hq:r=(bar||xn)
   ·have E:Hid (L.all (sI (l.map aB.plain) bar)=false):=Eg (gM HX.out) (by rw[WV.out,hq];simp)
    cases bar<;>cases xn<;>cases r
    all_goals first
     | (exfalso;revert hq;decide)
     | (clear hq
        go_wp2_with fail
        go_ret
        exact⟨am E.out.symm,B3.out⟩)
   ·have GT:Hid ((L.take (k+1)).all (sI (l.map aB.plain) bar)=true):=oX HN.out HX.out (by rw[WV.out];simpa [bne] using hq)
    cases bar<;>cases xn<;>cases r
    all_goals first
     | (exfalso;revert hq;decide)
     | (clear hq
        go_wp2_with fail
        go_roundw
        case rel=>exact⟨k+1,by omega,by go_num,GT,B3⟩
        case measure=>simp[intOf];omega)
  ·have E:Hid (L.all (sI (l.map aB.plain) bar)=true):=vG HN.out hlt
   go_wp2_with fail
   go_ret
   exact⟨am E.out.symm,HB.out⟩
end
end Go.Proofs.YtkjdbpjglobbjaaGreatDoor
