/- A part of the proof of a law on dependencies in three formats. No condition. -/
import Derived.Test.YtkjdbpjglobbjaaGreatDoorE48
set_option maxRecDepth 100000
set_option maxHeartbeats 20000000
set_option linter.unusedVariables false
set_option linter.unusedSimpArgs false
namespace Go.Proofs.YtkjdbpjglobbjaaGreatDoor
section
open Go.RowKit
theorem yK (v u:BA)(w:World)(hG:Gl w)(hv:aV 2 v=0)(ht:aV 2 u=0)(hc:tH v u=0)(h1:v.size≤1000000)(h2:u.size≤1000000):
  Calls Tryz.prog 98 #[.int .i64 2,.int .i64 4,.string v,.string u] w fun e w'=>e=.returned (.bool true)∧Below w.heap.size w w':=by
 have HG:=ae hG
 have C1:=ae fun W hb=>bh 2 v W (HG.out.below hb) (by omega)
 have C2:=ae fun W hb=>bh 2 u W (HG.out.below hb) (by omega)
 have C3:=ae fun W hb=>jV v u W (HG.out.below hb) h1 h2
 rw[hv] at C1
 rw[ht] at C2
 rw[hc] at C3
 clear hG hv ht hc h1 h2
 go_enter Tryz.func98,Tryz.ntmps98
 go_wp2_with fail
 refine(C1.out _ bR).mono ?_;rintro e w1 ⟨rfl,hb1⟩
 have B1:=ae hb1
 clear hb1
 go_wp2_with fail
 refine(C2.out _ B1.out).mono ?_;rintro e w2 ⟨rfl,hb2⟩
 have B2:=ae (ah B1.out hb2)
 clear hb2
 go_wp2_with fail
 refine(C3.out _ B2.out).mono ?_;rintro e w3 ⟨rfl,hb3⟩
 have B3:=ae (ah B2.out hb3)
 clear hb3
 go_wp2_with fail
 go_ret
 exact⟨rfl,B3.out⟩
structure Kz (x:aB) (a:aA):Prop where
 nm:x.nm=a.nm
 op:a.op=4
 v1:aV 2 x.ver=0
 v2:aV 2 a.ver=0
 cmp:tH x.ver a.ver=0
 z1:x.ver.size≤1000000
 z2:a.ver.size≤1000000
theorem tI (x:aB)(a:aA)(w:World)(hG:Gl w)(h:Kz x a):
  Calls Tryz.prog 60 #[.int .i64 2,x.val,a.val] w fun e w'=>e=.returned (.bool true)∧Below w.heap.size w w':=by
 have HG:=ae hG
 have ST:=ae fun W hb=>yK x.ver a.ver W (HG.out.below hb) h.v1 h.v2 h.cmp h.z1 h.z2
 have hn:=h.nm
 have ho:=h.op
 obtain⟨nm,op,ver⟩:=a
 obtain⟨xn,xv,ga,gc,gives⟩:=x
 simp only at hn ho ST
 subst hn ho
 unfold aB.val aA.val
 simp only
 clear hG h
 obtain⟨gl,hgl⟩:∃ gl,gives.length=gl:=⟨_,rfl⟩
 rw[hgl]
 clear hgl
 obtain⟨W1,hW1⟩:∃ W1,((w.alloc (.cells #[.int .i64 2] 3)).alloc (.cells #[.string xn,.string xv,.slice ga gl gc] 48)).alloc (.cells #[.string xn,.int .i64 4,.string ver] 53)=W1:=⟨_,rfl⟩
 have B1:Hid (Below w.heap.size w W1):=by rw[←hW1];exact((bR.alloc lr _).alloc (by simp) _).alloc (by simp;omega) _
 have K0:Hid (aF W1 w.heap.size [.int .i64 2]):=by show aF _ _ _;rw[←hW1];exact((aF.new w [.int .i64 2] _).alloc _).alloc _
 have K1:Hid (aF W1 (w.heap.size+1) [.string xn,.string xv,.slice ga gl gc]):=by
  show aF _ _ _;rw[←hW1]
  have:=(aF.new (w.alloc (.cells #[.int .i64 2] 3)) [.string xn,.string xv,.slice ga gl gc] 48).alloc (.cells #[.string xn,.int .i64 4,.string ver] 53)
  simpa using this
 have K2:Hid (aF W1 (w.heap.size+2) [.string xn,.int .i64 4,.string ver]):=by
  show aF _ _ _;rw[←hW1]
  have:=aF.new ((w.alloc (.cells #[.int .i64 2] 3)).alloc (.cells #[.string xn,.string xv,.slice ga gl gc] 48)) [.string xn,.int .i64 4,.string ver] 53
  simpa using this
 have a0:=K0.out.cell 0 _ rfl
 have b0:=K1.out.cell 0 _ rfl
 have b1:=K1.out.cell 1 _ rfl
 have c0:=K2.out.cell 0 _ rfl
 have c1:=K2.out.cell 1 _ rfl
 have c2:=K2.out.cell 2 _ rfl
 have HW1:=ae hW1
 clear hW1
 go_enter Tryz.func60,Tryz.ntmps60
 go_upto_region 1 with(fail)
 rw[HW1.out]
 go_wp2_with fail
 refine(ST.out _ B1.out).mono ?_;rintro e w2 ⟨rfl,hb2⟩
 have B2:=ae (ah B1.out hb2)
 clear hb2
 go_wp2_with fail
 go_ret
 exact⟨rfl,B2.out⟩
theorem kT.below {w w':World}{A:Option Addr}{x:aB}(h:kT w A x)(hb:Below w.heap.size w w'):kT w' A x:=⟨h.row.below hb⟩
theorem pj (x:aB)(a:aA)(p q:Nat)(w:World)(hG:Gl w)(h:Kz x a)(h0:w.cell? ⟨p,0,none⟩=some (.int .i64 2))(h1:aF w q [.string a.nm,.int .i64 a.op,.string a.ver]):
  Calls Tryz.prog 59 #[x.val,.pointer (some ⟨p,0,none⟩),.pointer (some ⟨q,0,none⟩)] w fun e w'=>e=.returned (.bool true)∧Below w.heap.size w w':=by
 have HG:=ae hG
 have ST:=ae fun W hb=>tI x a W (HG.out.below hb) h
 have c0:=h1.cell 0 _ rfl
 have c1:=h1.cell 1 _ rfl
 have c2:=h1.cell 2 _ rfl
 unfold aB.val aA.val at ST
 unfold aB.val
 obtain⟨gl,hgl⟩:∃ gl,x.gives.length=gl:=⟨_,rfl⟩
 rw[hgl] at ST ⊢
 clear hgl hG h h1
 have hp:=World.block_lt_of_cell? _ _ h0
 have hq:=World.block_lt_of_cell? _ _ c0
 simp only at hp hq
 have K1:=ae (aF.new w [.string x.nm,.string x.ver,.slice x.ga gl x.gc] 48)
 have B1:Hid (Below w.heap.size w (w.alloc (.cells #[.string x.nm,.string x.ver,.slice x.ga gl x.gc] 48))):=bR.alloc lr _
 go_enter Tryz.func59,Tryz.ntmps59
 go_wp2_with fail
 refine(ST.out _ B1.out).mono ?_;rintro e w2 ⟨rfl,hb2⟩
 have B2:=ae (ah B1.out hb2)
 clear hb2
 go_wp2_with fail
 go_ret
 exact⟨rfl,B2.out⟩
theorem qI (A:Option Addr)(c:Nat)(x:aB)(a:aA)(w:World)(hG:Gl w)(h:Kz x a)(hs:kT w A x):
  Calls Tryz.prog 36 #[.int .i64 2,.slice A 1 c,a.val] w fun e w'=>e=.returned (.bool true)∧Below w.heap.size w w':=by
 have HG:=ae hG;have HS:=ae hs;have HH:=ae h
 unfold aA.val
 clear hG hs h
 obtain⟨W1,hW1⟩:∃ W1,(w.alloc (.cells #[.int .i64 2] 3)).alloc (.cells #[.string a.nm,.int .i64 a.op,.string a.ver] 53)=W1:=⟨_,rfl⟩
 have B1:Hid (Below w.heap.size w W1):=by rw[←hW1];exact(bR.alloc lr _).alloc (by simp) _
 have K0:Hid (aF W1 w.heap.size [.int .i64 2]):=by show aF _ _ _;rw[←hW1];exact(aF.new w [.int .i64 2] _).alloc _
 have K1:Hid (aF W1 (w.heap.size+1) [.string a.nm,.int .i64 a.op,.string a.ver]):=by
  show aF _ _ _;rw[←hW1]
  have:=aF.new (w.alloc (.cells #[.int .i64 2] 3)) [.string a.nm,.int .i64 a.op,.string a.ver] 53
  simpa using this
 have CF:=ae (ll 59 (.pointer (some ⟨w.heap.size,0,none⟩)) (.pointer (some ⟨w.heap.size+1,0,none⟩)) (fun _=>true) A c [x] W1 (by have:=(HS.out.below B1.out).row;simpa using this) (by simp) Tryz.call59 (ae fun g hg W hb=>by
  obtain rfl:=List.mem_singleton.1 hg
  exact pj g a w.heap.size (w.heap.size+1) W (HG.out.below (ah B1.out hb)) HH.out ((K0.out.below hb).cell 0 _ rfl) (K1.out.below hb)))
 simp only[List.any_cons,List.any_nil,Bool.or_false,List.length_singleton] at CF
 have HW1:=ae hW1
 clear hW1
 go_enter Tryz.func36,Tryz.ntmps36
 go_upto_region 1 with(fail)
 rw[HW1.out]
 go_wp2_with fail
 refine CF.out.mono ?_;rintro e w2 ⟨rfl,hb2⟩
 have B2:=ae (ah B1.out hb2)
 clear hb2
 go_wp2_with fail
 go_ret
 exact⟨rfl,B2.out⟩
structure Uk (x:aB) (T:aj):Prop where
 op:T.op=⟨#[]⟩
 it:Kz x ⟨T.nm,T.aop,T.ver⟩
theorem pk (A:Option Addr)(c:Nat)(x:aB)(T:aj)(w:World)(hG:Gl w)(hs:kT w A x)(hT:Uk x T):
  Calls Tryz.prog 57 #[.slice A 1 c,T.val] w fun e w'=>e=.returned (.bool true)∧Below w.heap.size w w':=by
 have HG:=ae hG;have HS:=ae hs
 have HA:=ae fun W hb=>qI A c x ⟨T.nm,T.aop,T.ver⟩ W (HG.out.below hb) hT.it (HS.out.below hb)
 unfold aA.val at HA
 unfold aj.val
 rw[hT.op]
 clear hG hs hT
 simp only at HA
 generalize T.nm=nm at *
 generalize T.aop=aop at *
 generalize T.ver=ver at *
 generalize T.ka=ka at *
 generalize T.kids.length=kl at *
 generalize T.kc=kc at *
 obtain⟨W1,hW1⟩:∃ W1,(w.alloc (.cells #[.slice A 1 c] 36)).alloc (.cells #[.string ⟨#[]⟩,.string nm,.int .i64 aop,.string ver,.slice ka kl kc] 70)=W1:=⟨_,rfl⟩
 have B1:Hid (Below w.heap.size w W1):=by rw[←hW1];exact(bR.alloc lr _).alloc (by simp) _
 have K0:Hid (aF W1 w.heap.size [.slice A 1 c]):=by show aF _ _ _;rw[←hW1];exact(aF.new w [.slice A 1 c] _).alloc _
 have K1:Hid (aF W1 (w.heap.size+1) [.string ⟨#[]⟩,.string nm,.int .i64 aop,.string ver,.slice ka kl kc]):=by
  show aF _ _ _;rw[←hW1]
  have:=aF.new (w.alloc (.cells #[.slice A 1 c] 36)) [.string ⟨#[]⟩,.string nm,.int .i64 aop,.string ver,.slice ka kl kc] 70
  simpa using this
 have a0:=K0.out.cell 0 _ rfl
 have b0:=K1.out.cell 0 _ rfl
 have b1:=K1.out.cell 1 _ rfl
 have b2:=K1.out.cell 2 _ rfl
 have b3:=K1.out.cell 3 _ rfl
 have b4:=K1.out.cell 4 _ rfl
 have HW1:=ae hW1
 clear hW1
 go_enter Tryz.func57,Tryz.ntmps57
 go_upto_region 1 with(fail)
 rw[HW1.out]
 go_wp2_with fail
 refine(HA.out _ B1.out).mono ?_;rintro e w2 ⟨rfl,hb2⟩
 have B2:=ae (ah B1.out hb2)
 clear hb2
 go_wp2_with fail
 go_ret
 exact⟨rfl,B2.out⟩
theorem nT (A:Option Addr)(c q:Nat)(x:aB)(T:aj)(w:World)(hG:Gl w)(hs:kT w A x)(hT:Uk x T)(h0:w.cell? ⟨q,0,none⟩=some (.slice A 1 c)):
  Calls Tryz.prog 93 #[T.val,.pointer (some ⟨q,0,none⟩)] w fun e w'=>e=.returned (.bool true)∧Below w.heap.size w w':=by
 have HG:=ae hG;have HS:=ae hs
 have HA:=ae fun W hb=>pk A c x T W (HG.out.below hb) (HS.out.below hb) hT
 unfold aj.val at HA
 unfold aj.val
 clear hG hs hT
 have hq:=World.block_lt_of_cell? _ _ h0
 simp only at hq
 generalize T.op=op at *
 generalize T.nm=nm at *
 generalize T.aop=aop at *
 generalize T.ver=ver at *
 generalize T.ka=ka at *
 generalize T.kids.length=kl at *
 generalize T.kc=kc at *
 have B1:Hid (Below w.heap.size w (w.alloc (.cells #[.string op,.string nm,.int .i64 aop,.string ver,.slice ka kl kc] 70))):=bR.alloc lr _
 go_enter Tryz.func93,Tryz.ntmps93
 go_wp2_with fail
 refine(HA.out _ B1.out).mono ?_;rintro e w2 ⟨rfl,hb2⟩
 have B2:=ae (ah B1.out hb2)
 clear hb2
 go_wp2_with fail
 go_ret
 exact⟨rfl,B2.out⟩
theorem vd (f:FuncId)(x0:Value)(A:Option Addr)(c:Nat)(l:List aj)(k0:aj)(hk0:l[0]?=some k0)(w:World)(hr:Rd w 5 A l.length (l.flatMap aj.cells))(hl:l.length≤1000000)
  (hcall:∀ (args:Array Value)(w:World),(callFunc f args).run Tryz.prog w=.ok (.enter f args) w)
  (hf:Hid (∀ W,Below w.heap.size w W→Calls Tryz.prog f #[k0.val,x0] W fun e w'=>e=.returned (.bool true)∧Below W.heap.size W w')):
  Calls Tryz.prog 137 #[.slice A l.length c,.func (.func f) #[] #[x0]] w fun e w'=>e=.returned (.int .i64 0)∧Below w.heap.size w w':=by
 have HR:=ae hr
 have HK:=ae hk0
 have hlt:0<l.length:=(gS hk0).1
 clear hr hk0
 go_enter Tryz.func137,Tryz.ntmps137
 go_wp2_with fail
 go_loopw [8] (fun i wr=>i=.int .i64 ((0:Nat):Int)∧Hid (Below w.heap.size w wr)) (fun i _=>l.length-(intOf i).toNat)
 case atStart=>exact⟨rfl,bR⟩
 case round=>
  obtain⟨rfl,HB⟩:=hrel
  obtain⟨b,off,hA,he⟩:=(HR.out.below HB.out).elem mL 0 k0 HK.out
  have e0:=he 0 _ rfl
  have e1:=he 1 _ rfl
  have e2:=he 2 _ rfl
  have e3:=he 3 _ rfl
  have e4:=he 4 _ rfl
  simp only[Nat.add_zero,Nat.zero_mul] at e0 e1 e2 e3 e4
  have hix:∀ W,(Instr.indexAt 68 (.slice A l.length c) (.int .i64 0)).run Tryz.prog W=.ok (.pointer (some ⟨b,off,none⟩)) W:=fun W=>by
   have:=aH (T:=68) (E:=70) (sz:=5) (k:=0) (c:=c) Tryz.underlying68 rfl Tryz.sizeOf70 hA hlt W
   simpa using this
  have HF:=ae (fun W hb=>hf.out W hb)
  unfold aj.val at HF
  clear hA he
  go_wp2_with fail
  refine(HF.out _ HB.out).mono ?_;rintro e w1 ⟨rfl,hb1⟩
  have B1:=ae (ah HB.out hb1)
  clear hb1 e0 e1 e2 e3 e4 hix HF
  go_wp2_with fail
  go_ret
  exact⟨rfl,B1.out⟩
theorem qJ (f:FuncId)(x0:Value)(A:Option Addr)(c:Nat)(l:List aj)(k0:aj)(hk0:l[0]?=some k0)(w:World)(hr:Rd w 5 A l.length (l.flatMap aj.cells))(hl:l.length≤1000000)
  (hcall:∀ (args:Array Value)(w:World),(callFunc f args).run Tryz.prog w=.ok (.enter f args) w)
  (hf:Hid (∀ W,Below w.heap.size w W→Calls Tryz.prog f #[k0.val,x0] W fun e w'=>e=.returned (.bool true)∧Below W.heap.size W w')):
  Calls Tryz.prog 95 #[.slice A l.length c,.func (.func f) #[] #[x0]] w fun e w'=>e=.returned (.bool true)∧Below w.heap.size w w':=by
 have HI:=ae (vd f x0 A c l k0 hk0 w hr hl hcall hf)
 clear hr hf hk0
 go_enter Tryz.func95,Tryz.ntmps95
 go_wp2_with fail
 refine HI.out.mono ?_;rintro e w1 ⟨rfl,hb1⟩
 have B1:=ae hb1
 clear hb1
 go_wp2_with fail
 go_ret
 exact⟨rfl,B1.out⟩
structure Ql (x:aB) (T:aj):Prop where
 op:T.op=PW
 few:T.kids.length≤1000000
 kid:∃ k,T.kids[0]?=some k∧Uk x k
theorem sm (A:Option Addr)(c:Nat)(x:aB)(T:aj)(w:World)(hG:Gl w)(hs:kT w A x)(hT:Ql x T)(hr:Rd w 5 T.ka T.kids.length (T.kids.flatMap aj.cells)):
  Calls Tryz.prog 57 #[.slice A 1 c,T.val] w fun e w'=>e=.returned (.bool true)∧Below w.heap.size w w':=by
 have HG:=ae hG;have HS:=ae hs;have HR:=ae hr
 obtain⟨k0,hk0,ha0⟩:=hT.kid
 obtain⟨W1,hW1⟩:∃ W1,(w.alloc (.cells #[.slice A 1 c] 36)).alloc (.cells #[.string ⟨#[111,114]⟩,.string T.nm,.int .i64 T.aop,.string T.ver,.slice T.ka T.kids.length T.kc] 70)=W1:=⟨_,rfl⟩
 have B1:Hid (Below w.heap.size w W1):=by rw[←hW1];exact(bR.alloc lr _).alloc (by simp) _
 have K0:Hid (aF W1 w.heap.size [.slice A 1 c]):=by show aF _ _ _;rw[←hW1];exact(aF.new w [.slice A 1 c] _).alloc _
 have K1:Hid (aF W1 (w.heap.size+1) [.string ⟨#[111,114]⟩,.string T.nm,.int .i64 T.aop,.string T.ver,.slice T.ka T.kids.length T.kc]):=by
  show aF _ _ _;rw[←hW1]
  have:=aF.new (w.alloc (.cells #[.slice A 1 c] 36)) [.string ⟨#[111,114]⟩,.string T.nm,.int .i64 T.aop,.string T.ver,.slice T.ka T.kids.length T.kc] 70
  simpa using this
 have CF:=ae (qJ 93 (.pointer (some ⟨w.heap.size,0,none⟩)) T.ka T.kc T.kids k0 hk0 W1 (HR.out.below B1.out) hT.few Tryz.call93 (ae fun W hb=>
  nT A c w.heap.size x k0 W (HG.out.below (ah B1.out hb)) (HS.out.below (ah B1.out hb)) ha0 ((K0.out.below hb).cell 0 _ rfl)))
 unfold aj.val
 rw[hT.op]
 unfold PW
 clear hG hs hT hr hk0 ha0 HR
 generalize T.nm=nm at *
 generalize T.aop=aop at *
 generalize T.ver=ver at *
 generalize T.ka=ka at *
 generalize T.kids.length=kl at *
 generalize T.kc=kc at *
 have a0:=K0.out.cell 0 _ rfl
 have b0:=K1.out.cell 0 _ rfl
 have b4:=K1.out.cell 4 _ rfl
 have HW1:=ae hW1
 clear hW1
 go_enter Tryz.func57,Tryz.ntmps57
 go_upto_region 1 with(fail)
 rw[HW1.out]
 go_wp2_with fail
 refine CF.out.mono ?_;rintro e w2 ⟨rfl,hb2⟩
 have B2:=ae (ah B1.out hb2)
 clear hb2
 go_wp2_with fail
 go_ret
 exact⟨rfl,B2.out⟩
theorem sn (A:Option Addr)(c:Nat)(x:aB)(tA:Option Addr)(tn tc:Nat)(T:aj)(tB:Option Addr)(tm td:Nat)(w:World)(hG:Gl w)(hs:kT w A x)(hT:Ql x T)(hr:Rd w 5 T.ka T.kids.length (T.kids.flatMap aj.cells)):
  Calls Tryz.prog 34 #[.int .i64 2,.slice A 1 c,nQ tA tn tc T tB tm td,.bool false] w fun e w'=>e=.returned (.bool true)∧Below w.heap.size w w':=by
 have HG:=ae hG;have HS:=ae hs;have HR:=ae hr
 have HA:=ae fun W hb=>sm A c x T W (HG.out.below hb) (HS.out.below hb) hT (HR.out.below hb)
 unfold aj.val at HA
 unfold nQ
 clear hG hs hT hr HR
 generalize T.op=op at *
 generalize T.nm=nm at *
 generalize T.aop=aop at *
 generalize T.ver=ver at *
 generalize T.ka=ka at *
 generalize T.kids.length=kl at *
 generalize T.kc=kc at *
 have B1:Hid (Below w.heap.size w (w.alloc (.cells #[.slice tA tn tc,.string op,.string nm,.int .i64 aop,.string ver,.slice ka kl kc,.slice tB tm td] 73))):=bR.alloc lr _
 go_enter Tryz.func34,Tryz.ntmps34
 go_wp2_with fail
 refine(HA.out _ B1.out).mono ?_;rintro e w2 ⟨rfl,hb2⟩
 have B2:=ae (ah B1.out hb2)
 clear hb2
 go_wp2_with fail
 go_ret
 exact⟨rfl,B2.out⟩
theorem Ac (A:Option Addr)(c:Nat)(x:aB)(N:Option Addr)(nc:Nat)(s:BA)(t:gQ)(w:World)(hG:Gl w)(hs:kT w A x)(hn:Rd w 1 N 1 (strCells [s]))(hz:s.size≤1000000)(hp:dD (bl s)=some t)
  (hT:∀ T:aj,T.pl=t→T.cnt≤64→dH T→Ql x T):
  Calls Tryz.prog 16 #[.int .i64 2,.slice A 1 c,.slice N 1 nc,.bool false] w fun e w'=>e=.returned (.tuple #[.bool true,.int .i64 0])∧Below w.heap.size w w':=by
 obtain⟨i0,hi,hz0,hz1,hz2⟩:=info_parts BP
 have HG:=ae hG;have HS:=ae hs;have HN:=ae hn;have HP:=ae hp;have HT:=ae hT
 have HIS:=ae fun W=>fR 2 W
 rw[dT (show dk 2 from .inr (.inl rfl))] at HIS
 have HRD:=ae fun W hb=>qH s W (HG.out.below hb) hz
 clear hG hs hn hp hT
 go_enter Tryz.func16,Tryz.ntmps16
 go_wp2_with fail
 refine(HIS.out _).mono ?_;rintro e w' ⟨rfl,rfl⟩
 go_wp2_with fail
 go_loopw [10,22] (fun s10 s22 wr=>∃ (k:Nat) (O:Option Addr) (oc:Nat) (ts:List pm),k≤1∧ts.length=k∧Hid (k=0→O=none∧oc=0)∧s10=.slice O k oc∧s22=.int .i64 k∧Hid (wr.ownsRow w.heap.size 73 7 (.slice O k oc) k (ts.flatMap pm.cells))∧Hid (∀ t∈ts,Ql x t.T∧xT wr t.T)∧Hid (Below w.heap.size w wr)) (fun _ i _=>1-(intOf i).toNat)
 case atStart=>exact⟨0,none,0,[],by omega,rfl,fun _=>⟨rfl,rfl⟩,rfl,rfl,World.ownsRow_nil _ _ _ _,by simp[Hid],bR⟩
 case round=>
  obtain⟨k,O,oc,ts,hk,hl,HZ,rfl,rfl,HO,HI,HB⟩:=hrel
  by_cases hlt:k<1
  ·obtain rfl:k=0:=by omega
   obtain⟨rfl,rfl⟩:=HZ.out rfl
   obtain rfl:ts=[]:=List.eq_nil_of_length_eq_zero hl
   clear HZ HI hl
   obtain⟨b,off,hA,he⟩:=(HN.out.below HB.out).2 (by omega)
   have e0:=he 0 (.string s) rfl
   have hix:∀ W,(Instr.indexAt 25 (.slice N 1 nc) (.int .i64 0)).run Tryz.prog W=.ok (.pointer (some ⟨b,off,none⟩)) W:=fun W=>by
    have:=aH (T:=25) (E:=9) (sz:=1) (n:=1) (k:=0) (c:=nc) Tryz.underlying25 rfl Tryz.sizeOf9 hA hlt W
    simpa using this
   simp only[Nat.add_zero] at e0
   clear hA he
   go_wp2_with fail
   refine(HRD.out _ HB.out).mono ?_;rintro e w1 ⟨tA,tn,tc,T,tB,tm,td,code,rfl,hb1,_,h2,_⟩
   have h2:=h2 rfl
   unfold Uv at h2
   rw[HP.out] at h2
   obtain⟨rfl,hp1,hr1,hc1,hg1⟩:=h2
   have OI:=ae (HT.out T hp1 hc1 hg1)
   have RT:=ae hr1
   have B1:=ae (ah HB.out hb1)
   have O1:=ae (aR HO.out hb1)
   clear hb1 hp1 hr1 hc1 hg1 e0 hix
   unfold nQ
   simp only
   obtain⟨W2,hW2⟩:∃ W2,w1.alloc (.cells (pm.cells ⟨tA,tn,tc,T,tB,tm,td⟩).toArray 73)=W2:=⟨_,rfl⟩
   have B12:Hid (Below w1.heap.size w1 W2):=by rw[←hW2];exact bR.alloc lr _
   have K2:Hid (aF W2 w1.heap.size (pm.cells ⟨tA,tn,tc,T,tB,tm,td⟩)):=by show aF _ _ _;rw[←hW2];exact aF.new w1 (pm.cells ⟨tA,tn,tc,T,tB,tm,td⟩) _
   have ec:pm.cells ⟨tA,tn,tc,T,tB,tm,td⟩=[.slice tA tn tc,.string T.op,.string T.nm,.int .i64 T.aop,.string T.ver,.slice T.ka T.kids.length T.kc,.slice tB tm td]:=rfl
   rw[ec] at K2 hW2
   have HEC:=ae ec
   clear ec
   have O2:=ae (aR O1.out B12.out)
   have B2:=ae (ah B1.out B12.out)
   have R2:=ae (RT.out.low B12.out)
   have p0:=K2.out.cell 0 _ rfl
   have p1:=K2.out.cell 1 _ rfl
   have p2:=K2.out.cell 2 _ rfl
   have p3:=K2.out.cell 3 _ rfl
   have p4:=K2.out.cell 4 _ rfl
   have p5:=K2.out.cell 5 _ rfl
   have p6:=K2.out.cell 6 _ rfl
   have hwz:=B2.out.size
   have HW2:=ae hW2
   clear hW2 B12 K2 RT O1 B1
   generalize hop:T.op=op at *
   generalize hnm:T.nm=nm at *
   generalize hao:T.aop=aop at *
   generalize hve:T.ver=ver at *
   generalize hka:T.ka=ka at *
   generalize hkl:T.kids.length=kl at *
   generalize hkc:T.kc=kc at *
   have Q1:=ae hop;have Q2:=ae hnm;have Q3:=ae hao;have Q4:=ae hve;have Q5:=ae hka;have Q6:=ae hkl;have Q7:=ae hkc
   clear hop hnm hao hve hka hkl hkc
   go_upto_region 8 with(fail)
   rw[HW2.out]
   clear HW2
   go_wp2_with (
    at_builtin
    refine ak _ rfl _ _ _ rfl w.heap.size 73 i0 _ 7 128 Tryz.underlying66 hi hz0 hz1 hz2 rfl (by omega) (.slice none 0 0) 0 _ rfl (O2.out.alloc _) (W2.heap.size+1) (some ⟨W2.heap.size,0,none⟩) 1 1 [.slice tA tn tc,.string op,.string nm,.int .i64 aop,.string ver,.slice ka kl kc,.slice tB tm td] rfl (yL W2 _ _ _ _ _ _ _ _) (by simp[Value.oneCell']) (by simp only[maxLen];omega) (by omega) (by simp;omega) ?_
    intro v1 w6 hown1 hg1 hat1
    obtain⟨O3,d1,rfl⟩:=aG hown1)
   have BB:Hid (Below W2.heap.size W2 w6):=((Below.refl W2.heap.size W2).alloc lr (.cells #[.slice tA tn tc,.string op,.string nm,.int .i64 aop,.string ver,.slice ka kl kc,.slice tB tm td] 73)).grown hg1 (by simp) (fun j hj=>by simp[Value.ownBlock] at hj)
   have B6:Hid (Below w.heap.size w w6):=ah B2.out BB.out
   have R6:Hid (xT w6 T):=R2.out.low BB.out
   have O6:Hid (w6.ownsRow w.heap.size 73 7 (.slice O3 1 d1) 1 (([⟨tA,tn,tc,T,tB,tm,td⟩]:List pm).flatMap pm.cells)):=by
    show World.ownsRow _ _ _ _ _ _ _
    rw[List.flatMap_cons,List.flatMap_nil,List.append_nil,HEC.out];exact hown1
   clear hown1 hg1 hat1 BB R2 O2 B2 p0 p1 p2 p3 p4 p5 p6
   go_wp2_with fail
   go_roundw
   case rel=>exact⟨1,O3,d1,[⟨tA,tn,tc,T,tB,tm,td⟩],by omega,rfl,fun h=>by omega,rfl,by go_num,O6,fun y hy=>by
    obtain rfl:=List.mem_singleton.1 hy;exact⟨OI.out,R6.out⟩,B6⟩
   case measure=>simp[intOf]
  ·obtain rfl:k=1:=by omega
   obtain⟨tx,rfl⟩:∃ tx,ts=[tx]:=List.length_eq_one_iff.1 hl
   obtain⟨oi,rt⟩:=HI.out tx (by simp)
   have RW:Hid (Rd wr 7 O 1 tx.cells):=by
    have:=bA HO.out
    rw[List.flatMap_cons,List.flatMap_nil,List.append_nil] at this;exact this
   have HTH:=ae fun W hb=>sn A c x tx.tA tx.tn tx.tc tx.T tx.tB tx.tm tx.td W (HG.out.below (ah HB.out hb)) (HS.out.below (ah HB.out hb)) oi (rt.low hb).row
   clear HI HO HZ hlt hl HRD
   obtain⟨tA,tn,tc,T,tB,tm,td⟩:=tx
   unfold pm.cells at RW
   unfold nQ at HTH
   simp only at HTH RW oi rt
   clear oi rt
   generalize T.op=op at *
   generalize T.nm=nm at *
   generalize T.aop=aop at *
   generalize T.ver=ver at *
   generalize T.ka=ka at *
   generalize T.kids.length=kl at *
   generalize T.kc=kc at *
   go_wp2_with fail
   rw[show((1:Nat):Int)=1 from rfl]
   obtain⟨wo,rfl⟩:∃ wo:World,wo=wr:=⟨_,rfl⟩
   go_loopw [42] (fun s42 wr=>∃ k:Nat,k≤1∧s42=.int .i64 k∧Hid (Below wo.heap.size wo wr)) (fun i _=>1-(intOf i).toNat)
   case atStart=>exact⟨0,by omega,rfl,bR⟩
   case round=>
    obtain⟨k,hk2,rfl,HB2⟩:=hrel
    by_cases hlt:k<1
    ·obtain rfl:k=0:=by omega
     obtain⟨b,off,hA,he⟩:=(RW.out.below HB2.out).2 (by omega)
     have e0:=he 0 _ rfl
     have e1:=he 1 _ rfl
     have e2:=he 2 _ rfl
     have e3:=he 3 _ rfl
     have e4:=he 4 _ rfl
     have e5:=he 5 _ rfl
     have e6:=he 6 _ rfl
     have hix:∀ W,(Instr.indexAt 66 (.slice O 1 oc) (.int .i64 0)).run Tryz.prog W=.ok (.pointer (some ⟨b,off,none⟩)) W:=fun W=>by
      have:=aH (T:=66) (E:=73) (sz:=7) (n:=1) (k:=0) (c:=oc) Tryz.underlying66 rfl Tryz.sizeOf73 hA hlt W
      simpa using this
     simp only[Nat.add_zero] at e0
     clear hA he
     have B3:Hid (Below wo.heap.size wo (wr.alloc (.cells #[.slice tA tn tc,.string op,.string nm,.int .i64 aop,.string ver,.slice ka kl kc,.slice tB tm td] 73))):=HB2.out.alloc HB2.out.size _
     go_wp2_with fail
     refine(HTH.out _ B3.out).mono ?_;rintro e w4 ⟨rfl,hb4⟩
     have B4:=ae (ah B3.out hb4)
     clear hb4 e0 e1 e2 e3 e4 e5 e6 hix
     go_wp2_with fail
     go_roundw
     case rel=>exact⟨1,by omega,by go_num,B4⟩
     case measure=>simp[intOf]
    ·obtain rfl:k=1:=by omega
     have B9:=ae (ah HB.out HB2.out)
     go_wp2_with fail
     go_ret2
     exact⟨rfl,B9.out⟩
theorem Sr:dD (bl N7)=some (.node eE [.atom (bl Uw) 4 (bl So),.atom (bl UJ) 0 []]):=by kernel_rfl
theorem Qr:aV 2 So=0:=by kernel_rfl
theorem Um:tH So So=0:=by kernel_rfl
end
end Go.Proofs.YtkjdbpjglobbjaaGreatDoor
