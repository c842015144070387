/- A part of the proof of a law on dependencies in three formats. No condition. -/
import Derived.Test.YtkjdbpjglobbjaaGreatDoorE14
import Derived.Test.YtkjdbpjglobbjaaGreatDoorE18
set_option maxRecDepth 100000
set_option maxHeartbeats 20000000
set_option linter.unusedVariables false
set_option linter.unusedSimpArgs false
namespace Go.Proofs.YtkjdbpjglobbjaaGreatDoor
section
open Go.RowKit
theorem FP (k:Nat)(hk:k<4)(w:World):
  Calls Tryz.prog 82 #[.int .i64 k] w fun e w'=>e=.returned (.string (ci k))∧Below w.heap.size w w':=by
 have HB:Hid (Below w.heap.size w (w.alloc (.cells #[.string (ci 0),.string (ci 1),.string (ci 2),.string (ci 3)] 9))):=bR.alloc lr _
 have hix:=fun W=>aH (T:=25) (E:=9) (sz:=1) (A:=some ⟨w.heap.size,0,none⟩) (b:=w.heap.size) (off:=0) (n:=4) (c:=4) Tryz.underlying25 rfl Tryz.sizeOf9 rfl hk W
 simp only[Nat.mul_one,Nat.zero_add] at hix
 rcases(by omega:k=0∨k=1∨k=2∨k=3) with rfl | rfl | rfl | rfl
 all_goals
  go_enter Tryz.func82,Tryz.ntmps82
  go_wp2_with fail
  go_ret
  exact⟨rfl,HB.out⟩
def pH (s:BA):Int:=if nH s<4 then nH s else if s.size=0 then 4 else -1
theorem FQ (s:BA)(w:World):
  Calls Tryz.prog 122 #[.string s] w fun e w'=>e=.returned (.int .i64 (pH s))∧Below w.heap.size w w':=by
 go_enter Tryz.func122,Tryz.ntmps122
 go_wp2_with fail
 go_loopw [3] (fun i wr=>∃ k:Nat,k≤4∧i=.int .i64 k∧Hid (∀ j,j<k→¬ ci j=s)∧Hid (Below w.heap.size w wr)) (fun i _=>4-(intOf i).toNat)
 case atStart=>exact⟨0,by omega,rfl,ae (fun j hj=>by omega),bR⟩
 case round=>
  obtain⟨k,hk,rfl,HN,HB⟩:=hrel
  by_cases hlt:k<4
  ·go_wp2_with fail
   refine(FP k hlt _).mono ?_;rintro e w1 ⟨rfl,hb1⟩
   have B1:=ae (ah HB.out hb1)
   clear hb1
   cases hE:((ci k).toList==s.toList)
   ·have HNE:Hid (¬ ci k=s):=by show ¬ _;rw[fZ] at hE;exact of_decide_eq_false hE
    go_wp2_with fail
    go_roundw
    case rel=>exact⟨k+1,by omega,by go_num,ae (fun j hj=>by
     by_cases e:j=k
     ·subst e;exact HNE.out
     ·exact HN.out j (by omega)),B1⟩
    case measure=>simp[intOf];omega
   ·have HE:Hid (ci k=s):=by show _=_;rw[fZ] at hE;exact dO hE
    have E:Hid (pH s=k):=by show _=_;unfold pH;rw[FF hlt HN.out HE.out,if_pos hlt]
    go_wp2_with fail
    go_ret
    exact⟨az E.out.symm,B1.out⟩
  ·have hr:Hid (nH s=4):=Bb (fun j hj=>HN.out j (by omega))
   obtain⟨pb,hpb⟩:∃ pb,s.toList.isEmpty=pb:=⟨_,rfl⟩
   have HPB:=ae hpb
   cases pb
   ·have E:Hid (pH s=-1):=by
     show _=_;unfold pH;rw[hr.out,if_neg (by omega),if_neg (by intro h;have:=HPB.out;rw[ai,aL,dT h] at this;cases this)]
    go_wp2_with fail
    go_ret
    exact⟨az E.out.symm,HB.out⟩
   ·have E:Hid (pH s=4):=by
     show _=_;unfold pH;rw[hr.out,if_neg (by omega),if_pos (by have:=HPB.out;rw[ai,aL] at this;exact dO this)]
    go_wp2_with fail
    go_ret
    exact⟨az E.out.symm,HB.out⟩
theorem fH (n:Nat)(w:World):
  Calls Tryz.prog 121 #[.int .i64 n] w fun e w'=>e=.returned (.bool (decide (n≤999999999)))∧w=w':=by
 have d0:decide ((0:Int)≤(n:Int))=true:=dT (by omega)
 by_cases h:n≤999999999
 ·have d1:decide ((n:Int)≤999999999)=true:=dT (by omega)
  have d2:decide (n≤999999999)=true:=dT h
  go_enter Tryz.func121,Tryz.ntmps121
  go_wp2_with fail
  go_ret
  exact⟨am (by first | rfl | exact d2.symm),rfl⟩
 ·have d1:decide ((n:Int)≤999999999)=false:=dF (by omega)
  have d2:decide (n≤999999999)=false:=dF h
  go_enter Tryz.func121,Tryz.ntmps121
  go_wp2_with fail
  go_ret
  exact⟨am (by first | rfl | exact d2.symm),rfl⟩
theorem rR:∀ (l w:LU),eQ l w=true→w.length≤l.length
 | _,[],_=>by simp
 | [],_::_,h=>by cases h
 | a::l,b::w,h=>by
  simp only[eQ,Bool.and_eq_true] at h
  have:=rR l w h.2;simp;omega
theorem Bl:∀ (l w:LU),w.length≤l.length→eQ l w=decide (l.take w.length=w)
 | _,[],_=>by simp[eQ]
 | [],_::_,h=>by simp at h
 | a::l,b::w,h=>by
  have:=Bl l w (by simpa using h)
  simp only[eQ,this,List.length_cons,List.take_succ_cons]
  rw[bI];simp
theorem IW (s t:BA)(w:World)(hs:s.size≤9223372036854775807)(ht:t.size≤9223372036854775807):
  Calls Tryz.prog 81 #[.string s,.string t] w fun e w'=>e=.returned (.bool (eQ (bl s) (bl t)))∧w=w':=by
 by_cases h:t.size≤s.size
 ·have hi:(t.size:Int)≤(s.size:Int):=by omega
  have d0:decide ((t.size:Int)≤(s.size:Int))=true:=dT hi
  have d1:decide (t.size≤s.size)=true:=dT h
  have E:Hid (((s.extract 0 t.size).toList==t.toList)=eQ (bl s) (bl t)):=by
   show _=_
   rw[Bl _ _ (by rw[af,af];exact h),fZ,af,←bV]
   exact decide_eq_decide.2 ⟨fun e=>by rw[e],fun e=>dp e⟩
  go_enter Tryz.func81,Tryz.ntmps81
  go_wp2_with fail
  go_ret
  exact⟨am E.out,rfl⟩
 ·have d0:decide ((t.size:Int)≤(s.size:Int))=false:=dF (by omega)
  have d1:decide (t.size≤s.size)=false:=dF h
  have E:Hid (false=eQ (bl s) (bl t)):=by
   show _=_
   cases hb:eQ (bl s) (bl t) with
   | false=>rfl
   | true=>have:=rR _ _ hb;rw[af,af] at this;exact absurd this h
  go_enter Tryz.func81,Tryz.ntmps81
  go_wp2_with fail
  go_ret
  exact⟨am E.out,rfl⟩
theorem FS (l:LU):dL l=if ge (l.take (au aD l))=0∧du (l.take (au aD l))≤999999999 then some (du (l.take (au aD l)),l.drop (au aD l)) else none:=by
 unfold dL du ge dq
 generalize l.take (au aD l)=q
 cases hd:lK q with
 | false=>simp
 | true=>
  have h0:=(sK q q.length (by unfold lK at hd;simp only[Bool.and_eq_true] at hd;exact hd.2)).1
  rw[tL lr] at h0
  simp only[if_true,Bool.true_and,decide_eq_true_eq]
  unfold lL
  by_cases hb:cF q≤4611686018427387903
  ·rw[if_pos hb,if_pos hb]
   by_cases h9:cF q≤999999999
   ·rw[if_pos h9,if_pos ⟨rfl,by omega⟩]
   ·rw[if_neg h9,if_neg (by rintro⟨_,h⟩;omega)]
  ·rw[if_neg hb,if_neg (by omega),if_neg (by rintro⟨h,_⟩;revert h;decide)]
def Kg (r:Option (Nat×LU)):Value:=match r with
 | some (n,t)=>.agg #[.int .i64 n,.string ⟨t.toArray⟩,.bool true]
 | none=>.agg #[.int .i64 0,.string ⟨#[]⟩,.bool false]
theorem FT (s:BA)(w:World)(hs:s.size≤1000000):
  Calls Tryz.prog 80 #[.string s] w fun e w'=>e=.returned (Kg (dL (bl s)))∧Below w.heap.size w w':=by
 obtain⟨W0,hW0⟩:∃ W0,w.alloc (.cells #[.int .i64 0,.string ⟨#[]⟩,.bool false] 139)=W0:=⟨_,rfl⟩
 have B0:Hid (Below w.heap.size w W0):=by rw[←hW0];exact bR.alloc lr _
 have K0:Hid (aF W0 w.heap.size [.int .i64 0,.string ⟨#[]⟩,.bool false]):=by show aF _ _ _;rw[←hW0];exact aF.new w [.int .i64 0,.string ⟨#[]⟩,.bool false] _
 go_enter Tryz.func80,Tryz.ntmps80
 go_wp2_with fail
 clear hW0
 refine(vR s _ (by omega)).mono ?_;rintro e w' ⟨rfl,rfl⟩
 have hn:=cJ aD (bl s)
 rw[af] at hn
 have HT:=ae (FS (bl s))
 obtain⟨n,hnn⟩:∃ n,au aD (bl s)=n:=⟨_,rfl⟩
 rw[hnn] at hn HT
 rw[hnn]
 clear hnn
 have hni:(n:Int)≤(s.size:Int):=by omega
 have hq:bl (s.extract 0 n)=(bl s).take n:=bV _ _
 have hr:bl (s.extract n s.size)=(bl s).drop n:=aX _ _
 rw[←hq,←hr] at HT
 have hqs:(s.extract 0 n).size≤1000000:=by have:=af (s.extract 0 n);rw[hq,List.length_take,af] at this;omega
 clear hq hr
 go_wp2_with fail
 generalize s.extract 0 n=Q at *
 refine(Lk Q _ (by omega)).mono ?_;rintro e w1 ⟨rfl,hb1⟩
 have B1:=ae (ah B0.out hb1);have K1:=ae (K0.out.below hb1)
 clear hb1 B0 K0
 have hnat:=(qr (bl Q)).1
 rw[hnat]
 clear hnat
 obtain⟨N,hN⟩:∃ N,du (bl Q)=N:=⟨_,rfl⟩
 have hN':(dq (bl Q)).toNat=N:=hN
 rw[hN] at HT
 rw[hN']
 clear hN hN'
 generalize ge (bl Q)=E at *
 unfold lN
 obtain⟨W2,hW2⟩:∃ W2,w1.alloc (.cells #[.slice none 0 0,.int .i64 N,.int .i64 E] 192)=W2:=⟨_,rfl⟩
 have B2:Hid (Below w.heap.size w W2):=by rw[←hW2];exact B1.out.alloc B1.out.size _
 have K2:Hid (aF W2 w.heap.size [.int .i64 0,.string ⟨#[]⟩,.bool false]):=by show aF _ _ _;rw[←hW2];exact K1.out.alloc _
 have G2:Hid (aF W2 w1.heap.size [.slice none 0 0,.int .i64 N,.int .i64 E]):=by show aF _ _ _;rw[←hW2];exact aF.new w1 [.slice none 0 0,.int .i64 N,.int .i64 E] _
 have hlt:w.heap.size<w1.heap.size:=K1.out.sz
 have hne1:¬ w.heap.size=w1.heap.size:=by omega
 have hne2:¬ w1.heap.size=w.heap.size:=by omega
 have g1:=G2.out.cell 1 _ rfl
 have g2:=G2.out.cell 2 _ rfl
 have r0:=K2.out.cell 0 _ rfl
 have r1:=K2.out.cell 1 _ rfl
 have r2:=K2.out.cell 2 _ rfl
 have f0:=K2.out.free 0 (by simp)
 have f1:=K2.out.free 1 (by simp)
 have f2:=K2.out.free 2 (by simp)
 by_cases hE:E=0
 ·subst hE
  have HW2:=ae hW2
  clear hW2
  by_cases h9:N≤999999999
  ·have hd:decide (N≤999999999)=true:=dT h9
   have HR:Hid (Kg (dL (bl s))=.agg #[.int .i64 N,.string (s.extract n s.size),.bool true]):=by
    show _=_;rw[HT.out,if_pos ⟨rfl,h9⟩];rfl
   have HN:=ae fun W=>fH N W
   rw[hd] at HN
   clear h9 hd HT
   go_upto_region 3 with(fail)
   rw[HW2.out]
   go_wp2_with fail
   refine(HN.out _).mono ?_;rintro e w' ⟨rfl,rfl⟩
   go_wp2_with fail
   go_region
   all_goals
    go_wp2_with fail
    refine bodyPost_ret (v:=.agg #[.int .i64 N,.string (s.extract n s.size),.bool true]) (by simp[results,Tryz.results80,go_sem,r0,r1,r2]) rfl ?_
    exact⟨by rw[HR.out],aw (aw (aw (bJ B2.out 1) lr _) lr _) lr _⟩
  ·have hd:decide (N≤999999999)=false:=dF h9
   have HR:Hid (Kg (dL (bl s))=.agg #[.int .i64 0,.string ⟨#[]⟩,.bool false]):=by
    show _=_;rw[HT.out,if_neg (fun h=>h9 h.2)];rfl
   have HN:=ae fun W=>fH N W
   rw[hd] at HN
   clear h9 hd HT
   go_upto_region 3 with(fail)
   rw[HW2.out]
   go_wp2_with fail
   refine(HN.out _).mono ?_;rintro e w' ⟨rfl,rfl⟩
   go_wp2_with fail
   refine bodyPost_ret (v:=.agg #[.int .i64 0,.string ⟨#[]⟩,.bool false]) (by simp[results,Tryz.results80,go_sem,r0,r1,r2]) rfl ?_
   exact⟨by rw[HR.out],aw (aw (aw B2.out lr _) lr _) lr _⟩
 ·have q:(E != 0)=true:=by simpa [bne] using hE
  have HR:Hid (Kg (dL (bl s))=.agg #[.int .i64 0,.string ⟨#[]⟩,.bool false]):=by
   show _=_;rw[HT.out,if_neg (fun h=>hE h.1)];rfl
  clear hE HT
  go_wp2_with fail
  refine bodyPost_ret (v:=.agg #[.int .i64 0,.string ⟨#[]⟩,.bool false]) (by simp[results,Tryz.results80,go_sem,r0,r1,r2]) rfl ?_
  exact⟨by rw[HR.out],aw (aw (aw B2.out lr _) lr _) lr _⟩
end
end Go.Proofs.YtkjdbpjglobbjaaGreatDoor
