/- A part of the proof of a law on dependencies in three formats. No condition. -/
import Derived.Test.YtkjdbpjglobbjaaGreatDoorE02
import Derived.Test.YtkjdbpjglobbjaaGreatDoorE04
set_option maxRecDepth 100000
set_option maxHeartbeats 20000000
set_option linter.unusedVariables false
set_option linter.unusedSimpArgs false
namespace Go.Proofs.YtkjdbpjglobbjaaGreatDoor
section
open Go.RowKit
def lN (n e:Int):Value:=.agg #[.slice none 0 0,.int .i64 n,.int .i64 e]
def Lj (l:LU):Value:=lN (if cF l≤lL then cF l else 0) (if cF l≤lL then 0 else 4)
theorem Hx (s:BA)(w:World)(hs:s.size≤9223372036854775807)(ha:(bl s).all aD=true):
  Calls Tryz.prog 168 #[.string s,.int .i64 10] w fun e w'=>e=.returned (Lj (bl s))∧Below w.heap.size w w':=by
 have HA:=ae ha;clear ha
 have HW:Hid (Below w.heap.size w (w.alloc (.cells #[.slice none 0 0,.int .i64 0,.int .i64 0] 192))):=bR.alloc lr _
 go_enter Tryz.func168,Tryz.ntmps168
 go_wp2_with fail
 go_loop [5,6] (fun n i=>∃ (k:Nat) (m:Int),k≤s.size∧i=.int .i64 k∧n=.int .i64 m∧0≤m∧m≤4611686018427387903∧Hid (m=cF ((bl s).take k))) (fun _ i=>s.size-(intOf i).toNat)
 case atStart=>exact⟨0,0,z0,rfl,rfl,by omega,by omega,by simp[Hid,cF]⟩
 case round=>
  obtain⟨k,m,hk,rfl,rfl,m0,m1,HV⟩:=hrel
  by_cases hlt:k<s.size
  ·have hdg:aD s[k]=true:=by have:=HA.out;rw[List.all_eq_true] at this;exact this _ (by rw[←gL s k hlt];exact List.getElem_mem _)
   obtain⟨d0,d1⟩:=dO hdg
   clear hdg
   have HN:=ae (tY s k hlt)
   have HLE:=ae (sK (bl s) (k+1) HA.out)
   by_cases hb:m > 461168601842738790
   ·have HBIG:zz (cF (bl s)≤lL):=⟨by have h1:=HN.out;rw[←HV.out] at h1;have h2:=HLE.out.2;unfold lL;omega⟩
    go_wp2_with fail
    refine bodyPost_ret (v:=lN 0 4) (by simp[results,Tryz.results168,go_sem,lN]) rfl ⟨?_,?_⟩
    ·unfold Lj;rw[if_neg HBIG.out,if_neg HBIG.out]
    ·exact bR.alloc lr _
   ·by_cases hc:m*10 > 4611686018427387903-((s[k].toNat:Int)-48)
    ·have HBIG:zz (cF (bl s)≤lL):=⟨by have h1:=HN.out;rw[←HV.out] at h1;have h2:=HLE.out.2;unfold lL;omega⟩
     go_wp2_with fail
     refine bodyPost_ret (v:=lN 0 4) (by simp[results,Tryz.results168,go_sem,lN]) rfl ⟨?_,?_⟩
     ·unfold Lj;rw[if_neg HBIG.out,if_neg HBIG.out]
     ·exact bR.alloc lr _
    ·go_wp2_with fail
     go_round
     case rel=>exact⟨k+1,_,by omega,by go_num,rfl,by omega,by omega,ae (by rw[HN.out,←HV.out];omega)⟩
     case measure=>simp[intOf];omega
  ·have hval:(bl s).take k=bl s:=eP s k (by omega)
   have hv:=HV.out
   rw[hval] at hv
   have HVV:=ae hv
   have HOK:Hid (cF (bl s)≤lL):=by show _≤_;rw[←hv];unfold lL;omega
   clear hv hval
   go_wp2_with fail
   refine bodyPost_ret (v:=lN m 0) (by simp[results,Tryz.results168,go_sem,lN]) rfl ⟨?_,?_⟩
   ·unfold Lj;rw[if_pos HOK.out,if_pos HOK.out,←HVV.out]
   ·exact bR.alloc lr _
theorem Lk (s:BA)(w:World)(hs:s.size≤9223372036854775807):
  Calls Tryz.prog 120 #[.string s] w fun e w'=>e=.returned (lN (dq (bl s)) (ge (bl s)))∧Below w.heap.size w w':=by
 by_cases h0:s.size=0
 ·have he:s.toList=[]:=by rw[ai,bj s h0]
  have E:=ae (kj (Ev h0))
  go_enter Tryz.func120,Tryz.ntmps120
  go_wp2_with fail
  refine bodyPost_ret (v:=lN 0 3) (by simp[results,Tryz.results120,go_sem,lN]) rfl ⟨?_,?_⟩
  ·rw[E.out.1,E.out.2]
  ·exact bR.alloc lr _
 have hpos:0<s.size:=by omega
 have he:s.toList.isEmpty=false:=by rw[ai,aL];exact dF (by omega)
 have he1:¬ s.toList=[]:=by intro h;rw[h] at he;simp at he
 by_cases h1:1<s.size∧s[0]=48
 ·obtain⟨h1,h2⟩:=h1
  have E:=ae (kj (tZ h1 h2))
  have hc:((s[0].toNat:Int)==48)=true:=by rw[h2];rfl
  clear h2
  go_enter Tryz.func120,Tryz.ntmps120
  go_wp2_with fail
  refine bodyPost_ret (v:=lN 0 3) (by simp[results,Tryz.results120,go_sem,lN]) rfl ⟨?_,?_⟩
  ·rw[E.out.1,E.out.2]
  ·exact bR.alloc lr _
 have EA:=ae (Ew hpos h1)
 have walk:∀ (hc:decide (1<(s.size:Int))=false∨(decide (1<(s.size:Int))=true∧((s[0].toNat:Int)==48)=false)),Calls Tryz.prog 120 #[.string s] w fun e w'=>e=.returned (lN (dq (bl s)) (ge (bl s)))∧Below w.heap.size w w':=by
  intro hc
  rcases hc with hc | ⟨hc1,hc⟩
  all_goals
   go_enter Tryz.func120,Tryz.ntmps120
   go_wp2_with fail
   clear he he1 hc
   go_loop [3] (fun i=>∃ (k:Nat),k≤s.size∧i=.int .i64 k∧Hid (((bl s).take k).all aD=true)) (fun i=>s.size-(intOf i).toNat)
   case atStart=>exact⟨0,z0,rfl,by simp[Hid]⟩
   case round=>
    obtain⟨k,hk,rfl,HA⟩:=hrel
    by_cases hlt:k<s.size
    ·by_cases hd:48≤s[k].toNat∧s[k].toNat≤57
     ·obtain⟨d0,d1⟩:=hd
      have HD:Hid (aD s[k]=true):=dT ⟨d0,d1⟩
      have HA2:Hid (((bl s).take (k+1)).all aD=true):=by show _=_;rw[di s k hlt,HA.out,HD.out];rfl
      go_wp2_with fail
      go_round
      case rel=>exact⟨k+1,by omega,by go_num,HA2⟩
      case measure=>simp[intOf];omega
     ·have E:=ae (kj (show lK (bl s)=false by rw[EA.out];exact jX s k hlt (dF hd)))
      by_cases mv:s[k].toNat<48
      ·go_wp2_with fail
       refine bodyPost_ret (v:=lN 0 3) (by simp[results,Tryz.results120,go_sem,lN]) rfl ⟨?_,?_⟩
       ·rw[E.out.1,E.out.2]
       ·exact bR.alloc lr _
      ·have hd2:57<s[k].toNat:=by omega
       go_wp2_with fail
       refine bodyPost_ret (v:=lN 0 3) (by simp[results,Tryz.results120,go_sem,lN]) rfl ⟨?_,?_⟩
       ·rw[E.out.1,E.out.2]
       ·exact bR.alloc lr _
    ·have hall0:(bl s).all aD=true:=by have:=HA.out;rw[eP s k (by omega)] at this;exact this
     have hall:lK (bl s)=true:=by rw[EA.out];exact hall0
     have HALL:=ae hall;have HALL0:=ae hall0
     clear hall hall0
     go_wp2_with fail
     refine(Hx s _ hs HALL0.out).mono ?_;rintro e w1 ⟨rfl,hb⟩
     have EV:Hid (Lj (bl s)=lN (dq (bl s)) (ge (bl s))):=by
      show _=_;unfold Lj dq ge;rw[HALL.out];rfl
     rw[EV.out]
     have hz:w.heap.size<w1.heap.size:=by have:=hb.size;simp at this;omega
     obtain⟨hc2,hf2⟩:=Tn hb
     have c0:=hc2 w.heap.size 0 (by simp)
     have c1:=hc2 w.heap.size 1 (by simp)
     have c2:=hc2 w.heap.size 2 (by simp)
     have f0:=hf2 w.heap.size 0 (by simp)
     have f1:=hf2 w.heap.size 1 (by simp)
     have f2:=hf2 w.heap.size 2 (by simp)
     simp at c0 c1 c2 f0 f1 f2
     have HB:=ae hb
     clear hc2 hf2 hb
     unfold lN
     go_wp2_with fail
     refine bodyPost_ret (v:=.agg #[.slice none 0 0,.int .i64 (dq (bl s)),.int .i64 (ge (bl s))]) (by simp[results,Tryz.results120,go_sem,c0,c1,c2,hz]) rfl ⟨rfl,?_⟩
     exact((((bR.alloc lr _).trans (HB.out.mono (by simp))).setCell (by simp) _).setCell (by simp) _).setCell (by simp) _
 by_cases h2:1<s.size
 ·exact walk (.inr ⟨dT,by simp only[bF,ne_eq];intro h;apply h1;refine⟨h2,UInt8.toNat_inj.1 ?_⟩;show _=48;omega⟩)
 ·exact walk (.inl dF)
theorem Rc:(Tryz.prog.info? 5).map (fun i=>(i.zero,i.size,i.bytes))=some (some (.int .u8 0),1,1):=by kernel_rfl
theorem ji (c:UInt8)(w:World):
  Calls Tryz.prog 167 #[.int .u8 c.toNat] w fun e w'=>e=.returned (.bool (aD c))∧w=w':=by
 go_enter Tryz.func167,Tryz.ntmps167
 go_wp2
 all_goals (go_ret;refine⟨am ?_,rfl⟩;rw[bI];simp[aD];omega)
theorem kE (c:UInt8)(w:World):
  Calls Tryz.prog 203 #[.int .u8 c.toNat] w fun e w'=>e=.returned (.bool (cD c))∧w=w':=by
 go_enter Tryz.func203,Tryz.ntmps203
 go_wp2
 all_goals (go_ret;refine⟨am ?_,rfl⟩;rw[bI];simp[cD,be,zw];omega)
theorem Tq (c:UInt8)(s:BA)(w:World)(hs:s.size≤9223372036854775807):
  Calls Tryz.prog 204 #[.int .u8 c.toNat,.string s] w fun e w'=>e=.returned (.bool ((bl s).contains c))∧w=w':=by
 obtain⟨r,hr⟩:∃ r,(bl s).contains c=r:=⟨_,rfl⟩
 rw[hr]
 have HR:=ae hr;clear hr
 go_enter Tryz.func204,Tryz.ntmps204
 go_wp2
 go_loop [5] (fun i=>∃ k:Nat,k≤s.size∧i=.int .i64 k∧Hid (((bl s).take k).contains c=false)) (fun i=>s.size-(intOf i).toNat)
 case atStart=>exact⟨0,z0,rfl,by simp[Hid]⟩
 case round=>
  obtain⟨k,hk,rfl,hw⟩:=hrel
  by_cases hlt:k<s.size
  ·cases hc:(((s[k].toNat:Nat):Int)==((c.toNat:Nat):Int))
   ·have HC:=ae hc
    go_wp2
    go_round
    case rel=>exact⟨k+1,by omega,by go_num,im s c k hlt hw.out (by rw[←dB];exact HC.out)⟩
    case measure=>simp[intOf];omega
   ·have HC:=ae hc
    go_wp2
    go_ret
    refine⟨am ?_,rfl⟩
    rw[←HR.out]
    exact(tV s c k hlt (by have:=HC.out;rw[dB] at this;simpa using this)).symm
  ·go_wp2
   go_ret
   refine⟨am ?_,rfl⟩
   have:=hw.out
   rw[eP s k (by omega)] at this
   rw[←HR.out,this]
theorem qg (o:LU)(s:BA)(k:Nat)(h:k<s.size)(h0:((bl s).take k).all (kx o)=true)(h1:kx o s[k]=true):((bl s).take (k+1)).all (kx o)=true:=by rw[di s k h,h0,h1];rfl
theorem Ll (o:LU)(s:BA)(k:Nat)(h:k<s.size)(h1:kx o s[k]=false):aI o (bl s)=false:=by
 unfold aI;rw[jX s k h h1];simp
theorem Hz (o:LU)(s:BA)(k:Nat)(h:¬ k<s.size)(h0:((bl s).take k).all (kx o)=true):aI o (bl s)=decide (0<s.size):=by
 unfold aI;rw[eP s k (by omega)] at h0;rw[h0,aL,Cs]
theorem Au (c:UInt8)(s:BA)(b:Bool)(w:World)(hs:s.size≤9223372036854775807)(h:Hid ((bl s).contains c=b)):
  Calls Tryz.prog 204 #[.int .u8 c.toNat,.string s] w fun e w'=>e=.returned (.bool b)∧w=w':=by rw[←h.out];exact Tq c s w hs
theorem Od (s o:BA)(w:World)(hs:s.size≤9223372036854775807)(ho:o.size≤9223372036854775807):
  Calls Tryz.prog 166 #[.string s,.string o] w fun e w'=>e=.returned (.bool (aI (bl o) (bl s)))∧w=w':=by
 go_enter Tryz.func166,Tryz.ntmps166
 go_wp2
 go_loop [5] (fun i=>∃ k:Nat,k≤s.size∧i=.int .i64 k∧Hid (((bl s).take k).all (kx (bl o))=true)) (fun i=>s.size-(intOf i).toNat)
 case atStart=>exact⟨0,z0,rfl,by simp[Hid]⟩
 case round=>
  obtain⟨k,hk,rfl,hw⟩:=hrel
  by_cases hlt:k<s.size
  ·cases h1:aD s[k]
   ·cases h2:cD s[k]
    ·cases h3:(bl o).contains s[k]
     ·have HV:Hid (kx (bl o) s[k]=false):=by show _=_;unfold kx;rw[h1,h2,h3];rfl
      have H1:=ae h1;have H2:=ae h2;have H3:=ae h3;clear h1 h2 h3
      go_wp2_with fail
      refine(ji s[k] _).mono ?_;rintro e w' ⟨rfl,rfl⟩
      rw[H1.out]
      go_wp2_with fail
      refine(kE s[k] _).mono ?_;rintro e w' ⟨rfl,rfl⟩
      rw[H2.out]
      go_wp2_with fail
      refine(Au s[k] o false _ ho H3).mono ?_;rintro e w' ⟨rfl,rfl⟩
      go_wp2_with fail
      go_ret
      exact⟨am (Ll _ s k hlt HV.out).symm,rfl⟩
     ·have HV:Hid (kx (bl o) s[k]=true):=by show _=_;unfold kx;rw[h1,h2,h3];rfl
      have H1:=ae h1;have H2:=ae h2;have H3:=ae h3;clear h1 h2 h3
      go_wp2_with fail
      refine(ji s[k] _).mono ?_;rintro e w' ⟨rfl,rfl⟩
      rw[H1.out]
      go_wp2_with fail
      refine(kE s[k] _).mono ?_;rintro e w' ⟨rfl,rfl⟩
      rw[H2.out]
      go_wp2_with fail
      refine(Au s[k] o true _ ho H3).mono ?_;rintro e w' ⟨rfl,rfl⟩
      go_wp2_with fail
      go_round
      case rel=>exact⟨k+1,by omega,by go_num,qg _ s k hlt hw.out HV.out⟩
      case measure=>simp[intOf];omega
    ·have HV:Hid (kx (bl o) s[k]=true):=by show _=_;unfold kx;rw[h2];rfl
     have H1:=ae h1;have H2:=ae h2;clear h1 h2
     go_wp2_with fail
     refine(ji s[k] _).mono ?_;rintro e w' ⟨rfl,rfl⟩
     rw[H1.out]
     go_wp2_with fail
     refine(kE s[k] _).mono ?_;rintro e w' ⟨rfl,rfl⟩
     rw[H2.out]
     go_wp2_with fail
     go_round
     case rel=>exact⟨k+1,by omega,by go_num,qg _ s k hlt hw.out HV.out⟩
     case measure=>simp[intOf];omega
   ·have HV:Hid (kx (bl o) s[k]=true):=by show _=_;unfold kx;rw[h1];simp
    have H1:=ae h1;clear h1
    go_wp2_with fail
    refine(ji s[k] _).mono ?_;rintro e w' ⟨rfl,rfl⟩
    rw[H1.out]
    go_wp2_with fail
    go_round
    case rel=>exact⟨k+1,by omega,by go_num,qg _ s k hlt hw.out HV.out⟩
    case measure=>simp[intOf];omega
  ·go_wp2_with fail
   go_ret
   exact⟨am (Hz _ s k hlt hw.out).symm,rfl⟩
theorem vR (s:BA)(w:World)(hs:s.size≤9223372036854775807):
  Calls Tryz.prog 119 #[.string s] w fun e w'=>e=.returned (.int .i64 (au aD (bl s)))∧w=w':=by
 go_enter Tryz.func119,Tryz.ntmps119
 go_wp2
 go_loop [3] (fun i=>∃ k:Nat,k≤s.size∧i=.int .i64 k∧Hid (((bl s).take k).all aD=true)) (fun i=>s.size-(intOf i).toNat)
 case atStart=>exact⟨0,z0,rfl,by simp[Hid]⟩
 case round=>
  obtain⟨k,hk,rfl,hw⟩:=hrel
  by_cases hlt:k<s.size
  ·cases hl:aD s[k]
   ·have HL:=ae hl;clear hl
    go_wp2_with fail
    refine(ji s[k] _).mono ?_;rintro e w' ⟨rfl,rfl⟩
    rw[HL.out]
    go_wp2_with fail
    go_ret
    exact⟨az (by rw[oo aD s k hlt hw.out HL.out]),rfl⟩
   ·have HL:=ae hl;clear hl
    go_wp2_with fail
    refine(ji s[k] _).mono ?_;rintro e w' ⟨rfl,rfl⟩
    rw[HL.out]
    go_wp2_with fail
    go_round
    case rel=>exact⟨k+1,by omega,by go_num,by show _=_;rw[di s k hlt,hw.out,HL.out];rfl⟩
    case measure=>simp[intOf];omega
  ·go_wp2_with fail
   go_ret
   exact⟨az (by rw[qP aD s k hlt hw.out];congr;omega),rfl⟩
theorem EJ (s:BA)(w:World)(hs:s.size≤9223372036854775807):
  Calls Tryz.prog 201 #[.string s] w fun e w'=>e=.returned (.int .i64 (au cD (bl s)))∧w=w':=by
 go_enter Tryz.func201,Tryz.ntmps201
 go_wp2
 go_loop [3] (fun i=>∃ k:Nat,k≤s.size∧i=.int .i64 k∧Hid (((bl s).take k).all cD=true)) (fun i=>s.size-(intOf i).toNat)
 case atStart=>exact⟨0,z0,rfl,by simp[Hid]⟩
 case round=>
  obtain⟨k,hk,rfl,hw⟩:=hrel
  by_cases hlt:k<s.size
  ·cases hl:cD s[k]
   ·have HL:=ae hl;clear hl
    go_wp2_with fail
    refine(kE s[k] _).mono ?_;rintro e w' ⟨rfl,rfl⟩
    rw[HL.out]
    go_wp2_with fail
    go_ret
    exact⟨az (by rw[oo cD s k hlt hw.out HL.out]),rfl⟩
   ·have HL:=ae hl;clear hl
    go_wp2_with fail
    refine(kE s[k] _).mono ?_;rintro e w' ⟨rfl,rfl⟩
    rw[HL.out]
    go_wp2_with fail
    go_round
    case rel=>exact⟨k+1,by omega,by go_num,by show _=_;rw[di s k hlt,hw.out,HL.out];rfl⟩
    case measure=>simp[intOf];omega
  ·go_wp2_with fail
   go_ret
   exact⟨az (by rw[qP cD s k hlt hw.out];congr;omega),rfl⟩
def rk (c:UInt8)(l:LU):Int:=match bU c l with | some i=>i | none=>-1
theorem Lm (s:BA)(c:UInt8)(w:World)(hs:s.size≤9223372036854775807):
  Calls Tryz.prog 165 #[.string s,.int .u8 c.toNat] w fun e w'=>e=.returned (.int .i64 (rk c (bl s)))∧w=w':=by
 obtain⟨r,hr⟩:∃ r,rk c (bl s)=r:=⟨_,rfl⟩
 rw[hr]
 have HR:=ae hr;clear hr
 go_enter Tryz.func165,Tryz.ntmps165
 go_wp2
 go_loop [5] (fun i=>∃ z:Int,-1≤z∧z<s.size∧i=.int .i64 z∧Hid (∀ j:Nat,z<j→(bl s)[j]?≠some c)) (fun i=>(intOf i+1).toNat)
 case atStart=>exact⟨(s.size:Int)-1,by omega,by omega,rfl,fun j hj hh=>by rw[vm s j (by omega)] at hh;cases hh⟩
 case round=>
  obtain⟨z,hz1,hz2,rfl,HZ⟩:=hrel
  by_cases hz:0≤z
  ·obtain⟨k,rfl⟩:=Int.eq_ofNat_of_zero_le hz
   have hlt:k<s.size:=by omega
   cases hc:(((s[k].toNat:Nat):Int)==((c.toNat:Nat):Int))
   ·have HC:=ae hc
    go_wp2
    have FZ:Hid (∀ j:Nat,((k:Int)-1)<j→(bl s)[j]?≠some c):=by
     intro j hj hh
     by_cases hjk:j=k
     ·subst hjk
      have:=HC.out
      rw[dB,bF] at this
      rw[ie s j hlt] at hh
      exact this (Option.some.inj hh)
     ·exact HZ.out j (by omega) hh
    go_round
    case rel=>exact⟨(k:Int)-1,by omega,by omega,rfl,FZ⟩
    case measure=>simp[intOf]
   ·have HC:=ae hc
    go_wp2
    go_ret
    refine⟨az ?_,rfl⟩
    have:=HC.out
    rw[dB,beq_iff_eq] at this
    rw[←HR.out]
    unfold rk
    rw[ky c (bl s) k (by rw[ie s k hlt,this]) (fun j hj=>HZ.out j (by omega))]
  ·go_wp2
   go_ret
   refine⟨az ?_,rfl⟩
   rw[←HR.out]
   unfold rk
   rw[mw c (bl s) (fun j=>HZ.out j (by omega))]
def UT (l:LU)(c:UInt8):Bool:=l.contains c
def mE (o s:BA)(lo hi:Nat):Bool:=decide (lo≤s.size∧s.size≤hi)&&il (bl o) (bl s)
theorem OB (c:UInt8)(s:BA)(w:World)(hs:s.size≤9223372036854775807):
  Calls Tryz.prog 78 #[.int .u8 c.toNat,.string s] w fun e w'=>e=.returned (.bool (UT (bl s) c))∧w=w':=by
 go_enter Tryz.func78,Tryz.ntmps78
 go_wp2_with fail
 go_loop [5] (fun i=>∃ k:Nat,k≤s.size∧i=.int .i64 k∧Hid (((bl s).take k).contains c=false)) (fun i=>s.size-(intOf i).toNat)
 case atStart=>exact⟨0,z0,rfl,by simp[Hid]⟩
 case round=>
  obtain⟨k,hk,rfl,HA⟩:=hrel
  by_cases hlt:k<s.size
  ·obtain⟨d,hd⟩:∃ d:UInt8,s[k]=d:=⟨_,rfl⟩
   by_cases hcd:d=c
   ·have E:=ae (tV s c k hlt (hd.trans hcd))
    have hq:d.toNat=c.toNat:=by rw[hcd]
    clear hcd
    go_wp2_with fail
    go_ret
    exact⟨am E.out.symm,rfl⟩
   ·have HN:=ae (im s c k hlt HA.out (by rw[hd];simpa using hcd))
    have hq:¬ d.toNat=c.toNat:=fun h=>hcd (UInt8.toNat_inj.1 h)
    clear hcd
    go_wp2_with fail
    go_round
    case rel=>exact⟨k+1,by omega,by go_num,HN⟩
    case measure=>simp[intOf];omega
  ·have E:Hid ((bl s).contains c=false):=by show _=_;rw[←eP s k (by omega)];exact HA.out
   go_wp2_with fail
   go_ret
   exact⟨am E.out.symm,rfl⟩
def Tw (o l:LU)(k:Nat):Bool:=(l.take k).all (fun c=>gU c||o.contains c)&&(decide (k=0)||kZ l)
theorem OC (o:LU)(s:BA)(k:Nat)(h:k<s.size)(ha:Tw o (bl s) k=true)(h1:(gU s[k]||o.contains s[k])=true)(h2:k=0→gU s[k]=true):Tw o (bl s) (k+1)=true:=by
 unfold Tw at ha ⊢
 rw[Bool.and_eq_true] at ha
 rw[pQ o s k h ha.1 h1]
 by_cases k0:k=0
 ·subst k0;rw[ni s h,h2 rfl];simp
 ·have:=ha.2;rw[dF k0,Bool.false_or] at this;simp[this]
theorem Rt (o:LU)(s:BA)(k:Nat)(h:¬ k<s.size)(hk:k≤s.size)(h1:1≤s.size)(ha:Tw o (bl s) k=true):il o (bl s)=true:=by
 unfold Tw at ha
 rw[Bool.and_eq_true] at ha
 rw[vH o s k h ha.1]
 have:=ha.2;rw[dF,Bool.false_or] at this;exact this
theorem OD (o:LU)(s:BA)(h:0<s.size)(h1:gU s[0]=false):il o (bl s)=false:=by
 unfold il;rw[ni s h,h1];simp
theorem OE (s o:BA)(lo hi:Nat)(w:World)(hs:s.size≤9223372036854775807)(ho:o.size≤9223372036854775807)(hlo:1≤lo)(hlo2:lo≤64)(hhi:hi≤64):
  Calls Tryz.prog 50 #[.string s,.string o,.int .i64 lo,.int .i64 hi] w fun e w'=>e=.returned (.bool (mE o s lo hi))∧w=w':=by
 by_cases h0:s.size<lo
 ·have E:Hid (mE o s lo hi=false):=by show _=_;unfold mE;rw[dF];rfl
  go_enter Tryz.func50,Tryz.ntmps50
  go_wp2_with fail
  go_ret
  exact⟨am E.out.symm,rfl⟩
 by_cases h64:hi<s.size
 ·have E:Hid (mE o s lo hi=false):=by show _=_;unfold mE;rw[dF];rfl
  go_enter Tryz.func50,Tryz.ntmps50
  go_wp2_with fail
  go_ret
  exact⟨am E.out.symm,rfl⟩
 have EQ:Hid (mE o s lo hi=il (bl o) (bl s)):=by show _=_;unfold mE;rw[dT];rfl
 go_enter Tryz.func50,Tryz.ntmps50
 go_wp2_with fail
 go_loop [9] (fun i=>∃ k:Nat,k≤s.size∧i=.int .i64 k∧Hid (Tw (bl o) (bl s) k=true)) (fun i=>s.size-(intOf i).toNat)
 case atStart=>exact⟨0,z0,rfl,by simp[Hid,Tw]⟩
 case round=>
  obtain⟨k,hk,rfl,HA⟩:=hrel
  by_cases hlt:k<s.size
  ·obtain⟨c,hc⟩:∃ c:UInt8,s[k]=c:=⟨_,rfl⟩
   have STEP:=ae (OC (bl o) s k hlt HA.out)
   have BAD:=ae (Al (bl o) s k hlt)
   have BAD0:Hid (k=0→gU c=false→il (bl o) (bl s)=false):=by
    intro k0 h;subst k0;exact OD (bl o) s hlt (by rw[hc];exact h)
   rw[hc] at STEP BAD
   go_upto_region 7 with(fail)
   go_cut [10,11] (fun u v wx=>u=.int .u8 c.toNat∧v=.bool (gU c)∧w=wx)
   case first=>
    go_wp2_with fail
    all_goals go_meet
    all_goals (refine⟨by first | rfl | (congr 1;omega),?_,rfl⟩;congr 1;rw[bI];simp[gU,be,aD];omega)
   case rest=>
   obtain⟨rfl,rfl,rfl⟩:=hcut
   clear hc
   cases hf:gU c with
   | true=>
    have HN:=ae (STEP.out (by rw[hf];rfl) (fun _=>hf))
    clear hf
    go_wp2_with fail
    go_round
    case rel=>exact⟨k+1,by omega,by go_num,HN⟩
    case measure=>simp[intOf];omega
   | false=>
    by_cases k0:k=0
    ·have E:=ae (BAD0.out k0 hf)
     have k1:((k:Int)==0)=true:=by simpa using k0
     clear hf
     go_wp2_with fail
     go_ret
     exact⟨am (by rw[EQ.out,E.out]),rfl⟩
    ·have k1:((k:Int)==0)=false:=by simpa using k0
     cases hn:UT (bl o) c with
     | true=>
      have HN:=ae (STEP.out (by rw[show(bl o).contains c=true from hn];simp) (fun h=>absurd h k0))
      clear hf
      go_wp2_with (go_at_call 78;refine(OB c o _ ho).mono ?_;rintro e w' ⟨rfl,rfl⟩)
      go_round
      case rel=>exact⟨k+1,by omega,by go_num,HN⟩
      case measure=>simp[intOf];omega
     | false=>
      have E:=ae (BAD.out hf hn)
      clear hf
      go_wp2_with (go_at_call 78;refine(OB c o _ ho).mono ?_;rintro e w' ⟨rfl,rfl⟩)
      go_ret
      exact⟨am (by rw[EQ.out,E.out]),rfl⟩
  ·have E:=ae (Rt (bl o) s k hlt hk (by omega) HA.out)
   go_wp2_with fail
   go_ret
   exact⟨am (by rw[EQ.out,E.out]),rfl⟩
theorem Fo (s:BA)(w:World)(hs:s.size≤9223372036854775807):
  Calls Tryz.prog 31 #[.string s] w fun e w'=>e=.returned (.bool (bo (bl s)))∧w=w':=by
 have E:Hid (bo (bl s)=mE ⟨#[43,46,45]⟩ s 2 64):=by
  show _=_;unfold bo mE;rw[af,bI];simp[bl,and_assoc]
 go_enter Tryz.func31,Tryz.ntmps31
 go_wp2_with fail
 refine(OE s ⟨#[43,46,45]⟩ 2 64 _ hs (by decide) (by omega) (by omega) (by omega)).mono ?_;rintro e w' ⟨rfl,rfl⟩
 go_wp2_with fail
 go_ret
 exact⟨am E.out.symm,rfl⟩
end
end Go.Proofs.YtkjdbpjglobbjaaGreatDoor
