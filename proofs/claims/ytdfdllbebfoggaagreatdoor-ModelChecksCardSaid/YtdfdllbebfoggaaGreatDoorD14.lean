/- A part of the proof that ModelChecks holds. No condition. -/
import Derived.Test.YtdfdllbebfoggaaGreatDoorD12
import Derived.Test.YtdfdllbebfoggaaGreatDoorD13
set_option maxRecDepth 100000
set_option maxHeartbeats 20000000
set_option linter.unusedVariables false
set_option linter.unusedSimpArgs false
namespace Go.Proofs.YtdfdllbebfoggaaGreatDoor
section
open Go.RowKit
structure HidN (p:Prop):Prop where
 out:¬ p
def gotV (n e:Int):Value:=.agg #[.slice none 0 0,.int .i64 n,.int .i64 e]
def numV (l:LU):Value:=gotV (if decVal l≤bigN then decVal l else 0) (if decVal l≤bigN then 0 else 4)
theorem ref_number (s:BA)(w:World)(hs:s.size≤9223372036854775807)(ha:(bl s).all digB=true):
  Calls Tryz.prog 219 #[.string s,.int .i64 10] w fun e w'=>e=.returned (numV (bl s))∧Below w.heap.size w w':=by
 have HA:=hid ha;clear ha
 have HW:Hid (Below w.heap.size w (w.alloc (.cells #[.slice none 0 0,.int .i64 0,.int .i64 0] 191))):=bR.alloc lr _
 go_enter Tryz.func219,Tryz.ntmps219
 go_wp2_with fail
 go_loop [5,6] (fun n i=>∃ (k:Nat) (m:Int),k≤s.size∧i=.int .i64 k∧n=.int .i64 m∧0≤m∧m≤4611686018427387903∧Hid (m=decVal ((bl s).take k))) (fun _ i=>s.size-(intOf i).toNat)
 case atStart=>exact⟨0,0,z0,rfl,rfl,by omega,by omega,by simp[Hid,decVal]⟩
 case round=>
  obtain⟨k,m,hk,rfl,rfl,m0,m1,HV⟩:=hrel
  by_cases hlt:k<s.size
  ·have hdg:digB s[k]=true:=by have:=HA.out;rw[List.all_eq_true] at this;exact this _ (by rw[←bl_get s k hlt];exact List.getElem_mem _)
   obtain⟨d0,d1⟩:=dO hdg
   clear hdg
   have HN:=hid (decVal_take s k hlt)
   have HLE:=hid (decVal_le (bl s) (k+1) HA.out)
   by_cases hb:m > 461168601842738790
   ·have HBIG:HidN (decVal (bl s)≤bigN):=⟨by have h1:=HN.out;rw[←HV.out] at h1;have h2:=HLE.out.2;unfold bigN;omega⟩
    go_wp2_with fail
    refine bodyPost_ret (v:=gotV 0 4) (by simp[results,Tryz.results219,go_sem,gotV]) rfl ⟨?_,?_⟩
    ·unfold numV;rw[if_neg HBIG.out,if_neg HBIG.out]
    ·exact bR.alloc lr _
   ·by_cases hc:m*10 > 4611686018427387903-((s[k].toNat:Int)-48)
    ·have HBIG:HidN (decVal (bl s)≤bigN):=⟨by have h1:=HN.out;rw[←HV.out] at h1;have h2:=HLE.out.2;unfold bigN;omega⟩
     go_wp2_with fail
     refine bodyPost_ret (v:=gotV 0 4) (by simp[results,Tryz.results219,go_sem,gotV]) rfl ⟨?_,?_⟩
     ·unfold numV;rw[if_neg HBIG.out,if_neg HBIG.out]
     ·exact bR.alloc lr _
    ·go_wp2_with fail
     go_round
     case rel=>exact⟨k+1,_,by omega,by go_num,rfl,by omega,by omega,hid (by rw[HN.out,←HV.out];omega)⟩
     case measure=>simp[intOf];omega
  ·have hval:(bl s).take k=bl s:=bl_take_ge s k (by omega)
   have hv:=HV.out
   rw[hval] at hv
   have HVV:=hid hv
   have HOK:Hid (decVal (bl s)≤bigN):=by show _≤_;rw[←hv];unfold bigN;omega
   clear hv hval
   go_wp2_with fail
   refine bodyPost_ret (v:=gotV m 0) (by simp[results,Tryz.results219,go_sem,gotV]) rfl ⟨?_,?_⟩
   ·unfold numV;rw[if_pos HOK.out,if_pos HOK.out,←HVV.out]
   ·exact bR.alloc lr _
theorem ref_Undec (s:BA)(w:World)(hs:s.size≤9223372036854775807):
  Calls Tryz.prog 154 #[.string s] w fun e w'=>e=.returned (gotV (undecN (bl s)) (undecE (bl s)))∧Below w.heap.size w w':=by
 by_cases h0:s.size=0
 ·have he:s.toList=[]:=by rw[bl_toList,bl_nil s h0]
  have E:=hid (undec_bad (decB_nil h0))
  go_enter Tryz.func154,Tryz.ntmps154
  go_wp2_with fail
  refine bodyPost_ret (v:=gotV 0 3) (by simp[results,Tryz.results154,go_sem,gotV]) rfl ⟨?_,?_⟩
  ·rw[E.out.1,E.out.2]
  ·exact bR.alloc lr _
 have hpos:0<s.size:=by omega
 have he:s.toList.isEmpty=false:=by rw[bl_toList,bl_isEmpty];exact dF (by omega)
 have he1:¬ s.toList=[]:=by intro h;rw[h] at he;simp at he
 by_cases h1:1<s.size∧s[0]=48
 ·obtain⟨h1,h2⟩:=h1
  have E:=hid (undec_bad (decB_nought h1 h2))
  have hc:((s[0].toNat:Int)==48)=true:=by rw[h2];rfl
  clear h2
  go_enter Tryz.func154,Tryz.ntmps154
  go_wp2_with fail
  refine bodyPost_ret (v:=gotV 0 3) (by simp[results,Tryz.results154,go_sem,gotV]) rfl ⟨?_,?_⟩
  ·rw[E.out.1,E.out.2]
  ·exact bR.alloc lr _
 have EA:=hid (decB_all hpos h1)
 have walk:∀ (hc:decide (1<(s.size:Int))=false∨(decide (1<(s.size:Int))=true∧((s[0].toNat:Int)==48)=false)),Calls Tryz.prog 154 #[.string s] w fun e w'=>e=.returned (gotV (undecN (bl s)) (undecE (bl s)))∧Below w.heap.size w w':=by
  intro hc
  rcases hc with hc | ⟨hc1,hc⟩
  all_goals
   go_enter Tryz.func154,Tryz.ntmps154
   go_wp2_with fail
   clear he he1 hc
   go_loop [3] (fun i=>∃ (k:Nat),k≤s.size∧i=.int .i64 k∧Hid (((bl s).take k).all digB=true)) (fun i=>s.size-(intOf i).toNat)
   case atStart=>exact⟨0,z0,rfl,by simp[Hid]⟩
   case round=>
    obtain⟨k,hk,rfl,HA⟩:=hrel
    by_cases hlt:k<s.size
    ·by_cases hd:48≤s[k].toNat∧s[k].toNat≤57
     ·obtain⟨d0,d1⟩:=hd
      have HD:Hid (digB s[k]=true):=dT ⟨d0,d1⟩
      have HA2:Hid (((bl s).take (k+1)).all digB=true):=by show _=_;rw[bl_take_all s k hlt,HA.out,HD.out];rfl
      go_wp2_with fail
      go_round
      case rel=>exact⟨k+1,by omega,by go_num,HA2⟩
      case measure=>simp[intOf];omega
     ·have E:=hid (undec_bad (show decB (bl s)=false by rw[EA.out];exact bl_all_false s k hlt (dF hd)))
      by_cases hd1:s[k].toNat<48
      ·go_wp2_with fail
       refine bodyPost_ret (v:=gotV 0 3) (by simp[results,Tryz.results154,go_sem,gotV]) rfl ⟨?_,?_⟩
       ·rw[E.out.1,E.out.2]
       ·exact bR.alloc lr _
      ·have hd2:57<s[k].toNat:=by omega
       go_wp2_with fail
       refine bodyPost_ret (v:=gotV 0 3) (by simp[results,Tryz.results154,go_sem,gotV]) rfl ⟨?_,?_⟩
       ·rw[E.out.1,E.out.2]
       ·exact bR.alloc lr _
    ·have hall0:(bl s).all digB=true:=by have:=HA.out;rw[bl_take_ge s k (by omega)] at this;exact this
     have hall:decB (bl s)=true:=by rw[EA.out];exact hall0
     have HALL:=hid hall;have HALL0:=hid hall0
     clear hall hall0
     go_wp2_with fail
     refine(ref_number s _ hs HALL0.out).mono ?_;rintro e w1 ⟨rfl,hb⟩
     have EV:Hid (numV (bl s)=gotV (undecN (bl s)) (undecE (bl s))):=by
      show _=_;unfold numV undecN undecE;rw[HALL.out];rfl
     rw[EV.out]
     have hz:w.heap.size<w1.heap.size:=by have:=hb.size;simp at this;omega
     obtain⟨hc2,hf2⟩:=bcellN hb
     have c0:=hc2 w.heap.size 0 (by simp)
     have c1:=hc2 w.heap.size 1 (by simp)
     have c2:=hc2 w.heap.size 2 (by simp)
     have f0:=hf2 w.heap.size 0 (by simp)
     have f1:=hf2 w.heap.size 1 (by simp)
     have f2:=hf2 w.heap.size 2 (by simp)
     simp at c0 c1 c2 f0 f1 f2
     have HB:=hid hb
     clear hc2 hf2 hb
     unfold gotV
     go_wp2_with fail
     refine bodyPost_ret (v:=.agg #[.slice none 0 0,.int .i64 (undecN (bl s)),.int .i64 (undecE (bl s))]) (by simp[results,Tryz.results154,go_sem,c0,c1,c2,hz]) rfl ⟨rfl,?_⟩
     exact((((bR.alloc lr _).trans (HB.out.mono (by simp))).setCell (by simp) _).setCell (by simp) _).setCell (by simp) _
 by_cases h2:1<s.size
 ·exact walk (.inr ⟨dT (by omega),by simp only[bF,ne_eq];intro h;apply h1;refine⟨h2,UInt8.toNat_inj.1 ?_⟩;show _=48;omega⟩)
 ·exact walk (.inl (dF (by omega)))
theorem foldl_ge:∀ (l:LU)(n:Int),0≤n→l.all digB=true→n*10 ^ l.length≤l.foldl (fun n c=>10*n+((c.toNat:Int)-48)) n
 | [],n,_,_=>by simp
 | c::r,n,h,ha=>by
  rw[List.all_cons,Bool.and_eq_true] at ha
  have hc:48≤c.toNat:=(dO ha.1).1
  have h1:=foldl_ge r (10*n+((c.toNat:Int)-48)) (by omega) ha.2
  have h2:10*n*10 ^ r.length≤(10*n+((c.toNat:Int)-48))*10 ^ r.length:=Int.mul_le_mul_of_nonneg_right (by omega) (Int.pow_nonneg (by omega))
  rw[List.foldl_cons,List.length_cons,Int.pow_succ]
  have h3:n*(10 ^ r.length*10)=10*n*10 ^ r.length:=by rw[Int.mul_comm (10 ^ r.length) 10,←Int.mul_assoc,Int.mul_comm n 10]
  rw[h3];exact Int.le_trans h2 h1
theorem pow_mono (a:Nat):∀ b:Nat,(10:Int) ^ a≤10 ^ (a+b)
 | 0=>Int.le_refl _
 | b+1=>by
  have:=pow_mono a b
  have h0:(0:Int)≤10 ^ (a+b):=Int.pow_nonneg (by omega)
  rw[←Nat.add_assoc,Int.pow_succ];omega
theorem big_long {s:BA}(h:31<s.size)(hd:decB (bl s)=true):¬ decVal (bl s)≤bigN:=by
 have hc:=bl_cons s (by omega)
 have h48:¬ s[0]=48:=by
  intro h0;rw[decB_nought (by omega) h0] at hd;cases hd
 have hall:(bl s).all digB=true:=by
  rw[decB_all (by omega) (fun hh=>h48 hh.2)] at hd;exact hd
 rw[hc,List.all_cons,Bool.and_eq_true] at hall
 obtain⟨d0,d1⟩:=dO hall.1
 have hne:s[0].toNat≠48:=fun e=>h48 (UInt8.toNat_inj.1 e)
 have hl:(bl s).tail.length=s.size-1:=by rw[List.length_tail,bl_length]
 have h1:=foldl_ge (bl s).tail (10*0+((s[0].toNat:Int)-48)) (by omega) hall.2
 have h2:decVal (bl s)=(bl s).tail.foldl (fun n c=>10*n+((c.toNat:Int)-48)) (10*0+((s[0].toNat:Int)-48)):=by
  unfold decVal;rw[hc,List.foldl_cons];rfl
 rw[←h2,hl] at h1
 have h3:(10:Int) ^ 30≤10 ^ (30+(s.size-1-30)):=pow_mono 30 _
 rw[show 30+(s.size-1-30)=s.size-1 by omega] at h3
 have h4:1*(10:Int) ^ (s.size-1)≤(10*0+((s[0].toNat:Int)-48))*10 ^ (s.size-1):=Int.mul_le_mul_of_nonneg_right (by omega) (Int.pow_nonneg (by omega))
 have h5:(bigN:Int)<10 ^ 30:=by decide
 omega
theorem own3_len (s:BA):ownB 3 s=own3 s:=by
 unfold ownB
 rw[if_pos rfl]
 by_cases h:1≤s.size∧s.size≤31
 ·rw[dT h];rfl
 ·rw[dF h]
  have hr:decide (bl s=[114,111,111,116])=false:=by
   apply dF;intro e;have:=congrArg List.length e;rw[bl_length] at this;simp at this;omega
  have he:decide (undecE (bl s)=0)=false:=by
   apply dF
   by_cases h0:s.size=0
   ·rw[(undec_bad (decB_nil h0)).2];decide
   ·cases hd:decB (bl s)
    ·rw[(undec_bad hd).2];decide
    ·rw[(undec_big hd (big_long (by omega) hd)).2];decide
  unfold own3
  rw[hr,he];rfl
theorem ref_Owner (fmt:Int)(s:BA)(w:World)(hs:s.size≤9223372036854775807):
  Calls Tryz.prog 106 #[.int .i64 fmt,.string s] w fun e w'=>e=.returned (.bool (ownB fmt s))∧Below w.heap.size w w':=by
 by_cases h3:fmt=3
 ·subst h3
  have E:=hid (own3_len s)
  unfold own3 at E
  go_enter Tryz.func106,Tryz.ntmps106
  go_wp2_with fail
  refine(ref_Undec s _ hs).mono ?_;rintro e w1 ⟨rfl,hb⟩
  have HB:Hid (Below w.heap.size w (w1.alloc (.cells #[.slice none 0 0,.int .i64 (undecN (bl s)),.int .i64 (undecE (bl s))] 191))):=hb.alloc hb.size _
  clear hb
  unfold gotV
  cases g1:(s.toList == [114,111,111,116])
  ·have G1:Hid (decide (bl s=[114,111,111,116])=false):=by show _=_;rw[←root_beq];exact g1
   by_cases g2:undecE (bl s)=0
   ·by_cases g3:1≤undecN (bl s)
    ·have g2':(undecE (bl s)==0)=true:=by simpa using g2
     have g3':decide (0<undecN (bl s))=true:=dT (by omega)
     have EE:Hid (ownB 3 s=decide (undecN (bl s)≤2097151)):=by show _=_;rw[E.out,G1.out,dT g2,dT g3];rfl
     clear g2
     go_wp2_with fail
     go_ret
     exact⟨ret_bool (by rw[EE.out]),HB.out⟩
    ·have g2':(undecE (bl s)==0)=true:=by simpa using g2
     have g3':decide (0<undecN (bl s))=false:=dF (by omega)
     have EE:Hid (ownB 3 s=false):=by show _=_;rw[E.out,G1.out,dF g3];simp
     clear g2
     go_wp2_with fail
     go_ret
     exact⟨ret_bool (by rw[EE.out]),HB.out⟩
   ·have g2':(undecE (bl s)==0)=false:=by simpa using g2
    have EE:Hid (ownB 3 s=false):=by show _=_;rw[E.out,G1.out,dF g2];simp
    clear g2
    go_wp2_with fail
    go_ret
    exact⟨ret_bool (by rw[EE.out]),HB.out⟩
  ·have EE:Hid (ownB 3 s=true):=by show _=_;rw[E.out,←root_beq,g1];rfl
   go_wp2_with fail
   go_ret
   exact⟨ret_bool (by rw[EE.out]),HB.out⟩
 have h3':(fmt==3)=false:=by simpa using h3
 by_cases h1:s.size<1
 ·have E:Hid (ownB fmt s=false):=by show _=_;unfold ownB;rw[dF (by omega)];rfl
  clear h3
  go_enter Tryz.func106,Tryz.ntmps106
  go_wp2_with fail
  go_ret
  exact⟨ret_bool E.out.symm,bR⟩
 by_cases h2:31<s.size
 ·have E:Hid (ownB fmt s=false):=by show _=_;unfold ownB;rw[dF (by omega)];rfl
  clear h3
  go_enter Tryz.func106,Tryz.ntmps106
  go_wp2_with fail
  go_ret
  exact⟨ret_bool E.out.symm,bR⟩
 ·have E:Hid (ownB fmt s=ownAll s):=by show _=_;unfold ownB;rw[dT (by omega),if_neg h3];rfl
  clear h3
  go_enter Tryz.func106,Tryz.ntmps106
  go_wp2_with fail
  go_loop [6] (fun i=>∃ k:Nat,k≤s.size∧i=.int .i64 k∧Hid (∀ j (h:j<s.size),j<k→ownCh j s[j]=true)) (fun i=>s.size-(intOf i).toNat)
  case atStart=>exact⟨0,z0,rfl,hid (fun j h hj=>by omega)⟩
  case round=>
   obtain⟨k,hk,rfl,HA⟩:=hrel
   by_cases hlt:k<s.size
   ·by_cases a1:97≤s[k].toNat
    ·by_cases a2:s[k].toNat≤122
     ·skip
      have HC:Hid (ownCh k s[k]=true):=dT (by omega)
      go_wp2_with fail
      go_round
      case rel=>exact⟨k+1,by omega,by go_num,hid (own_next hlt HA.out HC.out)⟩
      case measure=>simp[intOf];omega
     ·have t122:decide ((s[k].toNat:Int)≤122)=false:=dF (by omega)
      have t95:((s[k].toNat:Int)==95)=false:=u8_bne (by omega:¬ s[k].toNat=95)
      have t45:((s[k].toNat:Int) != 45)=true:=u8_bneN (by omega:¬ s[k].toNat=45)
      have t57:57<s[k].toNat:=by omega
      have HC:Hid (ownAll s=false):=own_bad hlt (dF (by omega))
      by_cases k0:k=0
      ·have tk:((k:Int)==0)=true:=u8_beq k0
       clear k0
       go_wp2_with fail
       go_ret
       exact⟨ret_bool (by rw[E.out,HC.out]),bR⟩
      ·have tk:((k:Int)==0)=false:=u8_bne k0
       have t48:decide ((s[k].toNat:Int)<48)=false:=dF (by omega)
       have t58:decide (57<(s[k].toNat:Int))=true:=dT (by omega)
       clear k0
       go_wp2_with fail
       go_ret
       exact⟨ret_bool (by rw[E.out,HC.out]),bR⟩
    ·by_cases g95:s[k].toNat=95
     ·have t95:((s[k].toNat:Int)==95)=true:=u8_beq g95
      have HC:Hid (ownCh k s[k]=true):=dT (by omega)
      clear g95
      go_wp2_with fail
      go_round
      case rel=>exact⟨k+1,by omega,by go_num,hid (own_next hlt HA.out HC.out)⟩
      case measure=>simp[intOf];omega
     ·skip
      have t95:((s[k].toNat:Int)==95)=false:=u8_bne g95
      by_cases k0:k=0
      ·have tk:((k:Int)==0)=true:=u8_beq k0
       have HC:Hid (ownAll s=false):=own_bad hlt (dF (by omega))
       clear k0
       go_wp2_with fail
       go_ret
       exact⟨ret_bool (by rw[E.out,HC.out]),bR⟩
      have tk:((k:Int)==0)=false:=u8_bne k0
      by_cases g45:s[k].toNat=45
      ·have t45:((s[k].toNat:Int) != 45)=false:=u8_beqN g45
       have HC:Hid (ownCh k s[k]=true):=dT (by omega)
       clear g45
       go_wp2_with fail
       go_round
       case rel=>exact⟨k+1,by omega,by go_num,hid (own_next hlt HA.out HC.out)⟩
       case measure=>simp[intOf];omega
      have t45:((s[k].toNat:Int) != 45)=true:=u8_bneN g45
      by_cases g48:s[k].toNat<48
      ·skip
       have HC:Hid (ownAll s=false):=own_bad hlt (dF (by omega))
       go_wp2_with fail
       go_ret
       exact⟨ret_bool (by rw[E.out,HC.out]),bR⟩
      by_cases g57:57<s[k].toNat
      ·skip
       have HC:Hid (ownAll s=false):=own_bad hlt (dF (by omega))
       go_wp2_with fail
       go_ret
       exact⟨ret_bool (by rw[E.out,HC.out]),bR⟩
      ·skip
       have HC:Hid (ownCh k s[k]=true):=dT (by omega)
       go_wp2_with fail
       go_round
       case rel=>exact⟨k+1,by omega,by go_num,hid (own_next hlt HA.out HC.out)⟩
       case measure=>simp[intOf];omega
   ·have HE:Hid (ownAll s=true):=dT (fun j h=>HA.out j h (by omega))
    go_wp2_with fail
    go_ret
    exact⟨ret_bool (by rw[E.out,HE.out]),bR⟩
theorem below_of_eq {w w':World}(h:w=w'):Below w.heap.size w w':=by rw[h];exact bR
theorem CheckPackage_bare (nm ver ar sm:BA)(w:World)(hG:Gl w)(hs0:ver.size≤64)(hs1:nm.size≤9223372036854775807)(hs2:sm.size≤9223372036854775807):
  Calls Tryz.prog 10 #[.int .i64 1,.agg #[.string nm,.string ver,.string ar,.string sm,.slice none 0 0,.slice none 0 0,.slice none 0 0,.slice none 0 0,.slice none 0 0]] w
   fun e w'=>e=.returned (cpAns nm (fmtB 1) (dnameB (bl nm)) (verCode (splitD (bl ver))) (archIn 1 ar) (sumB (bl sm)) true true true ⟨#[]⟩ 0 0)∧Below w.heap.size w w':=
 model_CheckPackage 1 nm ver ar sm none none none none none 0 0 0 0 0 0 0 0 0 0 w _ _ _ _ _ _ _ hs1 hs2
  (hid fun w1 hb=>version_Check_dpkg ver w1 (hG.below hb) hs0)
  (hid fun w1 _=>(model_textsRight_nil 1 false w1).mono fun _ _ ⟨he,hw⟩=>⟨he,below_of_eq hw⟩)
  (hid fun w1 _=>(model_textsRight_nil 1 true w1).mono fun _ _ ⟨he,hw⟩=>⟨he,below_of_eq hw⟩)
  (hid fun w1 _=>(model_givesRight_nil 1 w1).mono fun _ _ ⟨he,hw⟩=>⟨he,below_of_eq hw⟩)
  (hid fun w1 _=>model_checkFiles_nil 1 w1)
  (hid fun w1 _=>(model_checkScripts_nil 1 w1).mono fun _ _ ⟨he,hw⟩=>⟨he,below_of_eq hw⟩)
theorem ans1:cpAns ⟨#[97,97]⟩ (fmtB 1) (dnameB (bl ⟨#[97,97]⟩)) (verCode (splitD (bl ⟨#[49,45,49]⟩))) (archIn 1 ⟨#[97,108,108]⟩) (sumB (bl ⟨#[]⟩)) true true true ⟨#[]⟩ 0 0=refV ⟨#[97,97]⟩ ⟨#[115,117,109,109,97,114,121]⟩ 3:=by
 have h1:fmtB 1=true:=by decide
 have h2:dnameB (bl ⟨#[97,97]⟩)=true:=by decide
 have h3:verCode (splitD (bl ⟨#[49,45,49]⟩))=0:=by decide
 have h4:archIn 1 ⟨#[97,108,108]⟩=true:=by simp[archIn,aw]
 have h5:sumB (bl ⟨#[]⟩)=false:=by decide
 simp[cpAns,h1,h2,h3,h4,h5]
theorem ans2:cpAns ⟨#[97,97]⟩ (fmtB 1) (dnameB (bl ⟨#[97,97]⟩)) (verCode (splitD (bl ⟨#[49,45,49]⟩))) (archIn 1 ⟨#[97,108,108]⟩) (sumB (bl ⟨#[115]⟩)) true true true ⟨#[]⟩ 0 0=refV ⟨#[]⟩ ⟨#[]⟩ 0:=by
 have h1:fmtB 1=true:=by decide
 have h2:dnameB (bl ⟨#[97,97]⟩)=true:=by decide
 have h3:verCode (splitD (bl ⟨#[49,45,49]⟩))=0:=by decide
 have h4:archIn 1 ⟨#[97,108,108]⟩=true:=by simp[archIn,aw]
 have h5:sumB (bl ⟨#[115]⟩)=true:=by decide
 simp[cpAns,h1,h2,h3,h4,h5]
theorem arch1:archOf 1 2 ⟨#[97,109,100,54,52]⟩=(⟨#[120,56,54,95,54,52]⟩,0):=by
 have h1:fmtB 1=true:=by decide
 have h2:fmtB 2=true:=by decide
 simp[archOf,h1,h2,aw]
theorem awake_first (w:World)(hG:Gl w):
  Calls Tryz.prog 10 #[.int .i64 1,.agg #[.string ⟨#[97,97]⟩,.string ⟨#[49,45,49]⟩,.string ⟨#[97,108,108]⟩,.string ⟨#[]⟩,.slice none 0 0,.slice none 0 0,.slice none 0 0,.slice none 0 0,.slice none 0 0]] w
   fun e w'=>e=.returned (.agg #[.string ⟨#[97,97]⟩,.string ⟨#[115,117,109,109,97,114,121]⟩,.int .i64 3])∧Below w.heap.size w w':=
 (CheckPackage_bare _ _ _ _ w hG (by decide) (by decide) (by decide)).mono fun _ _ ⟨he,hb⟩=>⟨by rw[he,ans1];rfl,hb⟩
theorem awake_second (w:World)(hG:Gl w):
  Calls Tryz.prog 10 #[.int .i64 1,.agg #[.string ⟨#[97,97]⟩,.string ⟨#[49,45,49]⟩,.string ⟨#[97,108,108]⟩,.string ⟨#[115]⟩,.slice none 0 0,.slice none 0 0,.slice none 0 0,.slice none 0 0,.slice none 0 0]] w
   fun e w'=>e=.returned (.agg #[.string ⟨#[]⟩,.string ⟨#[]⟩,.int .i64 0])∧Below w.heap.size w w':=
 (CheckPackage_bare _ _ _ _ w hG (by decide) (by decide) (by decide)).mono fun _ _ ⟨he,hb⟩=>⟨by rw[he,ans2];rfl,hb⟩
theorem awake_arch (w:World):
  Calls Tryz.prog 12 #[.int .i64 1,.int .i64 2,.string ⟨#[97,109,100,54,52]⟩] w fun e w'=>e=.returned (.tuple #[.string ⟨#[120,56,54,95,54,52]⟩,.int .i64 0])∧Below w.heap.size w w':=
 (model_Arch _ _ _ w).mono fun _ _ ⟨he,hb⟩=>⟨by rw[he,arch1];rfl,hb⟩
theorem law_awake (w:World)(hG:Gl w):
  Calls Tryz.prog 8 #[] w fun e w'=>e=.returned (.bool true)∧Below w.heap.size w w':=by
 have HG:=hid hG;clear hG
 go_enter Tryz.func8,Tryz.ntmps8
 go_wp2_with fail
 refine(awake_arch _).mono ?_;rintro e w1 ⟨rfl,hb1⟩
 go_wp2_with fail
 refine(awake_first _ (by exact((HG.out.below hb1).alloc _).alloc _)).mono ?_;rintro e w2 ⟨rfl,hb2⟩
 obtain⟨hc2,hf2⟩:=bcellN hb2
 have HB2:=hid hb2;clear hb2
 go_wp2_with fail
 refine(awake_second _ (by exact(((HG.out.below hb1).alloc _).alloc _).below HB2.out)).mono ?_;rintro e w3 ⟨rfl,hb3⟩
 go_wp2_with fail
 go_ret
 refine⟨rfl,bthen (bthen hb1 ?_) hb3⟩
 exact((bR.alloc lr _).alloc (by simp) _).trans (HB2.out.mono (by simp;omega))
end
end Go.Proofs.YtdfdllbebfoggaaGreatDoor
