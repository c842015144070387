/- A part of the proof. -/
import Derived.Test.YtaohgmcbpafdeaaGreatDoorA06
import Derived.Test.YtaohgmcbpafdeaaGreatDoorA08
set_option maxRecDepth 100000
set_option maxHeartbeats 20000000
set_option linter.unusedVariables false
set_option linter.unusedSimpArgs false
namespace Go.Proofs.YtaohgmcbpafdeaaGreatDoor
section
open Go.RowKit
def fL (l:LU):Int:=l.foldl (fun n c=>10*n+((c.toNat:Int)-48)) 0
theorem yQ (l:LU)(c:UInt8):fL (l++[c])=10*fL l+((c.toNat:Int)-48):=by simp[fL,List.foldl_append]
theorem yR (s:BA)(k:Nat)(h:k<s.size):fL ((bl s).take (k+1))=10*fL ((bl s).take k)+((s[k].toNat:Int)-48):=by
 rw[tS (by rw[ag];exact h),yQ,gj s k h]
def qo (l:LU):Bool:=!l.isEmpty && !(decide (1<l.length)&&decide (l.head?=some 48))&&l.all cu
def yS:Int:=4611686018427387903
def iM (l:LU):Int:=if qo l then (if fL l≤yS then fL l else 0) else 0
def gW (l:LU):Int:=if qo l then (if fL l≤yS then 0 else 4) else 3
theorem IA {s:BA}(h:s.size=0):qo (bl s)=false:=by rw[bG s h];rfl
theorem yT {s:BA}(h:1<s.size)(h0:s[0]=48):qo (bl s)=false:=by
 unfold qo
 have:(bl s).head?=some 48:=by rw[fG s (by omega),h0];rfl
 rw[this,ag];simp[h]
theorem IC {s:BA}(h:0<s.size)(h0:¬ (1<s.size∧s[0]=48)):qo (bl s)=(bl s).all cu:=by
 unfold qo
 have h1:(bl s).head?=some s[0]:=by rw[fG s h];rfl
 have h2:(bl s).isEmpty=false:=by rw[aT];exact dF (by omega)
 rw[h1,h2,ag]
 have:(decide (1<s.size)&&decide (some s[0]=some (48:UInt8)))=false:=by
  rw[Bool.and_eq_false_iff]
  by_cases h3:1<s.size
  ·right;simp;exact fun h4=>h0 ⟨h3,h4⟩
  ·left;simp;omega
 rw[this];simp
theorem oW {l:LU}(h:qo l=false):iM l=0∧gW l=3:=by simp[iM,gW,h]
theorem ID {l:LU}(h:qo l=true)(hv:fL l≤yS):iM l=fL l∧gW l=0:=by simp[iM,gW,h,hv]
theorem Fd {l:LU}(h:qo l=true)(hv:¬ fL l≤yS):iM l=0∧gW l=4:=by simp[iM,gW,h,hv]
def jw (l:LU):Value:=.tuple #[.int .i64 (iM l),.int .i64 (gW l)]
theorem pV (s:BA)(w:World)(hs:s.size≤9223372036854775807):
  Calls Tryz.prog 171 #[.string s] w fun e w'=>e=.returned (jw (bl s))∧w=w':=by
 by_cases h0:s.size=0
 ·have he:s.toList=[]:=by rw[ah,bG s h0]
  have E:=ae (oW (IA h0))
  go_enter Tryz.func171,Tryz.ntmps171
  go_wp2_with fail
  go_ret2
  exact⟨by unfold jw;rw[E.out.1,E.out.2];rfl,rfl⟩
 have hpos:0<s.size:=by omega
 have he:s.toList.isEmpty=false:=by rw[ah,aT];exact dF (by omega)
 have he1:¬ s.toList=[]:=by intro h;rw[h] at he;simp at he
 by_cases h1:1<s.size∧s[0]=48
 ·obtain⟨h1,h2⟩:=h1
  have E:=ae (oW (yT h1 h2))
  have hc:((s[0].toNat:Int)==48)=true:=by rw[h2];rfl
  clear h2
  go_enter Tryz.func171,Tryz.ntmps171
  go_wp2_with fail
  go_ret2
  exact⟨by unfold jw;rw[E.out.1,E.out.2];rfl,rfl⟩
 have EA:=ae (IC hpos h1)
 have walk:∀ (hc:decide (1<(s.size:Int))=false∨(decide (1<(s.size:Int))=true∧((s[0].toNat:Int)==48)=false)),Calls Tryz.prog 171 #[.string s] w fun e w'=>e=.returned (jw (bl s))∧w=w':=by
  intro hc
  rcases hc with hc | ⟨hc1,hc⟩
  all_goals
   go_enter Tryz.func171,Tryz.ntmps171
   go_wp2_with fail
   clear he he1 hc
   go_loop [4,5,22] (fun n lg i=>∃ (k:Nat) (m:Int) (b:Bool),k≤s.size∧i=.int .i64 k∧n=.int .i64 m∧lg=.bool b∧0≤m∧m≤4611686018427387903∧Hid (((bl s).take k).all cu=true)∧Hid (b=false→m=fL ((bl s).take k))∧Hid (b=true→yS<fL ((bl s).take k))) (fun _ _ i=>s.size-(intOf i).toNat)
   case atStart=>exact⟨0,0,false,z0,rfl,rfl,rfl,by omega,by omega,by simp[Hid],ae (fun _=>by simp[fL]),ae (fun h=>by cases h)⟩
   case round=>
    obtain⟨k,m,b,hk,rfl,rfl,rfl,m0,m1,HA,HV,HL⟩:=hrel
    by_cases hlt:k<s.size
    ·by_cases hd:48≤s[k].toNat∧s[k].toNat≤57
     ·obtain⟨d0,d1⟩:=hd
      have HD:Hid (cu s[k]=true):=dT ⟨d0,d1⟩
      have HN:=ae (yR s k hlt)
      have HA2:Hid (((bl s).take (k+1)).all cu=true):=by show _=_;rw[de s k hlt,HA.out,HD.out];rfl
      cases b
      ·by_cases hb:m > (4611686018427387903-((s[k].toNat:Int)-48)) / 10
       ·go_wp2_with fail
        go_round
        case rel=>exact⟨k+1,m,true,by omega,by go_num,rfl,rfl,m0,m1,HA2,ae (fun h=>by cases h),ae (fun _=>by rw[HN.out,←HV.out rfl];unfold yS;omega)⟩
        case measure=>simp[intOf];omega
       ·go_wp2_with fail
        go_round
        case rel=>exact⟨k+1,_,false,by omega,by go_num,rfl,rfl,by omega,by omega,HA2,ae (fun _=>by rw[HN.out,←HV.out rfl]),ae (fun h=>by cases h)⟩
        case measure=>simp[intOf];omega
      ·go_wp2_with fail
       go_round
       case rel=>exact⟨k+1,m,true,by omega,by go_num,rfl,rfl,m0,m1,HA2,ae (fun h=>by cases h),ae (fun _=>by rw[HN.out];have:=HL.out rfl;unfold yS at *;omega)⟩
       case measure=>simp[intOf];omega
     ·have E:=ae (oW (show qo (bl s)=false by rw[EA.out];exact jX s k hlt (dF hd)))
      by_cases hd1:s[k].toNat<48
      ·go_wp2_with fail
       go_ret2
       exact⟨by unfold jw;rw[E.out.1,E.out.2];rfl,rfl⟩
      ·have hd2:57<s[k].toNat:=by omega
       go_wp2_with fail
       go_ret2
       exact⟨by unfold jw;rw[E.out.1,E.out.2];rfl,rfl⟩
    ·have hall:qo (bl s)=true:=by rw[EA.out];have:=HA.out;rw[gm s k (by omega)] at this;exact this
     have hval:(bl s).take k=bl s:=gm s k (by omega)
     cases b
     ·have hv:=HV.out rfl
      rw[hval] at hv
      have E:=ae (ID hall (by rw[←hv];unfold yS;omega))
      have HVV:=ae hv
      clear hall hval hv
      go_wp2_with fail
      go_ret2
      exact⟨by unfold jw;rw[E.out.1,E.out.2,←HVV.out];rfl,rfl⟩
     ·have hv:=HL.out rfl
      rw[hval] at hv
      have E:=ae (Fd hall (by omega))
      clear hall hval hv
      go_wp2_with fail
      go_ret2
      exact⟨by unfold jw;rw[E.out.1,E.out.2];rfl,rfl⟩
 by_cases h2:1<s.size
 ·exact walk (.inr ⟨dT,by simp only[bF,ne_eq];intro h;apply h1;refine⟨h2,UInt8.toNat_inj.1 ?_⟩;show _=48;omega⟩)
 ·exact walk (.inl dF)
def mu (i:Nat)(c:UInt8):Bool:=decide ((97≤c.toNat∧c.toNat≤122)∨c.toNat=95∨(i≠0∧(c.toNat=45∨(48≤c.toNat∧c.toNat≤57))))
def kS (s:BA):Bool:=decide (∀ j (h:j<s.size),mu j s[j]=true)
def MZ (s:BA):Bool:=decide (bl s=[114,111,111,116])||(decide (gW (bl s)=0)&&decide (1≤iM (bl s))&&decide (iM (bl s)≤2097151))
def kT (fmt:Int)(s:BA):Bool:=decide (1≤s.size∧s.size≤31)&&(if fmt=3 then MZ s else kS s)
theorem yU (s:BA):(s.toList == [114,111,111,116])=decide (bl s=[114,111,111,116]):=by
 rw[ah,bI];simp
theorem nS {s:BA}{k:Nat}(hk:k<s.size)(h:∀ j (h:j<s.size),j<k→mu j s[j]=true)(hc:mu k s[k]=true):∀ j (h:j<s.size),j<k+1→mu j s[j]=true:=by
 intro j hj hjk
 by_cases e:j=k
 ·subst e;exact hc
 ·exact h j hj (by omega)
theorem qZ {s:BA}{k:Nat}(hk:k<s.size)(hc:mu k s[k]=false):kS s=false:=by
 apply dF;intro h;rw[h k hk] at hc;cases hc
theorem mU {a b:Nat}(h:a=b):((a:Int)==(b:Int))=true:=by simp[h]
theorem kU {a b:Nat}(h:¬ a=b):((a:Int)==(b:Int))=false:=by simp;omega
theorem Lp {a b:Nat}(h:a=b):((a:Int) != (b:Int))=false:=by simp[h]
theorem DQ {a b:Nat}(h:¬ a=b):((a:Int) != (b:Int))=true:=by simp[bne];omega
theorem jH (fmt:Int)(s:BA)(w:World)(hs:s.size≤9223372036854775807):
  Calls Tryz.prog 121 #[.int .i64 fmt,.string s] w fun e w'=>e=.returned (.bool (kT fmt s))∧w=w':=by
 by_cases h1:s.size<1
 ·have E:Hid (kT fmt s=false):=by show _=_;unfold kT;rw[dF];rfl
  go_enter Tryz.func121,Tryz.ntmps121
  go_wp2_with fail
  go_ret
  exact⟨af E.out.symm,rfl⟩
 by_cases h2:31<s.size
 ·have E:Hid (kT fmt s=false):=by show _=_;unfold kT;rw[dF];rfl
  go_enter Tryz.func121,Tryz.ntmps121
  go_wp2_with fail
  go_ret
  exact⟨af E.out.symm,rfl⟩
 by_cases h3:fmt=3
 ·subst h3
  have E:Hid (kT 3 s=MZ s):=by show _=_;unfold kT;rw[dT,if_pos rfl];rfl
  unfold MZ at E
  cases g1:(s.toList == [114,111,111,116])
  ·have G1:Hid (decide (bl s=[114,111,111,116])=false):=by show _=_;rw[←yU];exact g1
   go_enter Tryz.func121,Tryz.ntmps121
   go_wp2_with fail
   refine(pV s _ hs).mono ?_;rintro e w' ⟨rfl,rfl⟩
   unfold jw
   by_cases g2:gW (bl s)=0
   ·by_cases g3:1≤iM (bl s)
    ·have g2':(gW (bl s)==0)=true:=by simpa using g2
     have EE:Hid (kT 3 s=decide (iM (bl s)≤2097151)):=by show _=_;rw[E.out,G1.out,dT g2,dT g3];rfl
     clear g2
     go_wp2_with fail
     go_ret
     exact⟨af (by rw[EE.out]),rfl⟩
    ·have g2':(gW (bl s)==0)=true:=by simpa using g2
     have EE:Hid (kT 3 s=false):=by show _=_;rw[E.out,G1.out,dF g3];simp
     clear g2
     go_wp2_with fail
     go_ret
     exact⟨af (by rw[EE.out]),rfl⟩
   ·have g2':(gW (bl s)==0)=false:=by simpa using g2
    have EE:Hid (kT 3 s=false):=by show _=_;rw[E.out,G1.out,dF g2];simp
    clear g2
    go_wp2_with fail
    go_ret
    exact⟨af (by rw[EE.out]),rfl⟩
  ·have EE:Hid (kT 3 s=true):=by show _=_;rw[E.out,←yU,g1];rfl
   go_enter Tryz.func121,Tryz.ntmps121
   go_wp2_with fail
   refine(pV s _ hs).mono ?_;rintro e w' ⟨rfl,rfl⟩
   unfold jw
   go_wp2_with fail
   go_ret
   exact⟨af (by rw[EE.out]),rfl⟩
 ·have h3':(fmt==3)=false:=by simpa using h3
  have E:Hid (kT fmt s=kS s):=by show _=_;unfold kT;rw[dT,if_neg h3];rfl
  clear h3
  go_enter Tryz.func121,Tryz.ntmps121
  go_wp2_with fail
  go_loop [41] (fun i=>∃ k:Nat,k≤s.size∧i=.int .i64 k∧Hid (∀ j (h:j<s.size),j<k→mu j s[j]=true)) (fun i=>s.size-(intOf i).toNat)
  case atStart=>exact⟨0,z0,rfl,ae (fun j h hj=>by omega)⟩
  case round=>
   obtain⟨k,hk,rfl,HA⟩:=hrel
   by_cases hlt:k<s.size
   ·by_cases a1:97≤s[k].toNat
    ·by_cases a2:s[k].toNat≤122
     ·skip
      have HC:Hid (mu k s[k]=true):=dT (by omega)
      go_wp2_with fail
      go_round
      case rel=>exact⟨k+1,by omega,by go_num,ae (nS hlt HA.out HC.out)⟩
      case measure=>simp[intOf];omega
     ·have t122:decide ((s[k].toNat:Int)≤122)=false:=dF (by omega)
      have t95:((s[k].toNat:Int)==95)=false:=kU (by omega:¬ s[k].toNat=95)
      have t45:((s[k].toNat:Int) != 45)=true:=DQ (by omega:¬ s[k].toNat=45)
      have t57:57<s[k].toNat:=by omega
      have HC:Hid (kS s=false):=qZ hlt dF
      by_cases k0:k=0
      ·have tk:((k:Int)==0)=true:=mU k0
       clear k0
       go_wp2_with fail
       go_ret
       exact⟨af (by rw[E.out,HC.out]),rfl⟩
      ·have tk:((k:Int)==0)=false:=kU k0
       have t48:decide ((s[k].toNat:Int)<48)=false:=dF (by omega)
       have t58:decide (57<(s[k].toNat:Int))=true:=dT (by omega)
       clear k0
       go_wp2_with fail
       go_ret
       exact⟨af (by rw[E.out,HC.out]),rfl⟩
    ·by_cases g95:s[k].toNat=95
     ·have t95:((s[k].toNat:Int)==95)=true:=mU g95
      have HC:Hid (mu k s[k]=true):=dT (by omega)
      clear g95
      go_wp2_with fail
      go_round
      case rel=>exact⟨k+1,by omega,by go_num,ae (nS hlt HA.out HC.out)⟩
      case measure=>simp[intOf];omega
     ·skip
      have t95:((s[k].toNat:Int)==95)=false:=kU g95
      by_cases k0:k=0
      ·have tk:((k:Int)==0)=true:=mU k0
       have HC:Hid (kS s=false):=qZ hlt dF
       clear k0
       go_wp2_with fail
       go_ret
       exact⟨af (by rw[E.out,HC.out]),rfl⟩
      have tk:((k:Int)==0)=false:=kU k0
      by_cases g45:s[k].toNat=45
      ·have t45:((s[k].toNat:Int) != 45)=false:=Lp g45
       have HC:Hid (mu k s[k]=true):=dT (by omega)
       clear g45
       go_wp2_with fail
       go_round
       case rel=>exact⟨k+1,by omega,by go_num,ae (nS hlt HA.out HC.out)⟩
       case measure=>simp[intOf];omega
      have t45:((s[k].toNat:Int) != 45)=true:=DQ g45
      by_cases g48:s[k].toNat<48
      ·skip
       have HC:Hid (kS s=false):=qZ hlt dF
       go_wp2_with fail
       go_ret
       exact⟨af (by rw[E.out,HC.out]),rfl⟩
      by_cases g57:57<s[k].toNat
      ·skip
       have HC:Hid (kS s=false):=qZ hlt dF
       go_wp2_with fail
       go_ret
       exact⟨af (by rw[E.out,HC.out]),rfl⟩
      ·skip
       have HC:Hid (mu k s[k]=true):=dT (by omega)
       go_wp2_with fail
       go_round
       case rel=>exact⟨k+1,by omega,by go_num,ae (nS hlt HA.out HC.out)⟩
       case measure=>simp[intOf];omega
   ·have HE:Hid (kS s=true):=dT (fun j h=>HA.out j h (by omega))
    go_wp2_with fail
    go_ret
    exact⟨af (by rw[E.out,HE.out]),rfl⟩
end
end Go.Proofs.YtaohgmcbpafdeaaGreatDoor
