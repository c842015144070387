/- A part of the proof that ModelChecks holds. No condition. -/
import Derived.Test.YtdfdllbebfoggaaGreatDoorD04
import Derived.Test.YtdfdllbebfoggaaGreatDoorD06
set_option maxRecDepth 100000
set_option maxHeartbeats 20000000
set_option linter.unusedVariables false
set_option linter.unusedSimpArgs false
namespace Go.Proofs.YtdfdllbebfoggaaGreatDoor
section
open Go.RowKit
def ownCh (i:Nat)(c:UInt8):Bool:=decide ((97≤c.toNat∧c.toNat≤122)∨c.toNat=95∨(i≠0∧(c.toNat=45∨(48≤c.toNat∧c.toNat≤57))))
def ownAll (s:BA):Bool:=decide (∀ j (h:j<s.size),ownCh j s[j]=true)
def own3 (s:BA):Bool:=decide (bl s=[114,111,111,116])||(decide (undecE (bl s)=0)&&decide (1≤undecN (bl s))&&decide (undecN (bl s)≤2097151))
def ownB (fmt:Int)(s:BA):Bool:=decide (1≤s.size∧s.size≤31)&&(if fmt=3 then own3 s else ownAll s)
theorem root_beq (s:BA):(s.toList == [114,111,111,116])=decide (bl s=[114,111,111,116]):=by
 rw[bl_toList,bI];simp
theorem own_next {s:BA}{k:Nat}(hk:k<s.size)(h:∀ j (h:j<s.size),j<k→ownCh j s[j]=true)(hc:ownCh k s[k]=true):∀ j (h:j<s.size),j<k+1→ownCh j s[j]=true:=by
 intro j hj hjk
 by_cases e:j=k
 ·subst e;exact hc
 ·exact h j hj (by omega)
theorem own_bad {s:BA}{k:Nat}(hk:k<s.size)(hc:ownCh k s[k]=false):ownAll s=false:=by
 apply dF;intro h;rw[h k hk] at hc;cases hc
theorem u8_beq {a b:Nat}(h:a=b):((a:Int)==(b:Int))=true:=by simp[h]
theorem u8_bne {a b:Nat}(h:¬ a=b):((a:Int)==(b:Int))=false:=by simp;omega
theorem u8_beqN {a b:Nat}(h:a=b):((a:Int) != (b:Int))=false:=by simp[h]
theorem u8_bneN {a b:Nat}(h:¬ a=b):((a:Int) != (b:Int))=true:=by simp[bne];omega
theorem model_ownerRight (fmt:Int)(s:BA)(w:World)(hs:s.size≤9223372036854775807):
  Calls Tryz.prog 96 #[.int .i64 fmt,.string s] w fun e w'=>e=.returned (.bool (ownB fmt s))∧w=w':=by
 by_cases h1:s.size<1
 ·have E:Hid (ownB fmt s=false):=by show _=_;unfold ownB;rw[dF (by omega)];rfl
  go_enter Tryz.func96,Tryz.ntmps96
  go_wp2_with fail
  go_ret
  exact⟨ret_bool E.out.symm,rfl⟩
 by_cases h2:31<s.size
 ·have E:Hid (ownB fmt s=false):=by show _=_;unfold ownB;rw[dF (by omega)];rfl
  go_enter Tryz.func96,Tryz.ntmps96
  go_wp2_with fail
  go_ret
  exact⟨ret_bool E.out.symm,rfl⟩
 by_cases h3:fmt=3
 ·subst h3
  have E:Hid (ownB 3 s=own3 s):=by show _=_;unfold ownB;rw[dT (by omega),if_pos rfl];rfl
  unfold own3 at E
  cases g1:(s.toList == [114,111,111,116])
  ·have G1:Hid (decide (bl s=[114,111,111,116])=false):=by show _=_;rw[←root_beq];exact g1
   go_enter Tryz.func96,Tryz.ntmps96
   go_wp2_with fail
   refine(codec_Undec s _ hs).mono ?_;rintro e w' ⟨rfl,rfl⟩
   unfold undecV
   by_cases g2:undecE (bl s)=0
   ·by_cases g3:1≤undecN (bl s)
    ·have g2':(undecE (bl s)==0)=true:=by simpa using g2
     have EE:Hid (ownB 3 s=decide (undecN (bl s)≤2097151)):=by show _=_;rw[E.out,G1.out,dT g2,dT g3];rfl
     clear g2
     go_wp2_with fail
     go_ret
     exact⟨ret_bool (by rw[EE.out]),rfl⟩
    ·have g2':(undecE (bl s)==0)=true:=by simpa using g2
     have EE:Hid (ownB 3 s=false):=by show _=_;rw[E.out,G1.out,dF g3];simp
     clear g2
     go_wp2_with fail
     go_ret
     exact⟨ret_bool (by rw[EE.out]),rfl⟩
   ·have g2':(undecE (bl s)==0)=false:=by simpa using g2
    have EE:Hid (ownB 3 s=false):=by show _=_;rw[E.out,G1.out,dF g2];simp
    clear g2
    go_wp2_with fail
    go_ret
    exact⟨ret_bool (by rw[EE.out]),rfl⟩
  ·have EE:Hid (ownB 3 s=true):=by show _=_;rw[E.out,←root_beq,g1];rfl
   go_enter Tryz.func96,Tryz.ntmps96
   go_wp2_with fail
   refine(codec_Undec s _ hs).mono ?_;rintro e w' ⟨rfl,rfl⟩
   unfold undecV
   go_wp2_with fail
   go_ret
   exact⟨ret_bool (by rw[EE.out]),rfl⟩
 ·have h3':(fmt==3)=false:=by simpa using h3
  have E:Hid (ownB fmt s=ownAll s):=by show _=_;unfold ownB;rw[dT (by omega),if_neg h3];rfl
  clear h3
  go_enter Tryz.func96,Tryz.ntmps96
  go_wp2_with fail
  go_loop [41] (fun i=>∃ k:Nat,k≤s.size∧i=.int .i64 k∧Hid (∀ j (h:j<s.size),j<k→ownCh j s[j]=true)) (fun i=>s.size-(intOf i).toNat)
  case atStart=>exact⟨0,z0,rfl,hid (fun j h hj=>by omega)⟩
  case round=>
   obtain⟨k,hk,rfl,HA⟩:=hrel
   by_cases hlt:k<s.size
   ·by_cases a1:97≤s[k].toNat
    ·by_cases a2:s[k].toNat≤122
     ·skip
      have HC:Hid (ownCh k s[k]=true):=dT (by omega)
      go_wp2_with fail
      go_round
      case rel=>exact⟨k+1,by omega,by go_num,hid (own_next hlt HA.out HC.out)⟩
      case measure=>simp[intOf];omega
     ·have t122:decide ((s[k].toNat:Int)≤122)=false:=dF (by omega)
      have t95:((s[k].toNat:Int)==95)=false:=u8_bne (by omega:¬ s[k].toNat=95)
      have t45:((s[k].toNat:Int) != 45)=true:=u8_bneN (by omega:¬ s[k].toNat=45)
      have t57:57<s[k].toNat:=by omega
      have HC:Hid (ownAll s=false):=own_bad hlt (dF (by omega))
      by_cases k0:k=0
      ·have tk:((k:Int)==0)=true:=u8_beq k0
       clear k0
       go_wp2_with fail
       go_ret
       exact⟨ret_bool (by rw[E.out,HC.out]),rfl⟩
      ·have tk:((k:Int)==0)=false:=u8_bne k0
       have t48:decide ((s[k].toNat:Int)<48)=false:=dF (by omega)
       have t58:decide (57<(s[k].toNat:Int))=true:=dT (by omega)
       clear k0
       go_wp2_with fail
       go_ret
       exact⟨ret_bool (by rw[E.out,HC.out]),rfl⟩
    ·by_cases g95:s[k].toNat=95
     ·have t95:((s[k].toNat:Int)==95)=true:=u8_beq g95
      have HC:Hid (ownCh k s[k]=true):=dT (by omega)
      clear g95
      go_wp2_with fail
      go_round
      case rel=>exact⟨k+1,by omega,by go_num,hid (own_next hlt HA.out HC.out)⟩
      case measure=>simp[intOf];omega
     ·skip
      have t95:((s[k].toNat:Int)==95)=false:=u8_bne g95
      by_cases k0:k=0
      ·have tk:((k:Int)==0)=true:=u8_beq k0
       have HC:Hid (ownAll s=false):=own_bad hlt (dF (by omega))
       clear k0
       go_wp2_with fail
       go_ret
       exact⟨ret_bool (by rw[E.out,HC.out]),rfl⟩
      have tk:((k:Int)==0)=false:=u8_bne k0
      by_cases g45:s[k].toNat=45
      ·have t45:((s[k].toNat:Int) != 45)=false:=u8_beqN g45
       have HC:Hid (ownCh k s[k]=true):=dT (by omega)
       clear g45
       go_wp2_with fail
       go_round
       case rel=>exact⟨k+1,by omega,by go_num,hid (own_next hlt HA.out HC.out)⟩
       case measure=>simp[intOf];omega
      have t45:((s[k].toNat:Int) != 45)=true:=u8_bneN g45
      by_cases g48:s[k].toNat<48
      ·skip
       have HC:Hid (ownAll s=false):=own_bad hlt (dF (by omega))
       go_wp2_with fail
       go_ret
       exact⟨ret_bool (by rw[E.out,HC.out]),rfl⟩
      by_cases g57:57<s[k].toNat
      ·skip
       have HC:Hid (ownAll s=false):=own_bad hlt (dF (by omega))
       go_wp2_with fail
       go_ret
       exact⟨ret_bool (by rw[E.out,HC.out]),rfl⟩
      ·skip
       have HC:Hid (ownCh k s[k]=true):=dT (by omega)
       go_wp2_with fail
       go_round
       case rel=>exact⟨k+1,by omega,by go_num,hid (own_next hlt HA.out HC.out)⟩
       case measure=>simp[intOf];omega
   ·have HE:Hid (ownAll s=true):=dT (fun j h=>HA.out j h (by omega))
    go_wp2_with fail
    go_ret
    exact⟨ret_bool (by rw[E.out,HE.out]),rfl⟩
def hexL:LU:=[48,49,50,51,52,53,54,55,56,57,97,98,99,100,101,102]
def hexS:BA:=⟨#[48,49,50,51,52,53,54,55,56,57,97,98,99,100,101,102]⟩
def hexB (l:LU):Bool:=l.all fun c=>hexL.contains c
def sumLen (fmt:Int):Nat:=if fmt=1 then 32 else if fmt=2 then 64 else 40
def sgB (fmt:Int)(s:BA):Bool:=decide (s.size=sumLen fmt)&&hexB (bl s)
theorem dropWhile_all {p:UInt8→Bool}:∀ (m:LU),(∀ x∈m.dropWhile p,p x=true)→∀ x∈m,p x=true
 | [],_,x,h=>by simp at h
 | a::r,h,x,hx=>by
  cases ha:p a
  ·have:(a::r).dropWhile p=a::r:=by simp[List.dropWhile,ha]
   rw[this] at h
   have:=h a (by simp)
   rw[ha] at this;cases this
  ·have e:(a::r).dropWhile p=r.dropWhile p:=by simp[List.dropWhile,ha]
   rw[e] at h
   rcases List.mem_cons.1 hx with rfl | hx
   ·exact ha
   ·exact dropWhile_all r h x hx
theorem dropWhile_nil {p:UInt8→Bool}:∀ (m:LU),m.dropWhile p=[]↔∀ x∈m,p x=true
 | []=>by simp
 | a::r=>by
  cases ha:p a
  ·simp[List.dropWhile,ha]
  ·have:=dropWhile_nil (p:=p) r
   simp[List.dropWhile,ha,this]
theorem trimS_nil (l cs:LU):Lib.trimS l cs=[]↔l.all (fun c=>cs.contains c)=true:=by
 unfold Lib.trimS Lib.trimLeftS Lib.trimRightS
 rw[dropWhile_nil,List.all_eq_true]
 constructor
 ·intro h x hx
  exact dropWhile_all l.reverse (fun y hy=>h y (List.mem_reverse.2 hy)) x (List.mem_reverse.2 hx)
 ·intro h x hx
  have hx:=List.mem_reverse.1 hx
  have hx2:x∈l.reverse:=(List.dropWhile_suffix _).subset hx
  exact h x (List.mem_reverse.1 hx2)
theorem trim_hex (s:BA)(w:World)(hs:s.size≤9223372036854775807):
  Calls Tryz.prog 140 #[.string s,.string hexS] w fun e w'=>(∃ t:BA,e=.returned (.string t)∧t.toList.isEmpty=hexB (bl s))∧Below w.heap.size w w':=
 (Any.strings_Trim_ascii Tryz.lays160 (fun w=>by kernel_rfl) (by kernel_rfl) s hexS w hs (by decide) (fun j b hj=>by
  have hm:b∈hexL:=gM hj
  simp only[hexL,List.mem_cons,List.not_mem_nil,or_false] at hm
  rcases hm with rfl | rfl | rfl | rfl | rfl | rfl | rfl | rfl | rfl | rfl | rfl | rfl | rfl | rfl | rfl | rfl<;>decide)).mono fun e w' ⟨he,hb⟩=>⟨⟨_,he,by
   rw[bl_toList,bl_mk,bI,List.isEmpty_iff]
   exact trimS_nil _ _⟩,hb⟩
theorem model_sumRight (fmt:Int)(hf:fmt=1∨fmt=2∨fmt=3)(s:BA)(w:World)(hs:s.size≤9223372036854775807):
  Calls Tryz.prog 97 #[.int .i64 fmt,.string s] w fun e w'=>e=.returned (.bool (sgB fmt s))∧Below w.heap.size w w':=by
 have key:∀ n:Nat,sumLen fmt=n→sgB fmt s=(decide (s.size=n)&&hexB (bl s)):=fun n hn=>by unfold sgB;rw[hn]
 rcases hf with rfl | rfl | rfl
 ·have K:=hid (key 32 (by decide))
  clear key
  by_cases hl:s.size=32
  ·have hl1:((s.size:Int)==32)=true:=u8_beq hl
   have E:Hid (sgB 1 s=hexB (bl s)):=by show _=_;rw[K.out,dT hl];rfl
   clear hl
   go_enter Tryz.func97,Tryz.ntmps97
   go_wp2_with fail
   refine(trim_hex s _ hs).mono ?_;rintro e w1 ⟨⟨t,rfl,ht⟩,hb⟩
   have HT:=hid ht;have HB:=hid hb;clear ht hb
   go_wp2_with fail
   go_ret
   exact⟨ret_bool (by rw[E.out];exact HT.out),HB.out⟩
  ·have hl1:((s.size:Int)==32)=false:=u8_bne hl
   have E:Hid (sgB 1 s=false):=by show _=_;rw[K.out,dF hl];rfl
   clear hl
   go_enter Tryz.func97,Tryz.ntmps97
   go_wp2_with fail
   go_ret
   exact⟨ret_bool (by rw[E.out]),bR⟩
 ·have K:=hid (key 64 (by decide))
  clear key
  by_cases hl:s.size=64
  ·have hl1:((s.size:Int)==64)=true:=u8_beq hl
   have E:Hid (sgB 2 s=hexB (bl s)):=by show _=_;rw[K.out,dT hl];rfl
   clear hl
   go_enter Tryz.func97,Tryz.ntmps97
   go_wp2_with fail
   refine(trim_hex s _ hs).mono ?_;rintro e w1 ⟨⟨t,rfl,ht⟩,hb⟩
   have HT:=hid ht;have HB:=hid hb;clear ht hb
   go_wp2_with fail
   go_ret
   exact⟨ret_bool (by rw[E.out];exact HT.out),HB.out⟩
  ·have hl1:((s.size:Int)==64)=false:=u8_bne hl
   have E:Hid (sgB 2 s=false):=by show _=_;rw[K.out,dF hl];rfl
   clear hl
   go_enter Tryz.func97,Tryz.ntmps97
   go_wp2_with fail
   go_ret
   exact⟨ret_bool (by rw[E.out]),bR⟩
 ·have K:=hid (key 40 (by decide))
  clear key
  by_cases hl:s.size=40
  ·have hl1:((s.size:Int)==40)=true:=u8_beq hl
   have E:Hid (sgB 3 s=hexB (bl s)):=by show _=_;rw[K.out,dT hl];rfl
   clear hl
   go_enter Tryz.func97,Tryz.ntmps97
   go_wp2_with fail
   refine(trim_hex s _ hs).mono ?_;rintro e w1 ⟨⟨t,rfl,ht⟩,hb⟩
   have HT:=hid ht;have HB:=hid hb;clear ht hb
   go_wp2_with fail
   go_ret
   exact⟨ret_bool (by rw[E.out];exact HT.out),HB.out⟩
  ·have hl1:((s.size:Int)==40)=false:=u8_bne hl
   have E:Hid (sgB 3 s=false):=by show _=_;rw[K.out,dF hl];rfl
   clear hl
   go_enter Tryz.func97,Tryz.ntmps97
   go_wp2_with fail
   go_ret
   exact⟨ret_bool (by rw[E.out]),bR⟩
end
end Go.Proofs.YtdfdllbebfoggaaGreatDoor
