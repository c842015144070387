/- A part of the proof. -/
import Derived.Test.YtlglfpbhapmhiaaGreatDoorK05
import Derived.Test.YtlglfpbhapmhiaaGreatDoorK10
set_option maxRecDepth 100000
set_option maxHeartbeats 20000000
set_option linter.unusedVariables false
set_option linter.unusedSimpArgs false
namespace Go.Proofs.YtlglfpbhapmhiaaGreatDoor
section
open Go.RowKit
def Lg:LU:=[48,49,50,51,52,53,54,55,56,57,97,98,99,100,101,102]
def Mr:BA:=⟨#[48,49,50,51,52,53,54,55,56,57,97,98,99,100,101,102]⟩
def Dl (l:LU):Bool:=l.all fun c=>Lg.contains c
def Gr (fmt:Int):Nat:=if fmt=1 then 32 else if fmt=2 then 64 else 40
def Gs (fmt:Int)(s:BA):Bool:=decide (s.size=Gr fmt)&&Dl (bl s)
theorem mf {p:UInt8→Bool}:∀ (m:LU),(∀ x∈m.dropWhile p,p x=true)→∀ x∈m,p x=true
 | [],_,x,h=>by simp at h
 | a::r,h,x,hx=>by
  cases ha:p a
  ·have:(a::r).dropWhile p=a::r:=by simp[List.dropWhile,ha]
   rw[this] at h
   have:=h a (by simp)
   rw[ha] at this;cases this
  ·have e:(a::r).dropWhile p=r.dropWhile p:=by simp[List.dropWhile,ha]
   rw[e] at h
   rcases List.mem_cons.1 hx with rfl | hx
   ·exact ha
   ·exact mf r h x hx
theorem mg {p:UInt8→Bool}:∀ (m:LU),m.dropWhile p=[]↔∀ x∈m,p x=true
 | []=>by simp
 | a::r=>by
  cases ha:p a
  ·simp[List.dropWhile,ha]
  ·have:=mg (p:=p) r
   simp[List.dropWhile,ha,this]
theorem Dm (l cs:LU):Lib.trimS l cs=[]↔l.all (fun c=>cs.contains c)=true:=by
 unfold Lib.trimS Lib.trimLeftS Lib.trimRightS
 rw[mg,List.all_eq_true]
 constructor
 ·intro h x hx
  exact mf l.reverse (fun y hy=>h y (List.mem_reverse.2 hy)) x (List.mem_reverse.2 hx)
 ·intro h x hx
  have hx:=List.mem_reverse.1 hx
  have hx2:x∈l.reverse:=(List.dropWhile_suffix _).subset hx
  exact h x (List.mem_reverse.1 hx2)
theorem qQ (s:BA)(w:World)(hs:s.size≤9223372036854775807):
  Calls Tryz.prog 187 #[.string s,.string Mr] w fun e w'=>(∃ t:BA,e=.returned (.string t)∧t.toList.isEmpty=Dl (bl s))∧Below w.heap.size w w':=
 (Any.strings_Trim_ascii Tryz.lays160 (fun w=>by kernel_rfl) (by kernel_rfl) s Mr w hs (by decide) (fun j b hj=>by
  have hm:b∈Lg:=gM hj
  simp only[Lg,List.mem_cons,List.not_mem_nil,or_false] at hm
  rcases hm with rfl | rfl | rfl | rfl | rfl | rfl | rfl | rfl | rfl | rfl | rfl | rfl | rfl | rfl | rfl | rfl<;>decide)).mono fun e w' ⟨he,hb⟩=>⟨⟨_,he,by
   rw[ai,io,bI,List.isEmpty_iff]
   exact Dm _ _⟩,hb⟩
theorem qR (fmt:Int)(hf:fmt=1∨fmt=2∨fmt=3)(s:BA)(w:World)(hs:s.size≤9223372036854775807):
  Calls Tryz.prog 134 #[.int .i64 fmt,.string s] w fun e w'=>e=.returned (.bool (Gs fmt s))∧Below w.heap.size w w':=by
 have key:∀ n:Nat,Gr fmt=n→Gs fmt s=(decide (s.size=n)&&Dl (bl s)):=fun n hn=>by unfold Gs;rw[hn]
 rcases hf with rfl | rfl | rfl
 ·have K:=ae (key 32 (by decide))
  clear key
  by_cases hl:s.size=32
  ·have hl1:((s.size:Int)==32)=true:=jy hl
   have E:Hid (Gs 1 s=Dl (bl s)):=by show _=_;rw[K.out,dT hl];rfl
   clear hl
   go_enter Tryz.func134,Tryz.ntmps134
   go_wp2_with fail
   refine(qQ s _ hs).mono ?_;rintro e w1 ⟨⟨t,rfl,ht⟩,hb⟩
   have HT:=ae ht;have HB:=ae hb;clear ht hb
   go_wp2_with fail
   go_ret
   exact⟨af (by rw[E.out];exact HT.out),HB.out⟩
  ·have hl1:((s.size:Int)==32)=false:=gY hl
   have E:Hid (Gs 1 s=false):=by show _=_;rw[K.out,dF hl];rfl
   clear hl
   go_enter Tryz.func134,Tryz.ntmps134
   go_wp2_with fail
   go_ret
   exact⟨af (by rw[E.out]),bR⟩
 ·have K:=ae (key 64 (by decide))
  clear key
  by_cases hl:s.size=64
  ·have hl1:((s.size:Int)==64)=true:=jy hl
   have E:Hid (Gs 2 s=Dl (bl s)):=by show _=_;rw[K.out,dT hl];rfl
   clear hl
   go_enter Tryz.func134,Tryz.ntmps134
   go_wp2_with fail
   refine(qQ s _ hs).mono ?_;rintro e w1 ⟨⟨t,rfl,ht⟩,hb⟩
   have HT:=ae ht;have HB:=ae hb;clear ht hb
   go_wp2_with fail
   go_ret
   exact⟨af (by rw[E.out];exact HT.out),HB.out⟩
  ·have hl1:((s.size:Int)==64)=false:=gY hl
   have E:Hid (Gs 2 s=false):=by show _=_;rw[K.out,dF hl];rfl
   clear hl
   go_enter Tryz.func134,Tryz.ntmps134
   go_wp2_with fail
   go_ret
   exact⟨af (by rw[E.out]),bR⟩
 ·have K:=ae (key 40 (by decide))
  clear key
  by_cases hl:s.size=40
  ·have hl1:((s.size:Int)==40)=true:=jy hl
   have E:Hid (Gs 3 s=Dl (bl s)):=by show _=_;rw[K.out,dT hl];rfl
   clear hl
   go_enter Tryz.func134,Tryz.ntmps134
   go_wp2_with fail
   refine(qQ s _ hs).mono ?_;rintro e w1 ⟨⟨t,rfl,ht⟩,hb⟩
   have HT:=ae ht;have HB:=ae hb;clear ht hb
   go_wp2_with fail
   go_ret
   exact⟨af (by rw[E.out];exact HT.out),HB.out⟩
  ·have hl1:((s.size:Int)==40)=false:=gY hl
   have E:Hid (Gs 3 s=false):=by show _=_;rw[K.out,dF hl];rfl
   clear hl
   go_enter Tryz.func134,Tryz.ntmps134
   go_wp2_with fail
   go_ret
   exact⟨af (by rw[E.out]),bR⟩
def jz (c:UInt8):Bool:=jE c||cv c||c==46||c==95||c==47
def gO (c:UInt8):Bool:=jz c||c==43||c==45||c==58||c==64
def cR (l:LU):Bool:=decide (1≤l.length∧l.length≤64)&&(match l with | c::_=>jz c | []=>false)&&l.all gO
theorem jI (p:UInt8→Bool)(h:(List.range 256).all (fun n=>p (UInt8.ofNat n))=true)(c:UInt8):p c=true:=by
 have:=List.all_eq_true.1 h c.toNat (List.mem_range.2 c.toNat_lt)
 simpa using this
theorem Gt (c:UInt8)(h1:jE c=false)(h2:cv c=false):(bl ⟨#[46,95,43,45,58,47,64]⟩).contains c=gO c:=by
 simp only[gO,jz,h1,h2,bl]
 rw[bI]
 simp
 grind
theorem Gu (c:UInt8)(h:gO c=true):(bl ⟨#[45,43,58,64]⟩).contains c=!jz c:=by
 exact jI (fun c=>!gO c||((bl ⟨#[45,43,58,64]⟩).contains c == !jz c)) (by kernel_rfl) c |> fun hh=>by simpa [h] using hh
theorem uA (s:BA)(k:Nat)(h:k<s.size)(h1:gO s[k]=false):cR (bl s)=false:=by
 have:(bl s).all gO=false:=by
  rw[List.all_eq_false]
  exact⟨s[k],gM (dD s k h),by rw[h1];simp⟩
 unfold cR;rw[this,Bool.and_false]
theorem zR (s:BA)(k:Nat)(h:¬ k<s.size)(h0:0<s.size)(h64:s.size≤64)(hf:(bl ⟨#[45,43,58,64]⟩).contains s[0]=false)(ha:((bl s).take k).all gO=true):cR (bl s)=true:=by
 rw[tL (by rw[ah];omega)] at ha
 have hc:=fI s h0
 have h1:gO s[0]=true:=by rw[hc,List.all_cons,Bool.and_eq_true] at ha;exact ha.1
 have h2:jz s[0]=true:=by have:=Gu s[0] h1;rw[hf] at this;simpa using this.symm
 unfold cR
 rw[ha,ah,dT ⟨by omega,h64⟩]
 rw[hc]
 simp[h2]
theorem zS (s:BA)(h0:0<s.size)(hf:(bl ⟨#[45,43,58,64]⟩).contains s[0]=true):cR (bl s)=false:=by
 cases hn:gO s[0] with
 | false=>exact uA s 0 h0 hn
 | true=>
  have h2:jz s[0]=false:=by have:=Gu s[0] hn;rw[hf] at this;simpa using this.symm
  unfold cR
  rw[fI s h0]
  simp[h2]
theorem qT (s:BA)(h:¬ (1≤s.size∧s.size≤64)):cR (bl s)=false:=by
 unfold cR;rw[ah,dF h];rfl
theorem oF (s:BA)(w:World)(hs:s.size≤9223372036854775807):
  Calls Tryz.prog 130 #[.string s] w fun e w'=>e=.returned (.bool (cR (bl s)))∧w=w':=by
 by_cases h0:s.size=0
 ·have he:s.toList=[]:=by rw[ai,bL s h0]
  have he2:s.toList.isEmpty=true:=by rw[he];rfl
  have E:Hid (cR (bl s)=false):=qT s (by omega)
  go_enter Tryz.func130,Tryz.ntmps130
  go_wp2_with fail
  go_ret
  exact⟨af E.out.symm,rfl⟩
 have hp:0<s.size:=by omega
 have he2:s.toList.isEmpty=false:=by rw[ai,aY];exact dF h0
 have he:¬ s.toList=[]:=by intro h;rw[h] at he2;simp at he2
 by_cases h64:64<s.size
 ·have E:Hid (cR (bl s)=false):=qT s (by omega)
  go_enter Tryz.func130,Tryz.ntmps130
  go_wp2_with fail
  go_ret
  exact⟨af E.out.symm,rfl⟩
 cases hf:(bl ⟨#[45,43,58,64]⟩).contains s[0] with
 | true=>
  have hn:=fN ⟨#[45,43,58,64]⟩ s[0] hf
  have E:Hid (cR (bl s)=false):=zS s hp hf
  clear hf
  go_enter Tryz.func130,Tryz.ntmps130
  go_wp2_with (go_at_call 119;refine(aQ _ s[0] _).mono ?_;rintro e w' ⟨rfl,rfl⟩)
  go_ret
  exact⟨af E.out.symm,rfl⟩
 | false=>
  have hn:=eY ⟨#[45,43,58,64]⟩ s[0] hf
  have HF:=ae hf
  clear hf
  go_enter Tryz.func130,Tryz.ntmps130
  go_wp2_with (go_at_call 119;refine(aQ _ s[0] _).mono ?_;rintro e w' ⟨rfl,rfl⟩)
  go_loop [21] (fun i=>∃ k:Nat,k≤s.size∧i=.int .i64 k∧Hid (((bl s).take k).all gO=true)) (fun i=>s.size-(intOf i).toNat)
  case atStart=>exact⟨0,z0,rfl,by simp[Hid]⟩
  case round=>
   obtain⟨k,hk,rfl,HA⟩:=hrel
   by_cases hlt:k<s.size
   ·go_upto_region 7 with(fail)
    go_cut [5] (fun v wx=>v=.bool (jE s[k])∧w=wx)
    case first=>
     go_wp2_with fail
     all_goals go_meet
     all_goals (refine⟨?_,rfl⟩;congr 1;rw[bI];simp[jE,gK,Jl];omega)
    case rest=>
    obtain⟨rfl,rfl⟩:=hcut
    have IB:=fun W=>aQ ⟨#[46,95,43,45,58,47,64]⟩ s[k] W
    cases hl:jE s[k] with
    | true=>
     have HN:Hid (gO s[k]=true):=by show _=_;simp[gO,jz,hl]
     clear hl
     go_wp2_with fail
     go_round
     case rel=>exact⟨k+1,by omega,by go_num,by show _=_;rw[cV s k hlt,HA.out,HN.out];rfl⟩
     case measure=>simp[intOf];omega
    | false=>
     by_cases hd:48≤s[k].toNat∧s[k].toNat≤57
     ·obtain⟨d1,d2⟩:=hd
      have HN:Hid (gO s[k]=true):=by show _=_;simp[gO,jz,cv,d1,d2]
      clear hl
      go_wp2_with fail
      go_round
      case rel=>exact⟨k+1,by omega,by go_num,by show _=_;rw[cV s k hlt,HA.out,HN.out];rfl⟩
      case measure=>simp[intOf];omega
     ·have hdg:cv s[k]=false:=dF hd
      have hco:=Gt s[k] hl hdg
      cases hn2:gO s[k] with
      | true=>
       have hx:=fN ⟨#[46,95,43,45,58,47,64]⟩ s[k] (by rw[hco,hn2])
       have HN:=ae hn2
       clear hl hco hn2 hdg IB
       by_cases d1:s[k].toNat<48
       ·clear hd
        go_wp2_with (go_at_call 119;refine(aQ _ s[k] _).mono ?_;rintro e w' ⟨rfl,rfl⟩)
        go_round
        case rel=>exact⟨k+1,by omega,by go_num,by show _=_;rw[cV s k hlt,HA.out,HN.out];rfl⟩
        case measure=>simp[intOf];omega
       ·have d2:57<s[k].toNat:=by omega
        clear hd
        go_wp2_with (go_at_call 119;refine(aQ _ s[k] _).mono ?_;rintro e w' ⟨rfl,rfl⟩)
        go_round
        case rel=>exact⟨k+1,by omega,by go_num,by show _=_;rw[cV s k hlt,HA.out,HN.out];rfl⟩
        case measure=>simp[intOf];omega
      | false=>
       have hx:=eY ⟨#[46,95,43,45,58,47,64]⟩ s[k] (by rw[hco,hn2])
       have E:Hid (cR (bl s)=false):=uA s k hlt hn2
       clear hl hco hn2 hdg IB
       by_cases d1:s[k].toNat<48
       ·clear hd
        go_wp2_with (go_at_call 119;refine(aQ _ s[k] _).mono ?_;rintro e w' ⟨rfl,rfl⟩)
        go_ret
        exact⟨af E.out.symm,rfl⟩
       ·have d2:57<s[k].toNat:=by omega
        clear hd
        go_wp2_with (go_at_call 119;refine(aQ _ s[k] _).mono ?_;rintro e w' ⟨rfl,rfl⟩)
        go_ret
        exact⟨af E.out.symm,rfl⟩
   ·go_wp2_with fail
    go_ret
    exact⟨af (zR s k hlt hp (by omega) HF.out HA.out).symm,rfl⟩
end
section
open Go.RowKit Go.Deep
theorem Gv {B:Nat}{w w1 w2:World}(h1:Below B w w1)(h2:Below w1.heap.size w1 w2)(h:B≤w1.heap.size:=by exact Nat.le_trans (by assumption) (Below.size (by assumption))):Below B w w2:=h1.trans (h2.mono h)
theorem nz (s:BA)(j:Nat)(b:UInt8)(h:(bl s)[j]?=some b):s.get! j=b:=by
 unfold bl at h
 show s.data[j]! = b
 have h2:s.data[j]?=some b:=by simpa using h
 obtain⟨hlt,he⟩:=Array.getElem?_eq_some_iff.1 h2
 rw[getElem!_pos s.data j hlt,he]
theorem qU (s:BA)(i:Nat)(h:i<s.size)(ha:¬ (s[i]'h).toNat<128):
  (128≤(Utf8.decode s i).1∧(Utf8.decode s i).1≤1114111)∧(1≤(Utf8.decode s i).2∧i+(Utf8.decode s i).2≤s.size)∧∀ (j:Nat)(b:UInt8),i≤j→j<i+(Utf8.decode s i).2→(bl s)[j]?=some b→128≤b.toNat:=by
 have e0:=nz s i _ (dD s i h)
 rw[Lib.decode_at,e0]
 have l1:=(s.get! (i+1)).toNat_lt
 have l2:=(s.get! (i+2)).toNat_lt
 have l3:=(s.get! (i+3)).toNat_lt
 have l0:=(s[i]'h).toNat_lt
 have g1:∀ b,(bl s)[i+1]?=some b→b.toNat=(s.get! (i+1)).toNat:=fun b hb=>by rw[nz s _ b hb]
 have g2:∀ b,(bl s)[i+2]?=some b→b.toNat=(s.get! (i+2)).toNat:=fun b hb=>by rw[nz s _ b hb]
 have g3:∀ b,(bl s)[i+3]?=some b→b.toNat=(s.get! (i+3)).toNat:=fun b hb=>by rw[nz s _ b hb]
 have g0:∀ b,(bl s)[i]?=some b→b.toNat=(s[i]'h).toNat:=fun b hb=>by rw[dD s i h] at hb;injection hb with hb;rw[hb]
 generalize (s.get! (i+1)).toNat=b1 at *
 generalize (s.get! (i+2)).toNat=b2 at *
 generalize (s.get! (i+3)).toNat=b3 at *
 generalize (s[i]'h).toNat=b0 at *
 unfold Lib.decodeN
 rw[if_neg ha]
 have key:∀ (r w:Nat),1≤w→w≤4→(1<w→128≤b1)→(2<w→128≤b2)→(3<w→128≤b3)→∀ (j:Nat)(b:UInt8),i≤j→j<i+w→(bl s)[j]?=some b→128≤b.toNat:=by
  intro r w h1 h4 k1 k2 k3 j b hj hjw hb
  obtain hj | hj | hj | hj:j=i∨j=i+1∨j=i+2∨j=i+3:=by omega
  ·subst hj;rw[g0 b hb];omega
  ·subst hj;rw[g1 b hb];exact k1 (by omega)
  ·subst hj;rw[g2 b hb];exact k2 (by omega)
  ·subst hj;rw[g3 b hb];exact k3 (by omega)
 repeat' split
 all_goals (refine⟨by simp only;omega,by simp only;omega,key 0 _ ?_ ?_ ?_ ?_ ?_⟩<;>(simp only;omega))
theorem qV (r:Int)(h0:128≤r)(h1:r≤1114111):2≤(Utf8.encode r).size∧(Utf8.encode r).size≤4∧∃ c:UInt8,(bl (Utf8.encode r))[(Utf8.encode r).size-1]?=some c∧128≤c.toNat:=by
 unfold Utf8.encode
 have hc:128≤(if Utf8.valid r then r.toNat else Utf8.runeError):=by
  split
  ·omega
  ·simp[Utf8.runeError]
 generalize (if Utf8.valid r then r.toNat else Utf8.runeError)=c at hc
 simp only
 rw[if_neg (by omega)]
 have k:(UInt8.ofNat (128+c % 64)).toNat=128+c % 64:=by simp[UInt8.toNat_ofNat'];omega
 repeat' split
 all_goals exact⟨by simp[ByteArray.size],by simp[ByteArray.size],_,rfl,by rw[k];omega⟩
def gh:BA:=⟨#[60,61,62,126]⟩
theorem qW:gh.size=4:=rfl
theorem nA (j:Nat)(b:UInt8)(h:(bl gh)[j]?=some b):b.toNat<128:=by
 have hm:=gM h
 simp[gh,bl] at hm
 rcases hm with rfl | rfl | rfl | rfl<;>decide
theorem tH (w:World):Calls Tryz.prog 244 #[.string gh,.int .i32 65533] w fun e w'=>e=.returned (.int .i64 (-1))∧Below w.heap.size w w':=by
 go_enter Tryz.func244,Tryz.ntmps244
 go_wp2_with fail
 go_loopg [5,6] 4 (fun g _ _ wx=>∃ i:Nat,i+g=4∧wx=w.iter gh i)
 case atStart=>exact⟨0,by omega,rfl⟩
 case round=>
  obtain⟨i,hig,rfl⟩:=hrel
  cases gk with
  | zero=>
   obtain rfl:i=4:=by omega
   have hnx:=fun ty=>run_next_end (P:=Tryz.prog) w gh 4 ty (by rw[qW];omega)
   go_wp2_with fail
   go_ret
   exact⟨rfl,bR.alloc lr _⟩
  | succ g=>
   have hi:i<gh.size:=by rw[qW];omega
   obtain⟨x,hx⟩:∃ x:UInt8,gh[i]'hi=x:=⟨_,rfl⟩
   have hx128:x.toNat<128:=nA i x (by rw[←hx];exact dD gh i hi)
   have hnx:=fun ty=>run_next_ascii (P:=Tryz.prog) w gh i ty hi (by rw[hx];exact hx128)
   rw[hx] at hnx
   clear hx
   have hx3:((x.toNat:Int)==65533)=false:=beq_eq_false_iff_ne.2 (by omega)
   go_wp2_with fail
   go_roundg g
   case measure=>omega
   case rel=>exact⟨i+1,by omega,rfl⟩
theorem tI (r:Int)(w:World)(h0:128≤r)(h1:r≤1114111)(hne:r≠65533)(hv:Lib.validRune r=false):Calls Tryz.prog 244 #[.string gh,.int .i32 r] w fun e w'=>e=.returned (.int .i64 (-1))∧Below w.heap.size w w':=by
 have hx3:(r==65533)=false:=beq_eq_false_iff_ne.2 hne
 go_enter Tryz.func244,Tryz.ntmps244
 go_wp2_with (go_at_call 265;refine(Tryz.utf8_ValidRune _ _).mono ?_;rintro e w' ⟨rfl,hw⟩;rw[hw,hv])
 go_ret
 exact⟨rfl,bR⟩
theorem qX (r:Int)(w:World)(h0:128≤r)(h1:r≤1114111)(hne:r≠65533)(hv:Lib.validRune r=true):Calls Tryz.prog 244 #[.string gh,.int .i32 r] w fun e w'=>e=.returned (.int .i64 (-1))∧Below w.heap.size w w':=by
 have hx3:(r==65533)=false:=beq_eq_false_iff_ne.2 hne
 obtain⟨z0,z1,c,hc,c0⟩:=qV r h0 h1
 obtain⟨rs,hrs⟩:∃ rs,Utf8.encode r=rs:=⟨_,rfl⟩
 rw[hrs] at z0 z1 hc
 obtain⟨m,hm⟩:∃ m,rs.size=m+1:=⟨rs.size-1,by omega⟩
 have hlt:m<rs.size:=by omega
 have hc2:rs[m]'hlt=c:=by
  rw[show rs.size-1=m by omega,dD rs _ hlt] at hc;injection hc
 have hss:=qW
 have hlt2:m<gh.size:=by omega
 obtain⟨x,hx⟩:∃ x:UInt8,gh[m]'hlt2=x:=⟨_,rfl⟩
 have hx128:x.toNat<128:=nA _ x (by rw[←hx];exact dD gh _ hlt2)
 have hxc:((x.toNat:Int) != (c.toNat:Int))=true:=by simp;omega
 have hm4:(m:Int)<(gh.size:Int):=by omega
 have hm5:(m:Int)+1≤(gh.size:Int):=by omega
 have hm6:m+1≤gh.size:=by omega
 clear hss
 have hI:∀ W:World,Calls Tryz.prog 119 #[.string (gh.extract (m+1) gh.size),.int .u8 c.toNat] W fun e w'=>e=.returned (.int .i64 (-1))∧w'=W:=by
  intro W
  refine(aQ _ c W).mono ?_
  rintro e w' ⟨rfl,rfl⟩
  refine⟨aE ?_,rfl⟩
  show Lib.indexByte (bl (gh.extract (m+1) gh.size)) c=-1
  have hno:(bl (gh.extract (m+1) gh.size)).contains c=false:=by
   rw[cC]
   cases hcc:((bl gh).drop (m+1)).contains c with
   | false=>rfl
   | true=>
    have hmm:c∈(bl gh).drop (m+1):=by simpa using hcc
    obtain⟨j,hj⟩:=List.getElem?_of_mem (List.mem_of_mem_drop hmm)
    have:=nA j c hj;omega
  exact qS _ _ hno
 have iw:IntKind.i64.wrap ((m:Int)+1)=(m:Int)+1:=IntWalk.i64_in _ (by omega)
 have hsl:∀ W:World,(Instr.slice 9 (.string gh) (some (.int .i64 ((m:Int)+1))) none none).run Tryz.prog W=.ok (.string (gh.extract (m+1) gh.size)) W:=fun W=>run_slice_string_l W 9 gh Tryz.underlying9 .i64 ((m:Int)+1) (by omega) hm5
 have hid1:∀ W:World,(Instr.index 9 (.string rs) (.int .i64 (m:Int))).run Tryz.prog W=.ok (.int .u8 c.toNat) W:=fun W=>by
  rw[run_index_string W 9 rs .i64 (m:Int) Tryz.underlying9,dif_pos ⟨by omega,by omega⟩]
  simp[hc2]
 have hid2:∀ W:World,(Instr.index 9 (.string gh) (.int .i64 (m:Int))).run Tryz.prog W=.ok (.int .u8 x.toNat) W:=fun W=>by
  rw[run_index_string W 9 gh .i64 (m:Int) Tryz.underlying9,dif_pos ⟨by omega,by omega⟩]
  simp[hx]
 clear hc
 go_enter Tryz.func244,Tryz.ntmps244
 go_wp2_with (go_at_call 265;refine(Tryz.utf8_ValidRune _ _).mono ?_;rintro e w' ⟨rfl,hw⟩;rw[hw,hv])
 go_step3
 go_wp2_with fail
 refine wp_loop_rounds 1 ?_
 rw[rounds_succ]
 go_wp2_with fail
 go_step3
 go_wp2_with fail
 go_quiet (fail)
 go_wp2_with fail
 have HB:=fun n=>aq (Below.refl w.heap.size w) n
 generalize hW:w.drewN _=W2
 have HW:Below w.heap.size w W2:=by rw[←hW];exact HB _
 clear hW HB
 go_quiet ((go_at_call 119;exact Calls.quiet_of_same (hI _)))
 go_wp2_with fail
 rw[Exit.noGoto_ret]
 go_wp2_with fail
 rw[Exit.noGoto_ret]
 go_ret
 exact⟨rfl,aq HW _⟩
theorem tJ (r:Int)(w:World)(h0:128≤r)(h1:r≤1114111):Calls Tryz.prog 244 #[.string gh,.int .i32 r] w fun e w'=>e=.returned (.int .i64 (-1))∧Below w.heap.size w w':=by
 by_cases hne:r=65533
 ·subst hne;exact tH w
 ·cases hv:Lib.validRune r with
  | false=>exact tI r w h0 h1 hne hv
  | true=>exact qX r w h0 h1 hne hv
theorem qY (s:BA)(w:World)(h8:s.size≤8):
  Calls Tryz.prog 217 #[.string s,.string gh] w fun e w'=>e=.returned (.int .i64 (Lib.indexAny (bl s) (bl gh)))∧Below w.heap.size w w':=by
 have hemp:gh.toList.isEmpty=false:=by rw[ai];rfl
 have hemp2:¬ gh.toList=[]:=by rw[ai];intro h;exact absurd (congrArg List.length h) (by decide)
 have hn1:((gh.size:Int)==1)=false:=rfl
 have h8z:decide ((8:Int)<(s.size:Int))=false:=dF (by omega)
 go_enter Tryz.func217,Tryz.ntmps217
 go_wp2_with (go_at_call 245;refine(Tryz.strings_shouldUseASCIISet _ _).mono ?_;rintro e w' ⟨rfl,hw⟩;rw[hw,h8z])
 go_loopg [9,10] s.size (fun g _ _ wx=>∃ i:Nat,i+g=s.size∧Hid (wx.heap[w.heap.size]?=some (.stringIter s i))∧Hid (Below w.heap.size w wx)∧Hid (Lib.NoAny (bl s) (bl gh) i))
 case atStart=>exact⟨0,by omega,World.iter_heap w s 0,bR.alloc lr _,Lib.NoAny.zero _ _⟩
 case round=>
  obtain⟨i,hig,HH,HB,HN⟩:=hrel
  cases gk with
  | zero=>
   obtain rfl:i=s.size:=by omega
   have hnx:=fun ty=>Lib.run_next_end_at (P:=Tryz.prog) wr w.heap.size s s.size ty HH.out (by omega)
   go_wp2_with fail
   go_ret
   exact⟨aE (by rw[Lib.indexAny_none (by rw[ah];exact HN.out)]),HB.out⟩
  | succ g=>
   have hi:i<s.size:=by omega
   have hxl:=dD s i hi
   by_cases ha:(s[i]'hi).toNat<128
   ·have hnx:=fun ty=>Lib.run_next_ascii_at (P:=Tryz.prog) wr w.heap.size s i ty HH.out hi ha
    obtain⟨x,hx⟩:∃ x:UInt8,s[i]'hi=x:=⟨_,rfl⟩
    rw[hx] at hnx ha hxl
    have HX:=ae hxl
    clear hxl hx
    have hback:((x.toNat:Int)).toNat.toUInt8=x:=by simp
    have HB2:Hid (Below w.heap.size w (wr.iterAt w.heap.size s (i+1))):=Lib.below_iterAt HB.out lr _ _
    have HH2:Hid ((wr.iterAt w.heap.size s (i+1)).heap[w.heap.size]?=some (.stringIter s (i+1))):=Lib.iterAt_heap _ _ _ _ _ HH.out
    cases hin:(bl gh).contains x with
    | false=>
     have hlt:=eY gh x hin
     unfold tB bl at hlt
     have HI:=ae hin;clear hin
     go_wp2_with (go_at_call 244;refine(Tryz.strings_IndexRune_ascii _ _ _ (by omega) (by omega)).mono ?_;rintro e w' ⟨rfl,hw⟩;rw[hw,hback])
     go_roundg g
     case measure=>omega
     case rel=>exact⟨i+1,by omega,HH2,HB2,HN.out.succ HX.out HI.out⟩
    | true=>
     have hge:=fN gh x hin
     unfold tB bl at hge
     have HI:=ae hin;clear hin
     go_wp2_with (go_at_call 244;refine(Tryz.strings_IndexRune_ascii _ _ _ (by omega) (by omega)).mono ?_;rintro e w' ⟨rfl,hw⟩;rw[hw,hback])
     go_ret
     exact⟨aE (Lib.indexAny_hit HN.out HX.out HI.out).symm,HB2.out⟩
   ·obtain⟨⟨d1,d2⟩,⟨d3,d4⟩,d5⟩:=qU s i hi ha
    have hnx:=fun ty=>Lib.run_next_any_at (P:=Tryz.prog) wr w.heap.size s i ty HH.out hi
    have HD:=ae d5
    clear d5 hxl
    generalize Utf8.decode s i=D at *
    obtain⟨r,n⟩:=D
    simp only at d1 d2 d3 d4 hnx
    have HB2:Hid (Below w.heap.size w (wr.iterAt w.heap.size s (i+n))):=Lib.below_iterAt HB.out lr _ _
    have HH2:Hid ((wr.iterAt w.heap.size s (i+n)).heap[w.heap.size]?=some (.stringIter s (i+n))):=Lib.iterAt_heap _ _ _ _ _ HH.out
    have HN2:Hid (Lib.NoAny (bl s) (bl gh) (i+n)):=by
     intro j b hj hb
     by_cases hji:j<i
     ·exact HN.out j b hji hb
     ·have h1:=HD.out j b (by omega) hj hb
      cases hc:(bl gh).contains b with
      | false=>rfl
      | true=>
       have hm:b∈bl gh:=by simpa using hc
       obtain⟨k,hk⟩:=List.getElem?_of_mem hm
       have:=nA k b hk
       omega
    clear HD
    go_wp2_with fail
    refine(tJ (r:Int) _ (by omega) (by omega)).mono ?_;rintro e w' ⟨rfl,hb⟩
    have HS:w.heap.size<(wr.iterAt w.heap.size s (i+n)).heap.size:=(Array.getElem?_eq_some_iff.1 HH2.out).1
    have HB3:Hid (Below w.heap.size w w'):=Gv HB2.out hb HB2.out.size
    have HH3:Hid (w'.heap[w.heap.size]?=some (.stringIter s (i+n))):=(hb.block _ HS).trans HH2.out
    clear hb
    go_wp2_with fail
    go_roundg (g+1-n)
    case measure=>omega
    case rel=>exact⟨i+n,by omega,HH3,HB3,HN2⟩
theorem vR (s:BA)(w:World)(hs:s.size≤4294967280):
  Calls Tryz.prog 217 #[.string s,.string gh] w fun e w'=>e=.returned (.int .i64 (Lib.indexAny (bl s) (bl gh)))∧Below w.heap.size w w':=by
 by_cases h8:s.size≤8
 ·exact qY s w h8
 ·refine(Tryz.strings_IndexAny_long (by intro w;kernel_rfl) s gh w (by decide) (by omega) (by omega) (by decide) (fun j b h=>nA j b h)).mono ?_
  rintro e w' ⟨rfl,rfl⟩
  refine⟨rfl,?_⟩
  have h1:Below w.heap.size w (w.alloc (.cells (Lib.setCells gh.data.toList) 274)):=bR.alloc lr _
  exact h1.alloc (by simp) _
structure kP (st:BA):Prop where
 two:2≤st.size
 four:st.size≤4
 low:∀ (j:Nat)(b:UInt8),(bl st)[j]?=some b→b.toNat<128
theorem qZ (st:BA)(hL:kP st)(w:World):Calls Tryz.prog 244 #[.string st,.int .i32 65533] w fun e w'=>e=.returned (.int .i64 (-1))∧Below w.heap.size w w':=by
 have HL:=ae hL;clear hL
 go_enter Tryz.func244,Tryz.ntmps244
 go_wp2_with fail
 go_loopg [5,6] st.size (fun g _ _ wx=>∃ i:Nat,i+g=st.size∧wx=w.iter st i)
 case atStart=>exact⟨0,by omega,rfl⟩
 case round=>
  obtain⟨i,hig,rfl⟩:=hrel
  cases gk with
  | zero=>
   obtain rfl:i=st.size:=by omega
   have hnx:=fun ty=>run_next_end (P:=Tryz.prog) w st st.size ty (by omega)
   go_wp2_with fail
   go_ret
   exact⟨rfl,bR.alloc lr _⟩
  | succ g=>
   have hi:i<st.size:=by omega
   obtain⟨x,hx⟩:∃ x:UInt8,st[i]'hi=x:=⟨_,rfl⟩
   have hx128:x.toNat<128:=HL.out.low i x (by rw[←hx];exact dD st i hi)
   have hnx:=fun ty=>run_next_ascii (P:=Tryz.prog) w st i ty hi (by rw[hx];exact hx128)
   rw[hx] at hnx
   clear hx
   have hx3:((x.toNat:Int)==65533)=false:=beq_eq_false_iff_ne.2 (by omega)
   go_wp2_with fail
   go_roundg g
   case measure=>omega
   case rel=>exact⟨i+1,by omega,rfl⟩
theorem ra (st:BA)(r:Int)(w:World)(h0:128≤r)(h1:r≤1114111)(hne:r≠65533)(hv:Lib.validRune r=false):Calls Tryz.prog 244 #[.string st,.int .i32 r] w fun e w'=>e=.returned (.int .i64 (-1))∧Below w.heap.size w w':=by
 have hx3:(r==65533)=false:=beq_eq_false_iff_ne.2 hne
 go_enter Tryz.func244,Tryz.ntmps244
 go_wp2_with (go_at_call 265;refine(Tryz.utf8_ValidRune _ _).mono ?_;rintro e w' ⟨rfl,hw⟩;rw[hw,hv])
 go_ret
 exact⟨rfl,bR⟩
theorem pL (st:BA)(hL:kP st)(r:Int)(w:World)(h0:128≤r)(h1:r≤1114111)(hne:r≠65533)(hv:Lib.validRune r=true):Calls Tryz.prog 244 #[.string st,.int .i32 r] w fun e w'=>e=.returned (.int .i64 (-1))∧Below w.heap.size w w':=by
 have hx3:(r==65533)=false:=beq_eq_false_iff_ne.2 hne
 obtain⟨z0,z1,c,hc,c0⟩:=qV r h0 h1
 obtain⟨rs,hrs⟩:∃ rs,Utf8.encode r=rs:=⟨_,rfl⟩
 rw[hrs] at z0 z1 hc
 obtain⟨m,hm⟩:∃ m,rs.size=m+1:=⟨rs.size-1,by omega⟩
 have hlt:m<rs.size:=by omega
 have hc2:rs[m]'hlt=c:=by
  rw[show rs.size-1=m by omega,dD rs _ hlt] at hc;injection hc
 have hs4:=hL.four
 by_cases hlt2:m<st.size
 ·obtain⟨x,hx⟩:∃ x:UInt8,st[m]'hlt2=x:=⟨_,rfl⟩
  have hx128:x.toNat<128:=hL.low _ x (by rw[←hx];exact dD st _ hlt2)
  have hxc:((x.toNat:Int) != (c.toNat:Int))=true:=by simp;omega
  have hm4:(m:Int)<(st.size:Int):=by omega
  have hm5:(m:Int)+1≤(st.size:Int):=by omega
  have hm6:m+1≤st.size:=by omega
  have hI:∀ W:World,Calls Tryz.prog 119 #[.string (st.extract (m+1) st.size),.int .u8 c.toNat] W fun e w'=>e=.returned (.int .i64 (-1))∧w'=W:=by
   intro W
   refine(aQ _ c W).mono ?_
   rintro e w' ⟨rfl,rfl⟩
   refine⟨aE ?_,rfl⟩
   show Lib.indexByte (bl (st.extract (m+1) st.size)) c=-1
   have hno:(bl (st.extract (m+1) st.size)).contains c=false:=by
    rw[cC]
    cases hcc:((bl st).drop (m+1)).contains c with
    | false=>rfl
    | true=>
     have hmm:c∈(bl st).drop (m+1):=by simpa using hcc
     obtain⟨j,hj⟩:=List.getElem?_of_mem (List.mem_of_mem_drop hmm)
     have:=hL.low j c hj;omega
   exact qS _ _ hno
  have iw:IntKind.i64.wrap ((m:Int)+1)=(m:Int)+1:=IntWalk.i64_in _ (by omega)
  have hsl:∀ W:World,(Instr.slice 9 (.string st) (some (.int .i64 ((m:Int)+1))) none none).run Tryz.prog W=.ok (.string (st.extract (m+1) st.size)) W:=fun W=>run_slice_string_l W 9 st Tryz.underlying9 .i64 ((m:Int)+1) (by omega) hm5
  have hid1:∀ W:World,(Instr.index 9 (.string rs) (.int .i64 (m:Int))).run Tryz.prog W=.ok (.int .u8 c.toNat) W:=fun W=>by
   rw[run_index_string W 9 rs .i64 (m:Int) Tryz.underlying9,dif_pos ⟨by omega,by omega⟩]
   simp[hc2]
  have hid2:∀ W:World,(Instr.index 9 (.string st) (.int .i64 (m:Int))).run Tryz.prog W=.ok (.int .u8 x.toNat) W:=fun W=>by
   rw[run_index_string W 9 st .i64 (m:Int) Tryz.underlying9,dif_pos ⟨by omega,by omega⟩]
   simp[hx]
  clear hc hL
  go_enter Tryz.func244,Tryz.ntmps244
  go_wp2_with (go_at_call 265;refine(Tryz.utf8_ValidRune _ _).mono ?_;rintro e w' ⟨rfl,hw⟩;rw[hw,hv])
  go_step3
  go_wp2_with fail
  refine wp_loop_rounds 1 ?_
  rw[rounds_succ]
  go_wp2_with fail
  go_step3
  go_wp2_with fail
  go_quiet (fail)
  go_wp2_with fail
  have HB:=fun n=>aq (Below.refl w.heap.size w) n
  generalize hW:w.drewN _=W2
  have HW:Below w.heap.size w W2:=by rw[←hW];exact HB _
  clear hW HB
  go_quiet ((go_at_call 119;exact Calls.quiet_of_same (hI _)))
  go_wp2_with fail
  rw[Exit.noGoto_ret]
  go_wp2_with fail
  rw[Exit.noGoto_ret]
  go_ret
  exact⟨rfl,aq HW _⟩
 ·have hm4:¬ (m:Int)<(st.size:Int):=by omega
  clear hc hL
  go_enter Tryz.func244,Tryz.ntmps244
  go_wp2_with (go_at_call 265;refine(Tryz.utf8_ValidRune _ _).mono ?_;rintro e w' ⟨rfl,hw⟩;rw[hw,hv])
  go_step3
  go_wp2_with fail
  refine wp_loop_rounds 1 ?_
  rw[rounds_succ]
  go_wp2_with fail
  rw[Exit.noGoto_ret]
  go_ret
  exact⟨rfl,bR⟩
theorem rb (st:BA)(hL:kP st)(r:Int)(w:World)(h0:128≤r)(h1:r≤1114111):Calls Tryz.prog 244 #[.string st,.int .i32 r] w fun e w'=>e=.returned (.int .i64 (-1))∧Below w.heap.size w w':=by
 by_cases hne:r=65533
 ·subst hne;exact qZ st hL w
 ·cases hv:Lib.validRune r with
  | false=>exact ra st r w h0 h1 hne hv
  | true=>exact pL st hL r w h0 h1 hne hv
theorem pM (st:BA)(hL:kP st)(s:BA)(w:World)(h8:s.size≤8):
  Calls Tryz.prog 217 #[.string s,.string st] w fun e w'=>e=.returned (.int .i64 (Lib.indexAny (bl s) (bl st)))∧Below w.heap.size w w':=by
 have hs2:=hL.two
 have hemp2:¬ st.toList=[]:=by rw[ai];intro h;have:=congrArg List.length h;rw[ah,List.length_nil] at this;omega
 have hemp:st.toList.isEmpty=false:=by cases h:st.toList with | nil=>exact absurd h hemp2 | cons a r=>rfl
 have hn1:((st.size:Int)==1)=false:=beq_eq_false_iff_ne.2 (by omega)
 clear hs2
 have HL:=ae hL;clear hL
 have h8z:decide ((8:Int)<(s.size:Int))=false:=dF (by omega)
 go_enter Tryz.func217,Tryz.ntmps217
 go_wp2_with (go_at_call 245;refine(Tryz.strings_shouldUseASCIISet _ _).mono ?_;rintro e w' ⟨rfl,hw⟩;rw[hw,h8z])
 go_loopg [9,10] s.size (fun g _ _ wx=>∃ i:Nat,i+g=s.size∧Hid (wx.heap[w.heap.size]?=some (.stringIter s i))∧Hid (Below w.heap.size w wx)∧Hid (Lib.NoAny (bl s) (bl st) i))
 case atStart=>exact⟨0,by omega,World.iter_heap w s 0,bR.alloc lr _,Lib.NoAny.zero _ _⟩
 case round=>
  obtain⟨i,hig,HH,HB,HN⟩:=hrel
  cases gk with
  | zero=>
   obtain rfl:i=s.size:=by omega
   have hnx:=fun ty=>Lib.run_next_end_at (P:=Tryz.prog) wr w.heap.size s s.size ty HH.out (by omega)
   go_wp2_with fail
   go_ret
   exact⟨aE (by rw[Lib.indexAny_none (by rw[ah];exact HN.out)]),HB.out⟩
  | succ g=>
   have hi:i<s.size:=by omega
   have hxl:=dD s i hi
   by_cases ha:(s[i]'hi).toNat<128
   ·have hnx:=fun ty=>Lib.run_next_ascii_at (P:=Tryz.prog) wr w.heap.size s i ty HH.out hi ha
    obtain⟨x,hx⟩:∃ x:UInt8,s[i]'hi=x:=⟨_,rfl⟩
    rw[hx] at hnx ha hxl
    have HX:=ae hxl
    clear hxl hx
    have hback:((x.toNat:Int)).toNat.toUInt8=x:=by simp
    have HB2:Hid (Below w.heap.size w (wr.iterAt w.heap.size s (i+1))):=Lib.below_iterAt HB.out lr _ _
    have HH2:Hid ((wr.iterAt w.heap.size s (i+1)).heap[w.heap.size]?=some (.stringIter s (i+1))):=Lib.iterAt_heap _ _ _ _ _ HH.out
    cases hin:(bl st).contains x with
    | false=>
     have hlt:=eY st x hin
     unfold tB bl at hlt
     have HI:=ae hin;clear hin
     go_wp2_with (go_at_call 244;refine(Tryz.strings_IndexRune_ascii _ _ _ (by omega) (by omega)).mono ?_;rintro e w' ⟨rfl,hw⟩;rw[hw,hback])
     go_roundg g
     case measure=>omega
     case rel=>exact⟨i+1,by omega,HH2,HB2,HN.out.succ HX.out HI.out⟩
    | true=>
     have hge:=fN st x hin
     unfold tB bl at hge
     have HI:=ae hin;clear hin
     go_wp2_with (go_at_call 244;refine(Tryz.strings_IndexRune_ascii _ _ _ (by omega) (by omega)).mono ?_;rintro e w' ⟨rfl,hw⟩;rw[hw,hback])
     go_ret
     exact⟨aE (Lib.indexAny_hit HN.out HX.out HI.out).symm,HB2.out⟩
   ·obtain⟨⟨d1,d2⟩,⟨d3,d4⟩,d5⟩:=qU s i hi ha
    have hnx:=fun ty=>Lib.run_next_any_at (P:=Tryz.prog) wr w.heap.size s i ty HH.out hi
    have HD:=ae d5
    clear d5 hxl
    generalize Utf8.decode s i=D at *
    obtain⟨r,n⟩:=D
    simp only at d1 d2 d3 d4 hnx
    have HB2:Hid (Below w.heap.size w (wr.iterAt w.heap.size s (i+n))):=Lib.below_iterAt HB.out lr _ _
    have HH2:Hid ((wr.iterAt w.heap.size s (i+n)).heap[w.heap.size]?=some (.stringIter s (i+n))):=Lib.iterAt_heap _ _ _ _ _ HH.out
    have HN2:Hid (Lib.NoAny (bl s) (bl st) (i+n)):=by
     intro j b hj hb
     by_cases hji:j<i
     ·exact HN.out j b hji hb
     ·have h1:=HD.out j b (by omega) hj hb
      cases hc:(bl st).contains b with
      | false=>rfl
      | true=>
       have hm:b∈bl st:=by simpa using hc
       obtain⟨k,hk⟩:=List.getElem?_of_mem hm
       have:=HL.out.low k b hk
       omega
    clear HD
    go_wp2_with fail
    refine(rb st HL.out (r:Int) _ (by omega) (by omega)).mono ?_;rintro e w' ⟨rfl,hb⟩
    have HS:w.heap.size<(wr.iterAt w.heap.size s (i+n)).heap.size:=(Array.getElem?_eq_some_iff.1 HH2.out).1
    have HB3:Hid (Below w.heap.size w w'):=Gv HB2.out hb HB2.out.size
    have HH3:Hid (w'.heap[w.heap.size]?=some (.stringIter s (i+n))):=(hb.block _ HS).trans HH2.out
    clear hb
    go_wp2_with fail
    go_roundg (g+1-n)
    case measure=>omega
    case rel=>exact⟨i+n,by omega,HH3,HB3,HN2⟩
theorem Dn (st:BA)(hL:kP st)(s:BA)(w:World)(hs:s.size≤4294967280):
  Calls Tryz.prog 217 #[.string s,.string st] w fun e w'=>e=.returned (.int .i64 (Lib.indexAny (bl s) (bl st)))∧Below w.heap.size w w':=by
 by_cases h8:s.size≤8
 ·exact pM st hL s w h8
 ·refine(Tryz.strings_IndexAny_long (by intro w;kernel_rfl) s st w (by have:=hL.two;omega) (by omega) (by omega) (by have:=hL.four;omega) (fun j b h=>hL.low j b h)).mono ?_
  rintro e w' ⟨rfl,rfl⟩
  refine⟨rfl,?_⟩
  have h1:Below w.heap.size w (w.alloc (.cells (Lib.setCells st.data.toList) 274)):=bR.alloc lr _
  exact h1.alloc (by simp) _
theorem nB (st:BA)(hL:kP st)(s:BA)(w:World)(hs:s.size≤4294967280):
  Calls Tryz.prog 195 #[.string s,.string st] w fun e w'=>e=.returned (.bool (Lib.containsAny (bl s) (bl st)))∧Below w.heap.size w w':=by
 obtain⟨v,hv⟩:∃ v:Int,Lib.indexAny (bl s) (bl st)=v:=⟨_,rfl⟩
 have E:Hid (Lib.containsAny (bl s) (bl st)=decide (0≤v)):=by show _=_;unfold Lib.containsAny;rw[hv]
 have hI:=fun W=>Dn st hL s W hs
 rw[hv] at hI
 have HI:=ae hI
 clear hv hI
 go_enter Tryz.func195,Tryz.ntmps195
 go_wp2_with fail
 refine(HI.out _).mono ?_;rintro e w' ⟨rfl,hb⟩
 by_cases h:0≤v
 ·go_wp2_with fail
  go_ret
  exact⟨af (by rw[E.out]<;>simp[h]),hb⟩
 ·go_wp2_with fail
  go_ret
  exact⟨af (by rw[E.out]<;>simp[h]),hb⟩
end
section
open Go.RowKit
def gI:LU→Bool
 | a::_::_=>a==48
 | _=>false
theorem tK (s:BA)(h:¬ 1<s.size):gI (bl s)=false:=by
 have hl:=ah s
 cases hb:bl s with
 | nil=>rfl
 | cons a r=>cases r with
  | nil=>rfl
  | cons b r=>rw[hb] at hl;simp at hl;omega
theorem vT (s:BA)(h:1<s.size):gI (bl s)=(s[0]==48):=by
 have hl:=ah s
 have h0:=fI s (by omega)
 cases hb:(bl s).tail with
 | nil=>rw[h0,hb] at hl;simp at hl;omega
 | cons b r=>rw[h0,hb];rfl
theorem Mt (a:UInt8):(((a.toNat:Nat):Int)==48)=(a==48):=by
 rw[bI];simp[←UInt8.toNat_inj];omega
theorem ri (s:BA)(w:World)(hs:s.size≤9223372036854775807):
  Calls Tryz.prog 164 #[.string s] w fun e w'=>e=.returned (.bool (gI (bl s)))∧w=w':=by
 by_cases h:1<s.size
 ·have h0:0<s.size:=by omega
  have HN:=ae (vT s h)
  go_enter Tryz.func164,Tryz.ntmps164
  go_wp2
  go_ret
  exact⟨af (by rw[HN.out,Mt]),rfl⟩
 ·have HN:=ae (tK s h)
  go_enter Tryz.func164,Tryz.ntmps164
  go_wp2
  go_ret
  exact⟨af HN.out.symm,rfl⟩
theorem ek (s:BA)(b:Bool)(w:World)(hs:s.size≤9223372036854775807)(h:Hid (gI (bl s)=b)):
  Calls Tryz.prog 164 #[.string s] w fun e w'=>e=.returned (.bool b)∧w=w':=by rw[←h.out];exact ri s w hs
def rO:LU:=[46,95,43,126,94]
def vU (l:LU):Option (LU×LU):=
 if (Lib.cut l [58]).2.2=true then (if jY (Lib.cut l [58]).1=true∧(Lib.cut l [58]).1.length≤9∧gI (Lib.cut l [58]).1=false then some ((Lib.cut l [58]).1,(Lib.cut l [58]).2.1) else none) else some ([],l)
def xR (p:LU):Option (LU×LU):=
 if (bB rO (Lib.cut p [45]).1&&bB rO (Lib.cut p [45]).2.1)=true then some ((Lib.cut p [45]).1,(Lib.cut p [45]).2.1) else none
def gZ (l:LU):Option (LU×LU×LU):=
 match vU l with
 | none=>none
 | some (ep,p)=>(xR p).map fun r=>(ep,r.1,r.2)
theorem jJ (ep p:LU)(a b:Bool)(ha:bB rO (Lib.cut p [45]).1=a)(hb:bB rO (Lib.cut p [45]).2.1=b):
  (xR p).map (fun r=>(ep,r.1,r.2))=if (a&&b)=true then some (ep,(Lib.cut p [45]).1,(Lib.cut p [45]).2.1) else none:=by
 unfold xR;rw[ha,hb];split<;>rfl
theorem nF (s:BA)(w:World)(hG:Gl w)(hs:s.size≤64)(hk:vD s ⟨#[58]⟩=false):
  Calls Tryz.prog 121 #[.string s] w (bT (gZ (bl s)) w):=by
 have HG:=ae hG;clear hG
 have HE:Hid (gZ (bl s)=(xR (bl s)).map fun r=>([],r.1,r.2)):=by
  show _=_;unfold gZ vU;rw[show(Lib.cut (bl s) [58]).2.2=false from hk];rfl
 have z1:=qn s ⟨#[45]⟩
 have z2:=qo s ⟨#[45]⟩
 cases ha:bB rO (bl (gf s ⟨#[45]⟩))
 ·have HA:=ae ha;clear ha
  go_enter Tryz.func121,Tryz.ntmps121
  go_wp2_with fail
  refine(bH s ⟨#[58]⟩ _ HG.out (by omega)).mono ?_;rintro e w1 ⟨rfl,hb1⟩
  go_wp2_with fail
  refine(bH s ⟨#[45]⟩ _ (by exact HG.out.below hb1) (by omega)).mono ?_;rintro e w2 ⟨rfl,hb2⟩
  go_wp2_with fail
  refine(aB (gf s ⟨#[45]⟩) ⟨#[46,95,43,126,94]⟩ false _ (by omega) (by exact HA)).mono ?_;rintro e w3 ⟨rfl,hb3⟩
  go_wp2_with fail
  refine bodyPost_ret (aF rfl _ _ _) rfl ?_
  exact⟨⟨#[]⟩,gf s ⟨#[45]⟩,kg s ⟨#[45]⟩,false,rfl,by rw[HE.out,jJ _ _ false (bB rO (bl (kg s ⟨#[45]⟩))) (by rw[←HA.out,dE];rfl) (by rw[fJ];rfl)];rfl,by decide,by omega,by omega,ap (ap hb1 hb2) hb3⟩
 ·have HA:=ae ha;clear ha
  cases hb:bB rO (bl (kg s ⟨#[45]⟩))
  ·have HV:=ae hb;clear hb
   go_enter Tryz.func121,Tryz.ntmps121
   go_wp2_with fail
   refine(bH s ⟨#[58]⟩ _ HG.out (by omega)).mono ?_;rintro e w1 ⟨rfl,hb1⟩
   go_wp2_with fail
   refine(bH s ⟨#[45]⟩ _ (by exact HG.out.below hb1) (by omega)).mono ?_;rintro e w2 ⟨rfl,hb2⟩
   go_wp2_with fail
   refine(aB (gf s ⟨#[45]⟩) ⟨#[46,95,43,126,94]⟩ true _ (by omega) (by exact HA)).mono ?_;rintro e w3 ⟨rfl,hb3⟩
   go_wp2_with fail
   refine(aB (kg s ⟨#[45]⟩) ⟨#[46,95,43,126,94]⟩ false _ (by omega) (by exact HV)).mono ?_;rintro e w4 ⟨rfl,hb4⟩
   go_wp2_with fail
   refine bodyPost_ret (aF rfl _ _ _) rfl ?_
   exact⟨⟨#[]⟩,gf s ⟨#[45]⟩,kg s ⟨#[45]⟩,false,rfl,by rw[HE.out,jJ _ _ true false (by rw[←HA.out,dE];rfl) (by rw[←HV.out,fJ];rfl)];rfl,by decide,by omega,by omega,ap (ap (ap hb1 hb2) hb3) hb4⟩
  ·have HV:=ae hb;clear hb
   go_enter Tryz.func121,Tryz.ntmps121
   go_wp2_with fail
   refine(bH s ⟨#[58]⟩ _ HG.out (by omega)).mono ?_;rintro e w1 ⟨rfl,hb1⟩
   go_wp2_with fail
   refine(bH s ⟨#[45]⟩ _ (by exact HG.out.below hb1) (by omega)).mono ?_;rintro e w2 ⟨rfl,hb2⟩
   go_wp2_with fail
   refine(aB (gf s ⟨#[45]⟩) ⟨#[46,95,43,126,94]⟩ true _ (by omega) (by exact HA)).mono ?_;rintro e w3 ⟨rfl,hb3⟩
   go_wp2_with fail
   refine(aB (kg s ⟨#[45]⟩) ⟨#[46,95,43,126,94]⟩ true _ (by omega) (by exact HV)).mono ?_;rintro e w4 ⟨rfl,hb4⟩
   go_wp2_with fail
   refine bodyPost_ret (aF rfl _ _ _) rfl ?_
   exact⟨⟨#[]⟩,gf s ⟨#[45]⟩,kg s ⟨#[45]⟩,true,rfl,by rw[HE.out,jJ _ _ true true (by rw[←HA.out,dE];rfl) (by rw[←HV.out,fJ];rfl)];simp only[Bool.and_self,if_true,dE,fJ];rfl,by decide,by omega,by omega,ap (ap (ap hb1 hb2) hb3) hb4⟩
theorem nG (s t u:BA)(w:World)(hG:Gl w)(hs:s.size≤64)(hk:vD s ⟨#[58]⟩=true)(ht:t=kg s ⟨#[58]⟩)(hu:u=gf s ⟨#[58]⟩)
  (hn:jY (bl u)=true)(hl:u.size≤9)(ho:gI (bl u)=false):
  Calls Tryz.prog 121 #[.string s] w (bT (gZ (bl s)) w):=by
 have HG:=ae hG;clear hG
 have HE:Hid (gZ (bl s)=(xR (bl t)).map fun r=>(bl u,r.1,r.2)):=by
  show _=_;unfold gZ vU
  have e1:bl u=(Lib.cut (bl s) [58]).1:=by rw[hu,dE];rfl
  have e2:bl t=(Lib.cut (bl s) [58]).2.1:=by rw[ht,fJ];rfl
  rw[show(Lib.cut (bl s) [58]).2.2=true from hk,if_pos rfl,←e1,←e2,if_pos ⟨hn,by rw[ah];exact hl,ho⟩]
 have hts:t.size≤64:=by have:=qo s ⟨#[58]⟩;rw[ht];omega
 have HN:=ae hn;have HO:=ae ho;clear hn ho
 have ht':=ht.symm;have hu':=hu.symm;clear ht hu
 have z1:=qn t ⟨#[45]⟩
 have z2:=qo t ⟨#[45]⟩
 cases ha:bB rO (bl (gf t ⟨#[45]⟩))
 ·have HA:=ae ha;clear ha
  go_enter Tryz.func121,Tryz.ntmps121
  go_wp2_with fail
  refine(bH s ⟨#[58]⟩ _ HG.out (by omega)).mono ?_;rintro e w1 ⟨rfl,hb1⟩
  go_wp2_with fail
  refine(aO _ _ _ (by omega) HN).mono ?_;rintro e w1' ⟨rfl,rfl⟩
  go_wp2_with fail
  refine(ek _ _ _ (by omega) HO).mono ?_;rintro e w1' ⟨rfl,rfl⟩
  go_wp2_with fail
  refine(bH t ⟨#[45]⟩ _ (by exact HG.out.below hb1) (by omega)).mono ?_;rintro e w2 ⟨rfl,hb2⟩
  go_wp2_with fail
  refine(aB (gf t ⟨#[45]⟩) ⟨#[46,95,43,126,94]⟩ false _ (by omega) (by exact HA)).mono ?_;rintro e w3 ⟨rfl,hb3⟩
  go_wp2_with fail
  refine bodyPost_ret (aF rfl _ _ _) rfl ?_
  exact⟨u,gf t ⟨#[45]⟩,kg t ⟨#[45]⟩,false,rfl,by rw[HE.out,jJ _ _ false (bB rO (bl (kg t ⟨#[45]⟩))) (by rw[←HA.out,dE];rfl) (by rw[fJ];rfl)];rfl,by omega,by omega,by omega,ap (ap hb1 hb2) hb3⟩
 ·have HA:=ae ha;clear ha
  cases hb:bB rO (bl (kg t ⟨#[45]⟩))
  ·have HV:=ae hb;clear hb
   go_enter Tryz.func121,Tryz.ntmps121
   go_wp2_with fail
   refine(bH s ⟨#[58]⟩ _ HG.out (by omega)).mono ?_;rintro e w1 ⟨rfl,hb1⟩
   go_wp2_with fail
   refine(aO _ _ _ (by omega) HN).mono ?_;rintro e w1' ⟨rfl,rfl⟩
   go_wp2_with fail
   refine(ek _ _ _ (by omega) HO).mono ?_;rintro e w1' ⟨rfl,rfl⟩
   go_wp2_with fail
   refine(bH t ⟨#[45]⟩ _ (by exact HG.out.below hb1) (by omega)).mono ?_;rintro e w2 ⟨rfl,hb2⟩
   go_wp2_with fail
   refine(aB (gf t ⟨#[45]⟩) ⟨#[46,95,43,126,94]⟩ true _ (by omega) (by exact HA)).mono ?_;rintro e w3 ⟨rfl,hb3⟩
   go_wp2_with fail
   refine(aB (kg t ⟨#[45]⟩) ⟨#[46,95,43,126,94]⟩ false _ (by omega) (by exact HV)).mono ?_;rintro e w4 ⟨rfl,hb4⟩
   go_wp2_with fail
   refine bodyPost_ret (aF rfl _ _ _) rfl ?_
   exact⟨u,gf t ⟨#[45]⟩,kg t ⟨#[45]⟩,false,rfl,by rw[HE.out,jJ _ _ true false (by rw[←HA.out,dE];rfl) (by rw[←HV.out,fJ];rfl)];rfl,by omega,by omega,by omega,ap (ap (ap hb1 hb2) hb3) hb4⟩
  ·have HV:=ae hb;clear hb
   go_enter Tryz.func121,Tryz.ntmps121
   go_wp2_with fail
   refine(bH s ⟨#[58]⟩ _ HG.out (by omega)).mono ?_;rintro e w1 ⟨rfl,hb1⟩
   go_wp2_with fail
   refine(aO _ _ _ (by omega) HN).mono ?_;rintro e w1' ⟨rfl,rfl⟩
   go_wp2_with fail
   refine(ek _ _ _ (by omega) HO).mono ?_;rintro e w1' ⟨rfl,rfl⟩
   go_wp2_with fail
   refine(bH t ⟨#[45]⟩ _ (by exact HG.out.below hb1) (by omega)).mono ?_;rintro e w2 ⟨rfl,hb2⟩
   go_wp2_with fail
   refine(aB (gf t ⟨#[45]⟩) ⟨#[46,95,43,126,94]⟩ true _ (by omega) (by exact HA)).mono ?_;rintro e w3 ⟨rfl,hb3⟩
   go_wp2_with fail
   refine(aB (kg t ⟨#[45]⟩) ⟨#[46,95,43,126,94]⟩ true _ (by omega) (by exact HV)).mono ?_;rintro e w4 ⟨rfl,hb4⟩
   go_wp2_with fail
   refine bodyPost_ret (aF rfl _ _ _) rfl ?_
   exact⟨u,gf t ⟨#[45]⟩,kg t ⟨#[45]⟩,true,rfl,by rw[HE.out,jJ _ _ true true (by rw[←HA.out,dE];rfl) (by rw[←HV.out,fJ];rfl)];simp only[Bool.and_self,if_true,dE,fJ];rfl,by omega,by omega,by omega,ap (ap (ap hb1 hb2) hb3) hb4⟩
theorem nH (s u:BA)(w:World)(hG:Gl w)(hs:s.size≤64)(hk:vD s ⟨#[58]⟩=true)(hu:u=gf s ⟨#[58]⟩)
  (hn:¬ (jY (bl u)=true∧u.size≤9∧gI (bl u)=false)):
  Calls Tryz.prog 121 #[.string s] w (bT (gZ (bl s)) w):=by
 have HG:=ae hG;clear hG
 have HE:Hid (gZ (bl s)=none):=by
  show _=_;unfold gZ vU
  have e1:bl u=(Lib.cut (bl s) [58]).1:=by rw[hu,dE];rfl
  rw[show(Lib.cut (bl s) [58]).2.2=true from hk,if_pos rfl,←e1,if_neg (by rw[ah];exact hn)]
 have hus:u.size≤64:=by have:=qn s ⟨#[58]⟩;rw[hu];omega
 have hu':=hu.symm;clear hu
 cases hb:jY (bl u)
 ·have HN:=ae hb;clear hb hn
  go_enter Tryz.func121,Tryz.ntmps121
  go_wp2_with fail
  refine(bH s ⟨#[58]⟩ _ HG.out (by omega)).mono ?_;rintro e w1 ⟨rfl,hb1⟩
  go_wp2_with fail
  refine(aO _ _ _ (by omega) HN).mono ?_;rintro e w1' ⟨rfl,rfl⟩
  go_wp2_with fail
  refine bodyPost_ret (aF rfl _ _ _) rfl ?_
  exact bT.no HE.out hb1
 ·by_cases hl:u.size≤9
  ·have ho:gI (bl u)=true:=by cases h:gI (bl u) with | true=>rfl | false=>exact absurd ⟨hb,hl,h⟩ hn
   have HN:=ae hb;have HO:=ae ho;clear hb hn ho
   go_enter Tryz.func121,Tryz.ntmps121
   go_wp2_with fail
   refine(bH s ⟨#[58]⟩ _ HG.out (by omega)).mono ?_;rintro e w1 ⟨rfl,hb1⟩
   go_wp2_with fail
   refine(aO _ _ _ (by omega) HN).mono ?_;rintro e w1' ⟨rfl,rfl⟩
   go_wp2_with fail
   refine(ek _ _ _ (by omega) HO).mono ?_;rintro e w1' ⟨rfl,rfl⟩
   go_wp2_with fail
   refine bodyPost_ret (aF rfl _ _ _) rfl ?_
   exact bT.no HE.out hb1
  ·have HN:=ae hb;clear hb hn
   go_enter Tryz.func121,Tryz.ntmps121
   go_wp2_with fail
   refine(bH s ⟨#[58]⟩ _ HG.out (by omega)).mono ?_;rintro e w1 ⟨rfl,hb1⟩
   go_wp2_with fail
   refine(aO _ _ _ (by omega) HN).mono ?_;rintro e w1' ⟨rfl,rfl⟩
   go_wp2_with fail
   refine bodyPost_ret (aF rfl _ _ _) rfl ?_
   exact bT.no HE.out hb1
theorem oG (s:BA)(w:World)(hG:Gl w)(hs:s.size≤64):
  Calls Tryz.prog 121 #[.string s] w (bT (gZ (bl s)) w):=by
 cases hk:vD s ⟨#[58]⟩
 ·exact nF s w hG hs hk
 ·by_cases hn:jY (bl (gf s ⟨#[58]⟩))=true∧(gf s ⟨#[58]⟩).size≤9∧gI (bl (gf s ⟨#[58]⟩))=false
  ·exact nG s _ _ w hG hs hk rfl rfl hn.1 hn.2.1 hn.2.2
  ·exact nH s _ w hG hs hk rfl hn
theorem nI (s:BA)(w:World)(hG:Gl w)(hs:s.size≤64):
  Calls Tryz.prog 82 #[.int .i64 2,.string s] w (nu (gZ (bl s)) w):=by
 have HG:=ae hG;clear hG
 go_enter Tryz.func82,Tryz.ntmps82
 go_wp2_with fail
 refine(oG s _ HG.out hs).mono ?_
 rintro e w1 ⟨ep,pr,rv,ok,rfl,hr,h1,h2,h3,hb1⟩
 have HR:=ae hr;clear hr
 cases ok
 ·go_wp2_with fail
  refine bodyPost_ret (aF rfl _ _ _) rfl ?_
  exact⟨⟨#[]⟩,⟨#[]⟩,⟨#[]⟩,3,rfl,by rw[HR.out];exact⟨rfl,rfl,rfl,rfl⟩,hb1⟩
 ·go_wp2_with fail
  refine bodyPost_ret (aF rfl _ _ _) rfl ?_
  exact⟨ep,pr,rv,0,rfl,by rw[HR.out];exact⟨rfl,rfl,rfl,rfl⟩,hb1⟩
theorem MY {a:Nat}{b:Int}(h:(a:Int)≠b):((a:Int) != b)=true:=by simp[bne,h]
def Mx:LU→Bool
 | c::_=>jz c
 | []=>false
theorem DE (l:LU):cR l=(decide (1≤l.length∧l.length≤64)&&Mx l&&l.all gO):=by cases l<;>rfl
def dZ (c:UInt8):Bool:=jE c||cv c||c==46||c==95||c==43||c==45||c==47||c==58
def oK (c:UInt8):Bool:=jE c||cv c||c==47
def rx:LU→Bool
 | c::_=>oK c
 | []=>false
def cD (o:Option Nat)(c:UInt8):Option Nat:=match o with
 | none=>none
 | some n=>if c==40 then some (n+1) else if c==41 then (if n=0 then none else some (n-1)) else if dZ c then some n else none
def di (l:LU):Bool:=decide (1≤l.length∧l.length≤64)&&rx l&&decide (l.foldl cD (some 0)=some 0)
theorem ry:∀ l:LU,l.foldl cD none=none
 | []=>rfl
 | _::r=>ry r
theorem rz {α:Type}(f:α→UInt8→α)(z:α)(s:BA)(k:Nat)(h:k<s.size):((bl s).take (k+1)).foldl f z=f (((bl s).take k).foldl f z) s[k]:=by
 rw[tS (by rw[ah];exact h),List.foldl_append,jt s k h];rfl
theorem oL (s:BA)(k n:Nat)(h:k<s.size)(h0:((bl s).take k).foldl cD (some 0)=some n)(h1:cD (some n) s[k]=none):di (bl s)=false:=by
 have h2:=rz cD (some 0) s k h
 rw[h0,h1] at h2
 have:(bl s).foldl cD (some 0)=none:=by
  rw[←List.take_append_drop (k+1) (bl s),List.foldl_append,h2,ry]
 unfold di;rw[this];simp
theorem mK (s:BA)(k n m:Nat)(h:k<s.size)(h0:((bl s).take k).foldl cD (some 0)=some n)(h1:cD (some n) s[k]=some m):((bl s).take (k+1)).foldl cD (some 0)=some m:=by
 rw[rz cD (some 0) s k h,h0,h1]
theorem oM (s:BA)(k n:Nat)(h:¬ k<s.size)(h0:((bl s).take k).foldl cD (some 0)=some n)(h1:1≤s.size)(h2:s.size≤64)(h3:rx (bl s)=true):di (bl s)=decide (n=0):=by
 rw[tL (by rw[ah];omega)] at h0
 unfold di;rw[h0,h3,ah,dT ⟨h1,h2⟩];simp
theorem mL (s:BA)(h:¬ (1≤s.size∧s.size≤64)):di (bl s)=false:=by
 unfold di;rw[ah,dF h];rfl
theorem Aj (s:BA)(h:rx (bl s)=false):di (bl s)=false:=by
 unfold di;rw[h];simp
theorem DF (s:BA)(h:0<s.size):rx (bl s)=oK s[0]:=by rw[fI s h];rfl
theorem rA (c:UInt8)(h1:jE c=false)(h2:cv c=false):(bl ⟨#[46,95,43,45,47,58]⟩).contains c=dZ c:=by
 exact jI (fun c=>jE c||cv c||((bl ⟨#[46,95,43,45,47,58]⟩).contains c==dZ c)) (by kernel_rfl) c |> fun hh=>by simpa [h1,h2] using hh
theorem bD (c:UInt8)(w:World):Calls Tryz.prog 183 #[.int .u8 c.toNat] w fun e w'=>e=.returned (.bool (jE c))∧w=w':=by
 go_enter Tryz.func183,Tryz.ntmps183
 go_wp2_with fail
 all_goals go_ret
 all_goals (refine⟨af ?_,rfl⟩;rw[bI];simp[jE,gK,Jl];omega)
theorem cH (c:UInt8)(w:World):Calls Tryz.prog 184 #[.int .u8 c.toNat] w fun e w'=>e=.returned (.bool (cv c))∧w=w':=by
 go_enter Tryz.func184,Tryz.ntmps184
 go_wp2_with fail
 all_goals go_ret
 all_goals (refine⟨af ?_,rfl⟩;rw[bI];simp[cv];omega)
theorem oN (s:BA)(w:World)(hs:s.size≤9223372036854775807):
  Calls Tryz.prog 235 #[.string s] w fun e w'=>e=.returned (.bool (cQ (bl s)))∧w=w':=by
 have hb:=ah s
 have HB:=ae hb;clear hb
 by_cases h3:s.size≤32
 ·go_enter Tryz.func235,Tryz.ntmps235
  go_wp2_with (go_at_call 81;refine(uu s _ _ hs).mono ?_;rintro e w' ⟨rfl,rfl⟩)
  go_ret
  exact⟨af (by unfold cQ;rw[HB.out,dT h3];simp[bl]),rfl⟩
 ·go_enter Tryz.func235,Tryz.ntmps235
  go_wp2_with fail
  go_ret
  exact⟨af (by unfold cQ;rw[HB.out,dF h3];simp),rfl⟩
theorem lK (s:BA)(w:World)(hs:s.size≤9223372036854775807):
  Calls Tryz.prog 129 #[.string s] w fun e w'=>e=.returned (.bool (di (bl s)))∧w=w':=by
 by_cases h0:s.size=0
 ·have he:s.toList=[]:=by rw[ai,bL s h0]
  have he2:s.toList.isEmpty=true:=by rw[he];rfl
  have E:Hid (di (bl s)=false):=mL s (by omega)
  go_enter Tryz.func129,Tryz.ntmps129
  go_wp2_with fail
  go_ret
  exact⟨af E.out.symm,rfl⟩
 have hp:0<s.size:=by omega
 have he2:s.toList.isEmpty=false:=by rw[ai,aY];exact dF h0
 have he:¬ s.toList=[]:=by intro h;rw[h] at he2;simp at he2
 by_cases h64:64<s.size
 ·have E:Hid (di (bl s)=false):=mL s (by omega)
  go_enter Tryz.func129,Tryz.ntmps129
  go_wp2_with fail
  go_ret
  exact⟨af E.out.symm,rfl⟩
 have h64':decide (64<(s.size:Int))=false:=dF (by omega)
 obtain⟨c0,hc0⟩:∃ c0:UInt8,s[0]=c0:=⟨_,rfl⟩
 have HH:=ae (DF s hp)
 rw[hc0] at HH
 cases hl:jE c0 with
 | true=>
  have HD:Hid (rx (bl s)=true):=by show _=_;rw[HH.out];simp[oK,hl]
  have hL:=fun W=>bD c0 W
  rw[hl] at hL
  clear hl
  go_enter Tryz.func129,Tryz.ntmps129
  go_wp2_with fail
  refine(hL _).mono ?_;rintro e w' ⟨rfl,rfl⟩
  go_wp2_with fail
  clear hL
  go_loop [3,32] (fun o i=>∃ k n:Nat,k≤s.size∧n≤k∧o=.int .i64 n∧i=.int .i64 k∧Hid (((bl s).take k).foldl cD (some 0)=some n)) (fun _ i=>s.size-(intOf i).toNat)
  case atStart=>exact⟨0,0,z0,lr,rfl,rfl,by simp[Hid]⟩
  case round=>
   obtain⟨k,n,hk,hn,rfl,rfl,HA⟩:=hrel
   by_cases hlt:k<s.size
   ·obtain⟨c,hc⟩:∃ c:UInt8,s[k]=c:=⟨_,rfl⟩
    have NX:=ae (fun m=>mK s k n m hlt HA.out)
    have BD:=ae (oL s k n hlt HA.out)
    rw[hc] at NX BD
    have hcc:∀ n:UInt8,c=n↔c.toNat=n.toNat:=fun n=>UInt8.toNat_inj.symm
    by_cases c40:c.toNat=40
    ·have e40:(c==40)=true:=by rw[beq_iff_eq,hcc];exact c40
     have HN:=ae (NX.out (n+1) (by simp[cD,e40]))
     clear e40 hcc
     go_wp2_with fail
     go_round
     case rel=>exact⟨k+1,n+1,by omega,by omega,by go_num,by go_num,HN⟩
     case measure=>simp[intOf];omega
    have e40:(c==40)=false:=by rw[bF,ne_eq,hcc];exact c40
    by_cases c41:c.toNat=41
    ·have e41:(c==41)=true:=by rw[beq_iff_eq,hcc];exact c41
     by_cases n0:n=0
     ·have E:=ae (BD.out (by simp[cD,e40,e41,n0]))
      subst n0
      clear e40 e41 hcc
      go_wp2_with fail
      go_ret
      exact⟨af E.out.symm,rfl⟩
     ·have HN:=ae (NX.out (n-1) (by simp[cD,e40,e41,n0]))
      obtain⟨m,rfl⟩:∃ m,n=m+1:=⟨n-1,by omega⟩
      clear e40 e41 hcc
      go_wp2_with fail
      go_round
      case rel=>exact⟨k+1,m,by omega,by omega,by go_num,by go_num,HN⟩
      case measure=>simp[intOf];omega
    have e41:(c==41)=false:=by rw[bF,ne_eq,hcc];exact c41
    cases hl:jE c with
    | true=>
     have ho:dZ c=true:=by simp[dZ,hl]
     have HN:=ae (NX.out (n) (by simp[cD,e40,e41,ho]))
     have hL:=fun W=>bD c W
     rw[hl] at hL
     clear hl ho e40 e41 hcc
     go_wp2_with fail
     refine(hL _).mono ?_;rintro e w' ⟨rfl,rfl⟩
     go_wp2_with fail
     go_round
     case rel=>exact⟨k+1,n,by omega,by omega,by go_num,by go_num,HN⟩
     case measure=>simp[intOf];omega
    | false=>
     cases hd:cv c with
     | true=>
      have ho:dZ c=true:=by simp[dZ,hd]
      have HN:=ae (NX.out (n) (by simp[cD,e40,e41,ho]))
      have hL:=fun W=>bD c W
      rw[hl] at hL
      have hD:=fun W=>cH c W
      rw[hd] at hD
      clear hl hd ho e40 e41 hcc
      go_wp2_with fail
      refine(hL _).mono ?_;rintro e w' ⟨rfl,rfl⟩
      go_wp2_with fail
      refine(hD _).mono ?_;rintro e w' ⟨rfl,rfl⟩
      go_wp2_with fail
      go_round
      case rel=>exact⟨k+1,n,by omega,by omega,by go_num,by go_num,HN⟩
      case measure=>simp[intOf];omega
     | false=>
      have hco:=rA c hl hd
      cases ho:dZ c with
      | true=>
       have hx:=fN ⟨#[46,95,43,45,47,58]⟩ c (by rw[hco,ho])
       have HN:=ae (NX.out (n) (by simp[cD,e40,e41,ho]))
       have hL:=fun W=>bD c W
       rw[hl] at hL
       have hD:=fun W=>cH c W
       rw[hd] at hD
       clear hl hd ho hco e40 e41 hcc
       go_wp2_with fail
       refine(hL _).mono ?_;rintro e w' ⟨rfl,rfl⟩
       go_wp2_with fail
       refine(hD _).mono ?_;rintro e w' ⟨rfl,rfl⟩
       go_wp2_with fail
       refine(aQ _ c _).mono ?_;rintro e w' ⟨rfl,rfl⟩
       go_wp2_with fail
       go_round
       case rel=>exact⟨k+1,n,by omega,by omega,by go_num,by go_num,HN⟩
       case measure=>simp[intOf];omega
      | false=>
       have hx:=eY ⟨#[46,95,43,45,47,58]⟩ c (by rw[hco,ho])
       have E:=ae (BD.out (by simp[cD,e40,e41,ho]))
       have hL:=fun W=>bD c W
       rw[hl] at hL
       have hD:=fun W=>cH c W
       rw[hd] at hD
       clear hl hd ho hco e40 e41 hcc
       go_wp2_with fail
       refine(hL _).mono ?_;rintro e w' ⟨rfl,rfl⟩
       go_wp2_with fail
       refine(hD _).mono ?_;rintro e w' ⟨rfl,rfl⟩
       go_wp2_with fail
       refine(aQ _ c _).mono ?_;rintro e w' ⟨rfl,rfl⟩
       go_wp2_with fail
       go_ret
       exact⟨af E.out.symm,rfl⟩
   ·have E:=ae (oM s k n hlt HA.out (by omega) (by omega) HD.out)
    go_wp2_with fail
    go_ret
    exact⟨af (by rw[E.out,bI];simp),rfl⟩
 | false=>
  cases hd:cv c0 with
  | true=>
   have HD:Hid (rx (bl s)=true):=by show _=_;rw[HH.out];simp[oK,hd]
   have hL:=fun W=>bD c0 W
   rw[hl] at hL
   have hD:=fun W=>cH c0 W
   rw[hd] at hD
   clear hl hd
   go_enter Tryz.func129,Tryz.ntmps129
   go_wp2_with fail
   refine(hL _).mono ?_;rintro e w' ⟨rfl,rfl⟩
   go_wp2_with fail
   refine(hD _).mono ?_;rintro e w' ⟨rfl,rfl⟩
   go_wp2_with fail
   clear hL hD
   go_loop [3,32] (fun o i=>∃ k n:Nat,k≤s.size∧n≤k∧o=.int .i64 n∧i=.int .i64 k∧Hid (((bl s).take k).foldl cD (some 0)=some n)) (fun _ i=>s.size-(intOf i).toNat)
   case atStart=>exact⟨0,0,z0,lr,rfl,rfl,by simp[Hid]⟩
   case round=>
    obtain⟨k,n,hk,hn,rfl,rfl,HA⟩:=hrel
    by_cases hlt:k<s.size
    ·obtain⟨c,hc⟩:∃ c:UInt8,s[k]=c:=⟨_,rfl⟩
     have NX:=ae (fun m=>mK s k n m hlt HA.out)
     have BD:=ae (oL s k n hlt HA.out)
     rw[hc] at NX BD
     have hcc:∀ n:UInt8,c=n↔c.toNat=n.toNat:=fun n=>UInt8.toNat_inj.symm
     by_cases c40:c.toNat=40
     ·have e40:(c==40)=true:=by rw[beq_iff_eq,hcc];exact c40
      have HN:=ae (NX.out (n+1) (by simp[cD,e40]))
      clear e40 hcc
      go_wp2_with fail
      go_round
      case rel=>exact⟨k+1,n+1,by omega,by omega,by go_num,by go_num,HN⟩
      case measure=>simp[intOf];omega
     have e40:(c==40)=false:=by rw[bF,ne_eq,hcc];exact c40
     by_cases c41:c.toNat=41
     ·have e41:(c==41)=true:=by rw[beq_iff_eq,hcc];exact c41
      by_cases n0:n=0
      ·have E:=ae (BD.out (by simp[cD,e40,e41,n0]))
       subst n0
       clear e40 e41 hcc
       go_wp2_with fail
       go_ret
       exact⟨af E.out.symm,rfl⟩
      ·have HN:=ae (NX.out (n-1) (by simp[cD,e40,e41,n0]))
       obtain⟨m,rfl⟩:∃ m,n=m+1:=⟨n-1,by omega⟩
       clear e40 e41 hcc
       go_wp2_with fail
       go_round
       case rel=>exact⟨k+1,m,by omega,by omega,by go_num,by go_num,HN⟩
       case measure=>simp[intOf];omega
     have e41:(c==41)=false:=by rw[bF,ne_eq,hcc];exact c41
     cases hl:jE c with
     | true=>
      have ho:dZ c=true:=by simp[dZ,hl]
      have HN:=ae (NX.out (n) (by simp[cD,e40,e41,ho]))
      have hL:=fun W=>bD c W
      rw[hl] at hL
      clear hl ho e40 e41 hcc
      go_wp2_with fail
      refine(hL _).mono ?_;rintro e w' ⟨rfl,rfl⟩
      go_wp2_with fail
      go_round
      case rel=>exact⟨k+1,n,by omega,by omega,by go_num,by go_num,HN⟩
      case measure=>simp[intOf];omega
     | false=>
      cases hd:cv c with
      | true=>
       have ho:dZ c=true:=by simp[dZ,hd]
       have HN:=ae (NX.out (n) (by simp[cD,e40,e41,ho]))
       have hL:=fun W=>bD c W
       rw[hl] at hL
       have hD:=fun W=>cH c W
       rw[hd] at hD
       clear hl hd ho e40 e41 hcc
       go_wp2_with fail
       refine(hL _).mono ?_;rintro e w' ⟨rfl,rfl⟩
       go_wp2_with fail
       refine(hD _).mono ?_;rintro e w' ⟨rfl,rfl⟩
       go_wp2_with fail
       go_round
       case rel=>exact⟨k+1,n,by omega,by omega,by go_num,by go_num,HN⟩
       case measure=>simp[intOf];omega
      | false=>
       have hco:=rA c hl hd
       cases ho:dZ c with
       | true=>
        have hx:=fN ⟨#[46,95,43,45,47,58]⟩ c (by rw[hco,ho])
        have HN:=ae (NX.out (n) (by simp[cD,e40,e41,ho]))
        have hL:=fun W=>bD c W
        rw[hl] at hL
        have hD:=fun W=>cH c W
        rw[hd] at hD
        clear hl hd ho hco e40 e41 hcc
        go_wp2_with fail
        refine(hL _).mono ?_;rintro e w' ⟨rfl,rfl⟩
        go_wp2_with fail
        refine(hD _).mono ?_;rintro e w' ⟨rfl,rfl⟩
        go_wp2_with fail
        refine(aQ _ c _).mono ?_;rintro e w' ⟨rfl,rfl⟩
        go_wp2_with fail
        go_round
        case rel=>exact⟨k+1,n,by omega,by omega,by go_num,by go_num,HN⟩
        case measure=>simp[intOf];omega
       | false=>
        have hx:=eY ⟨#[46,95,43,45,47,58]⟩ c (by rw[hco,ho])
        have E:=ae (BD.out (by simp[cD,e40,e41,ho]))
        have hL:=fun W=>bD c W
        rw[hl] at hL
        have hD:=fun W=>cH c W
        rw[hd] at hD
        clear hl hd ho hco e40 e41 hcc
        go_wp2_with fail
        refine(hL _).mono ?_;rintro e w' ⟨rfl,rfl⟩
        go_wp2_with fail
        refine(hD _).mono ?_;rintro e w' ⟨rfl,rfl⟩
        go_wp2_with fail
        refine(aQ _ c _).mono ?_;rintro e w' ⟨rfl,rfl⟩
        go_wp2_with fail
        go_ret
        exact⟨af E.out.symm,rfl⟩
    ·have E:=ae (oM s k n hlt HA.out (by omega) (by omega) HD.out)
     go_wp2_with fail
     go_ret
     exact⟨af (by rw[E.out,bI];simp),rfl⟩
  | false=>
   by_cases h47:c0.toNat=47
   ·have c47:c0=47:=UInt8.toNat_inj.1 h47
    have HD:Hid (rx (bl s)=true):=by show _=_;rw[HH.out];simp[oK,c47]
    clear c47
    have hL:=fun W=>bD c0 W
    rw[hl] at hL
    have hD:=fun W=>cH c0 W
    rw[hd] at hD
    have b47:((c0.toNat:Int) != 47)=false:=by simp[h47]
    clear hl hd h47
    go_enter Tryz.func129,Tryz.ntmps129
    go_wp2_with fail
    refine(hL _).mono ?_;rintro e w' ⟨rfl,rfl⟩
    go_wp2_with fail
    refine(hD _).mono ?_;rintro e w' ⟨rfl,rfl⟩
    go_wp2_with fail
    clear hL hD
    go_loop [3,32] (fun o i=>∃ k n:Nat,k≤s.size∧n≤k∧o=.int .i64 n∧i=.int .i64 k∧Hid (((bl s).take k).foldl cD (some 0)=some n)) (fun _ i=>s.size-(intOf i).toNat)
    case atStart=>exact⟨0,0,z0,lr,rfl,rfl,by simp[Hid]⟩
    case round=>
     obtain⟨k,n,hk,hn,rfl,rfl,HA⟩:=hrel
     by_cases hlt:k<s.size
     ·obtain⟨c,hc⟩:∃ c:UInt8,s[k]=c:=⟨_,rfl⟩
      have NX:=ae (fun m=>mK s k n m hlt HA.out)
      have BD:=ae (oL s k n hlt HA.out)
      rw[hc] at NX BD
      have hcc:∀ n:UInt8,c=n↔c.toNat=n.toNat:=fun n=>UInt8.toNat_inj.symm
      by_cases c40:c.toNat=40
      ·have e40:(c==40)=true:=by rw[beq_iff_eq,hcc];exact c40
       have HN:=ae (NX.out (n+1) (by simp[cD,e40]))
       clear e40 hcc
       go_wp2_with fail
       go_round
       case rel=>exact⟨k+1,n+1,by omega,by omega,by go_num,by go_num,HN⟩
       case measure=>simp[intOf];omega
      have e40:(c==40)=false:=by rw[bF,ne_eq,hcc];exact c40
      by_cases c41:c.toNat=41
      ·have e41:(c==41)=true:=by rw[beq_iff_eq,hcc];exact c41
       by_cases n0:n=0
       ·have E:=ae (BD.out (by simp[cD,e40,e41,n0]))
        subst n0
        clear e40 e41 hcc
        go_wp2_with fail
        go_ret
        exact⟨af E.out.symm,rfl⟩
       ·have HN:=ae (NX.out (n-1) (by simp[cD,e40,e41,n0]))
        obtain⟨m,rfl⟩:∃ m,n=m+1:=⟨n-1,by omega⟩
        clear e40 e41 hcc
        go_wp2_with fail
        go_round
        case rel=>exact⟨k+1,m,by omega,by omega,by go_num,by go_num,HN⟩
        case measure=>simp[intOf];omega
      have e41:(c==41)=false:=by rw[bF,ne_eq,hcc];exact c41
      cases hl:jE c with
      | true=>
       have ho:dZ c=true:=by simp[dZ,hl]
       have HN:=ae (NX.out (n) (by simp[cD,e40,e41,ho]))
       have hL:=fun W=>bD c W
       rw[hl] at hL
       clear hl ho e40 e41 hcc
       go_wp2_with fail
       refine(hL _).mono ?_;rintro e w' ⟨rfl,rfl⟩
       go_wp2_with fail
       go_round
       case rel=>exact⟨k+1,n,by omega,by omega,by go_num,by go_num,HN⟩
       case measure=>simp[intOf];omega
      | false=>
       cases hd:cv c with
       | true=>
        have ho:dZ c=true:=by simp[dZ,hd]
        have HN:=ae (NX.out (n) (by simp[cD,e40,e41,ho]))
        have hL:=fun W=>bD c W
        rw[hl] at hL
        have hD:=fun W=>cH c W
        rw[hd] at hD
        clear hl hd ho e40 e41 hcc
        go_wp2_with fail
        refine(hL _).mono ?_;rintro e w' ⟨rfl,rfl⟩
        go_wp2_with fail
        refine(hD _).mono ?_;rintro e w' ⟨rfl,rfl⟩
        go_wp2_with fail
        go_round
        case rel=>exact⟨k+1,n,by omega,by omega,by go_num,by go_num,HN⟩
        case measure=>simp[intOf];omega
       | false=>
        have hco:=rA c hl hd
        cases ho:dZ c with
        | true=>
         have hx:=fN ⟨#[46,95,43,45,47,58]⟩ c (by rw[hco,ho])
         have HN:=ae (NX.out (n) (by simp[cD,e40,e41,ho]))
         have hL:=fun W=>bD c W
         rw[hl] at hL
         have hD:=fun W=>cH c W
         rw[hd] at hD
         clear hl hd ho hco e40 e41 hcc
         go_wp2_with fail
         refine(hL _).mono ?_;rintro e w' ⟨rfl,rfl⟩
         go_wp2_with fail
         refine(hD _).mono ?_;rintro e w' ⟨rfl,rfl⟩
         go_wp2_with fail
         refine(aQ _ c _).mono ?_;rintro e w' ⟨rfl,rfl⟩
         go_wp2_with fail
         go_round
         case rel=>exact⟨k+1,n,by omega,by omega,by go_num,by go_num,HN⟩
         case measure=>simp[intOf];omega
        | false=>
         have hx:=eY ⟨#[46,95,43,45,47,58]⟩ c (by rw[hco,ho])
         have E:=ae (BD.out (by simp[cD,e40,e41,ho]))
         have hL:=fun W=>bD c W
         rw[hl] at hL
         have hD:=fun W=>cH c W
         rw[hd] at hD
         clear hl hd ho hco e40 e41 hcc
         go_wp2_with fail
         refine(hL _).mono ?_;rintro e w' ⟨rfl,rfl⟩
         go_wp2_with fail
         refine(hD _).mono ?_;rintro e w' ⟨rfl,rfl⟩
         go_wp2_with fail
         refine(aQ _ c _).mono ?_;rintro e w' ⟨rfl,rfl⟩
         go_wp2_with fail
         go_ret
         exact⟨af E.out.symm,rfl⟩
     ·have E:=ae (oM s k n hlt HA.out (by omega) (by omega) HD.out)
      go_wp2_with fail
      go_ret
      exact⟨af (by rw[E.out,bI];simp),rfl⟩
   ·have E:Hid (di (bl s)=false):=Aj s (by rw[HH.out];simp only[oK,hl,hd];simp;intro e;exact h47 (by rw[e];rfl))
    have hL:=fun W=>bD c0 W
    rw[hl] at hL
    have hD:=fun W=>cH c0 W
    rw[hd] at hD
    clear hl hd
    have b47:=MY (b:=47) (by omega:(c0.toNat:Int)≠47)
    go_enter Tryz.func129,Tryz.ntmps129
    go_wp2_with fail
    refine(hL _).mono ?_;rintro e w' ⟨rfl,rfl⟩
    go_wp2_with fail
    refine(hD _).mono ?_;rintro e w' ⟨rfl,rfl⟩
    go_wp2_with fail
    go_ret
    exact⟨af E.out.symm,rfl⟩
def ax.val (f:ax):Value:=.agg #[.string f.path,.int .i64 f.kind,.int .i64 f.mode,.string f.owner,.string f.group,.string f.link,.string f.sum,.bool f.conf]
def cj (fmt:Int)(f:ax):Bool:=decide (0≤f.mode∧f.mode≤4095)&&dN fmt f.owner&&dN fmt f.group&&(if f.kind=3 then decide (f.mode=511)&&fM (bl f.link)&&decide (f.link.size≤200) else decide (f.link.size=0))&&(if f.kind=1 then Gs fmt f.sum&&(!f.conf||decide (fmt≠3)) else decide (f.sum.size=0) && !f.conf)
theorem qf (fmt:Int)(hfmt:fmt=1∨fmt=2∨fmt=3)(f:ax)(w:World)(ho:f.owner.size≤9223372036854775807)(hg:f.group.size≤9223372036854775807)(hl:f.link.size≤9223372036854775807)(hsm:f.sum.size≤9223372036854775807):
  Calls Tryz.prog 89 #[.int .i64 fmt,f.val] w fun e w'=>e=.returned (.bool (cj fmt f))∧Below w.heap.size w w':=by
 have HW:Hid (Below w.heap.size w (w.alloc (.cells #[.string f.path,.int .i64 f.kind,.int .i64 f.mode,.string f.owner,.string f.group,.string f.link,.string f.sum,.bool f.conf] 56))):=bR.alloc lr _
 unfold ax.val
 by_cases hm0:f.mode<0
 ·skip
  have E:Hid (cj fmt f=false):=by show _=_;unfold cj;rw[dF];rfl
  go_enter Tryz.func89,Tryz.ntmps89
  go_wp2_with fail
  go_ret
  exact⟨af (by rw[E.out]),HW.out⟩
 by_cases hm1:4095<f.mode
 ·skip
  have E:Hid (cj fmt f=false):=by show _=_;unfold cj;rw[dF];rfl
  go_enter Tryz.func89,Tryz.ntmps89
  go_wp2_with fail
  go_ret
  exact⟨af (by rw[E.out]),HW.out⟩
 have RM:Hid (decide (0≤f.mode∧f.mode≤4095)=true):=dT (by omega)
 go_enter Tryz.func89,Tryz.ntmps89
 go_wp2_with fail
 refine(jH fmt f.owner _ ho).mono ?_;rintro e w' ⟨rfl,rfl⟩
 cases g1:dN fmt f.owner
 ·skip
  have E:Hid (cj fmt f=false):=by show _=_;unfold cj;rw[g1];simp
  clear g1
  go_wp2_with fail
  go_ret
  exact⟨af (by rw[E.out]),HW.out⟩
 have G1:=ae g1;clear g1
 go_wp2_with fail
 refine(jH fmt f.group _ hg).mono ?_;rintro e w' ⟨rfl,rfl⟩
 cases g2:dN fmt f.group
 ·skip
  have E:Hid (cj fmt f=false):=by show _=_;unfold cj;rw[g2];simp
  clear g2
  go_wp2_with fail
  go_ret
  exact⟨af (by rw[E.out]),HW.out⟩
 have G2:=ae g2;clear g2
 have HWX:=HW.out
 by_cases k3:f.kind=3
 ·have k3':(f.kind==3)=true:=by simpa using k3
  have k1':(f.kind==1)=false:=by simp;omega
  by_cases m5:f.mode=511
  ·have m5':(f.mode != 511)=false:=by simpa [bne] using m5
   have M5:Hid (decide (f.mode=511)=true):=dT m5
   have K3:=ae k3;clear k3 m5
   go_wp2_with fail
   refine(jh f.link _ hl).mono ?_;rintro e w' ⟨rfl,rfl⟩
   cases g3:fM (bl f.link)
   ·skip
    have E:Hid (cj fmt f=false):=by show _=_;unfold cj;rw[if_pos K3.out,g3];simp
    clear g3
    go_wp2_with fail
    go_ret
    exact⟨af (by rw[E.out]),HWX⟩
   have G3:=ae g3;clear g3
   by_cases l2:200<f.link.size
   ·skip
    have E:Hid (cj fmt f=false):=by show _=_;unfold cj;rw[if_pos K3.out,dF (show ¬ f.link.size≤200 by omega)];simp
    go_wp2_with fail
    go_ret
    exact⟨af (by rw[E.out]),HWX⟩
   have L2:Hid (decide (f.link.size≤200)=true):=dT (by omega)
   have RL:Hid ((if f.kind=3 then decide (f.mode=511)&&fM (bl f.link)&&decide (f.link.size≤200) else decide (f.link.size=0))=true):=by show _=_;rw[if_pos K3.out,M5.out,G3.out,L2.out];rfl
   have KN:tG (f.kind=1):=⟨by have:=K3.out;omega⟩
   by_cases s0:f.sum.size=0
   ·have se:f.sum.toList=[]:=by rw[ai,bL _ s0]
    have se2:f.sum.toList.isEmpty=true:=by rw[se];rfl
    cases hcf:f.conf
    ·skip
     have E:Hid (cj fmt f=true):=by show _=_;unfold cj;rw[RM.out,G1.out,G2.out,RL.out,if_neg KN.out,dT s0,hcf];rfl
     simp only[hcf] at *
     go_wp2_with fail
     go_ret
     exact⟨af (by rw[E.out]),HWX⟩
    ·skip
     have E:Hid (cj fmt f=false):=by show _=_;unfold cj;rw[if_neg KN.out,hcf];simp
     simp only[hcf] at *
     go_wp2_with fail
     go_ret
     exact⟨af (by rw[E.out]),HWX⟩
   ·have se2:f.sum.toList.isEmpty=false:=by rw[ai,aY];exact dF s0
    have se:¬ f.sum.toList=[]:=by intro h;rw[h] at se2;simp at se2
    have E:Hid (cj fmt f=false):=by show _=_;unfold cj;rw[if_neg KN.out,dF s0];simp
    clear s0
    go_wp2_with fail
    go_ret
    exact⟨af (by rw[E.out]),HWX⟩
  ·have m5':(f.mode != 511)=true:=by simpa [bne] using m5
   have E:Hid (cj fmt f=false):=by show _=_;unfold cj;rw[if_pos k3,dF m5];simp
   clear k3 m5
   go_wp2_with fail
   go_ret
   exact⟨af (by rw[E.out]),HWX⟩
 ·have k3':(f.kind==3)=false:=by simpa using k3
  by_cases l0:f.link.size=0
  ·have le:f.link.toList=[]:=by rw[ai,bL _ l0]
   have le2:f.link.toList.isEmpty=true:=by rw[le];rfl
   have RL:Hid ((if f.kind=3 then decide (f.mode=511)&&fM (bl f.link)&&decide (f.link.size≤200) else decide (f.link.size=0))=true):=by show _=_;rw[if_neg k3,dT l0]
   by_cases k1:f.kind=1
   ·have k1':(f.kind==1)=true:=by simpa using k1
    have K1:=ae k1;clear k1 k3 l0
    go_wp2_with fail
    refine(qR fmt hfmt f.sum _ hsm).mono ?_;rintro e w3 ⟨rfl,hb3⟩
    have X3:Hid (Bx w w3 f.cells):=(Bx.start w f.cells _).step hb3
    have x7:=X3.out.cell 7 _ rfl
    clear hb3
    have HWZ:=X3.out.bel
    cases g4:Gs fmt f.sum
    ·skip
     have E:Hid (cj fmt f=false):=by show _=_;unfold cj;rw[if_pos K1.out,g4];simp
     clear g4
     go_wp2_with fail
     go_ret
     exact⟨af (by rw[E.out]),HWZ⟩
    have G4:=ae g4;clear g4
    cases hcf:f.conf
    ·skip
     have E:Hid (cj fmt f=true):=by show _=_;unfold cj;rw[RM.out,G1.out,G2.out,RL.out,if_pos K1.out,G4.out,hcf];rfl
     simp only[hcf] at *
     go_wp2_with fail
     go_ret
     exact⟨af (by rw[E.out]),HWZ⟩
    by_cases f3:fmt=3
    ·have f3':(fmt==3)=true:=by simpa using f3
     have f3n:(fmt != 3)=false:=by simpa [bne] using f3
     have E:Hid (cj fmt f=false):=by show _=_;unfold cj;rw[if_pos K1.out,hcf,dF (show ¬ fmt≠3 from fun h=>h f3)];simp
     clear f3
     simp only[hcf] at *
     go_wp2_with fail
     go_ret
     exact⟨af (by rw[E.out]),HWZ⟩
    ·have f3':(fmt==3)=false:=by simpa using f3
     have f3n:(fmt != 3)=true:=by simpa [bne] using f3
     have E:Hid (cj fmt f=true):=by show _=_;unfold cj;rw[RM.out,G1.out,G2.out,RL.out,if_pos K1.out,G4.out,hcf,dT (show fmt≠3 from f3)];rfl
     clear f3
     simp only[hcf] at *
     go_wp2_with fail
     go_ret
     exact⟨af (by rw[E.out]),HWZ⟩
   ·have k1':(f.kind==1)=false:=by simpa using k1
    have KN:tG (f.kind=1):=⟨k1⟩
    clear k1 k3 l0
    by_cases s0:f.sum.size=0
    ·have se:f.sum.toList=[]:=by rw[ai,bL _ s0]
     have se2:f.sum.toList.isEmpty=true:=by rw[se];rfl
     cases hcf:f.conf
     ·skip
      have E:Hid (cj fmt f=true):=by show _=_;unfold cj;rw[RM.out,G1.out,G2.out,RL.out,if_neg KN.out,dT s0,hcf];rfl
      simp only[hcf] at *
      go_wp2_with fail
      go_ret
      exact⟨af (by rw[E.out]),HWX⟩
     ·skip
      have E:Hid (cj fmt f=false):=by show _=_;unfold cj;rw[if_neg KN.out,hcf];simp
      simp only[hcf] at *
      go_wp2_with fail
      go_ret
      exact⟨af (by rw[E.out]),HWX⟩
    ·have se2:f.sum.toList.isEmpty=false:=by rw[ai,aY];exact dF s0
     have se:¬ f.sum.toList=[]:=by intro h;rw[h] at se2;simp at se2
     have E:Hid (cj fmt f=false):=by show _=_;unfold cj;rw[if_neg KN.out,dF s0];simp
     clear s0
     go_wp2_with fail
     go_ret
     exact⟨af (by rw[E.out]),HWX⟩
  ·have le2:f.link.toList.isEmpty=false:=by rw[ai,aY];exact dF l0
   have le:¬ f.link.toList=[]:=by intro h;rw[h] at le2;simp at le2
   have E:Hid (cj fmt f=false):=by show _=_;unfold cj;rw[if_neg k3,dF l0];simp
   clear k3 l0
   go_wp2_with fail
   go_ret
   exact⟨af (by rw[E.out]),HWX⟩
theorem jr (fmt:Int)(s:BA)(w:World)(hs:s.size≤9223372036854775807):
  Calls Tryz.prog 79 #[.int .i64 fmt,.string s] w fun e w'=>e=.returned (.bool (dN fmt s))∧w=w':=by
 by_cases h1:s.size<1
 ·have E:Hid (dN fmt s=false):=by show _=_;unfold dN;rw[dF];rfl
  go_enter Tryz.func79,Tryz.ntmps79
  go_wp2_with fail
  go_ret
  exact⟨af E.out.symm,rfl⟩
 by_cases h2:31<s.size
 ·have E:Hid (dN fmt s=false):=by show _=_;unfold dN;rw[dF];rfl
  go_enter Tryz.func79,Tryz.ntmps79
  go_wp2_with fail
  go_ret
  exact⟨af E.out.symm,rfl⟩
 by_cases h3:fmt=3
 ·subst h3
  have E:Hid (dN 3 s=Gq s):=by show _=_;unfold dN;rw[dT,if_pos rfl];rfl
  unfold Gq at E
  cases g1:(s.toList == [114,111,111,116])
  ·have G1:Hid (decide (bl s=[114,111,111,116])=false):=by show _=_;rw[←ny];exact g1
   go_enter Tryz.func79,Tryz.ntmps79
   go_wp2_with fail
   refine(jj s _ hs).mono ?_;rintro e w' ⟨rfl,rfl⟩
   unfold gX
   by_cases g2:eP (bl s)=0
   ·by_cases g3:1≤gt (bl s)
    ·have g2':(eP (bl s)==0)=true:=by simpa using g2
     have EE:Hid (dN 3 s=decide (gt (bl s)≤2097151)):=by show _=_;rw[E.out,G1.out,dT g2,dT g3];rfl
     clear g2
     go_wp2_with fail
     go_ret
     exact⟨af (by rw[EE.out]),rfl⟩
    ·have g2':(eP (bl s)==0)=true:=by simpa using g2
     have EE:Hid (dN 3 s=false):=by show _=_;rw[E.out,G1.out,dF g3];simp
     clear g2
     go_wp2_with fail
     go_ret
     exact⟨af (by rw[EE.out]),rfl⟩
   ·have g2':(eP (bl s)==0)=false:=by simpa using g2
    have EE:Hid (dN 3 s=false):=by show _=_;rw[E.out,G1.out,dF g2];simp
    clear g2
    go_wp2_with fail
    go_ret
    exact⟨af (by rw[EE.out]),rfl⟩
  ·have EE:Hid (dN 3 s=true):=by show _=_;rw[E.out,←ny,g1];rfl
   go_enter Tryz.func79,Tryz.ntmps79
   go_wp2_with fail
   refine(jj s _ hs).mono ?_;rintro e w' ⟨rfl,rfl⟩
   unfold gX
   go_wp2_with fail
   go_ret
   exact⟨af (by rw[EE.out]),rfl⟩
 ·have h3':(fmt==3)=false:=by simpa using h3
  have E:Hid (dN fmt s=fR s):=by show _=_;unfold dN;rw[dT,if_neg h3];rfl
  clear h3
  go_enter Tryz.func79,Tryz.ntmps79
  go_wp2_with fail
  go_loop [41] (fun i=>∃ k:Nat,k≤s.size∧i=.int .i64 k∧Hid (∀ j (h:j<s.size),j<k→iJ j s[j]=true)) (fun i=>s.size-(intOf i).toNat)
  case atStart=>exact⟨0,z0,rfl,ae (fun j h hj=>by omega)⟩
  case round=>
   obtain⟨k,hk,rfl,HA⟩:=hrel
   by_cases hlt:k<s.size
   ·by_cases a1:97≤s[k].toNat
    ·by_cases a2:s[k].toNat≤122
     ·skip
      have HC:Hid (iJ k s[k]=true):=dT (by omega)
      go_wp2_with fail
      go_round
      case rel=>exact⟨k+1,by omega,by go_num,ae (gN hlt HA.out HC.out)⟩
      case measure=>simp[intOf];omega
     ·have t122:decide ((s[k].toNat:Int)≤122)=false:=dF (by omega)
      have t95:((s[k].toNat:Int)==95)=false:=gY (by omega:¬ s[k].toNat=95)
      have t45:((s[k].toNat:Int) != 45)=true:=qr (by omega:¬ s[k].toNat=45)
      have t57:57<s[k].toNat:=by omega
      have HC:Hid (fR s=false):=jm hlt dF
      by_cases k0:k=0
      ·have tk:((k:Int)==0)=true:=jy k0
       clear k0
       go_wp2_with fail
       go_ret
       exact⟨af (by rw[E.out,HC.out]),rfl⟩
      ·have tk:((k:Int)==0)=false:=gY k0
       have t48:decide ((s[k].toNat:Int)<48)=false:=dF (by omega)
       have t58:decide (57<(s[k].toNat:Int))=true:=dT (by omega)
       clear k0
       go_wp2_with fail
       go_ret
       exact⟨af (by rw[E.out,HC.out]),rfl⟩
    ·by_cases g95:s[k].toNat=95
     ·have t95:((s[k].toNat:Int)==95)=true:=jy g95
      have HC:Hid (iJ k s[k]=true):=dT (by omega)
      clear g95
      go_wp2_with fail
      go_round
      case rel=>exact⟨k+1,by omega,by go_num,ae (gN hlt HA.out HC.out)⟩
      case measure=>simp[intOf];omega
     ·skip
      have t95:((s[k].toNat:Int)==95)=false:=gY g95
      by_cases k0:k=0
      ·have tk:((k:Int)==0)=true:=jy k0
       have HC:Hid (fR s=false):=jm hlt dF
       clear k0
       go_wp2_with fail
       go_ret
       exact⟨af (by rw[E.out,HC.out]),rfl⟩
      have tk:((k:Int)==0)=false:=gY k0
      by_cases g45:s[k].toNat=45
      ·have t45:((s[k].toNat:Int) != 45)=false:=Ci g45
       have HC:Hid (iJ k s[k]=true):=dT (by omega)
       clear g45
       go_wp2_with fail
       go_round
       case rel=>exact⟨k+1,by omega,by go_num,ae (gN hlt HA.out HC.out)⟩
       case measure=>simp[intOf];omega
      have t45:((s[k].toNat:Int) != 45)=true:=qr g45
      by_cases g48:s[k].toNat<48
      ·skip
       have HC:Hid (fR s=false):=jm hlt dF
       go_wp2_with fail
       go_ret
       exact⟨af (by rw[E.out,HC.out]),rfl⟩
      by_cases g57:57<s[k].toNat
      ·skip
       have HC:Hid (fR s=false):=jm hlt dF
       go_wp2_with fail
       go_ret
       exact⟨af (by rw[E.out,HC.out]),rfl⟩
      ·skip
       have HC:Hid (iJ k s[k]=true):=dT (by omega)
       go_wp2_with fail
       go_round
       case rel=>exact⟨k+1,by omega,by go_num,ae (gN hlt HA.out HC.out)⟩
       case measure=>simp[intOf];omega
   ·have HE:Hid (fR s=true):=dT (fun j h=>HA.out j h (by omega))
    go_wp2_with fail
    go_ret
    exact⟨af (by rw[E.out,HE.out]),rfl⟩
end
end Go.Proofs.YtlglfpbhapmhiaaGreatDoor
