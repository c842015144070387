/- A part of the proof. -/
import Derived.Test.YtkmjcombhjombaaGreatDoorJ01
import Derived.Test.YtkmjcombhjombaaGreatDoorJ02
set_option maxRecDepth 100000
set_option maxHeartbeats 20000000
set_option linter.unusedVariables false
set_option linter.unusedSimpArgs false
namespace Go.Proofs.YtkmjcombhjombaaGreatDoor
variable{s:BA}{l r:LU}{a b d k n:Nat}{w w':World}
open Go.Proofs.Tryz
section
open Go.RowKit
theorem je (c:UInt8)(w:World):Calls prog 214 #[.int .u8 c.toNat] w fun e w'=>e=.returned (.bool (gf c))/\w=w':=by
 go_in;go_wp2
 all_goals (go_ret;refine⟨fJ ?_,rfl⟩;rw[bI];simp[gf];omega)
theorem rt (c:UInt8)(w:World):Calls prog 218 #[.int .u8 c.toNat] w fun e w'=>e=.returned (.bool (it c))/\w=w':=by
 go_in;go_wp2
 all_goals (go_ret;refine⟨fJ ?_,rfl⟩;rw[bI];simp[it];omega)
theorem kw (c:UInt8)(w:World):Calls prog 264 #[.int .u8 c.toNat] w fun e w'=>e=.returned (.bool (ku c))/\w=w':=by
 cases h:it c
 all_goals
  go_in;go_wp2_with (go_at_call 218;refine mb (rt _ _) ?_;rintro w' rfl)
 all_goals (go_ret;refine⟨fJ ?_,rfl⟩;rw[bI];simp[ku,TE,h];try omega)
def fS (p:UInt8->Bool)(l:LU):Nat:=(l.takeWhile p).length
theorem ru {p:UInt8->Bool}:∀ (l:LU),l.all p=true->l.takeWhile p=l
 | [],_=>rfl
 | c::r,h=>by
  simp only[List.all_cons,Bool.and_eq_true] at h;rw[List.takeWhile_cons_of_pos h.1,ru r h.2]
theorem Id (p:UInt8->Bool)(s:BA)(k:Nat)(h:k<s.size)(F:((bl s).take k).all p=true)(z:p s[k]=false):fS p (bl s)=k:=by
 have D:k<(bl s).length:=by rw[fI];exact h
 have e:bl s=(bl s).take k++(bl s)[k]::(bl s).drop (k+1):=by rw[<-List.drop_eq_getElem_cons D,List.take_append_drop]
 unfold fS;rw[e,List.takeWhile_append_of_pos (by simpa using F),oE s k h,List.takeWhile_cons_of_neg (by simp[z])];simp;omega
theorem LH (p:UInt8->Bool)(s:BA)(k:Nat)(h:¬ k<s.size)(z:((bl s).take k).all p=true):fS p (bl s)=s.size:=by
 rw[qk s k (by omega)] at z;unfold fS;rw[ru _ z,fI]
theorem qV (f:FuncId)(p:UInt8->Bool)(s:BA)(w:World)(J:s.size<=9223372036854775807)
  (hcall:∀ (args:Array Value)(w:World),(callFunc f args).run prog w=.ok (.enter f args) w)
  (H:Hid (∀ c:UInt8,Calls prog f #[.int .u8 c.toNat] w fun e w'=>e=.returned (.bool (p c))/\w=w')):Calls prog 217 #[.string s,.func (.func f) #[] #[]] w fun e w'=>e=.returned (.int .i64 (fS p (bl s)))/\w=w':=by
 go_in;go_wp2;go_loop [5] (fun i=>∃ k:Nat,k<=s.size/\i=.int .i64 k/\Hid (((bl s).take k).all p=true)) (fun i=>s.size-(intOf i).toNat)
 case atStart=>exact⟨0,z0,rfl,by simp[Hid]⟩
 case round=>
  obtain⟨k,I,rfl,F⟩:=hrel;by_cases z:k<s.size
  ·cases hl:p s[k]
   ·have D:=fH hl;clear hl;go_wp2_with fail;refine mb (H s[k]) ?_;rintro w' rfl;rw[D.out];go_wp2;go_ret;exact⟨fT (by rw[Id p s k z F.out D.out]),rfl⟩
   ·have D:=fH hl;clear hl;go_wp2_with fail;refine mb (H s[k]) ?_;rintro w' rfl;rw[D.out];go_wp2;go_round
    case rel=>exact⟨k+1,by omega,by go_num,by show _=_;rw[kN s k z,F.out,D.out];rfl⟩
    case measure=>simp[intOf];omega
  ·go_wp2;go_ret;exact⟨fT (by rw[LH p s k z F.out];congr;omega),rfl⟩
theorem JU (f:FuncId)(x:Value)(p:UInt8->Bool)(s:BA)(w:World)(J:s.size<=9223372036854775807)
  (hcall:∀ (args:Array Value)(w:World),(callFunc f args).run prog w=.ok (.enter f args) w)
  (H:Hid (∀ c:UInt8,Calls prog f #[.int .u8 c.toNat,x] w fun e w'=>e=.returned (.bool (p c))/\w=w')):Calls prog 217 #[.string s,.func (.func f) #[] #[x]] w fun e w'=>e=.returned (.int .i64 (fS p (bl s)))/\w=w':=by
 go_in;go_wp2;go_loop [5] (fun i=>∃ k:Nat,k<=s.size/\i=.int .i64 k/\Hid (((bl s).take k).all p=true)) (fun i=>s.size-(intOf i).toNat)
 case atStart=>exact⟨0,z0,rfl,by simp[Hid]⟩
 case round=>
  obtain⟨k,I,rfl,F⟩:=hrel;by_cases z:k<s.size
  ·cases hl:p s[k]
   ·have D:=fH hl;clear hl;go_wp2_with fail;refine mb (H s[k]) ?_;rintro w' rfl;rw[D.out];go_wp2;go_ret;exact⟨fT (by rw[Id p s k z F.out D.out]),rfl⟩
   ·have D:=fH hl;clear hl;go_wp2_with fail;refine mb (H s[k]) ?_;rintro w' rfl;rw[D.out];go_wp2;go_round
    case rel=>exact⟨k+1,by omega,by go_num,by show _=_;rw[kN s k z,F.out,D.out];rfl⟩
    case measure=>simp[intOf];omega
  ·go_wp2;go_ret;exact⟨fT (by rw[LH p s k z F.out];congr;omega),rfl⟩
theorem pX (s:BA)(w:World)(z:s.size<=9223372036854775807):Calls prog 217 #[.string s,.func (.func 214) #[] #[]] w fun e w'=>e=.returned (.int .i64 (fS gf (bl s)))/\w=w':=
 qV _ gf s w z Tryz.call214 (fH fun c=>je c w)
theorem TI (s:BA)(w:World)(z:s.size<=9223372036854775807):Calls prog 217 #[.string s,.func (.func 218) #[] #[]] w fun e w'=>e=.returned (.int .i64 (fS it (bl s)))/\w=w':=
 qV _ it s w z Tryz.call218 (fH fun c=>rt c w)
def ky (l:LU):Int:=l.foldl (fun n c=>10*n+((c.toNat:Int)-48)) 0
theorem Al (l:LU)(c:UInt8):ky (l++[c])=10*ky l+((c.toNat:Int)-48):=by simp[ky,List.foldl_append]
theorem LZ (s:BA)(k:Nat)(h:k<s.size):ky ((bl s).take (k+1))=10*ky ((bl s).take k)+((s[k].toNat:Int)-48):=by
 rw[tS (by rw[fI];exact h),Al,oE s k h]
theorem vS:∀ (l:LU)(n:Int),0<=n->l.all gf=true->n<=l.foldl (fun n c=>10*n+((c.toNat:Int)-48)) n
 | [],n,_,_=>Int.le_refl _
 | c::r,n,h,ha=>by
  rw[List.all_cons,Bool.and_eq_true] at ha;have z:48<=c.toNat:=(dO ha.1).1;have:=vS r (10*n+((c.toNat:Int)-48)) (by omega) ha.2;rw[List.foldl_cons];omega
theorem TR (l:LU)(k:Nat)(h:l.all gf=true):0<=ky (l.take k)/\ky (l.take k)<=ky l:=by
 have H:(l.take k).all gf=true:=by rw[List.all_eq_true] at h |-;exact fun x z=>h x (List.mem_of_mem_take z)
 have F:(l.drop k).all gf=true:=by rw[List.all_eq_true] at h |-;exact fun x z=>h x (List.mem_of_mem_drop z)
 have D:0<=ky (l.take k):=vS _ 0 (Int.le_refl _) H;refine⟨D,?_⟩;have I:=vS (l.drop k) _ D F;have J:ky l=(l.drop k).foldl (fun n c=>10*n+((c.toNat:Int)-48)) (ky (l.take k)):=by
  unfold ky;rw[<-List.foldl_append,List.take_append_drop]
 omega
def vT (l:LU):Bool:=!l.isEmpty && !(decide (1<l.length)&&decide (l.head?=some 48))&&l.all gf
def CW:Int:=4611686018427387903
def jF (l:LU):Int:=if vT l then (if ky l<=CW then ky l else 0) else 0
def mh (l:LU):Int:=if vT l then (if ky l<=CW then 0 else 4) else 3
theorem Xb (h:s.size=0):vT (bl s)=false:=by rw[hZ s h];rfl
theorem L3 (h:1<s.size)(z:s[0]=48):vT (bl s)=false:=by
 unfold vT;have:(bl s).head?=some 48:=by rw[mL s (by omega),z];rfl
 rw[this,fI];simp[h]
theorem Xc (h:0<s.size)(H:¬ (1<s.size/\s[0]=48)):vT (bl s)=(bl s).all gf:=by
 unfold vT;have F:(bl s).head?=some s[0]:=by rw[mL s h];rfl
 have z:(bl s).isEmpty=false:=by rw[gu];exact dF (by omega)
 rw[F,z,fI];have:(decide (1<s.size)&&decide (some s[0]=some (48:UInt8)))=false:=by
  rw[Bool.and_eq_false_iff];by_cases I:1<s.size
  ·right;simp;exact fun D=>H ⟨I,D⟩
  ·left;simp;omega
 rw[this];simp
theorem yP (h:vT l=false):jF l=0/\mh l=3:=by simp[jF,mh,h]
theorem L4 (h:vT l=true)(z:ky l<=CW):jF l=ky l/\mh l=0:=by simp[jF,mh,h,z]
theorem TU (h:vT l=true)(z:¬ ky l<=CW):jF l=0/\mh l=4:=by simp[jF,mh,h,z]
def oF (l:LU):Value:=.tuple #[.int .i64 (jF l),.int .i64 (mh l)]
theorem pf (s:BA)(w:World)(hs:s.size<=9223372036854775807):Calls prog 87 #[.string s] w fun e w'=>e=.returned (oF (bl s))/\w=w':=by
 by_cases h0:s.size=0
 ·have U:s.toList=[]:=by rw[fK,hZ s h0]
  have E:=fH (yP (Xb h0));go_in;go_wp2;go_ret2;exact⟨by unfold oF;rw[E.out.1,E.out.2];rfl,rfl⟩
 have O:0<s.size:=by omega
 have U:s.toList.isEmpty=false:=by rw[fK,gu];exact dF (by omega)
 have X:¬ s.toList=[]:=by intro h;rw[h] at U;simp at U
 by_cases R:1<s.size/\s[0]=48
 ·obtain⟨R,M⟩:=R;have E:=fH (yP (L3 R M));have K:((s[0].toNat:Int)==48)=true:=by rw[M];rfl
  clear M;go_in;go_wp2;go_ret2;exact⟨by unfold oF;rw[E.out.1,E.out.2];rfl,rfl⟩
 have EA:=fH (Xc O R);have F:∀ (K:decide (1<(s.size:Int))=false\/(decide (1<(s.size:Int))=true/\((s[0].toNat:Int)==48)=false)),Calls prog 87 #[.string s] w fun e w'=>e=.returned (oF (bl s))/\w=w':=by
  intro K;rcases K with K | ⟨ab,K⟩
  all_goals
   go_in;go_wp2_with fail;clear U X K;go_loop [4,5,22] (fun n lg i=>∃ (k:Nat) (m:Int) (b:Bool),k<=s.size/\i=.int .i64 k/\n=.int .i64 m/\lg=.bool b/\0<=m/\m<=4611686018427387903/\Hid (((bl s).take k).all gf=true)/\Hid (b=false->m=ky ((bl s).take k))/\Hid (b=true->CW<ky ((bl s).take k))) (fun _ _ i=>s.size-(intOf i).toNat)
   case atStart=>exact⟨0,0,false,z0,rfl,rfl,rfl,by omega,by omega,by simp[Hid],fH (fun _=>by simp[ky]),fH (fun h=>by cases h)⟩
   case round=>
    obtain⟨k,m,b,hk,rfl,rfl,rfl,m0,m1,HA,Z,HL⟩:=hrel;by_cases H:k<s.size
    ·by_cases hd:48<=s[k].toNat/\s[k].toNat<=57
     ·obtain⟨d0,d1⟩:=hd;have HD:Hid (gf s[k]=true):=dT ⟨d0,d1⟩;have V:=fH (LZ s k H);have I:Hid (((bl s).take (k+1)).all gf=true):=by show _=_;rw[kN s k H,HA.out,HD.out];rfl
      cases b
      ·by_cases hb:m > (4611686018427387903-((s[k].toNat:Int)-48)) / 10
       ·go_wp2;go_round
        case rel=>exact⟨k+1,m,true,by omega,by go_num,rfl,rfl,m0,m1,I,fH (fun h=>by cases h),fH (fun _=>by rw[V.out,<-Z.out rfl];unfold CW;omega)⟩
        case measure=>simp[intOf];omega
       ·go_wp2;go_round
        case rel=>exact⟨k+1,_,false,by omega,by go_num,rfl,rfl,by omega,by omega,I,fH (fun _=>by rw[V.out,<-Z.out rfl]),fH (fun h=>by cases h)⟩
        case measure=>simp[intOf];omega
      ·go_wp2;go_round
       case rel=>exact⟨k+1,m,true,by omega,by go_num,rfl,rfl,m0,m1,I,fH (fun h=>by cases h),fH (fun _=>by rw[V.out];have:=HL.out rfl;unfold CW at *;omega)⟩
       case measure=>simp[intOf];omega
     ·have E:=fH (yP (show vT (bl s)=false by rw[EA.out];exact sE s k H (dF hd)));by_cases tH:s[k].toNat<48
      ·go_wp2;go_ret2;exact⟨by unfold oF;rw[E.out.1,E.out.2];rfl,rfl⟩
      ·have aa:57<s[k].toNat:=by omega
       go_wp2;go_ret2;exact⟨by unfold oF;rw[E.out.1,E.out.2];rfl,rfl⟩
    ·have D:vT (bl s)=true:=by rw[EA.out];have:=HA.out;rw[qk s k (by omega)] at this;exact this
     have z:(bl s).take k=bl s:=qk s k (by omega);cases b
     ·have J:=Z.out rfl;rw[z] at J;have E:=fH (L4 D (by rw[<-J];unfold CW;omega));have Y:=fH J;clear D z J;go_wp2;go_ret2;exact⟨by unfold oF;rw[E.out.1,E.out.2,<-Y.out];rfl,rfl⟩
     ·have J:=HL.out rfl;rw[z] at J;have E:=fH (TU D (by omega));clear D z J;go_wp2;go_ret2;exact⟨by unfold oF;rw[E.out.1,E.out.2];rfl,rfl⟩
 by_cases M:1<s.size
 ·exact F (.inr ⟨dT,by simp only[bF,ne_eq];intro h;apply R;refine⟨M,UInt8.toNat_inj.1 ?_⟩;show _=48;omega⟩)
 ·exact F (.inl dF)
def C7 (l:LU):Bool:=decide (1<=l.length)&&decide (l.length<=100)&&CM 32 l&&l.head? != some 32&&l.getLast? != some 32
theorem Z3 (s:BA)(h:0<s.size):(bl s).head?=some s[0]:=by rw[mL s h];rfl
theorem Z4 (s:BA)(h:0<s.size):(bl s).getLast?=some (s[s.size-1]):=by
 rw[List.getLast?_eq_getElem?,fI,pN s (s.size-1) (by omega)]
theorem Si (a:UInt8):(((a.toNat:Nat):Int) != 32)=(some a != some 32):=by
 rw[bI];simp[<-UInt8.toNat_inj];omega
theorem vZ (s:BA)(w:World)(H:s.size<=9223372036854775807):Calls prog 68 #[.string s] w fun e w'=>e=.returned (.bool (C7 (bl s)))/\w=w':=by
 have z:=fH (fI s);by_cases F:1<=s.size
 ·by_cases D:s.size<=100
  ·have I:=fH (Z3 s (by omega));have J:=fH (Z4 s (by omega));cases hw:CM 32 (bl s)
   ·go_in;go_wp2_with (go_at_call 110;refine mb (sF _ 32 _ H) ?_;rintro w' rfl);go_ret;exact⟨fJ (by unfold C7;rw[hw];simp),rfl⟩
   ·go_in;go_wp2_with (go_at_call 110;refine mb (sF _ 32 _ H) ?_;rintro w' rfl)
    all_goals go_ret
    all_goals (refine⟨fJ ?_,rfl⟩;unfold C7;rw[hw,z.out,dT F,dT D,I.out,J.out])
    ·rw[<-Si,<-Si];simp[‹_=(32:Int)›]
    ·rw[<-Si,<-Si];simp
  ·go_in;go_wp2;go_ret;exact⟨fJ (by unfold C7;rw[z.out,dF D];simp),rfl⟩
 ·go_in;go_wp2;go_ret;exact⟨fJ (by unfold C7;rw[z.out,dF F];simp),rfl⟩
def Cf (r:Option (LU×LU×LU)):Int:=if r.isSome then 0 else 3
def qt (i:Nat)(c:UInt8):Bool:=decide ((97<=c.toNat/\c.toNat<=122)\/c.toNat=95\/(i≠0/\(c.toNat=45\/(48<=c.toNat/\c.toNat<=57))))
def nR (s:BA):Bool:=decide (∀ j (h:j<s.size),qt j s[j]=true)
def Xd (s:BA):Bool:=decide (bl s=[114,111,111,116])||(decide (mh (bl s)=0)&&decide (1<=jF (bl s))&&decide (jF (bl s)<=2097151))
def lU (fmt:Int)(s:BA):Bool:=decide (1<=s.size/\s.size<=31)&&(if fmt=3 then Xd s else nR s)
theorem xf (s:BA):(s.toList == [114,111,111,116])=decide (bl s=[114,111,111,116]):=by
 rw[fK,bI];simp
theorem pg (H:k<s.size)(h:∀ j (h:j<s.size),j<k->qt j s[j]=true)(F:qt k s[k]=true):∀ j (h:j<s.size),j<k+1->qt j s[j]=true:=by
 intro j D z;by_cases e:j=k
 ·subst e;exact F
 ·exact h j D (by omega)
theorem qY (D:k<s.size)(z:qt k s[k]=false):nR s=false:=by
 apply dF;intro h;rw[h k D] at z;cases z
theorem oG (h:a=b):((a:Int)==(b:Int))=true:=by simp[h]
theorem nz (h:¬ a=b):((a:Int)==(b:Int))=false:=by simp;omega
theorem Sj (h:a=b):((a:Int) != (b:Int))=false:=by simp[h]
theorem Cg (h:¬ a=b):((a:Int) != (b:Int))=true:=by simp[bne];omega
theorem rI (fmt:Int)(s:BA)(w:World)(hs:s.size<=9223372036854775807):Calls prog 166 #[.int .i64 fmt,.string s] w fun e w'=>e=.returned (.bool (lU fmt s))/\w=w':=by
 by_cases h1:s.size<1
 ·have E:Hid (lU fmt s=false):=by show _=_;unfold lU;rw[dF];rfl
  go_in;go_wp2;go_ret;exact⟨fJ E.out.symm,rfl⟩
 by_cases h2:31<s.size
 ·have E:Hid (lU fmt s=false):=by show _=_;unfold lU;rw[dF];rfl
  go_in;go_wp2;go_ret;exact⟨fJ E.out.symm,rfl⟩
 by_cases V:fmt=3
 ·subst V;have E:Hid (lU 3 s=Xd s):=by show _=_;unfold lU;rw[dT,if_pos rfl];rfl
  unfold Xd at E;cases g1:(s.toList == [114,111,111,116])
  ·have Y:Hid (decide (bl s=[114,111,111,116])=false):=by show _=_;rw[<-xf];exact g1
   go_in;go_wp2_with fail;refine mb (pf s _ hs) ?_;rintro w' rfl;unfold oF;by_cases F:mh (bl s)=0
   ·by_cases g3:1<=jF (bl s)
    ·have R:(mh (bl s)==0)=true:=by simpa using F
     have I:Hid (lU 3 s=decide (jF (bl s)<=2097151)):=by show _=_;rw[E.out,Y.out,dT F,dT g3];rfl
     clear F;go_wp2;go_ret;exact⟨fJ (by rw[I.out]),rfl⟩
    ·have R:(mh (bl s)==0)=true:=by simpa using F
     have I:Hid (lU 3 s=false):=by show _=_;rw[E.out,Y.out,dF g3];simp
     clear F;go_wp2;go_ret;exact⟨fJ (by rw[I.out]),rfl⟩
   ·have R:(mh (bl s)==0)=false:=by simpa using F
    have I:Hid (lU 3 s=false):=by show _=_;rw[E.out,Y.out,dF F];simp
    clear F;go_wp2;go_ret;exact⟨fJ (by rw[I.out]),rfl⟩
  ·have I:Hid (lU 3 s=true):=by show _=_;rw[E.out,<-xf,g1];rfl
   go_in;go_wp2_with fail;refine mb (pf s _ hs) ?_;rintro w' rfl;unfold oF;go_wp2;go_ret;exact⟨fJ (by rw[I.out]),rfl⟩
 ·have af:(fmt==3)=false:=by simpa using V
  have E:Hid (lU fmt s=nR s):=by show _=_;unfold lU;rw[dT,if_neg V];rfl
  clear V;go_in;go_wp2;go_loop [41] (fun i=>∃ k:Nat,k<=s.size/\i=.int .i64 k/\Hid (∀ j (h:j<s.size),j<k->qt j s[j]=true)) (fun i=>s.size-(intOf i).toNat)
  case atStart=>exact⟨0,z0,rfl,fH (fun j h hj=>by omega)⟩
  case round=>
   obtain⟨k,hk,rfl,O⟩:=hrel;by_cases z:k<s.size
   ·by_cases a1:97<=s[k].toNat
    ·by_cases a2:s[k].toNat<=122
     ·skip
      have D:Hid (qt k s[k]=true):=dT (by omega);go_wp2;go_round
      case rel=>exact⟨k+1,by omega,by go_num,fH (pg z O D)⟩
      case measure=>simp[intOf];omega
     ·have Z:decide ((s[k].toNat:Int)<=122)=false:=dF (by omega);have U:((s[k].toNat:Int)==95)=false:=nz (by omega:¬ s[k].toNat=95);have M:((s[k].toNat:Int) != 45)=true:=Cg (by omega:¬ s[k].toNat=45);have ac:57<s[k].toNat:=by omega
      have D:Hid (nR s=false):=qY z dF;by_cases H:k=0
      ·have X:((k:Int)==0)=true:=oG H;clear H;go_wp2;go_ret;exact⟨fJ (by rw[E.out,D.out]),rfl⟩
      ·have X:((k:Int)==0)=false:=nz H;have ae:decide ((s[k].toNat:Int)<48)=false:=dF (by omega);have ab:decide (57<(s[k].toNat:Int))=true:=dT (by omega);clear H;go_wp2;go_ret;exact⟨fJ (by rw[E.out,D.out]),rfl⟩
    ·by_cases K:s[k].toNat=95
     ·have U:((s[k].toNat:Int)==95)=true:=oG K;have D:Hid (qt k s[k]=true):=dT (by omega);clear K;go_wp2;go_round
      case rel=>exact⟨k+1,by omega,by go_num,fH (pg z O D)⟩
      case measure=>simp[intOf];omega
     ·skip
      have U:((s[k].toNat:Int)==95)=false:=nz K;by_cases H:k=0
      ·have X:((k:Int)==0)=true:=oG H;have D:Hid (nR s=false):=qY z dF;clear H;go_wp2;go_ret;exact⟨fJ (by rw[E.out,D.out]),rfl⟩
      have X:((k:Int)==0)=false:=nz H;by_cases J:s[k].toNat=45
      ·have M:((s[k].toNat:Int) != 45)=false:=Sj J;have D:Hid (qt k s[k]=true):=dT (by omega);clear J;go_wp2;go_round
       case rel=>exact⟨k+1,by omega,by go_num,fH (pg z O D)⟩
       case measure=>simp[intOf];omega
      have M:((s[k].toNat:Int) != 45)=true:=Cg J;by_cases ad:s[k].toNat<48
      ·skip
       have D:Hid (nR s=false):=qY z dF;go_wp2;go_ret;exact⟨fJ (by rw[E.out,D.out]),rfl⟩
      by_cases aa:57<s[k].toNat
      ·skip
       have D:Hid (nR s=false):=qY z dF;go_wp2;go_ret;exact⟨fJ (by rw[E.out,D.out]),rfl⟩
      ·skip
       have D:Hid (qt k s[k]=true):=dT (by omega);go_wp2;go_round
       case rel=>exact⟨k+1,by omega,by go_num,fH (pg z O D)⟩
       case measure=>simp[intOf];omega
   ·have HE:Hid (nR s=true):=dT (fun j h=>O.out j h (by omega));go_wp2;go_ret;exact⟨fJ (by rw[E.out,HE.out]),rfl⟩
def ab8:LU:=[48,49,50,51,52,53,54,55,56,57,97,98,99,100,101,102]
def adc:BA:=⟨#[48,49,50,51,52,53,54,55,56,57,97,98,99,100,101,102]⟩
def GH (l:LU):Bool:=l.all fun c=>ab8.contains c
def Pj (fmt:Int):Nat:=if fmt=1 then 32 else if fmt=2 then 64 else 40
def wP (fmt:Int)(s:BA):Bool:=decide (s.size=Pj fmt)&&GH (bl s)
theorem vA {p:UInt8->Bool}:∀ (m:LU),(∀ x∈m.dropWhile p,p x=true)->∀ x∈m,p x=true
 | [],_,x,h=>by simp at h
 | a::r,h,x,z=>by
  cases ha:p a
  ·have:(a::r).dropWhile p=a::r:=by simp[List.dropWhile,ha]
   rw[this] at h;have:=h a (by simp);rw[ha] at this;cases this
  ·have e:(a::r).dropWhile p=r.dropWhile p:=by simp[List.dropWhile,ha]
   rw[e] at h;rcases List.mem_cons.1 z with rfl | z
   ·exact ha
   ·exact vA r h x z
theorem vB {p:UInt8->Bool}:∀ (m:LU),m.dropWhile p=[]↔∀ x∈m,p x=true
 | []=>by simp
 | a::r=>by
  cases ha:p a
  ·simp[List.dropWhile,ha]
  ·have:=vB (p:=p) r;simp[List.dropWhile,ha,this]
theorem TZ (l F:LU):Lib.trimS l F=[]↔l.all (fun c=>F.contains c)=true:=by
 unfold Lib.trimS Lib.trimLeftS Lib.trimRightS;rw[vB,List.all_eq_true];constructor
 ·intro h x z;exact vA l.reverse (fun y H=>h y (List.mem_reverse.2 H)) x (List.mem_reverse.2 z)
 ·intro h x z;have z:=List.mem_reverse.1 z;have D:x∈l.reverse:=(List.dropWhile_suffix _).subset z;exact h x (List.mem_reverse.1 D)
theorem rJ (s:BA)(w:World)(I:s.size<=9223372036854775807):Calls prog 78 #[.string s,.string adc] w fun e w'=>(∃ t:BA,e=.returned (.string t)/\t.toList.isEmpty=GH (bl s))/\Bw w w':=
 (Any.strings_Trim_ascii Tryz.lays160 (fun w=>by kernel_rfl) (by kernel_rfl) s adc w I (by decide) (fun j b D=>by
  have z:b∈ab8:=gM D;simp only[ab8,List.mem_cons,List.not_mem_nil,or_false] at z;rcases z with rfl | rfl | rfl | rfl | rfl | rfl | rfl | rfl | rfl | rfl | rfl | rfl | rfl | rfl | rfl | rfl<;>decide)).mono fun e w' ⟨F,H⟩=>⟨⟨_,F,by
   rw[fK,nj,bI,List.isEmpty_iff];exact TZ _ _⟩,H⟩
theorem C8 (fmt:Int)(O:fmt=1\/fmt=2\/fmt=3)(s:BA)(w:World)(J:s.size<=9223372036854775807):Calls prog 167 #[.int .i64 fmt,.string s] w fun e w'=>e=.returned (.bool (wP fmt s))/\Bw w w':=by
 have key:∀ n:Nat,Pj fmt=n->wP fmt s=(decide (s.size=n)&&GH (bl s)):=fun n R=>by unfold wP;rw[R]
 rcases O with rfl | rfl | rfl
 ·have K:=fH (key 32 (by decide));clear key;by_cases z:s.size=32
  ·have D:((s.size:Int)==32)=true:=oG z;have E:Hid (wP 1 s=GH (bl s)):=by show _=_;rw[K.out,dT z];rfl
   clear z;go_in;go_wp2_with fail;refine(rJ s _ J).mono ?_;rintro e M ⟨⟨t,rfl,ht⟩,F⟩;have I:=fH ht;have H:=fH F;clear ht F;go_wp2;go_ret;exact⟨fJ (by rw[E.out];exact I.out),H⟩
  ·have D:((s.size:Int)==32)=false:=nz z;have E:Hid (wP 1 s=false):=by show _=_;rw[K.out,dF z];rfl
   clear z;go_in;go_wp2;go_ret;exact⟨fJ (by rw[E.out]),bR⟩
 ·have K:=fH (key 64 (by decide));clear key;by_cases z:s.size=64
  ·have D:((s.size:Int)==64)=true:=oG z;have E:Hid (wP 2 s=GH (bl s)):=by show _=_;rw[K.out,dT z];rfl
   clear z;go_in;go_wp2_with fail;refine(rJ s _ J).mono ?_;rintro e M ⟨⟨t,rfl,ht⟩,F⟩;have I:=fH ht;have H:=fH F;clear ht F;go_wp2;go_ret;exact⟨fJ (by rw[E.out];exact I.out),H⟩
  ·have D:((s.size:Int)==64)=false:=nz z;have E:Hid (wP 2 s=false):=by show _=_;rw[K.out,dF z];rfl
   clear z;go_in;go_wp2;go_ret;exact⟨fJ (by rw[E.out]),bR⟩
 ·have K:=fH (key 40 (by decide));clear key;by_cases z:s.size=40
  ·have D:((s.size:Int)==40)=true:=oG z;have E:Hid (wP 3 s=GH (bl s)):=by show _=_;rw[K.out,dT z];rfl
   clear z;go_in;go_wp2_with fail;refine(rJ s _ J).mono ?_;rintro e M ⟨⟨t,rfl,ht⟩,F⟩;have I:=fH ht;have H:=fH F;clear ht F;go_wp2;go_ret;exact⟨fJ (by rw[E.out];exact I.out),H⟩
  ·have D:((s.size:Int)==40)=false:=nz z;have E:Hid (wP 3 s=false):=by show _=_;rw[K.out,dF z];rfl
   clear z;go_in;go_wp2;go_ret;exact⟨fJ (by rw[E.out]),bR⟩
structure jH where
 path:BA
 s0:BA
 s1:BA
 s2:BA
 s3:BA
def jH.sum (k:jH)(i:Int):BA:=if i=1 then k.s1 else if i=2 then k.s2 else if i=3 then k.s3 else k.s0
def jH.cells (k:jH):LV:=[.string k.path,.string k.s0,.string k.s1,.string k.s2,.string k.s3]
theorem J2 (k:jH):k.cells.length=5:=rfl
def lH (fmt:Int):Int:=if fmt=1 then 1 else if fmt=2 then 3 else 2
def mo (a b:Int)(l:List jH)(path sum:BA):Option jH:=l.find? fun k=>wP b (k.sum (lH b))&&decide (k.path=path)&&decide (k.sum (lH a)=sum)
def mZ (a b:Int)(l:List jH)(f:fW):BA:=if f.kind≠1\/a=b then f.sum else match mo a b l f.path f.sum with
 | some k=>k.sum (lH b)
 | none=>⟨#[]⟩
theorem sK (a b:Int)(l:List jH)(k:jH)(z sum:BA):mo a b (l++[k]) z sum=(mo a b l z sum).or (mo a b [k] z sum):=by
 unfold mo;rw[List.find?_append]
theorem GI {a b:Int}{l:List jH}{path sum:BA}{k:jH}(h:mo a b l path sum=some k):k∈l/\wP b (k.sum (lH b))=true/\k.path=path/\k.sum (lH a)=sum:=by
 have D:=List.mem_of_find?_eq_some h;have z:=List.find?_some h;simp only[Bool.and_eq_true,decide_eq_true_eq] at z;exact⟨D,z.1.1,z.1.2,z.2⟩
theorem mO {p:UInt8->Bool}{a:UInt8}(h:p a=false):fS p (a::r)=0:=by simp[fS,h]
theorem rL {p:UInt8->Bool}:∀ (l:LU),fS p l<l.length->∃ a r,l.drop (fS p l)=a::r/\p a=false
 | [],h=>by simp at h
 | a::r,h=>by
  cases hp:p a with
  | false=>exact⟨a,r,by rw[mO hp];rfl,hp⟩
  | true=>
   have e:fS p (a::r)=fS p r+1:=by simp[fS,hp]
   rw[e] at h |-;simpa using rL r (by simpa using h)
theorem Aq (w:World)(t:TypeId)(x y z:Value):nE (w.alloc (.cells #[x,y,z] t)) (w.heap.size+1) 3 (some ⟨w.heap.size,0,none⟩) 1 [x,y,z]:=by
 refine⟨rfl,fun _=>⟨_,rfl,by simp,fun j u D=>?_⟩⟩
 match j,D with
 | 0,D=>simp at D;subst D;simp[Addr.add]
 | 1,D=>simp at D;subst D;simp[Addr.add]
 | 2,D=>simp at D;subst D;simp[Addr.add]
 | j+3,D=>simp at D
def fW.val (f:fW):Value:=.agg #[.string f.path,.int .i64 f.kind,.int .i64 f.mode,.string f.owner,.string f.group,.string f.link,.string f.sum,.bool f.conf]
def jf (fmt:Int)(f:fW):Bool:=decide (0<=f.mode/\f.mode<=4095)&&lU fmt f.owner&&lU fmt f.group&&(if f.kind=3 then decide (f.mode=511)&&qn (bl f.link)&&decide (f.link.size<=200) else decide (f.link.size=0))&&(if f.kind=1 then wP fmt f.sum&&(!f.conf||decide (fmt≠3)) else decide (f.sum.size=0) && !f.conf)
theorem BL (fmt:Int)(X:fmt=1\/fmt=2\/fmt=3)(f:fW)(w:World)(ho:f.owner.size<=9223372036854775807)(hg:f.group.size<=9223372036854775807)(hl:f.link.size<=9223372036854775807)(ac:f.sum.size<=9223372036854775807):Calls prog 117 #[.int .i64 fmt,f.val] w fun e w'=>e=.returned (.bool (jf fmt f))/\Bw w w':=by
 have HW:Hid (Bw w (w.alloc (.cells #[.string f.path,.int .i64 f.kind,.int .i64 f.mode,.string f.owner,.string f.group,.string f.link,.string f.sum,.bool f.conf] 57))):=bR.alloc lr _;unfold fW.val;by_cases ag:f.mode<0
 ·skip
  have E:Hid (jf fmt f=false):=by show _=_;unfold jf;rw[dF];rfl
  go_in;go_wp2;go_ret;exact⟨fJ (by rw[E.out]),HW⟩
 by_cases ah:4095<f.mode
 ·skip
  have E:Hid (jf fmt f=false):=by show _=_;unfold jf;rw[dF];rfl
  go_in;go_wp2;go_ret;exact⟨fJ (by rw[E.out]),HW⟩
 have RM:Hid (decide (0<=f.mode/\f.mode<=4095)=true):=dT (by omega);go_in;go_wp2_with fail;refine mb (rI fmt f.owner _ ho) ?_;rintro w' rfl;cases g1:lU fmt f.owner
 ·skip
  have E:Hid (jf fmt f=false):=by show _=_;unfold jf;rw[g1];simp
  clear g1;go_wp2;go_ret;exact⟨fJ (by rw[E.out]),HW⟩
 have G1:=fH g1;clear g1;go_wp2_with fail;refine mb (rI fmt f.group _ hg) ?_;rintro w' rfl;cases g2:lU fmt f.group
 ·skip
  have E:Hid (jf fmt f=false):=by show _=_;unfold jf;rw[g2];simp
  clear g2;go_wp2;go_ret;exact⟨fJ (by rw[E.out]),HW⟩
 have G2:=fH g2;clear g2;have z:=HW.out;by_cases F:f.kind=3
 ·have ab:(f.kind==3)=true:=by simpa using F
  have Z:(f.kind==1)=false:=by simp;omega
  by_cases U:f.mode=511
  ·have af:(f.mode != 511)=false:=by simpa [bne] using U
   have M5:Hid (decide (f.mode=511)=true):=dT U;have K3:=fH F;clear F U;go_wp2_with fail;refine mb (Ai f.link _ hl) ?_;rintro w' rfl;cases g3:qn (bl f.link)
   ·skip
    have E:Hid (jf fmt f=false):=by show _=_;unfold jf;rw[if_pos K3.out,g3];simp
    clear g3;go_wp2;go_ret;exact⟨fJ (by rw[E.out]),z⟩
   have G3:=fH g3;clear g3;by_cases l2:200<f.link.size
   ·skip
    have E:Hid (jf fmt f=false):=by show _=_;unfold jf;rw[if_pos K3.out,dF (show ¬ f.link.size<=200 by omega)];simp
    go_wp2;go_ret;exact⟨fJ (by rw[E.out]),z⟩
   have L2:Hid (decide (f.link.size<=200)=true):=dT (by omega);have V:Hid ((if f.kind=3 then decide (f.mode=511)&&qn (bl f.link)&&decide (f.link.size<=200) else decide (f.link.size=0))=true):=by show _=_;rw[if_pos K3.out,M5.out,G3.out,L2.out];rfl
   have K:GG (f.kind=1):=⟨by have:=K3.out;omega⟩
   by_cases H:f.sum.size=0
   ·have Y:f.sum.toList=[]:=by rw[fK,hZ _ H]
    have D:f.sum.toList.isEmpty=true:=by rw[Y];rfl
    cases hcf:f.conf
    ·skip
     have E:Hid (jf fmt f=true):=by show _=_;unfold jf;rw[RM.out,G1.out,G2.out,V.out,if_neg K.out,dT H,hcf];rfl
     simp only[hcf] at *;go_wp2;go_ret;exact⟨fJ (by rw[E.out]),z⟩
    ·skip
     have E:Hid (jf fmt f=false):=by show _=_;unfold jf;rw[if_neg K.out,hcf];simp
     simp only[hcf] at *;go_wp2;go_ret;exact⟨fJ (by rw[E.out]),z⟩
   ·have D:f.sum.toList.isEmpty=false:=by rw[fK,gu];exact dF H
    have Y:¬ f.sum.toList=[]:=by intro h;rw[h] at D;simp at D
    have E:Hid (jf fmt f=false):=by show _=_;unfold jf;rw[if_neg K.out,dF H];simp
    clear H;go_wp2;go_ret;exact⟨fJ (by rw[E.out]),z⟩
  ·have af:(f.mode != 511)=true:=by simpa [bne] using U
   have E:Hid (jf fmt f=false):=by show _=_;unfold jf;rw[if_pos F,dF U];simp
   clear F U;go_wp2;go_ret;exact⟨fJ (by rw[E.out]),z⟩
 ·have ab:(f.kind==3)=false:=by simpa using F
  by_cases M:f.link.size=0
  ·have le:f.link.toList=[]:=by rw[fK,hZ _ M]
   have O:f.link.toList.isEmpty=true:=by rw[le];rfl
   have V:Hid ((if f.kind=3 then decide (f.mode=511)&&qn (bl f.link)&&decide (f.link.size<=200) else decide (f.link.size=0))=true):=by show _=_;rw[if_neg F,dT M]
   by_cases R:f.kind=1
   ·have Z:(f.kind==1)=true:=by simpa using R
    have K1:=fH R;clear R F M;go_wp2_with fail;refine mb (C8 fmt X f.sum _ ac) ?_;rintro w3 aa;have X3:Hid (Bx w w3 f.cells):=(Bx.start w f.cells _).step aa;have x7:=X3.cell 7 _ rfl;clear aa;have I:=X3.bel;cases g4:wP fmt f.sum
    ·skip
     have E:Hid (jf fmt f=false):=by show _=_;unfold jf;rw[if_pos K1.out,g4];simp
     clear g4;go_wp2;go_ret;exact⟨fJ (by rw[E.out]),I⟩
    have G4:=fH g4;clear g4;cases hcf:f.conf
    ·skip
     have E:Hid (jf fmt f=true):=by show _=_;unfold jf;rw[RM.out,G1.out,G2.out,V.out,if_pos K1.out,G4.out,hcf];rfl
     simp only[hcf] at *;go_wp2;go_ret;exact⟨fJ (by rw[E.out]),I⟩
    by_cases J:fmt=3
    ·have ae:(fmt==3)=true:=by simpa using J
     have ad:(fmt != 3)=false:=by simpa [bne] using J
     have E:Hid (jf fmt f=false):=by show _=_;unfold jf;rw[if_pos K1.out,hcf,dF (show ¬ fmt≠3 from fun h=>h J)];simp
     clear J;simp only[hcf] at *;go_wp2;go_ret;exact⟨fJ (by rw[E.out]),I⟩
    ·have ae:(fmt==3)=false:=by simpa using J
     have ad:(fmt != 3)=true:=by simpa [bne] using J
     have E:Hid (jf fmt f=true):=by show _=_;unfold jf;rw[RM.out,G1.out,G2.out,V.out,if_pos K1.out,G4.out,hcf,dT (show fmt≠3 from J)];rfl
     clear J;simp only[hcf] at *;go_wp2;go_ret;exact⟨fJ (by rw[E.out]),I⟩
   ·have Z:(f.kind==1)=false:=by simpa using R
    have K:GG (f.kind=1):=⟨R⟩
    clear R F M;by_cases H:f.sum.size=0
    ·have Y:f.sum.toList=[]:=by rw[fK,hZ _ H]
     have D:f.sum.toList.isEmpty=true:=by rw[Y];rfl
     cases hcf:f.conf
     ·skip
      have E:Hid (jf fmt f=true):=by show _=_;unfold jf;rw[RM.out,G1.out,G2.out,V.out,if_neg K.out,dT H,hcf];rfl
      simp only[hcf] at *;go_wp2;go_ret;exact⟨fJ (by rw[E.out]),z⟩
     ·skip
      have E:Hid (jf fmt f=false):=by show _=_;unfold jf;rw[if_neg K.out,hcf];simp
      simp only[hcf] at *;go_wp2;go_ret;exact⟨fJ (by rw[E.out]),z⟩
    ·have D:f.sum.toList.isEmpty=false:=by rw[fK,gu];exact dF H
     have Y:¬ f.sum.toList=[]:=by intro h;rw[h] at D;simp at D
     have E:Hid (jf fmt f=false):=by show _=_;unfold jf;rw[if_neg K.out,dF H];simp
     clear H;go_wp2;go_ret;exact⟨fJ (by rw[E.out]),z⟩
  ·have O:f.link.toList.isEmpty=false:=by rw[fK,gu];exact dF M
   have le:¬ f.link.toList=[]:=by intro h;rw[h] at O;simp at O
   have E:Hid (jf fmt f=false):=by show _=_;unfold jf;rw[if_neg F,dF M];simp
   clear F M;go_wp2;go_ret;exact⟨fJ (by rw[E.out]),z⟩
end
def fU (n:Nat):LU:=if n<10 then [UInt8.ofNat (48+n)] else fU (n / 10)++[UInt8.ofNat (48+n % 10)]
termination_by n
decreasing_by omega
theorem jj (h:n<10):fU n=[UInt8.ofNat (48+n)]:=by rw[fU,if_pos h]
theorem od (h:¬ n<10):fU n=fU (n / 10)++[UInt8.ofNat (48+n % 10)]:=by rw[fU,if_neg h]
theorem sS (h:d<10):(UInt8.ofNat (48+d)).toNat=48+d:=by simp;omega
theorem SC (h:d<10):gf (UInt8.ofNat (48+d))=true:=by unfold gf;rw[sS h];exact dT (by omega)
theorem iW (n:Nat):(fU n).all gf=true:=by
 induction n using Nat.strongRecOn with
 | ind n ih=>
  by_cases h:n<10
  ·rw[jj h];simp only[List.all_cons,List.all_nil,Bool.and_true];exact SC h
  ·rw[od h,List.all_append,ih (n / 10) (by omega)];simp only[List.all_cons,List.all_nil,Bool.and_true,Bool.true_and];exact SC (by omega)
theorem oe (n:Nat):fU n≠[]:=by
 by_cases h:n<10
 ·rw[jj h];simp
 ·rw[od h];simp
theorem Nl (n:Nat):ky (fU n)=n:=by
 induction n using Nat.strongRecOn with
 | ind n ih=>
  by_cases h:n<10
  ·rw[jj h];unfold ky;simp only[List.foldl_cons,List.foldl_nil];rw[sS h];omega
  ·rw[od h,Al,ih (n / 10) (by omega),sS (by omega)];omega
theorem oh (n:Nat):0<(fU n).length:=List.length_pos_iff.2 (oe n)
theorem zr:∀ n:Nat,10<=n->(fU n).head?≠some 48:=by
 intro n
 induction n using Nat.strongRecOn with
 | ind n ih=>
  intro h;rw[od (by omega)];by_cases z:n / 10<10
  ·rw[jj z];simp only[List.cons_append,List.head?_cons,ne_eq,Option.some.injEq];intro e;have:=congrArg UInt8.toNat e;rw[sS z] at this;have D:(48:UInt8).toNat=48:=rfl;omega
  ·have:=ih (n / 10) (by omega) (by omega);cases e:fU (n / 10) with
   | nil=>exact absurd e (oe _)
   | cons a r=>rw[e] at this;exact this
theorem Vi (n:Nat):vT (fU n)=true:=by
 unfold vT;rw[iW];have z:(fU n).isEmpty=false:=by cases h:fU n with | nil=>exact absurd h (oe n) | cons a r=>rfl
 rw[z];have D:(decide (1<(fU n).length)&&decide ((fU n).head?=some 48))=false:=by
  by_cases h:n<10
  ·rw[jj h];simp
  ·rw[dF (zr n (by omega))];simp
 rw[D];rfl
theorem Qy (h:(n:Int)<=CW):jF (fU n)=n/\mh (fU n)=0:=by
 have:=L4 (Vi n) (by rw[Nl];exact h);rw[Nl] at this;exact this
theorem uQ (n:Nat):rx (fU n)=true:=by
 unfold rx;rw[iW];cases h:fU n with | nil=>exact absurd h (oe n) | cons a r=>rfl
theorem aav (h:l.all gf=true){c:UInt8}(z:gf c=false):c ∉ l:=by
 intro D;rw[List.all_eq_true] at h;rw[h c D] at z;cases z
theorem kM (h:l.all gf=true)(z:∀ c,r.head?=some c->gf c=false):fS gf (l++r)=l.length:=by
 unfold fS
 induction l with
 | nil=>
  cases r with
  | nil=>rfl
  | cons a t=>rw[List.nil_append,List.takeWhile_cons_of_neg (by rw[z a rfl];simp)]
 | cons a t ih=>
  rw[List.all_cons,Bool.and_eq_true] at h;rw[List.cons_append,List.takeWhile_cons_of_pos h.1,List.length_cons,ih h.2,List.length_cons]
def jq (c:UInt8):LU->List (LU)
 | []=>[[]]
 | a::r=>if a=c then []::jq c r else ((a::(jq c r).headD [])::(jq c r).tail)
theorem IV (c:UInt8):∀ l,jq c l≠[]
 | []=>by simp[jq]
 | a::r=>by unfold jq;split<;>simp
theorem zt (c:UInt8):∀ (l:LU),c ∉ l->jq c l=[l]
 | [],_=>rfl
 | a::r,h=>by
  have D:a≠c:=fun e=>h (by rw[e];simp);rw[jq,if_neg D,zt c r (fun z=>h (List.mem_cons_of_mem _ z))];rfl
theorem wB (c:UInt8):∀ (l r:LU),c ∉ l->jq c (l++c::r)=l::jq c r
 | [],r,_=>by rw[List.nil_append,jq,if_pos rfl]
 | a::t,r,h=>by
  have D:a≠c:=fun e=>h (by rw[e];simp);rw[List.cons_append,jq,if_neg D,wB c t r (fun z=>h (List.mem_cons_of_mem _ z))];rfl
def iy (c:UInt8):List (LU)->LU
 | []=>[]
 | [a]=>a
 | a::b::r=>a++c::iy c (b::r)
theorem xS (c:UInt8):∀ (L:List (LU)),L≠[]->(∀ l∈L,c ∉ l)->jq c (iy c L)=L
 | [],h,_=>absurd rfl h
 | [a],_,h=>zt c a (h a (by simp))
 | a::b::r,_,h=>by
  rw[iy,wB c a _ (h a (by simp)),xS c (b::r) (by simp) (fun l z=>h l (List.mem_cons_of_mem _ z))]
theorem wC (c:UInt8):∀ (L:List (LU))(a:LU),iy c (L++[a])=(if L=[] then [] else iy c L++[c])++a
 | [],a=>rfl
 | [b],a=>by simp[iy]
 | b::d::r,a=>by
  have:=wC c (d::r) a;simp only[List.cons_append] at this |-;rw[iy,this];simp[iy]
theorem zu (c:UInt8):∀ (L:List (LU))(x:UInt8),x∈iy c L->x=c\/∃ l∈L,x∈l
 | [],x,h=>by simp[iy] at h
 | [a],x,h=>.inr ⟨a,by simp,h⟩
 | a::b::r,x,h=>by
  rw[iy,List.mem_append,List.mem_cons] at h;rcases h with h | h | h
  ·exact .inr ⟨a,by simp,h⟩
  ·exact .inl h
  ·rcases zu c (b::r) x h with h | ⟨l,z,D⟩
   ·exact .inl h
   ·exact .inr ⟨l,List.mem_cons_of_mem _ z,D⟩
section
open Go.RowKit Go.MapKept
def KX (p s:BA):Value:=.agg #[.string p,.string s]
def jH.val (k:jH):Value:=.agg #[.string k.path,.string k.s0,.string k.s1,.string k.s2,.string k.s3]
def ZW:jH:=⟨⟨#[]⟩,⟨#[]⟩,⟨#[]⟩,⟨#[]⟩,⟨#[]⟩⟩
theorem YB (w:World)(p s q t:BA):(Op.equal 113 (KX p s) (KX q t)).run prog w=.ok (decide (p=q/\s=t)) w:=by
 unfold KX Op.equal Op.maxDepth;simp[go_sem,kY];by_cases z:p=q<;>by_cases D:s=t<;>simp[z,D]
theorem ur (w:World)(z:Bool)(p s:BA):(Instr.checkKey z 10000 113 (KX p s)).run prog w=.ok () w:=by
 have h:∀ d:Nat,(Instr.checkKey z (d+1+1) 113 (KX p s)).run prog w=.ok () w:=by
  intro d;unfold KX;simp[Instr.checkKey,run_underlying underlying113,go_sem]
 exact h 9998
theorem yb (w:World)(k:Value)(z:List MapEntry):(Instr.findKey 113 k z).run prog w=(Instr.findAsking 113 k z 0).run prog w:=by
 cases z with
 | nil=>simp[Instr.findKey,Instr.findAsking,Instr.findNow,run_underlying underlying113]
 | cons e r=>simp[Instr.findKey,Instr.findNow,Instr.sameNow,run_underlying underlying113]
abbrev oq:Type:=BA×BA×jH
def kC (ms:List oq)(p s:BA):Option jH:=(ms.find? fun e=>decide (p=e.1/\s=e.2.1)).map fun e=>e.2.2
def ki (w:World)(b:Nat)(ms:List oq):Prop:=
 ∃ es clock,w.heap[b]?=some (.map es clock)/\es.toList.map (fun e=>(e.key,e.val))=ms.map (fun e=>(KX e.1 e.2.1,e.2.2.val))
theorem ki.made (w:World):ki (w.alloc (.map #[] 0)) w.heap.size []:=⟨#[],0,heap_alloc_new w _,by simp⟩
theorem ki.lt {ms:List oq}(h:ki w b ms):b<w.heap.size:=by
 obtain⟨F,z,D,H⟩:=h;exact(Array.getElem?_eq_some_iff.1 D).1
theorem ki.block {ms:List oq}(h:ki w b ms)(I:w'.heap[b]?=w.heap[b]?):ki w' b ms:=by
 obtain⟨H,z,F,D⟩:=h;exact⟨H,z,I.trans F,D⟩
theorem ki.below {ms:List oq}(h:ki w b ms)(z:Bw w w'):ki w' b ms:=h.block (z.block b h.lt)
theorem Cu {w:World}(p s:BA):∀ (D:List MapEntry)(z:List oq)(i:Nat),D.map (fun e=>(e.key,e.val))=z.map (fun e=>(KX e.1 e.2.1,e.2.2.val)) ->
  ((Instr.findAsking 113 (KX p s) D i).run prog w=.ok none w/\kC z p s=none) \/
  ∃ j k,(Instr.findAsking 113 (KX p s) D i).run prog w=.ok (some (j,jH.val k)) w/\kC z p s=some k
 | [],[],i,_=>.inl ⟨by simp[Instr.findAsking],rfl⟩
 | [],e::z,i,h=>by simp at h
 | e::D,[],i,h=>by simp at h
 | e::D,m::z,i,h=>by
  simp only[List.map_cons,List.cons.injEq,Prod.mk.injEq] at h;obtain⟨⟨J,M⟩,O⟩:=h;have F:=YB w p s m.1 m.2.1;by_cases H:p=m.1/\s=m.2.1
  ·right;refine⟨i,m.2.2,?_,?_⟩
   ·rw[dT H] at F;simp[Instr.findAsking,J,M,F]
   ·unfold kC;rw[List.find?_cons,dT H];rfl
  ·rw[dF H] at F;have R:kC (m::z) p s=kC z p s:=by unfold kC;rw[List.find?_cons,dF H]
   rw[R];rcases Cu (w:=w) p s D z (i+1) O with⟨I,K⟩ | ⟨j,k,I,K⟩
   ·left;exact⟨by simp[Instr.findAsking,J,F,I],K⟩
   ·right;exact⟨j,k,by simp[Instr.findAsking,J,F,I],K⟩
theorem Fr (w:World):(zeroValue 64).run prog w=.ok ZW.val w:=by kernel_rfl
theorem ki.look_ok {ms:List oq}(h:ki w b ms)(p s:BA):
  (Instr.lookup 66 (.map (some b)) (KX p s) true).run prog w=.ok (.tuple #[((kC ms p s).getD ZW).val,.bool (kC ms p s).isSome]) w:=by
 obtain⟨J,F,H,I⟩:=h;have K:=Fr w;rcases Cu (w:=w) p s J.toList ms 0 I with⟨D,z⟩ | ⟨j,k,D,z⟩
 ·rw[z];simp[Instr.lookup,run_underlying underlying66,MapKept.run_getObj_map H,ur,yb,D,K]
 ·rw[z];simp[Instr.lookup,run_underlying underlying66,MapKept.run_getObj_map H,ur,yb,D]
theorem ki.look {ms:List oq}(h:ki w b ms)(p s:BA):
  (Instr.lookup 66 (.map (some b)) (KX p s) false).run prog w=.ok ((kC ms p s).getD ZW).val w:=by
 obtain⟨J,F,H,I⟩:=h;have K:=Fr w;rcases Cu (w:=w) p s J.toList ms 0 I with⟨D,z⟩ | ⟨j,k,D,z⟩
 ·rw[z];simp[Instr.lookup,run_underlying underlying66,MapKept.run_getObj_map H,ur,yb,D,K]
 ·rw[z];simp[Instr.lookup,run_underlying underlying66,MapKept.run_getObj_map H,ur,yb,D]
theorem ki.put {ms:List oq}(h:ki w b ms)(p s:BA)(k:jH)(M:kC ms p s=none):
  ∃ w',(Instr.mapUpdate 66 (.map (some b)) (KX p s) k.val).run prog w=.ok () w'/\ki w' b (ms++[(p,s,k)])/\w.grownBy w' (some b)/\w'.heap.size=w.heap.size:=by
 obtain⟨K,z,D,I⟩:=h;have grow:∀ o,w.grownBy { w with heap:=w.heap.setIfInBounds b o } (some b):=fun o=>⟨rfl,rfl,rfl,by simp,fun k O F=>(heap_set D).2 k (fun e=>F (by rw[e]))⟩
 rcases Cu (w:=w) p s K.toList ms 0 I with⟨J,H⟩ | ⟨j,k,J,H⟩
 ·refine⟨{ w with heap:=w.heap.setIfInBounds b (.map (K.push { key:=KX p s,val:=k.val,born:=z }) (z+1)) },?_,⟨_,_,(heap_set D).1,by simp[I]⟩,grow _,by simp⟩;simp[Instr.mapUpdate,run_underlying underlying66,MapKept.run_getObj_map D,ur,yb,J,MapKept.run_setObj_map _ D]
 ·rw[M] at H;cases H
theorem ND (z:List oq)(p s:BA)(k:jH)(q t:BA):kC (z++[(p,s,k)]) q t=(kC z q t).or (if q=p/\t=s then some k else none):=by
 unfold kC;rw[List.find?_append];cases z.find? fun e=>decide (q=e.1/\t=e.2.1) with
 | some e=>rfl
 | none=>
  simp only[Option.none_or,Option.map_none,List.find?_cons];by_cases h:q=p/\t=s
  ·rw[dT h,if_pos h];rfl
  ·rw[dF h,if_neg h];rfl
def jY (a b:Int)(l:List jH)(ms:List oq):Prop:=∀ p s,kC ms p s=mo a b l p s
theorem jY.nil (a b:Int):jY a b [] []:=fun _ _=>rfl
theorem jY.skip {a b:Int}{l:List jH}{ms:List oq}(h:jY a b l ms){k:jH}(z:wP b (k.sum (lH b))=false):jY a b (l++[k]) ms:=by
 intro p s;rw[sK,h p s];have:mo a b [k] p s=none:=by unfold mo;rw[List.find?_cons,z];rfl
 rw[this,Option.or_none]
theorem jY.there {a b:Int}{l:List jH}{ms:List oq}(h:jY a b l ms){k:jH}(ht:(kC ms k.path (k.sum (lH a))).isSome=true):jY a b (l++[k]) ms:=by
 intro p s;rw[sK,<-h p s];cases e:kC ms p s with
 | some y=>rfl
 | none=>
  have:mo a b [k] p s=none:=by
   unfold mo;rw[List.find?_cons];by_cases z:k.path=p/\k.sum (lH a)=s
   ·rw[z.1,z.2,e] at ht;cases ht
   ·have:(wP b (k.sum (lH b))&&decide (k.path=p)&&decide (k.sum (lH a)=s))=false:=by
     rw[Bool.and_eq_false_iff,Bool.and_eq_false_iff];by_cases D:k.path=p
     ·exact .inr (dF fun F=>z ⟨D,F⟩)
     ·exact .inl (.inr (dF D))
    rw[this];rfl
  rw[this];rfl
theorem jY.put {a b:Int}{l:List jH}{ms:List oq}(h:jY a b l ms){k:jH}(F:wP b (k.sum (lH b))=true):jY a b (l++[k]) (ms++[(k.path,k.sum (lH a),k)]):=by
 intro p s;rw[sK,ND,h p s];congr 1;unfold mo;rw[List.find?_cons,F];by_cases z:p=k.path/\s=k.sum (lH a)
 ·rw[if_pos z,z.1,z.2];simp
 ·rw[if_neg z];have:(true&&decide (k.path=p)&&decide (k.sum (lH a)=s))=false:=by
   rw[Bool.and_eq_false_iff,Bool.and_eq_false_iff];by_cases D:k.path=p
   ·exact .inr (dF fun H=>z ⟨D.symm,H.symm⟩)
   ·exact .inl (.inr (dF D))
  rw[this];rfl
end
end Go.Proofs.YtkmjcombhjombaaGreatDoor
