/- A part of the proof. -/
import Derived.Test.YtkmjcombhjombaaGreatDoorJ01
import Derived.Test.YtkmjcombhjombaaGreatDoorJ02
set_option maxRecDepth 100000
set_option maxHeartbeats 20000000
set_option linter.unusedVariables false
set_option linter.unusedSimpArgs false
namespace Go.Proofs.YtkmjcombhjombaaGreatDoor
open Go.Proofs.Tryz
section
open Go.RowKit
def JT (s:BA)(c:UInt8):Int:=Lib.indexByte (bl s) c
theorem nP (s:BA)(c:UInt8)(h:(bl s).contains c=false):JT s c<0:=by
 have:=Lib.contains_iff_indexByte (bl s) c;rw[h] at this;unfold JT;have z:=of_decide_eq_false this.symm;omega
theorem oV (s:BA)(c:UInt8)(h:(bl s).contains c=true):0<=JT s c:=by
 have:=Lib.contains_iff_indexByte (bl s) c;rw[h] at this;unfold JT;exact dO this.symm
theorem gW (s:BA)(c:UInt8)(w:World):Calls prog 142 #[.string s,.int .u8 c.toNat] w fun e w'=>e=.returned (.int .i64 (JT s c))/\w=w':=
 (Tryz.strings_IndexByte s c.toNat w).mono fun _ _ ⟨D,z⟩=>⟨by rw[D];simp[JT,bl],z.symm⟩
theorem Aj (s:BA)(w:World)(I:s.size<=9223372036854775807):Calls prog 141 #[.string s] w fun e w'=>e=.returned (.bool (sG (bl s)))/\w=w':=by
 by_cases D:s.size=0
 ·have z:s.toList=[]:=by rw[fK,hZ s D]
  go_in;go_wp2;go_ret;exact⟨fJ (JR s D).symm,rfl⟩
 ·have F:0<s.size:=by omega
  have z:s.toList.isEmpty=false:=by rw[fK,gu];simpa using D
  have H:¬ s.toList=[]:=by intro h;rw[h] at z;simp at z
  go_in;go_wp2
  all_goals go_ret
  all_goals (refine⟨fJ ?_,rfl⟩;rw[LG s F,bI];simp[pP,it,gf];omega)
theorem qo (s:BA)(k:Nat)(h:k<s.size)(w:World)(F:s.size<=9223372036854775807):Calls prog 141 #[.string (s.extract k s.size)] w fun e w'=>e=.returned (.bool (pP s[k]))/\w=w':=
 (Aj (s.extract k s.size) w (by simp[ByteArray.size_extract];omega)).mono fun _ _ ⟨D,z⟩=>⟨by rw[D,JS s k h],z⟩
theorem Ic (s o:BA)(w:World)(D:s.size<=9223372036854775807):Calls prog 86 #[.string s,.string o] w fun e w'=>e=.returned (.bool (sH (bl o) (bl s)))/\w=w':=by
 go_in;go_wp2;go_loop [8] (fun i=>∃ k:Nat,k<=s.size/\i=.int .i64 k/\Hid (((bl s).take k).all (fun c=>pP c||(bl o).contains c)=true)) (fun i=>s.size-(intOf i).toNat)
 case atStart=>exact⟨0,z0,rfl,by simp[Hid]⟩
 case round=>
  obtain⟨k,J,rfl,F⟩:=hrel;by_cases z:k<s.size
  ·cases hl:pP s[k]
   ·cases hc:(bl o).contains s[k]
    ·have I:=nP o s[k] hc;have H:=fH hc;clear hc;go_wp2_with (first | (go_at_call 141;refine mb (qo s k z _ D) ?_;rintro w' rfl) | (go_at_call 142;refine mb (gW o s[k] _) ?_;rintro w' rfl));go_ret;exact⟨fJ (TF _ s k z hl H).symm,rfl⟩
    ·have I:=oV o s[k] hc;have H:=fH hc;clear hc;go_wp2_with (first | (go_at_call 141;refine mb (qo s k z _ D) ?_;rintro w' rfl) | (go_at_call 142;refine mb (gW o s[k] _) ?_;rintro w' rfl));go_round
     case rel=>exact⟨k+1,by omega,by go_num,CO _ s k z F (by rw[H.out];simp)⟩
     case measure=>simp[intOf];omega
   ·go_wp2_with (first | (go_at_call 141;refine mb (qo s k z _ D) ?_;rintro w' rfl));go_round
    case rel=>exact⟨k+1,by omega,by go_num,CO _ s k z F (by rw[hl];simp)⟩
    case measure=>simp[intOf];omega
  ·go_wp2_with (go_at_call 141;refine mb (Aj s _ D) ?_;rintro w' rfl);go_ret;exact⟨fJ (Pa _ s k z F).symm,rfl⟩
theorem nC (s:BA)(w:World)(I:s.size<=9223372036854775807):Calls prog 49 #[.string s] w fun e w'=>e=.returned (.bool (hH (bl s)))/\w=w':=by
 have H:=fI s;have z:=fH H;clear H;by_cases D:2<=s.size
 ·by_cases F:s.size<=64
  ·go_in;go_wp2_with (go_at_call 86;refine mb (Ic s _ _ I) ?_;rintro w' rfl);go_ret;exact⟨fJ (by unfold hH;rw[z.out,dT D,dT F];simp[bl]),rfl⟩
  ·go_in;go_wp2;go_ret;exact⟨fJ (by unfold hH;rw[z.out,dF F];simp),rfl⟩
 ·go_in;go_wp2;go_ret;exact⟨fJ (by unfold hH;rw[z.out,dF D];simp),rfl⟩
def pu (c:UInt8):Bool:=ku c||gf c||c==46||c==95||c==47
def nS (c:UInt8):Bool:=pu c||c==43||c==45||c==58||c==64
def jU (l:LU):Bool:=decide (1<=l.length/\l.length<=64)&&(match l with | c::_=>pu c | []=>false)&&l.all nS
theorem kf (p:UInt8->Bool)(h:(List.range 256).all (fun n=>p (UInt8.ofNat n))=true)(c:UInt8):p c=true:=by
 have:=List.all_eq_true.1 h c.toNat (List.mem_range.2 c.toNat_lt);simpa using this
theorem Xe (c:UInt8)(z:ku c=false)(D:gf c=false):(bl ⟨#[46,95,43,45,58,47,64]⟩).contains c=nS c:=by
 simp only[nS,pu,z,D,bl];rw[bI];simp
 grind
theorem Xf (c:UInt8)(h:nS c=true):(bl ⟨#[45,43,58,64]⟩).contains c=!pu c:=by
 exact kf (fun c=>!nS c||((bl ⟨#[45,43,58,64]⟩).contains c == !pu c)) (by kernel_rfl) c |> fun z=>by simpa [h] using z
theorem Ii (s:BA)(k:Nat)(h:k<s.size)(z:nS s[k]=false):jU (bl s)=false:=by
 have:(bl s).all nS=false:=by
  rw[List.all_eq_false];exact⟨s[k],gM (pN s k h),by rw[z];simp⟩
 unfold jU;rw[this,Bool.and_false]
theorem Pk (s:BA)(k:Nat)(h:¬ k<s.size)(K:0<s.size)(D:s.size<=64)(H:(bl ⟨#[45,43,58,64]⟩).contains s[0]=false)(z:((bl s).take k).all nS=true):jU (bl s)=true:=by
 rw[tL (by rw[fI];omega)] at z;have F:=mL s K;have J:nS s[0]=true:=by rw[F,List.all_cons,Bool.and_eq_true] at z;exact z.1
 have I:pu s[0]=true:=by have:=Xf s[0] J;rw[H] at this;simpa using this.symm
 unfold jU;rw[z,fI,dT ⟨by omega,D⟩];rw[F];simp[I]
theorem Pm (s:BA)(z:0<s.size)(F:(bl ⟨#[45,43,58,64]⟩).contains s[0]=true):jU (bl s)=false:=by
 cases hn:nS s[0] with
 | false=>exact Ii s 0 z hn
 | true=>
  have D:pu s[0]=false:=by have:=Xf s[0] hn;rw[F] at this;simpa using this.symm
  unfold jU;rw[mL s z];simp[D]
theorem C9 (s:BA)(h:¬ (1<=s.size/\s.size<=64)):jU (bl s)=false:=by
 unfold jU;rw[fI,dF h];rfl
theorem yQ (s:BA)(w:World)(hs:s.size<=9223372036854775807):Calls prog 152 #[.string s] w fun e w'=>e=.returned (.bool (jU (bl s)))/\w=w':=by
 by_cases R:s.size=0
 ·have X:s.toList=[]:=by rw[fK,hZ s R]
  have H:s.toList.isEmpty=true:=by rw[X];rfl
  have E:Hid (jU (bl s)=false):=C9 s (by omega);go_in;go_wp2;go_ret;exact⟨fJ E.out.symm,rfl⟩
 have U:0<s.size:=by omega
 have H:s.toList.isEmpty=false:=by rw[fK,gu];exact dF R
 have X:¬ s.toList=[]:=by intro h;rw[h] at H;simp at H
 by_cases aa:64<s.size
 ·have E:Hid (jU (bl s)=false):=C9 s (by omega);go_in;go_wp2;go_ret;exact⟨fJ E.out.symm,rfl⟩
 cases hf:(bl ⟨#[45,43,58,64]⟩).contains s[0] with
 | true=>
  have hn:=oV ⟨#[45,43,58,64]⟩ s[0] hf;have E:Hid (jU (bl s)=false):=Pm s U hf;clear hf;go_in;go_wp2_with (go_at_call 142;refine mb (gW _ s[0] _) ?_;rintro w' rfl);go_ret;exact⟨fJ E.out.symm,rfl⟩
 | false=>
  have hn:=nP ⟨#[45,43,58,64]⟩ s[0] hf;have Y:=fH hf;clear hf;go_in;go_wp2_with (go_at_call 142;refine mb (gW _ s[0] _) ?_;rintro w' rfl);go_loop [21] (fun i=>∃ k:Nat,k<=s.size/\i=.int .i64 k/\Hid (((bl s).take k).all nS=true)) (fun i=>s.size-(intOf i).toNat)
  case atStart=>exact⟨0,z0,rfl,by simp[Hid]⟩
  case round=>
   obtain⟨k,hk,rfl,K⟩:=hrel;by_cases z:k<s.size
   ·go_upto_region 7 with(fail)
    go_cut [5] (fun v Z=>v=.bool (ku s[k])/\w=Z)
    case first=>
     go_wp2_with fail
     all_goals go_meet
     all_goals (refine⟨?_,rfl⟩;congr 1;rw[bI];simp[ku,it,TE];omega)
    case rest=>
    obtain⟨rfl,rfl⟩:=hcut;have V:=fun W=>gW ⟨#[46,95,43,45,58,47,64]⟩ s[k] W;cases hl:ku s[k] with
    | true=>
     have J:Hid (nS s[k]=true):=by show _=_;simp[nS,pu,hl]
     clear hl;go_wp2;go_round
     case rel=>exact⟨k+1,by omega,by go_num,by show _=_;rw[kN s k z,K.out,J.out];rfl⟩
     case measure=>simp[intOf];omega
    | false=>
     by_cases I:48<=s[k].toNat/\s[k].toNat<=57
     ·obtain⟨O,M⟩:=I;have J:Hid (nS s[k]=true):=by show _=_;simp[nS,pu,gf,O,M]
      clear hl;go_wp2;go_round
      case rel=>exact⟨k+1,by omega,by go_num,by show _=_;rw[kN s k z,K.out,J.out];rfl⟩
      case measure=>simp[intOf];omega
     ·have F:gf s[k]=false:=dF I;have D:=Xe s[k] hl F;cases hn2:nS s[k] with
      | true=>
       have hx:=oV ⟨#[46,95,43,45,58,47,64]⟩ s[k] (by rw[D,hn2]);have J:=fH hn2;clear hl D hn2 F V;by_cases O:s[k].toNat<48
       ·clear I;go_wp2_with (go_at_call 142;refine mb (gW _ s[k] _) ?_;rintro w' rfl);go_round
        case rel=>exact⟨k+1,by omega,by go_num,by show _=_;rw[kN s k z,K.out,J.out];rfl⟩
        case measure=>simp[intOf];omega
       ·have M:57<s[k].toNat:=by omega
        clear I;go_wp2_with (go_at_call 142;refine mb (gW _ s[k] _) ?_;rintro w' rfl);go_round
        case rel=>exact⟨k+1,by omega,by go_num,by show _=_;rw[kN s k z,K.out,J.out];rfl⟩
        case measure=>simp[intOf];omega
      | false=>
       have hx:=nP ⟨#[46,95,43,45,58,47,64]⟩ s[k] (by rw[D,hn2]);have E:Hid (jU (bl s)=false):=Ii s k z hn2;clear hl D hn2 F V;by_cases O:s[k].toNat<48
       ·clear I;go_wp2_with (go_at_call 142;refine mb (gW _ s[k] _) ?_;rintro w' rfl);go_ret;exact⟨fJ E.out.symm,rfl⟩
       ·have M:57<s[k].toNat:=by omega
        clear I;go_wp2_with (go_at_call 142;refine mb (gW _ s[k] _) ?_;rintro w' rfl);go_ret;exact⟨fJ E.out.symm,rfl⟩
   ·go_wp2;go_ret;exact⟨fJ (Pk s k z U (by omega) Y K).symm,rfl⟩
theorem adA {a:Nat}{b:Int}(h:(a:Int)≠b):((a:Int) != b)=true:=by simp[bne,h]
def adf:LU->Bool
 | c::_=>pu c
 | []=>false
theorem Uk (l:LU):jU l=(decide (1<=l.length/\l.length<=64)&&adf l&&l.all nS):=by cases l<;>rfl
def lM (c:UInt8):Bool:=ku c||gf c||c==46||c==95||c==43||c==45||c==47||c==58
def wj (c:UInt8):Bool:=ku c||gf c||c==47
def Az:LU->Bool
 | c::_=>wj c
 | []=>false
def jz (o:Option Nat)(c:UInt8):Option Nat:=match o with
 | none=>none
 | some n=>if c==40 then some (n+1) else if c==41 then (if n=0 then none else some (n-1)) else if lM c then some n else none
def kA (l:LU):Bool:=decide (1<=l.length/\l.length<=64)&&Az l&&decide (l.foldl jz (some 0)=some 0)
theorem Df:∀ l:LU,l.foldl jz none=none
 | []=>rfl
 | _::r=>Df r
theorem Dg {α:Type}(f:α->UInt8->α)(z:α)(s:BA)(k:Nat)(h:k<s.size):((bl s).take (k+1)).foldl f z=f (((bl s).take k).foldl f z) s[k]:=by
 rw[tS (by rw[fI];exact h),List.foldl_append,oE s k h];rfl
theorem yV (s:BA)(k n:Nat)(h:k<s.size)(F:((bl s).take k).foldl jz (some 0)=some n)(D:jz (some n) s[k]=none):kA (bl s)=false:=by
 have z:=Dg jz (some 0) s k h;rw[F,D] at z;have:(bl s).foldl jz (some 0)=none:=by
  rw[<-List.take_append_drop (k+1) (bl s),List.foldl_append,z,Df]
 unfold kA;rw[this];simp
theorem wk (s:BA)(k n m:Nat)(h:k<s.size)(D:((bl s).take k).foldl jz (some 0)=some n)(z:jz (some n) s[k]=some m):((bl s).take (k+1)).foldl jz (some 0)=some m:=by
 rw[Dg jz (some 0) s k h,D,z]
theorem yW (s:BA)(k n:Nat)(h:¬ k<s.size)(z:((bl s).take k).foldl jz (some 0)=some n)(D:1<=s.size)(F:s.size<=64)(H:Az (bl s)=true):kA (bl s)=decide (n=0):=by
 rw[tL (by rw[fI];omega)] at z;unfold kA;rw[z,H,fI,dT ⟨D,F⟩];simp
theorem wl (s:BA)(h:¬ (1<=s.size/\s.size<=64)):kA (bl s)=false:=by
 unfold kA;rw[fI,dF h];rfl
theorem Pz (s:BA)(h:Az (bl s)=false):kA (bl s)=false:=by
 unfold kA;rw[h];simp
theorem Ul (s:BA)(h:0<s.size):Az (bl s)=wj s[0]:=by rw[mL s h];rfl
theorem Dh (c:UInt8)(z:ku c=false)(D:gf c=false):(bl ⟨#[46,95,43,45,47,58]⟩).contains c=lM c:=by
 exact kf (fun c=>ku c||gf c||((bl ⟨#[46,95,43,45,47,58]⟩).contains c==lM c)) (by kernel_rfl) c |> fun F=>by simpa [z,D] using F
theorem iG (c:UInt8)(w:World):Calls prog 220 #[.int .u8 c.toNat] w fun e w'=>e=.returned (.bool (ku c))/\w=w':=by
 go_in;go_wp2_with fail
 all_goals go_ret
 all_goals (refine⟨fJ ?_,rfl⟩;rw[bI];simp[ku,it,TE];omega)
theorem jW (c:UInt8)(w:World):Calls prog 221 #[.int .u8 c.toNat] w fun e w'=>e=.returned (.bool (gf c))/\w=w':=by
 go_in;go_wp2_with fail
 all_goals go_ret
 all_goals (refine⟨fJ ?_,rfl⟩;rw[bI];simp[gf];omega)
theorem yX (s:BA)(w:World)(H:s.size<=9223372036854775807):Calls prog 270 #[.string s] w fun e w'=>e=.returned (.bool (kH (bl s)))/\w=w':=by
 have F:=fI s;have z:=fH F;clear F;by_cases D:s.size<=32
 ·go_in;go_wp2_with (go_at_call 86;refine mb (Ic s _ _ H) ?_;rintro w' rfl);go_ret;exact⟨fJ (by unfold kH;rw[z.out,dT D];simp[bl]),rfl⟩
 ·go_in;go_wp2;go_ret;exact⟨fJ (by unfold kH;rw[z.out,dF D];simp),rfl⟩
theorem uO (s:BA)(w:World)(hs:s.size<=9223372036854775807):Calls prog 164 #[.string s] w fun e w'=>e=.returned (.bool (kA (bl s)))/\w=w':=by
 by_cases h0:s.size=0
 ·have he:s.toList=[]:=by rw[fK,hZ s h0]
  have ab:s.toList.isEmpty=true:=by rw[he];rfl
  have E:Hid (kA (bl s)=false):=wl s (by omega);go_in;go_wp2;go_ret;exact⟨fJ E.out.symm,rfl⟩
 have hp:0<s.size:=by omega
 have ab:s.toList.isEmpty=false:=by rw[fK,gu];exact dF h0
 have he:¬ s.toList=[]:=by intro h;rw[h] at ab;simp at ab
 by_cases ag:64<s.size
 ·have E:Hid (kA (bl s)=false):=wl s (by omega);go_in;go_wp2;go_ret;exact⟨fJ E.out.symm,rfl⟩
 have af:decide (64<(s.size:Int))=false:=dF (by omega);obtain⟨X,ae⟩:∃ X:UInt8,s[0]=X:=⟨_,rfl⟩
 have HH:=fH (Ul s hp);rw[ae] at HH;cases hl:ku X with
 | true=>
  have HD:Hid (Az (bl s)=true):=by show _=_;rw[HH.out];simp[wj,hl]
  have H:=fun W=>iG X W;rw[hl] at H;clear hl;go_in;go_wp2_with fail;refine mb (H _) ?_;rintro w' rfl;go_wp2_with fail;clear H;go_loop [3,32] (fun o i=>∃ k n:Nat,k<=s.size/\n<=k/\o=.int .i64 n/\i=.int .i64 k/\Hid (((bl s).take k).foldl jz (some 0)=some n)) (fun _ i=>s.size-(intOf i).toNat)
  case atStart=>exact⟨0,0,z0,lr,rfl,rfl,by simp[Hid]⟩
  case round=>
   obtain⟨k,n,hk,hn,rfl,rfl,Y⟩:=hrel;by_cases O:k<s.size
   ·obtain⟨c,hc⟩:∃ c:UInt8,s[k]=c:=⟨_,rfl⟩
    have R:=fH (fun m=>wk s k n m O Y);have BD:=fH (yV s k n O Y);rw[hc] at R BD;have F:∀ n:UInt8,c=n↔c.toNat=n.toNat:=fun n=>UInt8.toNat_inj.symm;by_cases U:c.toNat=40
    ·have z:(c==40)=true:=by rw[beq_iff_eq,F];exact U
     have M:=fH (R (n+1) (by simp[jz,z]));clear z F;go_wp2;go_round
     case rel=>exact⟨k+1,n+1,by omega,by omega,by go_num,by go_num,M⟩
     case measure=>simp[intOf];omega
    have z:(c==40)=false:=by rw[bF,ne_eq,F];exact U
    by_cases V:c.toNat=41
    ·have D:(c==41)=true:=by rw[beq_iff_eq,F];exact V
     by_cases Z:n=0
     ·have E:=fH (BD (by simp[jz,z,D,Z]));subst Z;clear z D F;go_wp2;go_ret;exact⟨fJ E.out.symm,rfl⟩
     ·have M:=fH (R (n-1) (by simp[jz,z,D,Z]));obtain⟨m,rfl⟩:∃ m,n=m+1:=⟨n-1,by omega⟩
      clear z D F;go_wp2;go_round
      case rel=>exact⟨k+1,m,by omega,by omega,by go_num,by go_num,M⟩
      case measure=>simp[intOf];omega
    have D:(c==41)=false:=by rw[bF,ne_eq,F];exact V
    cases hl:ku c with
    | true=>
     have I:lM c=true:=by simp[lM,hl]
     have M:=fH (R (n) (by simp[jz,z,D,I]));have H:=fun W=>iG c W;rw[hl] at H;clear hl I z D F;go_wp2_with fail;refine mb (H _) ?_;rintro w' rfl;go_wp2;go_round
     case rel=>exact⟨k+1,n,by omega,by omega,by go_num,by go_num,M⟩
     case measure=>simp[intOf];omega
    | false=>
     cases hd:gf c with
     | true=>
      have I:lM c=true:=by simp[lM,hd]
      have M:=fH (R (n) (by simp[jz,z,D,I]));have H:=fun W=>iG c W;rw[hl] at H;have J:=fun W=>jW c W;rw[hd] at J;clear hl hd I z D F;go_wp2_with fail;refine mb (H _) ?_;rintro w' rfl;go_wp2_with fail;refine mb (J _) ?_;rintro w' rfl;go_wp2;go_round
      case rel=>exact⟨k+1,n,by omega,by omega,by go_num,by go_num,M⟩
      case measure=>simp[intOf];omega
     | false=>
      have K:=Dh c hl hd;cases I:lM c with
      | true=>
       have hx:=oV ⟨#[46,95,43,45,47,58]⟩ c (by rw[K,I]);have M:=fH (R (n) (by simp[jz,z,D,I]));have H:=fun W=>iG c W;rw[hl] at H;have J:=fun W=>jW c W;rw[hd] at J;clear hl hd I K z D F;go_wp2_with fail;refine mb (H _) ?_;rintro w' rfl;go_wp2_with fail;refine mb (J _) ?_;rintro w' rfl;go_wp2_with fail;refine mb (gW _ c _) ?_;rintro w' rfl;go_wp2;go_round
       case rel=>exact⟨k+1,n,by omega,by omega,by go_num,by go_num,M⟩
       case measure=>simp[intOf];omega
      | false=>
       have hx:=nP ⟨#[46,95,43,45,47,58]⟩ c (by rw[K,I]);have E:=fH (BD (by simp[jz,z,D,I]));have H:=fun W=>iG c W;rw[hl] at H;have J:=fun W=>jW c W;rw[hd] at J;clear hl hd I K z D F;go_wp2_with fail;refine mb (H _) ?_;rintro w' rfl;go_wp2_with fail;refine mb (J _) ?_;rintro w' rfl;go_wp2_with fail;refine mb (gW _ c _) ?_;rintro w' rfl;go_wp2;go_ret;exact⟨fJ E.out.symm,rfl⟩
   ·have E:=fH (yW s k n O Y (by omega) (by omega) HD);go_wp2;go_ret;exact⟨fJ (by rw[E.out,bI];simp),rfl⟩
 | false=>
  cases hd:gf X with
  | true=>
   have HD:Hid (Az (bl s)=true):=by show _=_;rw[HH.out];simp[wj,hd]
   have H:=fun W=>iG X W;rw[hl] at H;have J:=fun W=>jW X W;rw[hd] at J;clear hl hd;go_in;go_wp2_with fail;refine mb (H _) ?_;rintro w' rfl;go_wp2_with fail;refine mb (J _) ?_;rintro w' rfl;go_wp2_with fail;clear H J;go_loop [3,32] (fun o i=>∃ k n:Nat,k<=s.size/\n<=k/\o=.int .i64 n/\i=.int .i64 k/\Hid (((bl s).take k).foldl jz (some 0)=some n)) (fun _ i=>s.size-(intOf i).toNat)
   case atStart=>exact⟨0,0,z0,lr,rfl,rfl,by simp[Hid]⟩
   case round=>
    obtain⟨k,n,hk,hn,rfl,rfl,Y⟩:=hrel;by_cases O:k<s.size
    ·obtain⟨c,hc⟩:∃ c:UInt8,s[k]=c:=⟨_,rfl⟩
     have R:=fH (fun m=>wk s k n m O Y);have BD:=fH (yV s k n O Y);rw[hc] at R BD;have F:∀ n:UInt8,c=n↔c.toNat=n.toNat:=fun n=>UInt8.toNat_inj.symm;by_cases U:c.toNat=40
     ·have z:(c==40)=true:=by rw[beq_iff_eq,F];exact U
      have M:=fH (R (n+1) (by simp[jz,z]));clear z F;go_wp2;go_round
      case rel=>exact⟨k+1,n+1,by omega,by omega,by go_num,by go_num,M⟩
      case measure=>simp[intOf];omega
     have z:(c==40)=false:=by rw[bF,ne_eq,F];exact U
     by_cases V:c.toNat=41
     ·have D:(c==41)=true:=by rw[beq_iff_eq,F];exact V
      by_cases Z:n=0
      ·have E:=fH (BD (by simp[jz,z,D,Z]));subst Z;clear z D F;go_wp2;go_ret;exact⟨fJ E.out.symm,rfl⟩
      ·have M:=fH (R (n-1) (by simp[jz,z,D,Z]));obtain⟨m,rfl⟩:∃ m,n=m+1:=⟨n-1,by omega⟩
       clear z D F;go_wp2;go_round
       case rel=>exact⟨k+1,m,by omega,by omega,by go_num,by go_num,M⟩
       case measure=>simp[intOf];omega
     have D:(c==41)=false:=by rw[bF,ne_eq,F];exact V
     cases hl:ku c with
     | true=>
      have I:lM c=true:=by simp[lM,hl]
      have M:=fH (R (n) (by simp[jz,z,D,I]));have H:=fun W=>iG c W;rw[hl] at H;clear hl I z D F;go_wp2_with fail;refine mb (H _) ?_;rintro w' rfl;go_wp2;go_round
      case rel=>exact⟨k+1,n,by omega,by omega,by go_num,by go_num,M⟩
      case measure=>simp[intOf];omega
     | false=>
      cases hd:gf c with
      | true=>
       have I:lM c=true:=by simp[lM,hd]
       have M:=fH (R (n) (by simp[jz,z,D,I]));have H:=fun W=>iG c W;rw[hl] at H;have J:=fun W=>jW c W;rw[hd] at J;clear hl hd I z D F;go_wp2_with fail;refine mb (H _) ?_;rintro w' rfl;go_wp2_with fail;refine mb (J _) ?_;rintro w' rfl;go_wp2;go_round
       case rel=>exact⟨k+1,n,by omega,by omega,by go_num,by go_num,M⟩
       case measure=>simp[intOf];omega
      | false=>
       have K:=Dh c hl hd;cases I:lM c with
       | true=>
        have hx:=oV ⟨#[46,95,43,45,47,58]⟩ c (by rw[K,I]);have M:=fH (R (n) (by simp[jz,z,D,I]));have H:=fun W=>iG c W;rw[hl] at H;have J:=fun W=>jW c W;rw[hd] at J;clear hl hd I K z D F;go_wp2_with fail;refine mb (H _) ?_;rintro w' rfl;go_wp2_with fail;refine mb (J _) ?_;rintro w' rfl;go_wp2_with fail;refine mb (gW _ c _) ?_;rintro w' rfl;go_wp2;go_round
        case rel=>exact⟨k+1,n,by omega,by omega,by go_num,by go_num,M⟩
        case measure=>simp[intOf];omega
       | false=>
        have hx:=nP ⟨#[46,95,43,45,47,58]⟩ c (by rw[K,I]);have E:=fH (BD (by simp[jz,z,D,I]));have H:=fun W=>iG c W;rw[hl] at H;have J:=fun W=>jW c W;rw[hd] at J;clear hl hd I K z D F;go_wp2_with fail;refine mb (H _) ?_;rintro w' rfl;go_wp2_with fail;refine mb (J _) ?_;rintro w' rfl;go_wp2_with fail;refine mb (gW _ c _) ?_;rintro w' rfl;go_wp2;go_ret;exact⟨fJ E.out.symm,rfl⟩
    ·have E:=fH (yW s k n O Y (by omega) (by omega) HD);go_wp2;go_ret;exact⟨fJ (by rw[E.out,bI];simp),rfl⟩
  | false=>
   by_cases aa:X.toNat=47
   ·have ac:X=47:=UInt8.toNat_inj.1 aa;have HD:Hid (Az (bl s)=true):=by show _=_;rw[HH.out];simp[wj,ac]
    clear ac;have H:=fun W=>iG X W;rw[hl] at H;have J:=fun W=>jW X W;rw[hd] at J;have ad:((X.toNat:Int) != 47)=false:=by simp[aa]
    clear hl hd aa;go_in;go_wp2_with fail;refine mb (H _) ?_;rintro w' rfl;go_wp2_with fail;refine mb (J _) ?_;rintro w' rfl;go_wp2_with fail;clear H J;go_loop [3,32] (fun o i=>∃ k n:Nat,k<=s.size/\n<=k/\o=.int .i64 n/\i=.int .i64 k/\Hid (((bl s).take k).foldl jz (some 0)=some n)) (fun _ i=>s.size-(intOf i).toNat)
    case atStart=>exact⟨0,0,z0,lr,rfl,rfl,by simp[Hid]⟩
    case round=>
     obtain⟨k,n,hk,hn,rfl,rfl,Y⟩:=hrel;by_cases O:k<s.size
     ·obtain⟨c,hc⟩:∃ c:UInt8,s[k]=c:=⟨_,rfl⟩
      have R:=fH (fun m=>wk s k n m O Y);have BD:=fH (yV s k n O Y);rw[hc] at R BD;have F:∀ n:UInt8,c=n↔c.toNat=n.toNat:=fun n=>UInt8.toNat_inj.symm;by_cases U:c.toNat=40
      ·have z:(c==40)=true:=by rw[beq_iff_eq,F];exact U
       have M:=fH (R (n+1) (by simp[jz,z]));clear z F;go_wp2;go_round
       case rel=>exact⟨k+1,n+1,by omega,by omega,by go_num,by go_num,M⟩
       case measure=>simp[intOf];omega
      have z:(c==40)=false:=by rw[bF,ne_eq,F];exact U
      by_cases V:c.toNat=41
      ·have D:(c==41)=true:=by rw[beq_iff_eq,F];exact V
       by_cases Z:n=0
       ·have E:=fH (BD (by simp[jz,z,D,Z]));subst Z;clear z D F;go_wp2;go_ret;exact⟨fJ E.out.symm,rfl⟩
       ·have M:=fH (R (n-1) (by simp[jz,z,D,Z]));obtain⟨m,rfl⟩:∃ m,n=m+1:=⟨n-1,by omega⟩
        clear z D F;go_wp2;go_round
        case rel=>exact⟨k+1,m,by omega,by omega,by go_num,by go_num,M⟩
        case measure=>simp[intOf];omega
      have D:(c==41)=false:=by rw[bF,ne_eq,F];exact V
      cases hl:ku c with
      | true=>
       have I:lM c=true:=by simp[lM,hl]
       have M:=fH (R (n) (by simp[jz,z,D,I]));have H:=fun W=>iG c W;rw[hl] at H;clear hl I z D F;go_wp2_with fail;refine mb (H _) ?_;rintro w' rfl;go_wp2;go_round
       case rel=>exact⟨k+1,n,by omega,by omega,by go_num,by go_num,M⟩
       case measure=>simp[intOf];omega
      | false=>
       cases hd:gf c with
       | true=>
        have I:lM c=true:=by simp[lM,hd]
        have M:=fH (R (n) (by simp[jz,z,D,I]));have H:=fun W=>iG c W;rw[hl] at H;have J:=fun W=>jW c W;rw[hd] at J;clear hl hd I z D F;go_wp2_with fail;refine mb (H _) ?_;rintro w' rfl;go_wp2_with fail;refine mb (J _) ?_;rintro w' rfl;go_wp2;go_round
        case rel=>exact⟨k+1,n,by omega,by omega,by go_num,by go_num,M⟩
        case measure=>simp[intOf];omega
       | false=>
        have K:=Dh c hl hd;cases I:lM c with
        | true=>
         have hx:=oV ⟨#[46,95,43,45,47,58]⟩ c (by rw[K,I]);have M:=fH (R (n) (by simp[jz,z,D,I]));have H:=fun W=>iG c W;rw[hl] at H;have J:=fun W=>jW c W;rw[hd] at J;clear hl hd I K z D F;go_wp2_with fail;refine mb (H _) ?_;rintro w' rfl;go_wp2_with fail;refine mb (J _) ?_;rintro w' rfl;go_wp2_with fail;refine mb (gW _ c _) ?_;rintro w' rfl;go_wp2;go_round
         case rel=>exact⟨k+1,n,by omega,by omega,by go_num,by go_num,M⟩
         case measure=>simp[intOf];omega
        | false=>
         have hx:=nP ⟨#[46,95,43,45,47,58]⟩ c (by rw[K,I]);have E:=fH (BD (by simp[jz,z,D,I]));have H:=fun W=>iG c W;rw[hl] at H;have J:=fun W=>jW c W;rw[hd] at J;clear hl hd I K z D F;go_wp2_with fail;refine mb (H _) ?_;rintro w' rfl;go_wp2_with fail;refine mb (J _) ?_;rintro w' rfl;go_wp2_with fail;refine mb (gW _ c _) ?_;rintro w' rfl;go_wp2;go_ret;exact⟨fJ E.out.symm,rfl⟩
     ·have E:=fH (yW s k n O Y (by omega) (by omega) HD);go_wp2;go_ret;exact⟨fJ (by rw[E.out,bI];simp),rfl⟩
   ·have E:Hid (kA (bl s)=false):=Pz s (by rw[HH.out];simp only[wj,hl,hd];simp;intro e;exact aa (by rw[e];rfl));have H:=fun W=>iG X W;rw[hl] at H;have J:=fun W=>jW X W;rw[hd] at J;clear hl hd;have ad:=adA (b:=47) (by omega:(X.toNat:Int)≠47);go_in;go_wp2_with fail;refine mb (H _) ?_;rintro w' rfl;go_wp2_with fail;refine mb (J _) ?_;rintro w' rfl;go_wp2;go_ret;exact⟨fJ E.out.symm,rfl⟩
end
end Go.Proofs.YtkmjcombhjombaaGreatDoor
