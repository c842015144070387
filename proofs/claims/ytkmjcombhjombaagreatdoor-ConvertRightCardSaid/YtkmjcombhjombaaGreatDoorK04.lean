/- A part of the proof. -/
import Derived.Test.YtkmjcombhjombaaGreatDoorK02
import Derived.Test.YtkmjcombhjombaaGreatDoorK03
set_option maxRecDepth 100000
set_option maxHeartbeats 20000000
set_option linter.unusedVariables false
set_option linter.unusedSimpArgs false
namespace Go.Proofs.YtkmjcombhjombaaGreatDoor
variable{s:BA}{l:LU}{a b k:Nat}{w w':World}
section
open Go.RowKit
def Bk (s:BA)(c:UInt8):Int:=Lib.indexByte (bl s) c
theorem pj (s:BA)(c:UInt8)(h:(bl s).contains c=false):Bk s c<0:=by
 have:=Lib.contains_iff_indexByte (bl s) c;rw[h] at this;unfold Bk;have y:=of_decide_eq_false this.symm;omega
theorem pO (s:BA)(c:UInt8)(h:(bl s).contains c=true):0<=Bk s c:=by
 have:=Lib.contains_iff_indexByte (bl s) c;rw[h] at this;unfold Bk;exact dO this.symm
theorem jQ (s:BA)(c:UInt8)(w:World):Calls Tryz.prog 142 #[.string s,.int .u8 c.toNat] w fun e w'=>e=.returned (.int .i64 (Bk s c))/\w=w':=
 (Tryz.strings_IndexByte s c.toNat w).mono fun _ _ ⟨y,z⟩=>⟨by rw[y];simp[Bk,bl],z.symm⟩
theorem Au (s:BA)(w:World)(hs:s.size<=9223372036854775807):Calls Tryz.prog 141 #[.string s] w fun e w'=>e=.returned (.bool (tW (bl s)))/\w=w':=by
 by_cases z:s.size=0
 ·have y:s.toList=[]:=by rw[iY,kw s z]
  go_in;go_wp2;go_ret;exact⟨iW (I6 s z).symm,rfl⟩
 ·have D:0<s.size:=by omega
  have y:s.toList.isEmpty=false:=by rw[iY,jB];simpa using z
  have F:¬ s.toList=[]:=by intro h;rw[h] at y;simp at y
  go_in;go_wp2
  all_goals go_ret
  all_goals (refine⟨iW ?_,rfl⟩;rw[Km s D,bI];simp[ru,lF,jV];omega)
theorem rH (s:BA)(k:Nat)(h:k<s.size)(w:World)(hs:s.size<=9223372036854775807):Calls Tryz.prog 141 #[.string (s.extract k s.size)] w fun e w'=>e=.returned (.bool (ru s[k]))/\w=w':=
 (Au (s.extract k s.size) w (by simp[ByteArray.size_extract];omega)).mono fun _ _ ⟨y,z⟩=>⟨by rw[y,I7 s k h],z⟩
theorem GT (s o:BA)(w:World)(hs:s.size<=9223372036854775807):Calls Tryz.prog 86 #[.string s,.string o] w fun e w'=>e=.returned (.bool (tX (bl o) (bl s)))/\w=w':=by
 go_in;go_wp2;go_loop [8] (fun i=>∃ k:Nat,k<=s.size/\i=.int .i64 k/\Hid (((bl s).take k).all (fun c=>ru c||(bl o).contains c)=true)) (fun i=>s.size-(intOf i).toNat)
 case atStart=>exact⟨0,z0,rfl,by simp[Hid]⟩
 case round=>
  obtain⟨k,H,rfl,D⟩:=hrel;by_cases y:k<s.size
  ·cases hl:ru s[k]
   ·cases hc:(bl o).contains s[k]
    ·have F:=pj o s[k] hc;have z:=iV hc;clear hc;go_wp2_with (first | (go_at_call 141;refine(rH s k y _ hs).mono ?_;rintro e w' ⟨rfl,rfl⟩) | (go_at_call 142;refine(jQ o s[k] _).mono ?_;rintro e w' ⟨rfl,rfl⟩));go_ret;exact⟨iW (RP _ s k y hl z.out).symm,rfl⟩
    ·have F:=pO o s[k] hc;have z:=iV hc;clear hc;go_wp2_with (first | (go_at_call 141;refine(rH s k y _ hs).mono ?_;rintro e w' ⟨rfl,rfl⟩) | (go_at_call 142;refine(jQ o s[k] _).mono ?_;rintro e w' ⟨rfl,rfl⟩));go_round
     case rel=>exact⟨k+1,by omega,by go_num,Cs _ s k y D.out (by rw[z.out];simp)⟩
     case measure=>simp[intOf];omega
   ·go_wp2_with (first | (go_at_call 141;refine(rH s k y _ hs).mono ?_;rintro e w' ⟨rfl,rfl⟩));go_round
    case rel=>exact⟨k+1,by omega,by go_num,Cs _ s k y D.out (by rw[hl];simp)⟩
    case measure=>simp[intOf];omega
  ·go_wp2_with (go_at_call 141;refine(Au s _ hs).mono ?_;rintro e w' ⟨rfl,rfl⟩);go_ret;exact⟨iW (Nz _ s k y D.out).symm,rfl⟩
theorem pE (s:BA)(w:World)(hs:s.size<=9223372036854775807):Calls Tryz.prog 49 #[.string s] w fun e w'=>e=.returned (.bool (jZ (bl s)))/\w=w':=by
 have F:=iX s;have y:=iV F;clear F;by_cases z:2<=s.size
 ·by_cases D:s.size<=64
  ·go_in;go_wp2_with (go_at_call 86;refine(GT s _ _ hs).mono ?_;rintro e w' ⟨rfl,rfl⟩);go_ret;exact⟨iW (by unfold jZ;rw[y.out,dT z,dT D];simp[bl]),rfl⟩
  ·go_in;go_wp2;go_ret;exact⟨iW (by unfold jZ;rw[y.out,dF D];simp),rfl⟩
 ·go_in;go_wp2;go_ret;exact⟨iW (by unfold jZ;rw[y.out,dF z];simp),rfl⟩
def mA (l:LU):Int:=l.foldl (fun n c=>10*n+((c.toNat:Int)-48)) 0
theorem Ay (l:LU)(c:UInt8):mA (l++[c])=10*mA l+((c.toNat:Int)-48):=by simp[mA,List.foldl_append]
theorem Kv (s:BA)(k:Nat)(h:k<s.size):mA ((bl s).take (k+1))=10*mA ((bl s).take k)+((s[k].toNat:Int)-48):=by
 rw[tS (by rw[iX];exact h),Ay,qt s k h]
theorem wA:∀ (l:LU)(n:Int),0<=n->l.all jV=true->n<=l.foldl (fun n c=>10*n+((c.toNat:Int)-48)) n
 | [],n,_,_=>Int.le_refl _
 | c::r,n,h,ha=>by
  rw[List.all_cons,Bool.and_eq_true] at ha;have y:48<=c.toNat:=(dO ha.1).1;have:=wA r (10*n+((c.toNat:Int)-48)) (by omega) ha.2;rw[List.foldl_cons];omega
theorem Sc (l:LU)(k:Nat)(h:l.all jV=true):0<=mA (l.take k)/\mA (l.take k)<=mA l:=by
 have F:(l.take k).all jV=true:=by rw[List.all_eq_true] at h |-;exact fun x y=>h x (List.mem_of_mem_take y)
 have D:(l.drop k).all jV=true:=by rw[List.all_eq_true] at h |-;exact fun x y=>h x (List.mem_of_mem_drop y)
 have z:0<=mA (l.take k):=wA _ 0 (Int.le_refl _) F;refine⟨z,?_⟩;have I:=wA (l.drop k) _ z D;have H:mA l=(l.drop k).foldl (fun n c=>10*n+((c.toNat:Int)-48)) (mA (l.take k)):=by
  unfold mA;rw[<-List.foldl_append,List.take_append_drop]
 omega
def wB (l:LU):Bool:=!l.isEmpty && !(decide (1<l.length)&&decide (l.head?=some 48))&&l.all jV
def Cx:Int:=4611686018427387903
def lI (l:LU):Int:=if wB l then (if mA l<=Cx then mA l else 0) else 0
def ol (l:LU):Int:=if wB l then (if mA l<=Cx then 0 else 4) else 3
theorem Vg (h:s.size=0):wB (bl s)=false:=by rw[kw s h];rfl
theorem Kx (h:1<s.size)(h0:s[0]=48):wB (bl s)=false:=by
 unfold wB;have:(bl s).head?=some 48:=by rw[pi s (by omega),h0];rfl
 rw[this,iX];simp[h]
theorem Vh (h:0<s.size)(h0:¬ (1<s.size/\s[0]=48)):wB (bl s)=(bl s).all jV:=by
 unfold wB;have D:(bl s).head?=some s[0]:=by rw[pi s h];rfl
 have y:(bl s).isEmpty=false:=by rw[jB];exact dF (by omega)
 rw[D,y,iX];have:(decide (1<s.size)&&decide (some s[0]=some (48:UInt8)))=false:=by
  rw[Bool.and_eq_false_iff];by_cases F:1<s.size
  ·right;simp;exact fun z=>h0 ⟨F,z⟩
  ·left;simp;omega
 rw[this];simp
theorem zd (h:wB l=false):lI l=0/\ol l=3:=by simp[lI,ol,h]
theorem Ky (h:wB l=true)(hv:mA l<=Cx):lI l=mA l/\ol l=0:=by simp[lI,ol,h,hv]
theorem Sd (h:wB l=true)(hv:¬ mA l<=Cx):lI l=0/\ol l=4:=by simp[lI,ol,h,hv]
def qu (l:LU):Value:=.tuple #[.int .i64 (lI l),.int .i64 (ol l)]
theorem qO (s:BA)(w:World)(hs:s.size<=9223372036854775807):Calls Tryz.prog 87 #[.string s] w fun e w'=>e=.returned (qu (bl s))/\w=w':=by
 by_cases h0:s.size=0
 ·have O:s.toList=[]:=by rw[iY,kw s h0]
  have E:=iV (zd (Vg h0));go_in;go_wp2;go_ret2;exact⟨by unfold qu;rw[E.out.1,E.out.2];rfl,rfl⟩
 have M:0<s.size:=by omega
 have O:s.toList.isEmpty=false:=by rw[iY,jB];exact dF (by omega)
 have U:¬ s.toList=[]:=by intro h;rw[h] at O;simp at O
 by_cases N:1<s.size/\s[0]=48
 ·obtain⟨N,K⟩:=N;have E:=iV (zd (Kx N K));have J:((s[0].toNat:Int)==48)=true:=by rw[K];rfl
  clear K;go_in;go_wp2;go_ret2;exact⟨by unfold qu;rw[E.out.1,E.out.2];rfl,rfl⟩
 have Y:=iV (Vh M N);have D:∀ (J:decide (1<(s.size:Int))=false\/(decide (1<(s.size:Int))=true/\((s[0].toNat:Int)==48)=false)),Calls Tryz.prog 87 #[.string s] w fun e w'=>e=.returned (qu (bl s))/\w=w':=by
  intro J;rcases J with J | ⟨ab,J⟩
  all_goals
   go_in;go_wp2_with fail;clear O U J;go_loop [4,5,22] (fun n lg i=>∃ (k:Nat) (m:Int) (b:Bool),k<=s.size/\i=.int .i64 k/\n=.int .i64 m/\lg=.bool b/\0<=m/\m<=4611686018427387903/\Hid (((bl s).take k).all jV=true)/\Hid (b=false->m=mA ((bl s).take k))/\Hid (b=true->Cx<mA ((bl s).take k))) (fun _ _ i=>s.size-(intOf i).toNat)
   case atStart=>exact⟨0,0,false,z0,rfl,rfl,rfl,by omega,by omega,by simp[Hid],iV (fun _=>by simp[mA]),iV (fun h=>by cases h)⟩
   case round=>
    obtain⟨k,m,b,hk,rfl,rfl,rfl,m0,Z,HA,V,HL⟩:=hrel;by_cases I:k<s.size
    ·by_cases hd:48<=s[k].toNat/\s[k].toNat<=57
     ·obtain⟨d0,d1⟩:=hd;have HD:Hid (jV s[k]=true):=dT ⟨d0,d1⟩;have R:=iV (Kv s k I);have F:Hid (((bl s).take (k+1)).all jV=true):=by show _=_;rw[mt s k I,HA.out,HD.out];rfl
      cases b
      ·by_cases hb:m > (4611686018427387903-((s[k].toNat:Int)-48)) / 10
       ·go_wp2;go_round
        case rel=>exact⟨k+1,m,true,by omega,by go_num,rfl,rfl,m0,Z,F,iV (fun h=>by cases h),iV (fun _=>by rw[R.out,<-V.out rfl];unfold Cx;omega)⟩
        case measure=>simp[intOf];omega
       ·go_wp2;go_round
        case rel=>exact⟨k+1,_,false,by omega,by go_num,rfl,rfl,by omega,by omega,F,iV (fun _=>by rw[R.out,<-V.out rfl]),iV (fun h=>by cases h)⟩
        case measure=>simp[intOf];omega
      ·go_wp2;go_round
       case rel=>exact⟨k+1,m,true,by omega,by go_num,rfl,rfl,m0,Z,F,iV (fun h=>by cases h),iV (fun _=>by rw[R.out];have:=HL.out rfl;unfold Cx at *;omega)⟩
       case measure=>simp[intOf];omega
     ·have E:=iV (zd (show wB (bl s)=false by rw[Y.out];exact rq s k I (dF hd)));by_cases hd1:s[k].toNat<48
      ·go_wp2;go_ret2;exact⟨by unfold qu;rw[E.out.1,E.out.2];rfl,rfl⟩
      ·have aa:57<s[k].toNat:=by omega
       go_wp2;go_ret2;exact⟨by unfold qu;rw[E.out.1,E.out.2];rfl,rfl⟩
    ·have z:wB (bl s)=true:=by rw[Y.out];have:=HA.out;rw[px s k (by omega)] at this;exact this
     have y:(bl s).take k=bl s:=px s k (by omega);cases b
     ·have H:=V.out rfl;rw[y] at H;have E:=iV (Ky z (by rw[<-H];unfold Cx;omega));have X:=iV H;clear z y H;go_wp2;go_ret2;exact⟨by unfold qu;rw[E.out.1,E.out.2,<-X.out];rfl,rfl⟩
     ·have H:=HL.out rfl;rw[y] at H;have E:=iV (Sd z (by omega));clear z y H;go_wp2;go_ret2;exact⟨by unfold qu;rw[E.out.1,E.out.2];rfl,rfl⟩
 by_cases K:1<s.size
 ·exact D (.inr ⟨dT,by simp only[bF,ne_eq];intro h;apply N;refine⟨K,UInt8.toNat_inj.1 ?_⟩;show _=48;omega⟩)
 ·exact D (.inl dF)
def rM (i:Nat)(c:UInt8):Bool:=decide ((97<=c.toNat/\c.toNat<=122)\/c.toNat=95\/(i≠0/\(c.toNat=45\/(48<=c.toNat/\c.toNat<=57))))
def pS (s:BA):Bool:=decide (∀ j (h:j<s.size),rM j s[j]=true)
def Vi (s:BA):Bool:=decide (bl s=[114,111,111,116])||(decide (ol (bl s)=0)&&decide (1<=lI (bl s))&&decide (lI (bl s)<=2097151))
def nV (fmt:Int)(s:BA):Bool:=decide (1<=s.size/\s.size<=31)&&(if fmt=3 then Vi s else pS s)
theorem xO (s:BA):(s.toList == [114,111,111,116])=decide (bl s=[114,111,111,116]):=by
 rw[iY,bI];simp
theorem qP (hk:k<s.size)(h:∀ j (h:j<s.size),j<k->rM j s[j]=true)(hc:rM k s[k]=true):∀ j (h:j<s.size),j<k+1->rM j s[j]=true:=by
 intro j y z;by_cases e:j=k
 ·subst e;exact hc
 ·exact h j y (by omega)
theorem sE (hk:k<s.size)(hc:rM k s[k]=false):pS s=false:=by
 apply dF;intro h;rw[h k hk] at hc;cases hc
theorem oV (h:a=b):((a:Int)==(b:Int))=true:=by simp[h]
theorem om (h:¬ a=b):((a:Int)==(b:Int))=false:=by simp;omega
theorem QI (h:a=b):((a:Int) != (b:Int))=false:=by simp[h]
theorem BY (h:¬ a=b):((a:Int) != (b:Int))=true:=by simp[bne];omega
theorem td (fmt:Int)(s:BA)(w:World)(hs:s.size<=9223372036854775807):Calls Tryz.prog 166 #[.int .i64 fmt,.string s] w fun e w'=>e=.returned (.bool (nV fmt s))/\w=w':=by
 by_cases h1:s.size<1
 ·have E:Hid (nV fmt s=false):=by show _=_;unfold nV;rw[dF];rfl
  go_in;go_wp2;go_ret;exact⟨iW E.out.symm,rfl⟩
 by_cases h2:31<s.size
 ·have E:Hid (nV fmt s=false):=by show _=_;unfold nV;rw[dF];rfl
  go_in;go_wp2;go_ret;exact⟨iW E.out.symm,rfl⟩
 by_cases R:fmt=3
 ·subst R;have E:Hid (nV 3 s=Vi s):=by show _=_;unfold nV;rw[dT,if_pos rfl];rfl
  unfold Vi at E;cases g1:(s.toList == [114,111,111,116])
  ·have V:Hid (decide (bl s=[114,111,111,116])=false):=by show _=_;rw[<-xO];exact g1
   go_in;go_wp2_with fail;refine(qO s _ hs).mono ?_;rintro e w' ⟨rfl,rfl⟩;unfold qu;by_cases F:ol (bl s)=0
   ·by_cases X:1<=lI (bl s)
    ·have K:(ol (bl s)==0)=true:=by simpa using F
     have H:Hid (nV 3 s=decide (lI (bl s)<=2097151)):=by show _=_;rw[E.out,V.out,dT F,dT X];rfl
     clear F;go_wp2;go_ret;exact⟨iW (by rw[H.out]),rfl⟩
    ·have K:(ol (bl s)==0)=true:=by simpa using F
     have H:Hid (nV 3 s=false):=by show _=_;rw[E.out,V.out,dF X];simp
     clear F;go_wp2;go_ret;exact⟨iW (by rw[H.out]),rfl⟩
   ·have K:(ol (bl s)==0)=false:=by simpa using F
    have H:Hid (nV 3 s=false):=by show _=_;rw[E.out,V.out,dF F];simp
    clear F;go_wp2;go_ret;exact⟨iW (by rw[H.out]),rfl⟩
  ·have H:Hid (nV 3 s=true):=by show _=_;rw[E.out,<-xO,g1];rfl
   go_in;go_wp2_with fail;refine(qO s _ hs).mono ?_;rintro e w' ⟨rfl,rfl⟩;unfold qu;go_wp2;go_ret;exact⟨iW (by rw[H.out]),rfl⟩
 ·have ac:(fmt==3)=false:=by simpa using R
  have E:Hid (nV fmt s=pS s):=by show _=_;unfold nV;rw[dT,if_neg R];rfl
  clear R;go_in;go_wp2;go_loop [41] (fun i=>∃ k:Nat,k<=s.size/\i=.int .i64 k/\Hid (∀ j (h:j<s.size),j<k->rM j s[j]=true)) (fun i=>s.size-(intOf i).toNat)
  case atStart=>exact⟨0,z0,rfl,iV (fun j h hj=>by omega)⟩
  case round=>
   obtain⟨k,hk,rfl,M⟩:=hrel;by_cases y:k<s.size
   ·by_cases a1:97<=s[k].toNat
    ·by_cases a2:s[k].toNat<=122
     ·skip
      have z:Hid (rM k s[k]=true):=dT (by omega);go_wp2;go_round
      case rel=>exact⟨k+1,by omega,by go_num,iV (qP y M.out z.out)⟩
      case measure=>simp[intOf];omega
     ·have Y:decide ((s[k].toNat:Int)<=122)=false:=dF (by omega);have O:((s[k].toNat:Int)==95)=false:=om (by omega:¬ s[k].toNat=95);have N:((s[k].toNat:Int) != 45)=true:=BY (by omega:¬ s[k].toNat=45);have ad:57<s[k].toNat:=by omega
      have z:Hid (pS s=false):=sE y dF;by_cases D:k=0
      ·have U:((k:Int)==0)=true:=oV D;clear D;go_wp2;go_ret;exact⟨iW (by rw[E.out,z.out]),rfl⟩
      ·have U:((k:Int)==0)=false:=om D;have ae:decide ((s[k].toNat:Int)<48)=false:=dF (by omega);have Z:decide (57<(s[k].toNat:Int))=true:=dT (by omega);clear D;go_wp2;go_ret;exact⟨iW (by rw[E.out,z.out]),rfl⟩
    ·by_cases J:s[k].toNat=95
     ·have O:((s[k].toNat:Int)==95)=true:=oV J;have z:Hid (rM k s[k]=true):=dT (by omega);clear J;go_wp2;go_round
      case rel=>exact⟨k+1,by omega,by go_num,iV (qP y M.out z.out)⟩
      case measure=>simp[intOf];omega
     ·skip
      have O:((s[k].toNat:Int)==95)=false:=om J;by_cases D:k=0
      ·have U:((k:Int)==0)=true:=oV D;have z:Hid (pS s=false):=sE y dF;clear D;go_wp2;go_ret;exact⟨iW (by rw[E.out,z.out]),rfl⟩
      have U:((k:Int)==0)=false:=om D;by_cases I:s[k].toNat=45
      ·have N:((s[k].toNat:Int) != 45)=false:=QI I;have z:Hid (rM k s[k]=true):=dT (by omega);clear I;go_wp2;go_round
       case rel=>exact⟨k+1,by omega,by go_num,iV (qP y M.out z.out)⟩
       case measure=>simp[intOf];omega
      have N:((s[k].toNat:Int) != 45)=true:=BY I;by_cases ab:s[k].toNat<48
      ·skip
       have z:Hid (pS s=false):=sE y dF;go_wp2;go_ret;exact⟨iW (by rw[E.out,z.out]),rfl⟩
      by_cases aa:57<s[k].toNat
      ·skip
       have z:Hid (pS s=false):=sE y dF;go_wp2;go_ret;exact⟨iW (by rw[E.out,z.out]),rfl⟩
      ·skip
       have z:Hid (rM k s[k]=true):=dT (by omega);go_wp2;go_round
       case rel=>exact⟨k+1,by omega,by go_num,iV (qP y M.out z.out)⟩
       case measure=>simp[intOf];omega
   ·have HE:Hid (pS s=true):=dT (fun j h=>M.out j h (by omega));go_wp2;go_ret;exact⟨iW (by rw[E.out,HE.out]),rfl⟩
def Gc:LU:=[48,49,50,51,52,53,54,55,56,57,97,98,99,100,101,102]
def Jg:BA:=⟨#[48,49,50,51,52,53,54,55,56,57,97,98,99,100,101,102]⟩
def th (l:LU):Bool:=l.all fun c=>Gc.contains c
def Jh (fmt:Int):Nat:=if fmt=1 then 32 else if fmt=2 then 64 else 40
def pG (fmt:Int)(s:BA):Bool:=decide (s.size=Jh fmt)&&th (bl s)
theorem vV {p:UInt8->Bool}:∀ (m:LU),(∀ x∈m.dropWhile p,p x=true)->∀ x∈m,p x=true
 | [],_,x,h=>by simp at h
 | a::r,h,x,y=>by
  cases ha:p a
  ·have:(a::r).dropWhile p=a::r:=by simp[List.dropWhile,ha]
   rw[this] at h;have:=h a (by simp);rw[ha] at this;cases this
  ·have e:(a::r).dropWhile p=r.dropWhile p:=by simp[List.dropWhile,ha]
   rw[e] at h;rcases List.mem_cons.1 y with rfl | y
   ·exact ha
   ·exact vV r h x y
theorem vW {p:UInt8->Bool}:∀ (m:LU),m.dropWhile p=[]↔∀ x∈m,p x=true
 | []=>by simp
 | a::r=>by
  cases ha:p a
  ·simp[List.dropWhile,ha]
  ·have:=vW (p:=p) r;simp[List.dropWhile,ha,this]
theorem Sh (l cs:LU):Lib.trimS l cs=[]↔l.all (fun c=>cs.contains c)=true:=by
 unfold Lib.trimS Lib.trimLeftS Lib.trimRightS;rw[vW,List.all_eq_true];constructor
 ·intro h x z;exact vV l.reverse (fun y F=>h y (List.mem_reverse.2 F)) x (List.mem_reverse.2 z)
 ·intro h x z;have z:=List.mem_reverse.1 z;have D:x∈l.reverse:=(List.dropWhile_suffix _).subset z;exact h x (List.mem_reverse.1 D)
theorem ti (s:BA)(w:World)(hs:s.size<=9223372036854775807):Calls Tryz.prog 78 #[.string s,.string Jg] w fun e w'=>(∃ t:BA,e=.returned (.string t)/\t.toList.isEmpty=th (bl s))/\Below w.heap.size w w':=
 (Any.strings_Trim_ascii Tryz.lays160 (fun w=>by kernel_rfl) (by kernel_rfl) s Jg w hs (by decide) (fun j b D=>by
  have y:b∈Gc:=gM D;simp only[Gc,List.mem_cons,List.not_mem_nil,or_false] at y;rcases y with rfl | rfl | rfl | rfl | rfl | rfl | rfl | rfl | rfl | rfl | rfl | rfl | rfl | rfl | rfl | rfl<;>decide)).mono fun e w' ⟨z,F⟩=>⟨⟨_,z,by
   rw[iY,pd,bI,List.isEmpty_iff];exact Sh _ _⟩,F⟩
theorem CA (fmt:Int)(hf:fmt=1\/fmt=2\/fmt=3)(s:BA)(w:World)(hs:s.size<=9223372036854775807):Calls Tryz.prog 167 #[.int .i64 fmt,.string s] w fun e w'=>e=.returned (.bool (pG fmt s))/\Below w.heap.size w w':=by
 have key:∀ n:Nat,Jh fmt=n->pG fmt s=(decide (s.size=n)&&th (bl s)):=fun n J=>by unfold pG;rw[J]
 rcases hf with rfl | rfl | rfl
 ·have K:=iV (key 32 (by decide));clear key;by_cases y:s.size=32
  ·have z:((s.size:Int)==32)=true:=oV y;have E:Hid (pG 1 s=th (bl s)):=by show _=_;rw[K.out,dT y];rfl
   clear y;go_in;go_wp2_with fail;refine(ti s _ hs).mono ?_;rintro e I ⟨⟨t,rfl,ht⟩,D⟩;have H:=iV ht;have F:=iV D;clear ht D;go_wp2;go_ret;exact⟨iW (by rw[E.out];exact H.out),F.out⟩
  ·have z:((s.size:Int)==32)=false:=om y;have E:Hid (pG 1 s=false):=by show _=_;rw[K.out,dF y];rfl
   clear y;go_in;go_wp2;go_ret;exact⟨iW (by rw[E.out]),bR⟩
 ·have K:=iV (key 64 (by decide));clear key;by_cases y:s.size=64
  ·have z:((s.size:Int)==64)=true:=oV y;have E:Hid (pG 2 s=th (bl s)):=by show _=_;rw[K.out,dT y];rfl
   clear y;go_in;go_wp2_with fail;refine(ti s _ hs).mono ?_;rintro e I ⟨⟨t,rfl,ht⟩,D⟩;have H:=iV ht;have F:=iV D;clear ht D;go_wp2;go_ret;exact⟨iW (by rw[E.out];exact H.out),F.out⟩
  ·have z:((s.size:Int)==64)=false:=om y;have E:Hid (pG 2 s=false):=by show _=_;rw[K.out,dF y];rfl
   clear y;go_in;go_wp2;go_ret;exact⟨iW (by rw[E.out]),bR⟩
 ·have K:=iV (key 40 (by decide));clear key;by_cases y:s.size=40
  ·have z:((s.size:Int)==40)=true:=oV y;have E:Hid (pG 3 s=th (bl s)):=by show _=_;rw[K.out,dT y];rfl
   clear y;go_in;go_wp2_with fail;refine(ti s _ hs).mono ?_;rintro e I ⟨⟨t,rfl,ht⟩,D⟩;have H:=iV ht;have F:=iV D;clear ht D;go_wp2;go_ret;exact⟨iW (by rw[E.out];exact H.out),F.out⟩
  ·have z:((s.size:Int)==40)=false:=om y;have E:Hid (pG 3 s=false):=by show _=_;rw[K.out,dF y];rfl
   clear y;go_in;go_wp2;go_ret;exact⟨iW (by rw[E.out]),bR⟩
structure kV where
 path:BA
 s0:BA
 s1:BA
 s2:BA
 s3:BA
def kV.sum (k:kV)(i:Int):BA:=if i=1 then k.s1 else if i=2 then k.s2 else if i=3 then k.s3 else k.s0
def kV.cells (k:kV):List Value:=[.string k.path,.string k.s0,.string k.s1,.string k.s2,.string k.s3]
theorem wJ (k:kV):k.cells.length=5:=rfl
def mv (fmt:Int):Int:=if fmt=1 then 1 else if fmt=2 then 3 else 2
def lM (a b:Int)(l:List kV)(path sum:BA):Option kV:=l.find? fun k=>pG b (k.sum (mv b))&&decide (k.path=path)&&decide (k.sum (mv a)=sum)
def lD (a b:Int)(l:List kV)(f:jg):BA:=if f.kind≠1\/a=b then f.sum else match lM a b l f.path f.sum with
 | some k=>k.sum (mv b)
 | none=>⟨#[]⟩
theorem ua (a b:Int)(l:List kV)(k:kV)(path sum:BA):lM a b (l++[k]) path sum=(lM a b l path sum).or (lM a b [k] path sum):=by
 unfold lM;rw[List.find?_append]
theorem qL {a b:Int}{l:List kV}{path sum:BA}{k:kV}(h:lM a b l path sum=some k):k∈l/\pG b (k.sum (mv b))=true/\k.path=path/\k.sum (mv a)=sum:=by
 have z:=List.mem_of_find?_eq_some h;have y:=List.find?_some h;simp only[Bool.and_eq_true,decide_eq_true_eq] at y;exact⟨z,y.1.1,y.1.2,y.2⟩
theorem zp (s:BA)(w:World)(hs:s.size<=9223372036854775807):Calls Tryz.prog 270 #[.string s] w fun e w'=>e=.returned (.bool (mH (bl s)))/\w=w':=by
 have D:=iX s;have z:=iV D;clear D;by_cases y:s.size<=32
 ·go_in;go_wp2_with (go_at_call 86;refine(GT s _ _ hs).mono ?_;rintro e w' ⟨rfl,rfl⟩);go_ret;exact⟨iW (by unfold mH;rw[z.out,dT y];simp[bl]),rfl⟩
 ·go_in;go_wp2;go_ret;exact⟨iW (by unfold mH;rw[z.out,dF y];simp),rfl⟩
end
section
open Go.RowKit Go.MapKept
def JY (p s:BA):Value:=.agg #[.string p,.string s]
def kV.val (k:kV):Value:=.agg #[.string k.path,.string k.s0,.string k.s1,.string k.s2,.string k.s3]
def Yd:kV:=⟨⟨#[]⟩,⟨#[]⟩,⟨#[]⟩,⟨#[]⟩,⟨#[]⟩⟩
theorem WO (w:World)(p s q t:BA):(Op.equal 113 (JY p s) (JY q t)).run Tryz.prog w=.ok (decide (p=q/\s=t)) w:=by
 unfold JY Op.equal Op.maxDepth;simp[go_sem,mI];by_cases z:p=q<;>by_cases y:s=t<;>simp[z,y]
theorem vi (w:World)(em:Bool)(p s:BA):(Instr.checkKey em 10000 113 (JY p s)).run Tryz.prog w=.ok () w:=by
 have h:∀ d:Nat,(Instr.checkKey em (d+1+1) 113 (JY p s)).run Tryz.prog w=.ok () w:=by
  intro d;unfold JY;simp[Instr.checkKey,run_underlying Tryz.underlying113,go_sem]
 exact h 9998
theorem yJ (w:World)(k:Value)(es:List MapEntry):(Instr.findKey 113 k es).run Tryz.prog w=(Instr.findAsking 113 k es 0).run Tryz.prog w:=by
 cases es with
 | nil=>simp[Instr.findKey,Instr.findAsking,Instr.findNow,run_underlying Tryz.underlying113]
 | cons e r=>simp[Instr.findKey,Instr.findNow,Instr.sameNow,run_underlying Tryz.underlying113]
abbrev ql:Type:=BA×BA×kV
def mD (ms:List ql)(p s:BA):Option kV:=(ms.find? fun e=>decide (p=e.1/\s=e.2.1)).map fun e=>e.2.2
def mj (w:World)(b:Nat)(ms:List ql):Prop:=
 ∃ es clock,w.heap[b]?=some (.map es clock)/\es.toList.map (fun e=>(e.key,e.val))=ms.map (fun e=>(JY e.1 e.2.1,e.2.2.val))
theorem mj.made (w:World):mj (w.alloc (.map #[] 0)) w.heap.size []:=⟨#[],0,heap_alloc_new w _,by simp⟩
theorem mj.lt {ms:List ql}(h:mj w b ms):b<w.heap.size:=by
 obtain⟨D,y,z,F⟩:=h;exact(Array.getElem?_eq_some_iff.1 z).1
theorem mj.block {ms:List ql}(h:mj w b ms)(hb:w'.heap[b]?=w.heap[b]?):mj w' b ms:=by
 obtain⟨z,y,F,D⟩:=h;exact⟨z,y,hb.trans F,D⟩
theorem mj.below {ms:List ql}(h:mj w b ms)(hb:Below w.heap.size w w'):mj w' b ms:=h.block (hb.block b h.lt)
theorem Cl {w:World}(p s:BA):∀ (es:List MapEntry)(ms:List ql)(i:Nat),es.map (fun e=>(e.key,e.val))=ms.map (fun e=>(JY e.1 e.2.1,e.2.2.val)) ->
  ((Instr.findAsking 113 (JY p s) es i).run Tryz.prog w=.ok none w/\mD ms p s=none) \/
  ∃ j k,(Instr.findAsking 113 (JY p s) es i).run Tryz.prog w=.ok (some (j,kV.val k)) w/\mD ms p s=some k
 | [],[],i,_=>.inl ⟨by simp[Instr.findAsking],rfl⟩
 | [],e::ms,i,h=>by simp at h
 | e::es,[],i,h=>by simp at h
 | e::es,m::ms,i,h=>by
  simp only[List.map_cons,List.cons.injEq,Prod.mk.injEq] at h;obtain⟨⟨D,I⟩,K⟩:=h;have y:=WO w p s m.1 m.2.1;by_cases z:p=m.1/\s=m.2.1
  ·right;refine⟨i,m.2.2,?_,?_⟩
   ·rw[dT z] at y;simp[Instr.findAsking,D,I,y]
   ·unfold mD;rw[List.find?_cons,dT z];rfl
  ·rw[dF z] at y;have J:mD (m::ms) p s=mD ms p s:=by unfold mD;rw[List.find?_cons,dF z]
   rw[J];rcases Cl (w:=w) p s es ms (i+1) K with⟨H,F⟩ | ⟨j,k,H,F⟩
   ·left;exact⟨by simp[Instr.findAsking,D,y,H],F⟩
   ·right;exact⟨j,k,by simp[Instr.findAsking,D,y,H],F⟩
theorem E9 (w:World):(zeroValue 64).run Tryz.prog w=.ok Yd.val w:=by kernel_rfl
theorem mj.look_ok {ms:List ql}(h:mj w b ms)(p s:BA):
  (Instr.lookup 66 (.map (some b)) (JY p s) true).run Tryz.prog w=.ok (.tuple #[((mD ms p s).getD Yd).val,.bool (mD ms p s).isSome]) w:=by
 obtain⟨H,y,F,J⟩:=h;have I:=E9 w;rcases Cl (w:=w) p s H.toList ms 0 J with⟨D,z⟩ | ⟨j,k,D,z⟩
 ·rw[z];simp[Instr.lookup,run_underlying Tryz.underlying66,MapKept.run_getObj_map F,vi,yJ,D,I]
 ·rw[z];simp[Instr.lookup,run_underlying Tryz.underlying66,MapKept.run_getObj_map F,vi,yJ,D]
theorem mj.look {ms:List ql}(h:mj w b ms)(p s:BA):
  (Instr.lookup 66 (.map (some b)) (JY p s) false).run Tryz.prog w=.ok ((mD ms p s).getD Yd).val w:=by
 obtain⟨H,y,F,J⟩:=h;have I:=E9 w;rcases Cl (w:=w) p s H.toList ms 0 J with⟨D,z⟩ | ⟨j,k,D,z⟩
 ·rw[z];simp[Instr.lookup,run_underlying Tryz.underlying66,MapKept.run_getObj_map F,vi,yJ,D,I]
 ·rw[z];simp[Instr.lookup,run_underlying Tryz.underlying66,MapKept.run_getObj_map F,vi,yJ,D]
theorem mj.put {ms:List ql}(h:mj w b ms)(p s:BA)(k:kV)(hn:mD ms p s=none):
  ∃ w',(Instr.mapUpdate 66 (.map (some b)) (JY p s) k.val).run Tryz.prog w=.ok () w'/\mj w' b (ms++[(p,s,k)])/\w.grownBy w' (some b)/\w'.heap.size=w.heap.size:=by
 obtain⟨H,y,z,J⟩:=h;have grow:∀ o,w.grownBy { w with heap:=w.heap.setIfInBounds b o } (some b):=fun o=>⟨rfl,rfl,rfl,by simp,fun k K F=>(heap_set z).2 k (fun e=>F (by rw[e]))⟩
 rcases Cl (w:=w) p s H.toList ms 0 J with⟨I,D⟩ | ⟨j,k,I,D⟩
 ·refine⟨{ w with heap:=w.heap.setIfInBounds b (.map (H.push { key:=JY p s,val:=k.val,born:=y }) (y+1)) },?_,⟨_,_,(heap_set z).1,by simp[J]⟩,grow _,by simp⟩;simp[Instr.mapUpdate,run_underlying Tryz.underlying66,MapKept.run_getObj_map z,vi,yJ,I,MapKept.run_setObj_map _ z]
 ·rw[hn] at D;cases D
theorem Mt (ms:List ql)(p s:BA)(k:kV)(q t:BA):mD (ms++[(p,s,k)]) q t=(mD ms q t).or (if q=p/\t=s then some k else none):=by
 unfold mD;rw[List.find?_append];cases ms.find? fun e=>decide (q=e.1/\t=e.2.1) with
 | some e=>rfl
 | none=>
  simp only[Option.none_or,Option.map_none,List.find?_cons];by_cases h:q=p/\t=s
  ·rw[dT h,if_pos h];rfl
  ·rw[dF h,if_neg h];rfl
def lZ (a b:Int)(l:List kV)(ms:List ql):Prop:=∀ p s,mD ms p s=lM a b l p s
theorem lZ.nil (a b:Int):lZ a b [] []:=fun _ _=>rfl
theorem lZ.skip {a b:Int}{l:List kV}{ms:List ql}(h:lZ a b l ms){k:kV}(hk:pG b (k.sum (mv b))=false):lZ a b (l++[k]) ms:=by
 intro p s;rw[ua,h p s];have:lM a b [k] p s=none:=by unfold lM;rw[List.find?_cons,hk];rfl
 rw[this,Option.or_none]
theorem lZ.there {a b:Int}{l:List kV}{ms:List ql}(h:lZ a b l ms){k:kV}(ht:(mD ms k.path (k.sum (mv a))).isSome=true):lZ a b (l++[k]) ms:=by
 intro p s;rw[ua,<-h p s];cases e:mD ms p s with
 | some y=>rfl
 | none=>
  have:lM a b [k] p s=none:=by
   unfold lM;rw[List.find?_cons];by_cases z:k.path=p/\k.sum (mv a)=s
   ·rw[z.1,z.2,e] at ht;cases ht
   ·have:(pG b (k.sum (mv b))&&decide (k.path=p)&&decide (k.sum (mv a)=s))=false:=by
     rw[Bool.and_eq_false_iff,Bool.and_eq_false_iff];by_cases D:k.path=p
     ·exact .inr (dF fun F=>z ⟨D,F⟩)
     ·exact .inl (.inr (dF D))
    rw[this];rfl
  rw[this];rfl
theorem lZ.put {a b:Int}{l:List kV}{ms:List ql}(h:lZ a b l ms){k:kV}(hk:pG b (k.sum (mv b))=true):lZ a b (l++[k]) (ms++[(k.path,k.sum (mv a),k)]):=by
 intro p s;rw[ua,Mt,h p s];congr 1;unfold lM;rw[List.find?_cons,hk];by_cases y:p=k.path/\s=k.sum (mv a)
 ·rw[if_pos y,y.1,y.2];simp
 ·rw[if_neg y];have:(true&&decide (k.path=p)&&decide (k.sum (mv a)=s))=false:=by
   rw[Bool.and_eq_false_iff,Bool.and_eq_false_iff];by_cases z:k.path=p
   ·exact .inr (dF fun D=>y ⟨z.symm,D.symm⟩)
   ·exact .inl (.inr (dF z))
  rw[this];rfl
end
end Go.Proofs.YtkmjcombhjombaaGreatDoor
