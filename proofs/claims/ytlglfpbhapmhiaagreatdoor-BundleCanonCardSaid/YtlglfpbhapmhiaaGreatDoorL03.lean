/- A part of the proof. -/
import Derived.Test.YtlglfpbhapmhiaaGreatDoorProg
import Derived.BigQuiet
import Derived.ChangeAlike
import Derived.Deep.AppendLies
import Derived.Deep.CutBlock
import Derived.Deep.DeepCutAuto
import Derived.Deep.Draws
import Derived.Deep.LoopGhost
import Derived.Deep.QuietTactic
import Derived.IntWalk
import Derived.Laws.OwnMore
import Derived.Lib.IndexMore
import Derived.Lib.LastIndexByte
import Derived.Lib.SplitLaws
import Derived.Maps.AppendAt
import Derived.OwnWalk
import Derived.ProofKit
import Derived.RegionTactic
import Derived.Shelf.LaysM
import Derived.Shelf.Slices.Equal
import Derived.Shelf.Slices.Turned
import Derived.Shelf.Small.Bits
import Derived.Shelf.Small.Strs
import Derived.Shelf.Small.Utf8
import Derived.Shelf.Small.Wraps
import Derived.Shelf.Strconv.Itoa0
import Derived.Shelf.Strings.AsciiSet
import Derived.Shelf.Strings.Builder1
import Derived.Shelf.Strings.Builder2
import Derived.Shelf.Strings.BuilderF
import Derived.Shelf.Strings.Count
import Derived.Shelf.Strings.Cut
import Derived.Shelf.Strings.IndexAny
import Derived.Shelf.Strings.IndexAnyAll
import Derived.Shelf.Strings.LastIndex
import Derived.Shelf.Strings.OnBuilder
import Derived.Shelf.Strings.Prefix
import Derived.Shelf.Strings.Runes
import Derived.Shelf.Strings.Search1
import Derived.Shelf.Strings.Search2
import Derived.Shelf.Strings.Search3
import Derived.Shelf.Strings.Split
import Derived.Shelf.Strings.SplitShaped
import Derived.Shelf.Strings.Trim
import Derived.Shelf.Unicode.Decode
import Derived.WalkKit
import Derived.WalkLawsBesides
import Derived.WalkSpells
import Derived.Test.YtlglfpbhapmhiaaGreatDoorL01
set_option maxRecDepth 100000
set_option maxHeartbeats 20000000
set_option linter.unusedVariables false
set_option linter.unusedSimpArgs false
namespace Go.Proofs.YtlglfpbhapmhiaaGreatDoor
variable{s:BA}{l:LU}{a b k:Nat}
def cN (c:UInt8):Bool:=decide (48<=c.toNat/\c.toNat<=57)
def jb (c:UInt8):Bool:=decide (97<=c.toNat/\c.toNat<=122)
def Ot (c:UInt8):Bool:=decide (65<=c.toNat/\c.toNat<=90)
def ll (c:UInt8):Bool:=jb c||Ot c
def qE (c:UInt8):Bool:=jb c||cN c
def nC:LU->Bool
 | []=>false
 | c::_=>qE c
def oH (others l:LU):Bool:=(l.all fun c=>qE c||others.contains c)&&nC l
def fg (l:LU):Bool:=decide (2<=l.length)&&decide (l.length<=64)&&oH [43,46,45] l
def dI (l:LU):Bool:=decide (l.length<=32)&&oH [45] l
theorem gU (s:BA)(h:0<s.size):bl s=s[0]::(bl s).tail:=by
 have h2:0<(bl s).length:=by rw[ah];exact h
 rw[<-iC s 0 h,<-List.drop_one,<-List.drop_eq_getElem_cons h2,List.drop_zero]
theorem bX (s:BA)(h:s.size=0):bl s=[]:=by
 apply List.eq_nil_of_length_eq_zero;rw[ah];exact h
theorem AN (s:BA)(h:0<s.size):nC (bl s)=qE s[0]:=by rw[gU s h];rfl
theorem za (s:BA)(h:s.size=0):nC (bl s)=false:=by rw[bX s h];rfl
theorem cO (s:BA)(k:Nat):bl (s.extract k s.size)=(bl s).drop k:=by
 rw[iD];apply tL;rw[List.length_drop,ah];omega
theorem zb (s:BA)(k:Nat)(h:k<s.size):nC (bl (s.extract k s.size))=qE s[k]:=by
 rw[cO,List.drop_eq_getElem_cons (by rw[ah];exact h),iC s k h];rfl
theorem tG (o:LU)(s:BA)(k:Nat)(h:k<s.size)(h0:((bl s).take k).all (fun c=>qE c||o.contains c)=true)(h1:(qE s[k]||o.contains s[k])=true):
  ((bl s).take (k+1)).all (fun c=>qE c||o.contains c)=true:=by rw[dR s k h,h0,h1];rfl
theorem Ij (o:LU)(s:BA)(k:Nat)(h:k<s.size)(h1:qE s[k]=false)(h2:o.contains s[k]=false):oH o (bl s)=false:=by
 unfold oH;rw[lU s k h (by rw[h1,h2];rfl)];rfl
theorem DL (o:LU)(s:BA)(k:Nat)(h:¬ k<s.size)(h0:((bl s).take k).all (fun c=>qE c||o.contains c)=true):oH o (bl s)=nC (bl s):=by
 unfold oH;rw[iE s k (by omega)] at h0;rw[h0];rfl
theorem oI (s:BA)(c:UInt8)(k:Nat)(h:k<s.size)(h0:((bl s).take k).contains c=false)(h1:(s[k]==c)=false):((bl s).take (k+1)).contains c=false:=by
 rw[tS (by rw[ah];exact h),iC s k h];rw[Bool.eq_false_iff] at *;simp at *;exact⟨h0,fun h=>h1 h.symm⟩
theorem AO (s:BA)(c:UInt8)(k:Nat)(h:k<s.size)(h1:s[k]=c):(bl s).contains c=true:=by
 simp;rw[<-h1,<-iC s k h];exact List.getElem_mem _
section
open Go.RowKit
theorem aj (s:BA):s.toList=bl s:=ByteArray.toList_eq s
theorem bj (s:BA):(bl s).isEmpty=decide (s.size=0):=by
 rw[bI,List.isEmpty_iff,<-List.length_eq_zero_iff,ah];simp
theorem af {a b:Bool}(h:a=b):Ending.returned (.bool a)=.returned (.bool b):=by rw[h]
theorem aI {k:IntKind}{a b:Int}(h:a=b):Ending.returned (.int k a)=.returned (.int k b):=by rw[h]
def Lm (n:Int):Int:=if n=1 then 1 else if n=2 then 3 else if n=3 then 2 else 0
def wK (n:Int):Bool:=decide (n=1\/n=2\/n=3)
theorem DN (n:Int)(w:World):Calls Tryz.prog 22 #[.int .i64 n] w fun e w'=>e=.returned (.int .i64 (Lm n))/\w=w':=by
 go_in;go_wp2
 all_goals (go_ret;refine⟨?_,rfl⟩;simp_all [Lm])
theorem tN (n:Int)(w:World):Calls Tryz.prog 41 #[.int .i64 n] w fun e w'=>e=.returned (.bool (wK n))/\w=w':=by
 go_in;go_wp2
 all_goals (go_ret;refine⟨af ?_,rfl⟩;rw[bI];simp_all [wK];try omega)
def tO (least:Nat)(l:LU):Bool:=l.all fun c=>least<=c.toNat&&c.toNat<=126
def fY (l:LU):Bool:=!l.isEmpty&&tO 33 l
theorem Io (least:Nat)(s:BA)(k:Nat)(h:k<s.size)(h0:tO least ((bl s).take k)=true)(h1:least<=s[k].toNat)(h2:¬ s[k].toNat<least/\(s[k].toNat:Int)<=126):tO least ((bl s).take (k+1))=true:=by
 unfold tO at *;rw[dR s k h,h0];simp;omega
theorem AT (least:Nat)(s:BA)(k:Nat)(h:k<s.size)(h1:s[k].toNat<least\/126<(s[k].toNat:Int)):tO least (bl s)=false:=by
 unfold tO;apply lU s k h;simp;omega
theorem ma (s:BA)(least:Nat)(w:World)(hs:s.size<=9223372036854775807):Calls Tryz.prog 78 #[.string s,.int .u8 least] w fun e w'=>e=.returned (.bool (tO least (bl s)))/\w=w':=by
 go_in;go_wp2;go_loop [8] (fun i=>∃ k:Nat,k<=s.size/\i=.int .i64 k/\Hid (tO least ((bl s).take k)=true)) (fun i=>s.size-(intOf i).toNat)
 case atStart=>exact⟨0,z0,rfl,by simp[tO,Hid]⟩
 case round=>
  obtain⟨k,hk,rfl,hw⟩:=hrel;by_cases hlt:k<s.size
  ·by_cases h1:least<=s[k].toNat
   ·by_cases h2:(s[k].toNat:Int)<=126
    ·go_wp2;go_round
     case rel=>exact⟨k+1,by omega,by go_num,Io least s k hlt hw.out h1 ⟨by omega,h2⟩⟩
     case measure=>simp[intOf];omega
    ·go_wp2;go_ret;exact⟨af (by rw[AT least s k hlt (by omega)]),rfl⟩
   ·go_wp2;go_ret;exact⟨af (by rw[AT least s k hlt (by omega)]),rfl⟩
  ·go_wp2;go_ret;exact⟨af (by have:=hw.out;rw[iE s k (by omega)] at this;rw[this]),rfl⟩
theorem kF (s:BA)(w:World)(hs:s.size<=9223372036854775807):Calls Tryz.prog 34 #[.string s] w fun e w'=>e=.returned (.bool (fY (bl s)))/\w=w':=by
 go_in;go_wp2_with (go_at_call 78;refine(ma _ 33 _ hs).mono ?_;rintro e w' ⟨rfl,rfl⟩)
 all_goals (go_ret;refine⟨af ?_,rfl⟩;simp_all [fY,aj])
theorem dz (c:UInt8)(w:World):Calls Tryz.prog 163 #[.int .u8 c.toNat] w fun e w'=>e=.returned (.bool (cN c))/\w=w':=by
 go_in;go_wp2
 all_goals (go_ret;refine⟨af ?_,rfl⟩;rw[bI];simp[cN];omega)
theorem kT (c:UInt8)(w:World):Calls Tryz.prog 168 #[.int .u8 c.toNat] w fun e w'=>e=.returned (.bool (jb c))/\w=w':=by
 go_in;go_wp2
 all_goals (go_ret;refine⟨af ?_,rfl⟩;rw[bI];simp[jb];omega)
theorem gX (c:UInt8)(w:World):Calls Tryz.prog 200 #[.int .u8 c.toNat] w fun e w'=>e=.returned (.bool (ll c))/\w=w':=by
 cases h:jb c
 all_goals
  go_in;go_wp2_with (go_at_call 168;refine(kT _ _).mono ?_;rintro e w' ⟨rfl,rfl⟩)
 all_goals (go_ret;refine⟨af ?_,rfl⟩;rw[bI];simp[ll,Ot,h];try omega)
def aE (p:UInt8->Bool)(l:LU):Nat:=(l.takeWhile p).length
theorem kU {p:UInt8->Bool}:∀ (l:LU),l.all p=true->l.takeWhile p=l
 | [],_=>rfl
 | c::r,h=>by
  simp only[List.all_cons,Bool.and_eq_true] at h;rw[List.takeWhile_cons_of_pos h.1,kU r h.2]
theorem xJ (p:UInt8->Bool)(s:BA)(k:Nat)(h:k<s.size)(h0:((bl s).take k).all p=true)(h1:p s[k]=false):aE p (bl s)=k:=by
 have hl:k<(bl s).length:=by rw[ah];exact h
 have e:bl s=(bl s).take k++(bl s)[k]::(bl s).drop (k+1):=by rw[<-List.drop_eq_getElem_cons hl,List.take_append_drop]
 unfold aE;rw[e,List.takeWhile_append_of_pos (by simpa using h0),iC s k h,List.takeWhile_cons_of_neg (by simp[h1])];simp;omega
theorem AU (p:UInt8->Bool)(s:BA)(k:Nat)(h:¬ k<s.size)(h0:((bl s).take k).all p=true):aE p (bl s)=s.size:=by
 rw[iE s k (by omega)] at h0;unfold aE;rw[kU _ h0,ah]
theorem rL (f:FuncId)(p:UInt8->Bool)(s:BA)(w:World)(hs:s.size<=9223372036854775807)
  (hcall:∀ (args:Array Value)(w:World),(callFunc f args).run Tryz.prog w=.ok (.enter f args) w)
  (hf:Hid (∀ c:UInt8,Calls Tryz.prog f #[.int .u8 c.toNat] w fun e w'=>e=.returned (.bool (p c))/\w=w')):Calls Tryz.prog 166 #[.string s,.func (.func f) #[] #[]] w fun e w'=>e=.returned (.int .i64 (aE p (bl s)))/\w=w':=by
 go_in;go_wp2;go_loop [5] (fun i=>∃ k:Nat,k<=s.size/\i=.int .i64 k/\Hid (((bl s).take k).all p=true)) (fun i=>s.size-(intOf i).toNat)
 case atStart=>exact⟨0,z0,rfl,by simp[Hid]⟩
 case round=>
  obtain⟨k,hk,rfl,hw⟩:=hrel;by_cases hlt:k<s.size
  ·cases hl:p s[k]
   ·have HL:=ae hl;clear hl;go_wp2_with fail;refine(hf.out s[k]).mono ?_;rintro e w' ⟨rfl,rfl⟩;rw[HL.out];go_wp2;go_ret;exact⟨aI (by rw[xJ p s k hlt hw.out HL.out]),rfl⟩
   ·have HL:=ae hl;clear hl;go_wp2_with fail;refine(hf.out s[k]).mono ?_;rintro e w' ⟨rfl,rfl⟩;rw[HL.out];go_wp2;go_round
    case rel=>exact⟨k+1,by omega,by go_num,by show _=_;rw[dR s k hlt,hw.out,HL.out];rfl⟩
    case measure=>simp[intOf];omega
  ·go_wp2;go_ret;exact⟨aI (by rw[AU p s k hlt hw.out];congr;omega),rfl⟩
theorem zi (f:FuncId)(x:Value)(p:UInt8->Bool)(s:BA)(w:World)(hs:s.size<=9223372036854775807)
  (hcall:∀ (args:Array Value)(w:World),(callFunc f args).run Tryz.prog w=.ok (.enter f args) w)
  (hf:Hid (∀ c:UInt8,Calls Tryz.prog f #[.int .u8 c.toNat,x] w fun e w'=>e=.returned (.bool (p c))/\w=w')):Calls Tryz.prog 166 #[.string s,.func (.func f) #[] #[x]] w fun e w'=>e=.returned (.int .i64 (aE p (bl s)))/\w=w':=by
 go_in;go_wp2;go_loop [5] (fun i=>∃ k:Nat,k<=s.size/\i=.int .i64 k/\Hid (((bl s).take k).all p=true)) (fun i=>s.size-(intOf i).toNat)
 case atStart=>exact⟨0,z0,rfl,by simp[Hid]⟩
 case round=>
  obtain⟨k,hk,rfl,hw⟩:=hrel;by_cases hlt:k<s.size
  ·cases hl:p s[k]
   ·have HL:=ae hl;clear hl;go_wp2_with fail;refine(hf.out s[k]).mono ?_;rintro e w' ⟨rfl,rfl⟩;rw[HL.out];go_wp2;go_ret;exact⟨aI (by rw[xJ p s k hlt hw.out HL.out]),rfl⟩
   ·have HL:=ae hl;clear hl;go_wp2_with fail;refine(hf.out s[k]).mono ?_;rintro e w' ⟨rfl,rfl⟩;rw[HL.out];go_wp2;go_round
    case rel=>exact⟨k+1,by omega,by go_num,by show _=_;rw[dR s k hlt,hw.out,HL.out];rfl⟩
    case measure=>simp[intOf];omega
  ·go_wp2;go_ret;exact⟨aI (by rw[AU p s k hlt hw.out];congr;omega),rfl⟩
theorem xK (s:BA)(w:World)(hs:s.size<=9223372036854775807):Calls Tryz.prog 166 #[.string s,.func (.func 163) #[] #[]] w fun e w'=>e=.returned (.int .i64 (aE cN (bl s)))/\w=w':=
 rL _ cN s w hs Tryz.call163 (ae fun c=>dz c w)
theorem Ip (s:BA)(w:World)(hs:s.size<=9223372036854775807):Calls Tryz.prog 166 #[.string s,.func (.func 168) #[] #[]] w fun e w'=>e=.returned (.int .i64 (aE jb (bl s)))/\w=w':=
 rL _ jb s w hs Tryz.call168 (ae fun c=>kT c w)
def gY (l:LU):Int:=l.foldl (fun n c=>10*n+((c.toNat:Int)-48)) 0
theorem Bb (l:LU)(c:UInt8):gY (l++[c])=10*gY l+((c.toNat:Int)-48):=by simp[gY,List.foldl_append]
theorem Bc (s:BA)(k:Nat)(h:k<s.size):gY ((bl s).take (k+1))=10*gY ((bl s).take k)+((s[k].toNat:Int)-48):=by
 rw[tS (by rw[ah];exact h),Bb,iC s k h]
def sw (l:LU):Bool:=!l.isEmpty && !(decide (1<l.length)&&decide (l.head?=some 48))&&l.all cN
def Be:Int:=4611686018427387903
def iI (l:LU):Int:=if sw l then (if gY l<=Be then gY l else 0) else 0
def gb (l:LU):Int:=if sw l then (if gY l<=Be then 0 else 4) else 3
theorem Lq (h:s.size=0):sw (bl s)=false:=by rw[bX s h];rfl
theorem Bf (h:1<s.size)(h0:s[0]=48):sw (bl s)=false:=by
 unfold sw;have:(bl s).head?=some 48:=by rw[gU s (by omega),h0];rfl
 rw[this,ah];simp[h]
theorem Lr (h:0<s.size)(h0:¬ (1<s.size/\s[0]=48)):sw (bl s)=(bl s).all cN:=by
 unfold sw;have h1:(bl s).head?=some s[0]:=by rw[gU s h];rfl
 have h2:(bl s).isEmpty=false:=by rw[bj];exact dF (by omega)
 rw[h1,h2,ah];have:(decide (1<s.size)&&decide (some s[0]=some (48:UInt8)))=false:=by
  rw[Bool.and_eq_false_iff];by_cases h3:1<s.size
  ·right;simp;exact fun h4=>h0 ⟨h3,h4⟩
  ·left;simp;omega
 rw[this];simp
theorem qJ (h:sw l=false):iI l=0/\gb l=3:=by simp[iI,gb,h]
theorem Ls (h:sw l=true)(hv:gY l<=Be):iI l=gY l/\gb l=0:=by simp[iI,gb,h,hv]
theorem It (h:sw l=true)(hv:¬ gY l<=Be):iI l=0/\gb l=4:=by simp[iI,gb,h,hv]
def jn (l:LU):Value:=.tuple #[.int .i64 (iI l),.int .i64 (gb l)]
theorem kG (s:BA)(w:World)(hs:s.size<=9223372036854775807):Calls Tryz.prog 115 #[.string s] w fun e w'=>e=.returned (jn (bl s))/\w=w':=by
 by_cases h0:s.size=0
 ·have he:s.toList=[]:=by rw[aj,bX s h0]
  have E:=ae (qJ (Lq h0));go_in;go_wp2;go_ret2;exact⟨by unfold jn;rw[E.out.1,E.out.2];rfl,rfl⟩
 have hpos:0<s.size:=by omega
 have he:s.toList.isEmpty=false:=by rw[aj,bj];exact dF (by omega)
 have he1:¬ s.toList=[]:=by intro h;rw[h] at he;simp at he
 by_cases h1:1<s.size/\s[0]=48
 ·obtain⟨h1,h2⟩:=h1;have E:=ae (qJ (Bf h1 h2));have hc:((s[0].toNat:Int)==48)=true:=by rw[h2];rfl
  clear h2;go_in;go_wp2;go_ret2;exact⟨by unfold jn;rw[E.out.1,E.out.2];rfl,rfl⟩
 have EA:=ae (Lr hpos h1);have walk:∀ (hc:decide (1<(s.size:Int))=false\/(decide (1<(s.size:Int))=true/\((s[0].toNat:Int)==48)=false)),Calls Tryz.prog 115 #[.string s] w fun e w'=>e=.returned (jn (bl s))/\w=w':=by
  intro hc;rcases hc with hc | ⟨hc1,hc⟩
  all_goals
   go_in;go_wp2_with fail;clear he he1 hc;go_loop [4,5,22] (fun n lg i=>∃ (k:Nat) (m:Int) (b:Bool),k<=s.size/\i=.int .i64 k/\n=.int .i64 m/\lg=.bool b/\0<=m/\m<=4611686018427387903/\Hid (((bl s).take k).all cN=true)/\Hid (b=false->m=gY ((bl s).take k))/\Hid (b=true->Be<gY ((bl s).take k))) (fun _ _ i=>s.size-(intOf i).toNat)
   case atStart=>exact⟨0,0,false,z0,rfl,rfl,rfl,by omega,by omega,by simp[Hid],ae (fun _=>by simp[gY]),ae (fun h=>by cases h)⟩
   case round=>
    obtain⟨k,m,b,hk,rfl,rfl,rfl,m0,m1,HA,HV,HL⟩:=hrel;by_cases hlt:k<s.size
    ·by_cases hd:48<=s[k].toNat/\s[k].toNat<=57
     ·obtain⟨d0,d1⟩:=hd;have HD:Hid (cN s[k]=true):=dT ⟨d0,d1⟩;have HN:=ae (Bc s k hlt);have HA2:Hid (((bl s).take (k+1)).all cN=true):=by show _=_;rw[dR s k hlt,HA.out,HD.out];rfl
      cases b
      ·by_cases hb:m > (4611686018427387903-((s[k].toNat:Int)-48)) / 10
       ·go_wp2;go_round
        case rel=>exact⟨k+1,m,true,by omega,by go_num,rfl,rfl,m0,m1,HA2,ae (fun h=>by cases h),ae (fun _=>by rw[HN.out,<-HV.out rfl];unfold Be;omega)⟩
        case measure=>simp[intOf];omega
       ·go_wp2;go_round
        case rel=>exact⟨k+1,_,false,by omega,by go_num,rfl,rfl,by omega,by omega,HA2,ae (fun _=>by rw[HN.out,<-HV.out rfl]),ae (fun h=>by cases h)⟩
        case measure=>simp[intOf];omega
      ·go_wp2;go_round
       case rel=>exact⟨k+1,m,true,by omega,by go_num,rfl,rfl,m0,m1,HA2,ae (fun h=>by cases h),ae (fun _=>by rw[HN.out];have:=HL.out rfl;unfold Be at *;omega)⟩
       case measure=>simp[intOf];omega
     ·have E:=ae (qJ (show sw (bl s)=false by rw[EA.out];exact lU s k hlt (dF hd)));by_cases hd1:s[k].toNat<48
      ·go_wp2;go_ret2;exact⟨by unfold jn;rw[E.out.1,E.out.2];rfl,rfl⟩
      ·have hd2:57<s[k].toNat:=by omega
       go_wp2;go_ret2;exact⟨by unfold jn;rw[E.out.1,E.out.2];rfl,rfl⟩
    ·have hall:sw (bl s)=true:=by rw[EA.out];have:=HA.out;rw[iE s k (by omega)] at this;exact this
     have hval:(bl s).take k=bl s:=iE s k (by omega);cases b
     ·have hv:=HV.out rfl;rw[hval] at hv;have E:=ae (Ls hall (by rw[<-hv];unfold Be;omega));have HVV:=ae hv;clear hall hval hv;go_wp2;go_ret2;exact⟨by unfold jn;rw[E.out.1,E.out.2,<-HVV.out];rfl,rfl⟩
     ·have hv:=HL.out rfl;rw[hval] at hv;have E:=ae (It hall (by omega));clear hall hval hv;go_wp2;go_ret2;exact⟨by unfold jn;rw[E.out.1,E.out.2];rfl,rfl⟩
 by_cases h2:1<s.size
 ·exact walk (.inr ⟨dT,by simp only[bF,ne_eq];intro h;apply h1;refine⟨h2,UInt8.toNat_inj.1 ?_⟩;show _=48;omega⟩)
 ·exact walk (.inl dF)
def jY (i:Nat)(c:UInt8):Bool:=decide ((97<=c.toNat/\c.toNat<=122)\/c.toNat=95\/(i≠0/\(c.toNat=45\/(48<=c.toNat/\c.toNat<=57))))
def gZ (s:BA):Bool:=decide (∀ j (h:j<s.size),jY j s[j]=true)
def Lt (s:BA):Bool:=decide (bl s=[114,111,111,116])||(decide (gb (bl s)=0)&&decide (1<=iI (bl s))&&decide (iI (bl s)<=2097151))
def eT (fmt:Int)(s:BA):Bool:=decide (1<=s.size/\s.size<=31)&&(if fmt=3 then Lt s else gZ s)
theorem pC (s:BA):(s.toList == [114,111,111,116])=decide (bl s=[114,111,111,116]):=by
 rw[aj,bI];simp
theorem jd (hk:k<s.size)(h:∀ j (h:j<s.size),j<k->jY j s[j]=true)(hc:jY k s[k]=true):∀ j (h:j<s.size),j<k+1->jY j s[j]=true:=by
 intro j hj hjk;by_cases e:j=k
 ·subst e;exact hc
 ·exact h j hj (by omega)
theorem kJ (hk:k<s.size)(hc:jY k s[k]=false):gZ s=false:=by
 apply dF;intro h;rw[h k hk] at hc;cases hc
theorem kV (h:a=b):((a:Int)==(b:Int))=true:=by simp[h]
theorem jo (h:¬ a=b):((a:Int)==(b:Int))=false:=by simp;omega
theorem GV (h:a=b):((a:Int) != (b:Int))=false:=by simp[h]
theorem tq (h:¬ a=b):((a:Int) != (b:Int))=true:=by simp[bne];omega
theorem lC (fmt:Int)(s:BA)(w:World)(hs:s.size<=9223372036854775807):Calls Tryz.prog 133 #[.int .i64 fmt,.string s] w fun e w'=>e=.returned (.bool (eT fmt s))/\w=w':=by
 by_cases h1:s.size<1
 ·have E:Hid (eT fmt s=false):=by show _=_;unfold eT;rw[dF];rfl
  go_in;go_wp2;go_ret;exact⟨af E.out.symm,rfl⟩
 by_cases h2:31<s.size
 ·have E:Hid (eT fmt s=false):=by show _=_;unfold eT;rw[dF];rfl
  go_in;go_wp2;go_ret;exact⟨af E.out.symm,rfl⟩
 by_cases h3:fmt=3
 ·subst h3;have E:Hid (eT 3 s=Lt s):=by show _=_;unfold eT;rw[dT,if_pos rfl];rfl
  unfold Lt at E;cases g1:(s.toList == [114,111,111,116])
  ·have G1:Hid (decide (bl s=[114,111,111,116])=false):=by show _=_;rw[<-pC];exact g1
   go_in;go_wp2_with fail;refine(kG s _ hs).mono ?_;rintro e w' ⟨rfl,rfl⟩;unfold jn;by_cases g2:gb (bl s)=0
   ·by_cases g3:1<=iI (bl s)
    ·have g2':(gb (bl s)==0)=true:=by simpa using g2
     have EE:Hid (eT 3 s=decide (iI (bl s)<=2097151)):=by show _=_;rw[E.out,G1.out,dT g2,dT g3];rfl
     clear g2;go_wp2;go_ret;exact⟨af (by rw[EE.out]),rfl⟩
    ·have g2':(gb (bl s)==0)=true:=by simpa using g2
     have EE:Hid (eT 3 s=false):=by show _=_;rw[E.out,G1.out,dF g3];simp
     clear g2;go_wp2;go_ret;exact⟨af (by rw[EE.out]),rfl⟩
   ·have g2':(gb (bl s)==0)=false:=by simpa using g2
    have EE:Hid (eT 3 s=false):=by show _=_;rw[E.out,G1.out,dF g2];simp
    clear g2;go_wp2;go_ret;exact⟨af (by rw[EE.out]),rfl⟩
  ·have EE:Hid (eT 3 s=true):=by show _=_;rw[E.out,<-pC,g1];rfl
   go_in;go_wp2_with fail;refine(kG s _ hs).mono ?_;rintro e w' ⟨rfl,rfl⟩;unfold jn;go_wp2;go_ret;exact⟨af (by rw[EE.out]),rfl⟩
 ·have h3':(fmt==3)=false:=by simpa using h3
  have E:Hid (eT fmt s=gZ s):=by show _=_;unfold eT;rw[dT,if_neg h3];rfl
  clear h3;go_in;go_wp2;go_loop [41] (fun i=>∃ k:Nat,k<=s.size/\i=.int .i64 k/\Hid (∀ j (h:j<s.size),j<k->jY j s[j]=true)) (fun i=>s.size-(intOf i).toNat)
  case atStart=>exact⟨0,z0,rfl,ae (fun j h hj=>by omega)⟩
  case round=>
   obtain⟨k,hk,rfl,HA⟩:=hrel;by_cases hlt:k<s.size
   ·by_cases a1:97<=s[k].toNat
    ·by_cases a2:s[k].toNat<=122
     ·skip
      have HC:Hid (jY k s[k]=true):=dT (by omega);go_wp2;go_round
      case rel=>exact⟨k+1,by omega,by go_num,ae (jd hlt HA.out HC.out)⟩
      case measure=>simp[intOf];omega
     ·have t122:decide ((s[k].toNat:Int)<=122)=false:=dF (by omega);have t95:((s[k].toNat:Int)==95)=false:=jo (by omega:¬ s[k].toNat=95);have t45:((s[k].toNat:Int) != 45)=true:=tq (by omega:¬ s[k].toNat=45);have t57:57<s[k].toNat:=by omega
      have HC:Hid (gZ s=false):=kJ hlt dF;by_cases k0:k=0
      ·have tk:((k:Int)==0)=true:=kV k0;clear k0;go_wp2;go_ret;exact⟨af (by rw[E.out,HC.out]),rfl⟩
      ·have tk:((k:Int)==0)=false:=jo k0;have t48:decide ((s[k].toNat:Int)<48)=false:=dF (by omega);have t58:decide (57<(s[k].toNat:Int))=true:=dT (by omega);clear k0;go_wp2;go_ret;exact⟨af (by rw[E.out,HC.out]),rfl⟩
    ·by_cases g95:s[k].toNat=95
     ·have t95:((s[k].toNat:Int)==95)=true:=kV g95;have HC:Hid (jY k s[k]=true):=dT (by omega);clear g95;go_wp2;go_round
      case rel=>exact⟨k+1,by omega,by go_num,ae (jd hlt HA.out HC.out)⟩
      case measure=>simp[intOf];omega
     ·skip
      have t95:((s[k].toNat:Int)==95)=false:=jo g95;by_cases k0:k=0
      ·have tk:((k:Int)==0)=true:=kV k0;have HC:Hid (gZ s=false):=kJ hlt dF;clear k0;go_wp2;go_ret;exact⟨af (by rw[E.out,HC.out]),rfl⟩
      have tk:((k:Int)==0)=false:=jo k0;by_cases g45:s[k].toNat=45
      ·have t45:((s[k].toNat:Int) != 45)=false:=GV g45;have HC:Hid (jY k s[k]=true):=dT (by omega);clear g45;go_wp2;go_round
       case rel=>exact⟨k+1,by omega,by go_num,ae (jd hlt HA.out HC.out)⟩
       case measure=>simp[intOf];omega
      have t45:((s[k].toNat:Int) != 45)=true:=tq g45;by_cases g48:s[k].toNat<48
      ·skip
       have HC:Hid (gZ s=false):=kJ hlt dF;go_wp2;go_ret;exact⟨af (by rw[E.out,HC.out]),rfl⟩
      by_cases g57:57<s[k].toNat
      ·skip
       have HC:Hid (gZ s=false):=kJ hlt dF;go_wp2;go_ret;exact⟨af (by rw[E.out,HC.out]),rfl⟩
      ·skip
       have HC:Hid (jY k s[k]=true):=dT (by omega);go_wp2;go_round
       case rel=>exact⟨k+1,by omega,by go_num,ae (jd hlt HA.out HC.out)⟩
       case measure=>simp[intOf];omega
   ·have HE:Hid (gZ s=true):=dT (fun j h=>HA.out j h (by omega));go_wp2;go_ret;exact⟨af (by rw[E.out,HE.out]),rfl⟩
end
end Go.Proofs.YtlglfpbhapmhiaaGreatDoor
