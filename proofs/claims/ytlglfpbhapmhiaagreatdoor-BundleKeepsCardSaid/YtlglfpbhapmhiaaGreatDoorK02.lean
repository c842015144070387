/- A part of the proof. -/
import Derived.BigQuiet
import Derived.ChangeAlike
import Derived.Deep.AppendLies
import Derived.Deep.CutBlock
import Derived.Deep.DeepCutAuto
import Derived.Deep.Draws
import Derived.Deep.LoopGhost
import Derived.Deep.QuietTactic
import Derived.IntWalk
import Derived.Laws.OwnMore
import Derived.Lib.IndexMore
import Derived.Lib.LastIndexByte
import Derived.Lib.SplitLaws
import Derived.Maps.AppendAt
import Derived.OwnWalk
import Derived.ProofKit
import Derived.RegionTactic
import Derived.WalkKit
import Derived.WalkLawsBesides
import Derived.WalkSpells
import Derived.Test.YtlglfpbhapmhiaaGreatDoorK01
set_option maxRecDepth 100000
set_option maxHeartbeats 20000000
set_option linter.unusedVariables false
set_option linter.unusedSimpArgs false
namespace Go.Proofs.YtlglfpbhapmhiaaGreatDoor
theorem tx {p:UInt8→Bool}(l:LU)(k:Nat)(h:k<l.length):(l.take (k+1)).all p=((l.take k).all p&&p (l[k])):=by
 rw[tS h,List.all_append];simp only[List.all_cons,List.all_nil,Bool.and_true]
theorem vz {p:UInt8→Bool}(l:LU)(k:Nat)(h:k<l.length)(hp:p (l[k])=false):l.all p=false:=by
 rw[List.all_eq_false];exact⟨l[k],List.getElem_mem h,by simp[hp]⟩
def bl (s:BA):LU:=s.data.toList
theorem ah (s:BA):(bl s).length=s.size:=by simp[bl]
theorem jt (s:BA)(k:Nat)(h:k<s.size):(bl s)[k]'(by rw[ah];exact h)=s[k]:=by simp[bl];rfl
theorem dD (s:BA)(k:Nat)(h:k<s.size):(bl s)[k]?=some s[k]:=by
 rw[gG (by rw[ah];exact h),jt s k h]
theorem jW (s:BA)(a b:Nat):bl (s.extract a b)=((bl s).drop a).take (b-a):=by
 simp[bl,ByteArray.data_extract]
theorem eM {s t:BA}(h:bl s=bl t):s=t:=by
 cases s;cases t;simp only[bl] at h;congr;exact Array.toList_inj.1 h
theorem cq (s t:BA):bl (s++t)=bl s++bl t:=by simp[bl]
theorem io (l:LU):bl ⟨l.toArray⟩=l:=by simp[bl]
theorem cV {p:UInt8→Bool}(s:BA)(k:Nat)(h:k<s.size):((bl s).take (k+1)).all p=(((bl s).take k).all p&&p (s[k])):=by
 rw[tx _ _ (by rw[ah];exact h),jt s k h]
theorem jX {p:UInt8→Bool}(s:BA)(k:Nat)(h:k<s.size)(hp:p (s[k])=false):(bl s).all p=false:=
 vz _ k (by rw[ah];exact h) (by rw[jt s k h];exact hp)
theorem vA (s:BA):(bl s).take s.size=bl s:=by rw[←ah,List.take_length]
theorem iC (s:BA)(k:Nat)(h:s.size≤k):(bl s).take k=bl s:=tL (by rw[ah];exact h)
def cv (c:UInt8):Bool:=decide (48≤c.toNat∧c.toNat≤57)
def gK (c:UInt8):Bool:=decide (97≤c.toNat∧c.toNat≤122)
def Jl (c:UInt8):Bool:=decide (65≤c.toNat∧c.toNat≤90)
def jE (c:UInt8):Bool:=gK c||Jl c
def ox (c:UInt8):Bool:=gK c||cv c
def lB:LU→Bool
 | []=>false
 | c::_=>ox c
def mA (others l:LU):Bool:=(l.all fun c=>ox c||others.contains c)&&lB l
def dX (l:LU):Bool:=decide (2≤l.length)&&decide (l.length≤64)&&mA [43,46,45] l
def cQ (l:LU):Bool:=decide (l.length≤32)&&mA [45] l
theorem fI (s:BA)(h:0<s.size):bl s=s[0]::(bl s).tail:=by
 have h2:0<(bl s).length:=by rw[ah];exact h
 rw[←jt s 0 h,←List.drop_one,←List.drop_eq_getElem_cons h2,List.drop_zero]
theorem bL (s:BA)(h:s.size=0):bl s=[]:=by
 apply List.eq_nil_of_length_eq_zero;rw[ah];exact h
theorem xm (s:BA)(h:0<s.size):lB (bl s)=ox s[0]:=by rw[fI s h];rfl
theorem vB (s:BA)(h:s.size=0):lB (bl s)=false:=by rw[bL s h];rfl
theorem cC (s:BA)(k:Nat):bl (s.extract k s.size)=(bl s).drop k:=by
 rw[jW];apply tL;rw[List.length_drop,ah];omega
theorem vC (s:BA)(k:Nat)(h:k<s.size):lB (bl (s.extract k s.size))=ox s[k]:=by
 rw[cC,List.drop_eq_getElem_cons (by rw[ah];exact h),jt s k h];rfl
theorem qC (o:LU)(s:BA)(k:Nat)(h:k<s.size)(h0:((bl s).take k).all (fun c=>ox c||o.contains c)=true)(h1:(ox s[k]||o.contains s[k])=true):
  ((bl s).take (k+1)).all (fun c=>ox c||o.contains c)=true:=by rw[cV s k h,h0,h1];rfl
theorem C7 (o:LU)(s:BA)(k:Nat)(h:k<s.size)(h1:ox s[k]=false)(h2:o.contains s[k]=false):mA o (bl s)=false:=by
 unfold mA;rw[jX s k h (by rw[h1,h2];rfl)];rfl
theorem zH (o:LU)(s:BA)(k:Nat)(h:¬ k<s.size)(h0:((bl s).take k).all (fun c=>ox c||o.contains c)=true):mA o (bl s)=lB (bl s):=by
 unfold mA;rw[iC s k (by omega)] at h0;rw[h0];rfl
def Mj (others:LU)(c:UInt8):Bool:=jE c||cv c||others.contains c
def bB (others l:LU):Bool:=!l.isEmpty&&l.all (Mj others)
def jY (l:LU):Bool:=!l.isEmpty&&l.all cv
def jZ:LU→Bool
 | []=>false
 | c::_=>cv c
def dB (c:UInt8):LU→Option Nat
 | []=>none
 | x::r=>match dB c r with
  | some i=>some (i+1)
  | none=>if x=c then some 0 else none
theorem mB (c:UInt8):∀ (l:LU)(i:Nat),l[i]?=some c→(∀ j:Nat,i<j→l[j]?≠some c)→dB c l=some i
 | [],i,h,_=>by simp at h
 | x::r,0,h,hn=>by
  have hr:dB c r=none:=by
   have key:∀ (r:LU),(∀ j:Nat,r[j]?≠some c)→dB c r=none:=by
    intro r
    induction r with
    | nil=>intro _;rfl
    | cons y t ih=>
     intro h
     have:=ih (fun j=>by simpa using h (j+1))
     have h0:=h 0
     simp at h0
     simp[dB,this,h0]
   exact key r (fun j=>by simpa using hn (j+1) (by omega))
  simp at h
  simp[dB,hr,h]
 | x::r,i+1,h,hn=>by
  have:=mB c r i (by simpa using h) (fun j hj=>by simpa using hn (j+1) (by omega))
  simp[dB,this]
theorem qD (c:UInt8):∀ (r:LU),(∀ j:Nat,r[j]?≠some c)→dB c r=none
 | [],_=>rfl
 | y::t,h=>by
  have:=qD c t (fun j=>by simpa using h (j+1))
  have h0:=h 0
  simp at h0
  simp[dB,this,h0]
theorem nf (c:UInt8):∀ (l:LU)(i:Nat),dB c l=some i→i<l.length
 | [],_,h=>by simp[dB] at h
 | x::r,i,h=>by
  unfold dB at h
  split at h
  ·rename_i k hk
   have:=nf c r k hk
   simp at h;simp;omega
  ·split at h
   ·simp at h;simp;omega
   ·simp at h
def ke (l:LU):Option (LU×LU):=
 if (Lib.cut l [58]).2.2=true then (if jY (Lib.cut l [58]).1=true∧(Lib.cut l [58]).1.length≤9 then some ((Lib.cut l [58]).1,(Lib.cut l [58]).2.1) else none) else some ([],l)
def kH (p:LU):Option (LU×LU):=
 match dB 45 p with
 | none=>if (bB [46,43,126,45] p&&jZ p)=true then some (p,[]) else none
 | some i=>if bB [46,43,126] (p.drop (i+1))=true∧(bB [46,43,126,45] (p.take i)&&jZ (p.take i))=true then some (p.take i,p.drop (i+1)) else none
def gW (l:LU):Option (LU×LU×LU):=
 match ke l with
 | none=>none
 | some (ep,p)=>(kH p).map fun r=>(ep,r.1,r.2)
def gf (s sep:BA):BA:=⟨(Lib.cut (bl s) (bl sep)).1.toArray⟩
def kg (s sep:BA):BA:=⟨(Lib.cut (bl s) (bl sep)).2.1.toArray⟩
def vD (s sep:BA):Bool:=(Lib.cut (bl s) (bl sep)).2.2
theorem dE (s sep:BA):bl (gf s sep)=(Lib.cut (bl s) (bl sep)).1:=io _
theorem fJ (s sep:BA):bl (kg s sep)=(Lib.cut (bl s) (bl sep)).2.1:=io _
theorem FY (l sep:LU):(Lib.cut l sep).1.length≤l.length∧(Lib.cut l sep).2.1.length≤l.length:=by
 unfold Lib.cut;split<;>simp;omega
theorem qn (s sep:BA):(gf s sep).size≤s.size:=by
 rw[←ah,←ah,dE];exact(FY _ _).1
theorem qo (s sep:BA):(kg s sep).size≤s.size:=by
 rw[←ah,←ah,fJ];exact(FY _ _).2
theorem du (s:BA)(k:Nat):bl (s.extract 0 k)=(bl s).take k:=by rw[jW];simp
theorem dC (s:BA)(h:0<s.size):jZ (bl s)=cv s[0]:=by rw[fI s h];rfl
theorem lC (o:LU)(s:BA)(h:bB o (bl s)=true):0<s.size:=by
 rw[←ah];unfold bB at h
 cases hb:bl s with
 | nil=>rw[hb] at h;simp at h
 | cons c r=>simp
section
open Go.RowKit
theorem ai (s:BA):s.toList=bl s:=ByteArray.toList_eq s
theorem aY (s:BA):(bl s).isEmpty=decide (s.size=0):=by
 rw[bI,List.isEmpty_iff,←List.length_eq_zero_iff,ah];simp
theorem af {a b:Bool}(h:a=b):Ending.returned (.bool a)=.returned (.bool b):=by rw[h]
theorem aE {k:IntKind}{a b:Int}(h:a=b):Ending.returned (.int k a)=.returned (.int k b):=by rw[h]
def Gh (n:Int):Int:=if n=1 then 1 else if n=2 then 3 else if n=3 then 2 else 0
def tA (n:Int):Bool:=decide (n=1∨n=2∨n=3)
theorem zJ (n:Int)(w:World):
  Calls Tryz.prog 22 #[.int .i64 n] w fun e w'=>e=.returned (.int .i64 (Gh n))∧w=w':=by
 go_enter Tryz.func22,Tryz.ntmps22
 go_wp2
 all_goals (go_ret;refine⟨?_,rfl⟩;simp_all [Gh])
theorem qJ (n:Int)(w:World):
  Calls Tryz.prog 41 #[.int .i64 n] w fun e w'=>e=.returned (.bool (tA n))∧w=w':=by
 go_enter Tryz.func41,Tryz.ntmps41
 go_wp2
 all_goals (go_ret;refine⟨af ?_,rfl⟩;rw[bI];simp_all [tA];try omega)
def qK (least:Nat)(l:LU):Bool:=l.all fun c=>least≤c.toNat&&c.toNat≤126
def fM (l:LU):Bool:=!l.isEmpty&&qK 33 l
theorem Dc (least:Nat)(s:BA)(k:Nat)(h:k<s.size)(h0:qK least ((bl s).take k)=true)(h1:least≤s[k].toNat)(h2:¬ s[k].toNat<least∧(s[k].toNat:Int)≤126):qK least ((bl s).take (k+1))=true:=by
 unfold qK at *;rw[cV s k h,h0];simp;omega
theorem xv (least:Nat)(s:BA)(k:Nat)(h:k<s.size)(h1:s[k].toNat<least∨126<(s[k].toNat:Int)):qK least (bl s)=false:=by
 unfold qK;apply jX s k h;simp;omega
theorem ki (s:BA)(least:Nat)(w:World)(hs:s.size≤9223372036854775807):
  Calls Tryz.prog 78 #[.string s,.int .u8 least] w fun e w'=>e=.returned (.bool (qK least (bl s)))∧w=w':=by
 go_enter Tryz.func78,Tryz.ntmps78
 go_wp2
 go_loop [8] (fun i=>∃ k:Nat,k≤s.size∧i=.int .i64 k∧Hid (qK least ((bl s).take k)=true)) (fun i=>s.size-(intOf i).toNat)
 case atStart=>exact⟨0,z0,rfl,by simp[qK,Hid]⟩
 case round=>
  obtain⟨k,hk,rfl,hw⟩:=hrel
  by_cases hlt:k<s.size
  ·by_cases h1:least≤s[k].toNat
   ·by_cases h2:(s[k].toNat:Int)≤126
    ·go_wp2
     go_round
     case rel=>exact⟨k+1,by omega,by go_num,Dc least s k hlt hw.out h1 ⟨by omega,h2⟩⟩
     case measure=>simp[intOf];omega
    ·go_wp2
     go_ret
     exact⟨af (by rw[xv least s k hlt (by omega)]),rfl⟩
   ·go_wp2
    go_ret
    exact⟨af (by rw[xv least s k hlt (by omega)]),rfl⟩
  ·go_wp2
   go_ret
   exact⟨af (by have:=hw.out;rw[iC s k (by omega)] at this;rw[this]),rfl⟩
theorem jh (s:BA)(w:World)(hs:s.size≤9223372036854775807):
  Calls Tryz.prog 34 #[.string s] w fun e w'=>e=.returned (.bool (fM (bl s)))∧w=w':=by
 go_enter Tryz.func34,Tryz.ntmps34
 go_wp2_with (go_at_call 78;refine(ki _ 33 _ hs).mono ?_;rintro e w' ⟨rfl,rfl⟩)
 all_goals (go_ret;refine⟨af ?_,rfl⟩;simp_all [fM,ai])
def tB (s:BA)(c:UInt8):Int:=Lib.indexByte (bl s) c
theorem eY (s:BA)(c:UInt8)(h:(bl s).contains c=false):tB s c<0:=by
 have:=Lib.contains_iff_indexByte (bl s) c
 rw[h] at this;unfold tB
 have h2:=of_decide_eq_false this.symm;omega
theorem fN (s:BA)(c:UInt8)(h:(bl s).contains c=true):0≤tB s c:=by
 have:=Lib.contains_iff_indexByte (bl s) c
 rw[h] at this;unfold tB
 exact dO this.symm
theorem aQ (s:BA)(c:UInt8)(w:World):
  Calls Tryz.prog 119 #[.string s,.int .u8 c.toNat] w fun e w'=>e=.returned (.int .i64 (tB s c))∧w=w':=
 (Tryz.strings_IndexByte s c.toNat w).mono fun _ _ ⟨he,hw⟩=>⟨by rw[he];simp[tB,bl],hw.symm⟩
theorem pu (s:BA)(w:World)(hs:s.size≤9223372036854775807):
  Calls Tryz.prog 118 #[.string s] w fun e w'=>e=.returned (.bool (lB (bl s)))∧w=w':=by
 by_cases h0:s.size=0
 ·have he:s.toList=[]:=by rw[ai,bL s h0]
  go_enter Tryz.func118,Tryz.ntmps118
  go_wp2
  go_ret
  exact⟨af (vB s h0).symm,rfl⟩
 ·have h1:0<s.size:=by omega
  have he:s.toList.isEmpty=false:=by rw[ai,aY];simpa using h0
  have he':¬ s.toList=[]:=by intro h;rw[h] at he;simp at he
  go_enter Tryz.func118,Tryz.ntmps118
  go_wp2
  all_goals go_ret
  all_goals (refine⟨af ?_,rfl⟩;rw[xm s h1,bI];simp[ox,gK,cv];omega)
theorem iG (s:BA)(k:Nat)(h:k<s.size)(w:World)(hs:s.size≤9223372036854775807):
  Calls Tryz.prog 118 #[.string (s.extract k s.size)] w fun e w'=>e=.returned (.bool (ox s[k]))∧w=w':=
 (pu (s.extract k s.size) w (by simp[ByteArray.size_extract];omega)).mono fun _ _ ⟨he,hw⟩=>⟨by rw[he,vC s k h],hw⟩
theorem uu (s o:BA)(w:World)(hs:s.size≤9223372036854775807):
  Calls Tryz.prog 81 #[.string s,.string o] w fun e w'=>e=.returned (.bool (mA (bl o) (bl s)))∧w=w':=by
 go_enter Tryz.func81,Tryz.ntmps81
 go_wp2
 go_loop [8] (fun i=>∃ k:Nat,k≤s.size∧i=.int .i64 k∧Hid (((bl s).take k).all (fun c=>ox c||(bl o).contains c)=true)) (fun i=>s.size-(intOf i).toNat)
 case atStart=>exact⟨0,z0,rfl,by simp[Hid]⟩
 case round=>
  obtain⟨k,hk,rfl,hw⟩:=hrel
  by_cases hlt:k<s.size
  ·cases hl:ox s[k]
   ·cases hc:(bl o).contains s[k]
    ·have hn:=eY o s[k] hc
     have HC:=ae hc;clear hc
     go_wp2_with (first | (go_at_call 118;refine(iG s k hlt _ hs).mono ?_;rintro e w' ⟨rfl,rfl⟩) | (go_at_call 119;refine(aQ o s[k] _).mono ?_;rintro e w' ⟨rfl,rfl⟩))
     go_ret
     exact⟨af (C7 _ s k hlt hl HC.out).symm,rfl⟩
    ·have hn:=fN o s[k] hc
     have HC:=ae hc;clear hc
     go_wp2_with (first | (go_at_call 118;refine(iG s k hlt _ hs).mono ?_;rintro e w' ⟨rfl,rfl⟩) | (go_at_call 119;refine(aQ o s[k] _).mono ?_;rintro e w' ⟨rfl,rfl⟩))
     go_round
     case rel=>exact⟨k+1,by omega,by go_num,qC _ s k hlt hw.out (by rw[HC.out];simp)⟩
     case measure=>simp[intOf];omega
   ·go_wp2_with (first | (go_at_call 118;refine(iG s k hlt _ hs).mono ?_;rintro e w' ⟨rfl,rfl⟩))
    go_round
    case rel=>exact⟨k+1,by omega,by go_num,qC _ s k hlt hw.out (by rw[hl];simp)⟩
    case measure=>simp[intOf];omega
  ·go_wp2_with (go_at_call 118;refine(pu s _ hs).mono ?_;rintro e w' ⟨rfl,rfl⟩)
   go_ret
   exact⟨af (zH _ s k hlt hw.out).symm,rfl⟩
theorem lD (s:BA)(w:World)(hs:s.size≤9223372036854775807):
  Calls Tryz.prog 42 #[.string s] w fun e w'=>e=.returned (.bool (dX (bl s)))∧w=w':=by
 have hb:=ah s
 have HB:=ae hb;clear hb
 by_cases h2:2≤s.size
 ·by_cases h3:s.size≤64
  ·go_enter Tryz.func42,Tryz.ntmps42
   go_wp2_with (go_at_call 81;refine(uu s _ _ hs).mono ?_;rintro e w' ⟨rfl,rfl⟩)
   go_ret
   exact⟨af (by unfold dX;rw[HB.out,dT h2,dT h3];simp[bl]),rfl⟩
  ·go_enter Tryz.func42,Tryz.ntmps42
   go_wp2_with fail
   go_ret
   exact⟨af (by unfold dX;rw[HB.out,dF h3];simp),rfl⟩
 ·go_enter Tryz.func42,Tryz.ntmps42
  go_wp2_with fail
  go_ret
  exact⟨af (by unfold dX;rw[HB.out,dF h2];simp),rfl⟩
theorem ap {w w1 w2:World}(h1:Below w.heap.size w w1)(h2:Below w1.heap.size w1 w2):Below w.heap.size w w2:=h1.trans (h2.mono h1.size)
def aw (fmt:Int)(n:Nat):BA:=
 if fmt=1 then (match n with | 0=>⟨#[97,109,100,54,52]⟩ | 1=>⟨#[97,114,109,54,52]⟩ | _=>⟨#[97,108,108]⟩)
 else (match n with | 0=>⟨#[120,56,54,95,54,52]⟩ | 1=>⟨#[97,97,114,99,104,54,52]⟩ | _=>⟨#[110,111,97,114,99,104]⟩)
theorem xx (n:Int)(w:World):
  Calls Tryz.prog 44 #[.int .i64 n] w fun e w'=>e=.returned (.agg #[.string (aw n 0),.string (aw n 1),.string (aw n 2)])∧Below w.heap.size w w':=by
 by_cases h:n=1
 ·subst h
  go_enter Tryz.func44,Tryz.ntmps44
  go_wp2
  refine bodyPost_ret (v:=.agg #[.string (aw 1 0),.string (aw 1 1),.string (aw 1 2)]) (by simp[results,Tryz.results44,go_sem,aw]) rfl ⟨rfl,?_⟩
  exact bR.alloc lr _
 ·have hb:(n==1)=false:=by simpa using h
  go_enter Tryz.func44,Tryz.ntmps44
  go_wp2
  refine bodyPost_ret (v:=.agg #[.string (aw n 0),.string (aw n 1),.string (aw n 2)]) (by simp[results,Tryz.results44,go_sem,aw,h]) rfl ⟨rfl,?_⟩
  exact bR.alloc lr _
theorem fi (s t:BA):(s.toList==t.toList)=decide (s=t):=by
 rw[ai,ai,bI];simp;exact⟨eM,fun h=>by rw[h]⟩
end
section
open Go.RowKit
def ji (w:World)(B size:Nat)(A:OA)(n:Nat)(xs:LV):Prop:=
 xs.length=n*size∧(0<n→∃ ad,A=some ad∧ad.block<B∧∀ j u,xs[j]?=some u→w.cell? (ad.add j)=some u)
section
variable {w w' : World} {B B' size n : Nat} {A : OA} {xs : LV}
end
section
variable {P : Program} (w : World)
theorem nr (base:Nat)(t ty e:TypeId)(i:TypeInfo)(size:Nat)(ht:P.underlying t=some (.slice e))(hi:P.info? e=some i)
  (v:Value)(n:Nat)(xs:LV)(hown:w.ownsRow base e size v n xs)(c:Nat):(Builtin.append_ #[t,t] ty #[v,.slice none 0 c]).run P w=.ok v w:=by
 rcases hown.2 with⟨rfl,rfl⟩ | ⟨g,cap,cur,rfl,_,_,hnc,_⟩
 ·simp[Builtin.append_,run_underlying ht,sizeOf,typeInfo,hi,Builtin.lenOf,Builtin.firstCells]
 ·simp[Builtin.append_,run_underlying ht,sizeOf,typeInfo,hi,Builtin.lenOf,Builtin.firstCells,hnc,storeCells]
theorem qN (base:Nat)(t ty e:TypeId)(i:TypeInfo)(z:Value)(size bytes:Nat)(ht:P.underlying t=some (.slice e))(hi:P.info? e=some i)(hz:i.zero=some z)
  (hsize:i.size=size)(hby:i.bytes=bytes)(hzs:z.cells.size=size)(hsz:0<size)
  (v:Value)(n:Nat)(xs:LV)(hown:w.ownsRow base e size v n xs)
  (B:Nat)(A:OA)(m c:Nat)(news:LV)(hr:ji w B size A m news)(h1:∀ u∈news,u.oneCell'=true)
  (h63:n+m≤maxLen)(hbytes:(n+m)*bytes≤140737488355328)(hbase:base≤w.heap.size):
  ∃ v' w',(Builtin.append_ #[t,t] ty #[v,.slice A m c]).run P w=.ok v' w'∧w'.ownsRow base e size v' (n+m) (xs++news)∧w.grownBy w' v.ownBlock ∧
   (v'.ownBlock=v.ownBlock∨v'.ownBlock=some w.heap.size):=by
 rcases A with _ | ad
 ·have hm:m=0:=by
   rcases Nat.eq_zero_or_pos m with h0 | h0
   ·exact h0
   ·obtain⟨ad,h,_⟩:=hr.2 h0
    cases h
  subst hm
  have hn:news=[]:=List.eq_nil_of_length_eq_zero (by simpa using hr.1)
  subst hn
  exact⟨v,w,nr w base t ty e i size ht hi v n xs hown c,by simpa using hown,World.grownBy.refl w _,.inl rfl⟩
 ·have hcells:∀ j u,news[j]?=some u→w.cell? (ad.add j)=some u:=by
   intro j u hu
   rcases Nat.eq_zero_or_pos m with h0 | h0
   ·subst h0
    have hn:news=[]:=List.eq_nil_of_length_eq_zero (by simpa using hr.1)
    subst hn
    simp at hu
   ·obtain⟨ad',h,_,hc⟩:=hr.2 h0
    injection h with h
    subst h
    exact hc j u hu
  obtain⟨v',w',hrun,h2,h3,_,h5⟩:=run_append_own_at (P:=P) w base t ty e i z size bytes ht hi hz hsize hby hzs hsz v n xs hown ad m c news hr.1 hcells h1 h63 hbytes hbase
  exact⟨v',w',hrun,h2,h3,h5⟩
theorem ma {o:Oper}{a:Act}{K:Act→World→Prop}{Q:Exit→Act→World→Prop}(s x:Operand)(t:TypeId)
  (ho:o.op=.call { callee:=.builtin .append,args:=#[s,x],argTypes:=#[t,t] })
  (base:Nat)(e:TypeId)(i:TypeInfo)(z:Value)(size bytes:Nat)(ht:P.underlying t=some (.slice e))(hi:P.info? e=some i)(hz:i.zero=some z)
  (hsize:i.size=size)(hby:i.bytes=bytes)(hzs:z.cells.size=size)(hsz:0<size)
  (v:Value)(n:Nat)(xs:LV)(hs:a.eval s=v)(hown:w.ownsRow base e size v n xs)
  (B:Nat)(A:OA)(m c:Nat)(news:LV)(hx:a.eval x=.slice A m c)(hr:ji w B size A m news)(h1:∀ u∈news,u.oneCell'=true)
  (h63:n+m≤maxLen)(hbytes:(n+m)*bytes≤140737488355328)(hbase:base≤w.heap.size)
  (h:∀ v' w',w'.ownsRow base e size v' (n+m) (xs++news)→w.grownBy w' v.ownBlock→(v'.ownBlock=v.ownBlock∨v'.ownBlock=some w.heap.size)→K (a.put o.dst v') w'):o.wp P a w K Q:=by
 obtain⟨v',w',hrun,h2,h3,h4⟩:=qN (P:=P) w base t o.type e i z size bytes ht hi hz hsize hby hzs hsz v n xs hown B A m c news hr h1 h63 hbytes hbase
 unfold Oper.wp execOp
 simp only[ho,resolve,invoke,builtin,Sem.run_bind,Sem.run_pure,Result.andThen_ok,List.map_toArray,List.map_cons,List.map_nil,hs,hx,hrun]
 exact h v' w' h2 h3 h4
theorem au {ops:Array Oper}{rest:List Oper}{o:Oper}{a:Act}{Q:Exit→Act→World→Prop}(hgd:o.guard=none)(s x:Operand)(t:TypeId)
  (ho:o.op=.call { callee:=.builtin .append,args:=#[s,x],argTypes:=#[t,t] })
  (base:Nat)(e:TypeId)(i:TypeInfo)(z:Value)(size bytes:Nat)(ht:P.underlying t=some (.slice e))(hi:P.info? e=some i)(hz:i.zero=some z)
  (hsize:i.size=size)(hby:i.bytes=bytes)(hzs:z.cells.size=size)(hsz:0<size)
  (v:Value)(n:Nat)(xs:LV)(hs:a.eval s=v)(hown:w.ownsRow base e size v n xs)
  (B:Nat)(A:OA)(m c:Nat)(news:LV)(hx:a.eval x=.slice A m c)(hr:ji w B size A m news)(h1:∀ u∈news,u.oneCell'=true)
  (h63:n+m≤maxLen)(hbytes:(n+m)*bytes≤140737488355328)(hbase:base≤w.heap.size)
  (h:∀ v' w',w'.ownsRow base e size v' (n+m) (xs++news)→w.grownBy w' v.ownBlock→(v'.ownBlock=v.ownBlock∨v'.ownBlock=some w.heap.size)→wpList P ops Q rest (a.put o.dst v') w'):wpList P ops Q (o::rest) a w:=
 wpList_plain hgd fun _ hK=>ma w s x t ho base e i z size bytes ht hi hz hsize hby hzs hsz v n xs hs hown B A m c news hx hr h1 h63 hbytes hbase fun v' w' h2 h3 h4=>hK _ _ (h v' w' h2 h3 h4)
theorem cS {ops:Array Oper}{o:Oper}{a:Act}{K:Act→World→Prop}{Q:Exit→Act→World→Prop}{E:Prop}(hgd:o.guard=none)(s x:Operand)(t:TypeId)
  (ho:o.op=.call { callee:=.builtin .append,args:=#[s,x],argTypes:=#[t,t] })
  (base:Nat)(e:TypeId)(i:TypeInfo)(z:Value)(size bytes:Nat)(ht:P.underlying t=some (.slice e))(hi:P.info? e=some i)(hz:i.zero=some z)
  (hsize:i.size=size)(hby:i.bytes=bytes)(hzs:z.cells.size=size)(hsz:0<size)
  (v:Value)(n:Nat)(xs:LV)(hs:a.eval s=v)(hown:w.ownsRow base e size v n xs)
  (B:Nat)(A:OA)(m c:Nat)(news:LV)(hx:a.eval x=.slice A m c)(hr:ji w B size A m news)(h1:∀ u∈news,u.oneCell'=true)
  (h63:n+m≤maxLen)(hbytes:(n+m)*bytes≤140737488355328)(hbase:base≤w.heap.size)
  (h:∀ v' w',w'.ownsRow base e size v' (n+m) (xs++news)→w.grownBy w' v.ownBlock→(v'.ownBlock=v.ownBlock∨v'.ownBlock=some w.heap.size)→K (a.put o.dst v') w'):
  if Region.wanted o (yielded ops a.tmps)=true then Oper.wp P o a w K Q else E:=by
 have hw:Region.wanted o (yielded ops a.tmps)=true:=by simp[Region.wanted,hgd]
 rw[if_pos hw]
 exact ma w s x t ho base e i z size bytes ht hi hz hsize hby hzs hsz v n xs hs hown B A m c news hx hr h1 h63 hbytes hbase h
end
end
section
open Go.RowKit
def fQ (l:LU):Int:=l.foldl (fun n c=>10*n+((c.toNat:Int)-48)) 0
theorem xG (l:LU)(c:UInt8):fQ (l++[c])=10*fQ l+((c.toNat:Int)-48):=by simp[fQ,List.foldl_append]
theorem xH (s:BA)(k:Nat)(h:k<s.size):fQ ((bl s).take (k+1))=10*fQ ((bl s).take k)+((s[k].toNat:Int)-48):=by
 rw[tS (by rw[ah];exact h),xG,jt s k h]
def pK (l:LU):Bool:=!l.isEmpty && !(decide (1<l.length)&&decide (l.head?=some 48))&&l.all cv
def xI:Int:=4611686018427387903
def gt (l:LU):Int:=if pK l then (if fQ l≤xI then fQ l else 0) else 0
def eP (l:LU):Int:=if pK l then (if fQ l≤xI then 0 else 4) else 3
theorem Gm {s:BA}(h:s.size=0):pK (bl s)=false:=by rw[bL s h];rfl
theorem xJ {s:BA}(h:1<s.size)(h0:s[0]=48):pK (bl s)=false:=by
 unfold pK
 have:(bl s).head?=some 48:=by rw[fI s (by omega),h0];rfl
 rw[this,ah];simp[h]
theorem Gn {s:BA}(h:0<s.size)(h0:¬ (1<s.size∧s[0]=48)):pK (bl s)=(bl s).all cv:=by
 unfold pK
 have h1:(bl s).head?=some s[0]:=by rw[fI s h];rfl
 have h2:(bl s).isEmpty=false:=by rw[aY];exact dF (by omega)
 rw[h1,h2,ah]
 have:(decide (1<s.size)&&decide (some s[0]=some (48:UInt8)))=false:=by
  rw[Bool.and_eq_false_iff]
  by_cases h3:1<s.size
  ·right;simp;exact fun h4=>h0 ⟨h3,h4⟩
  ·left;simp;omega
 rw[this];simp
theorem oE {l:LU}(h:pK l=false):gt l=0∧eP l=3:=by simp[gt,eP,h]
theorem Gp {l:LU}(h:pK l=true)(hv:fQ l≤xI):gt l=fQ l∧eP l=0:=by simp[gt,eP,h,hv]
theorem Dh {l:LU}(h:pK l=true)(hv:¬ fQ l≤xI):gt l=0∧eP l=4:=by simp[gt,eP,h,hv]
def gX (l:LU):Value:=.tuple #[.int .i64 (gt l),.int .i64 (eP l)]
theorem jj (s:BA)(w:World)(hs:s.size≤9223372036854775807):
  Calls Tryz.prog 115 #[.string s] w fun e w'=>e=.returned (gX (bl s))∧w=w':=by
 by_cases h0:s.size=0
 ·have he:s.toList=[]:=by rw[ai,bL s h0]
  have E:=ae (oE (Gm h0))
  go_enter Tryz.func115,Tryz.ntmps115
  go_wp2_with fail
  go_ret2
  exact⟨by unfold gX;rw[E.out.1,E.out.2];rfl,rfl⟩
 have hpos:0<s.size:=by omega
 have he:s.toList.isEmpty=false:=by rw[ai,aY];exact dF (by omega)
 have he1:¬ s.toList=[]:=by intro h;rw[h] at he;simp at he
 by_cases h1:1<s.size∧s[0]=48
 ·obtain⟨h1,h2⟩:=h1
  have E:=ae (oE (xJ h1 h2))
  have hc:((s[0].toNat:Int)==48)=true:=by rw[h2];rfl
  clear h2
  go_enter Tryz.func115,Tryz.ntmps115
  go_wp2_with fail
  go_ret2
  exact⟨by unfold gX;rw[E.out.1,E.out.2];rfl,rfl⟩
 have EA:=ae (Gn hpos h1)
 have walk:∀ (hc:decide (1<(s.size:Int))=false∨(decide (1<(s.size:Int))=true∧((s[0].toNat:Int)==48)=false)),Calls Tryz.prog 115 #[.string s] w fun e w'=>e=.returned (gX (bl s))∧w=w':=by
  intro hc
  rcases hc with hc | ⟨hc1,hc⟩
  all_goals
   go_enter Tryz.func115,Tryz.ntmps115
   go_wp2_with fail
   clear he he1 hc
   go_loop [4,5,22] (fun n lg i=>∃ (k:Nat) (m:Int) (b:Bool),k≤s.size∧i=.int .i64 k∧n=.int .i64 m∧lg=.bool b∧0≤m∧m≤4611686018427387903∧Hid (((bl s).take k).all cv=true)∧Hid (b=false→m=fQ ((bl s).take k))∧Hid (b=true→xI<fQ ((bl s).take k))) (fun _ _ i=>s.size-(intOf i).toNat)
   case atStart=>exact⟨0,0,false,z0,rfl,rfl,rfl,by omega,by omega,by simp[Hid],ae (fun _=>by simp[fQ]),ae (fun h=>by cases h)⟩
   case round=>
    obtain⟨k,m,b,hk,rfl,rfl,rfl,m0,m1,HA,HV,HL⟩:=hrel
    by_cases hlt:k<s.size
    ·by_cases hd:48≤s[k].toNat∧s[k].toNat≤57
     ·obtain⟨d0,d1⟩:=hd
      have HD:Hid (cv s[k]=true):=dT ⟨d0,d1⟩
      have HN:=ae (xH s k hlt)
      have HA2:Hid (((bl s).take (k+1)).all cv=true):=by show _=_;rw[cV s k hlt,HA.out,HD.out];rfl
      cases b
      ·by_cases hb:m > (4611686018427387903-((s[k].toNat:Int)-48)) / 10
       ·go_wp2_with fail
        go_round
        case rel=>exact⟨k+1,m,true,by omega,by go_num,rfl,rfl,m0,m1,HA2,ae (fun h=>by cases h),ae (fun _=>by rw[HN.out,←HV.out rfl];unfold xI;omega)⟩
        case measure=>simp[intOf];omega
       ·go_wp2_with fail
        go_round
        case rel=>exact⟨k+1,_,false,by omega,by go_num,rfl,rfl,by omega,by omega,HA2,ae (fun _=>by rw[HN.out,←HV.out rfl]),ae (fun h=>by cases h)⟩
        case measure=>simp[intOf];omega
      ·go_wp2_with fail
       go_round
       case rel=>exact⟨k+1,m,true,by omega,by go_num,rfl,rfl,m0,m1,HA2,ae (fun h=>by cases h),ae (fun _=>by rw[HN.out];have:=HL.out rfl;unfold xI at *;omega)⟩
       case measure=>simp[intOf];omega
     ·have E:=ae (oE (show pK (bl s)=false by rw[EA.out];exact jX s k hlt (dF hd)))
      by_cases hd1:s[k].toNat<48
      ·go_wp2_with fail
       go_ret2
       exact⟨by unfold gX;rw[E.out.1,E.out.2];rfl,rfl⟩
      ·have hd2:57<s[k].toNat:=by omega
       go_wp2_with fail
       go_ret2
       exact⟨by unfold gX;rw[E.out.1,E.out.2];rfl,rfl⟩
    ·have hall:pK (bl s)=true:=by rw[EA.out];have:=HA.out;rw[iC s k (by omega)] at this;exact this
     have hval:(bl s).take k=bl s:=iC s k (by omega)
     cases b
     ·have hv:=HV.out rfl
      rw[hval] at hv
      have E:=ae (Gp hall (by rw[←hv];unfold xI;omega))
      have HVV:=ae hv
      clear hall hval hv
      go_wp2_with fail
      go_ret2
      exact⟨by unfold gX;rw[E.out.1,E.out.2,←HVV.out];rfl,rfl⟩
     ·have hv:=HL.out rfl
      rw[hval] at hv
      have E:=ae (Dh hall (by omega))
      clear hall hval hv
      go_wp2_with fail
      go_ret2
      exact⟨by unfold gX;rw[E.out.1,E.out.2];rfl,rfl⟩
 by_cases h2:1<s.size
 ·exact walk (.inr ⟨dT,by simp only[bF,ne_eq];intro h;apply h1;refine⟨h2,UInt8.toNat_inj.1 ?_⟩;show _=48;omega⟩)
 ·exact walk (.inl dF)
structure tG (p:Prop):Prop where
 out:¬ p
def iJ (i:Nat)(c:UInt8):Bool:=decide ((97≤c.toNat∧c.toNat≤122)∨c.toNat=95∨(i≠0∧(c.toNat=45∨(48≤c.toNat∧c.toNat≤57))))
def fR (s:BA):Bool:=decide (∀ j (h:j<s.size),iJ j s[j]=true)
def Gq (s:BA):Bool:=decide (bl s=[114,111,111,116])||(decide (eP (bl s)=0)&&decide (1≤gt (bl s))&&decide (gt (bl s)≤2097151))
def dN (fmt:Int)(s:BA):Bool:=decide (1≤s.size∧s.size≤31)&&(if fmt=3 then Gq s else fR s)
theorem ny (s:BA):(s.toList == [114,111,111,116])=decide (bl s=[114,111,111,116]):=by
 rw[ai,bI];simp
theorem gN {s:BA}{k:Nat}(hk:k<s.size)(h:∀ j (h:j<s.size),j<k→iJ j s[j]=true)(hc:iJ k s[k]=true):∀ j (h:j<s.size),j<k+1→iJ j s[j]=true:=by
 intro j hj hjk
 by_cases e:j=k
 ·subst e;exact hc
 ·exact h j hj (by omega)
theorem jm {s:BA}{k:Nat}(hk:k<s.size)(hc:iJ k s[k]=false):fR s=false:=by
 apply dF;intro h;rw[h k hk] at hc;cases hc
theorem jy {a b:Nat}(h:a=b):((a:Int)==(b:Int))=true:=by simp[h]
theorem gY {a b:Nat}(h:¬ a=b):((a:Int)==(b:Int))=false:=by simp;omega
theorem Ci {a b:Nat}(h:a=b):((a:Int) != (b:Int))=false:=by simp[h]
theorem qr {a b:Nat}(h:¬ a=b):((a:Int) != (b:Int))=true:=by simp[bne];omega
theorem jH (fmt:Int)(s:BA)(w:World)(hs:s.size≤9223372036854775807):
  Calls Tryz.prog 133 #[.int .i64 fmt,.string s] w fun e w'=>e=.returned (.bool (dN fmt s))∧w=w':=by
 by_cases h1:s.size<1
 ·have E:Hid (dN fmt s=false):=by show _=_;unfold dN;rw[dF];rfl
  go_enter Tryz.func133,Tryz.ntmps133
  go_wp2_with fail
  go_ret
  exact⟨af E.out.symm,rfl⟩
 by_cases h2:31<s.size
 ·have E:Hid (dN fmt s=false):=by show _=_;unfold dN;rw[dF];rfl
  go_enter Tryz.func133,Tryz.ntmps133
  go_wp2_with fail
  go_ret
  exact⟨af E.out.symm,rfl⟩
 by_cases h3:fmt=3
 ·subst h3
  have E:Hid (dN 3 s=Gq s):=by show _=_;unfold dN;rw[dT,if_pos rfl];rfl
  unfold Gq at E
  cases g1:(s.toList == [114,111,111,116])
  ·have G1:Hid (decide (bl s=[114,111,111,116])=false):=by show _=_;rw[←ny];exact g1
   go_enter Tryz.func133,Tryz.ntmps133
   go_wp2_with fail
   refine(jj s _ hs).mono ?_;rintro e w' ⟨rfl,rfl⟩
   unfold gX
   by_cases g2:eP (bl s)=0
   ·by_cases g3:1≤gt (bl s)
    ·have g2':(eP (bl s)==0)=true:=by simpa using g2
     have EE:Hid (dN 3 s=decide (gt (bl s)≤2097151)):=by show _=_;rw[E.out,G1.out,dT g2,dT g3];rfl
     clear g2
     go_wp2_with fail
     go_ret
     exact⟨af (by rw[EE.out]),rfl⟩
    ·have g2':(eP (bl s)==0)=true:=by simpa using g2
     have EE:Hid (dN 3 s=false):=by show _=_;rw[E.out,G1.out,dF g3];simp
     clear g2
     go_wp2_with fail
     go_ret
     exact⟨af (by rw[EE.out]),rfl⟩
   ·have g2':(eP (bl s)==0)=false:=by simpa using g2
    have EE:Hid (dN 3 s=false):=by show _=_;rw[E.out,G1.out,dF g2];simp
    clear g2
    go_wp2_with fail
    go_ret
    exact⟨af (by rw[EE.out]),rfl⟩
  ·have EE:Hid (dN 3 s=true):=by show _=_;rw[E.out,←ny,g1];rfl
   go_enter Tryz.func133,Tryz.ntmps133
   go_wp2_with fail
   refine(jj s _ hs).mono ?_;rintro e w' ⟨rfl,rfl⟩
   unfold gX
   go_wp2_with fail
   go_ret
   exact⟨af (by rw[EE.out]),rfl⟩
 ·have h3':(fmt==3)=false:=by simpa using h3
  have E:Hid (dN fmt s=fR s):=by show _=_;unfold dN;rw[dT,if_neg h3];rfl
  clear h3
  go_enter Tryz.func133,Tryz.ntmps133
  go_wp2_with fail
  go_loop [41] (fun i=>∃ k:Nat,k≤s.size∧i=.int .i64 k∧Hid (∀ j (h:j<s.size),j<k→iJ j s[j]=true)) (fun i=>s.size-(intOf i).toNat)
  case atStart=>exact⟨0,z0,rfl,ae (fun j h hj=>by omega)⟩
  case round=>
   obtain⟨k,hk,rfl,HA⟩:=hrel
   by_cases hlt:k<s.size
   ·by_cases a1:97≤s[k].toNat
    ·by_cases a2:s[k].toNat≤122
     ·skip
      have HC:Hid (iJ k s[k]=true):=dT (by omega)
      go_wp2_with fail
      go_round
      case rel=>exact⟨k+1,by omega,by go_num,ae (gN hlt HA.out HC.out)⟩
      case measure=>simp[intOf];omega
     ·have t122:decide ((s[k].toNat:Int)≤122)=false:=dF (by omega)
      have t95:((s[k].toNat:Int)==95)=false:=gY (by omega:¬ s[k].toNat=95)
      have t45:((s[k].toNat:Int) != 45)=true:=qr (by omega:¬ s[k].toNat=45)
      have t57:57<s[k].toNat:=by omega
      have HC:Hid (fR s=false):=jm hlt dF
      by_cases k0:k=0
      ·have tk:((k:Int)==0)=true:=jy k0
       clear k0
       go_wp2_with fail
       go_ret
       exact⟨af (by rw[E.out,HC.out]),rfl⟩
      ·have tk:((k:Int)==0)=false:=gY k0
       have t48:decide ((s[k].toNat:Int)<48)=false:=dF (by omega)
       have t58:decide (57<(s[k].toNat:Int))=true:=dT (by omega)
       clear k0
       go_wp2_with fail
       go_ret
       exact⟨af (by rw[E.out,HC.out]),rfl⟩
    ·by_cases g95:s[k].toNat=95
     ·have t95:((s[k].toNat:Int)==95)=true:=jy g95
      have HC:Hid (iJ k s[k]=true):=dT (by omega)
      clear g95
      go_wp2_with fail
      go_round
      case rel=>exact⟨k+1,by omega,by go_num,ae (gN hlt HA.out HC.out)⟩
      case measure=>simp[intOf];omega
     ·skip
      have t95:((s[k].toNat:Int)==95)=false:=gY g95
      by_cases k0:k=0
      ·have tk:((k:Int)==0)=true:=jy k0
       have HC:Hid (fR s=false):=jm hlt dF
       clear k0
       go_wp2_with fail
       go_ret
       exact⟨af (by rw[E.out,HC.out]),rfl⟩
      have tk:((k:Int)==0)=false:=gY k0
      by_cases g45:s[k].toNat=45
      ·have t45:((s[k].toNat:Int) != 45)=false:=Ci g45
       have HC:Hid (iJ k s[k]=true):=dT (by omega)
       clear g45
       go_wp2_with fail
       go_round
       case rel=>exact⟨k+1,by omega,by go_num,ae (gN hlt HA.out HC.out)⟩
       case measure=>simp[intOf];omega
      have t45:((s[k].toNat:Int) != 45)=true:=qr g45
      by_cases g48:s[k].toNat<48
      ·skip
       have HC:Hid (fR s=false):=jm hlt dF
       go_wp2_with fail
       go_ret
       exact⟨af (by rw[E.out,HC.out]),rfl⟩
      by_cases g57:57<s[k].toNat
      ·skip
       have HC:Hid (fR s=false):=jm hlt dF
       go_wp2_with fail
       go_ret
       exact⟨af (by rw[E.out,HC.out]),rfl⟩
      ·skip
       have HC:Hid (iJ k s[k]=true):=dT (by omega)
       go_wp2_with fail
       go_round
       case rel=>exact⟨k+1,by omega,by go_num,ae (gN hlt HA.out HC.out)⟩
       case measure=>simp[intOf];omega
   ·have HE:Hid (fR s=true):=dT (fun j h=>HA.out j h (by omega))
    go_wp2_with fail
    go_ret
    exact⟨af (by rw[E.out,HE.out]),rfl⟩
end
end Go.Proofs.YtlglfpbhapmhiaaGreatDoor
