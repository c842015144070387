/- A part of the proof of a law on dependencies in three formats. No condition. -/
import Derived.Deep.RegionHeld3
import Derived.Lib.AppendZeros
import Derived.Lib.ItoaNum
import Derived.Test.YtkjdbpjglobbjaaGreatDoorE01
import Derived.Test.YtkjdbpjglobbjaaGreatDoorE03
set_option maxRecDepth 100000
set_option maxHeartbeats 20000000
set_option linter.unusedVariables false
set_option linter.unusedSimpArgs false
namespace Go.Proofs.YtkjdbpjglobbjaaGreatDoor
section
open Go.RowKit
def Ep (s:BA)(c:UInt8):Int:=Lib.indexByte (bl s) c
theorem ju (s:BA)(c:UInt8)(h:(bl s).contains c=false):Ep s c<0:=by
 have:=Lib.contains_iff_indexByte (bl s) c
 rw[h] at this;unfold Ep
 have h2:=of_decide_eq_false this.symm;omega
theorem jY (s:BA)(c:UInt8)(h:(bl s).contains c=true):0≤Ep s c:=by
 have:=Lib.contains_iff_indexByte (bl s) c
 rw[h] at this;unfold Ep
 exact dO this.symm
theorem bt (s:BA)(c:UInt8)(w:World):
  Calls Tryz.prog 68 #[.string s,.int .u8 c.toNat] w fun e w'=>e=.returned (.int .i64 (Ep s c))∧w=w':=
 (Tryz.strings_IndexByte s c.toNat w).mono fun _ _ ⟨he,hw⟩=>⟨by rw[he];simp[Ep,bl],hw.symm⟩
theorem tW (s:BA)(w:World)(hs:s.size≤9223372036854775807):
  Calls Tryz.prog 67 #[.string s] w fun e w'=>e=.returned (.bool (kZ (bl s)))∧w=w':=by
 by_cases h0:s.size=0
 ·have he:s.toList=[]:=by rw[ai,bj s h0]
  go_enter Tryz.func67,Tryz.ntmps67
  go_wp2
  go_ret
  exact⟨am (Ct s h0).symm,rfl⟩
 ·have h1:0<s.size:=by omega
  have he:s.toList.isEmpty=false:=by rw[ai,aL];simpa using h0
  have he':¬ s.toList=[]:=by intro h;rw[h] at he;simp at he
  go_enter Tryz.func67,Tryz.ntmps67
  go_wp2
  all_goals go_ret
  all_goals (refine⟨am ?_,rfl⟩;rw[ni s h1,bI];simp[gU,be,aD];omega)
theorem kw (s:BA)(k:Nat)(h:k<s.size)(w:World)(hs:s.size≤9223372036854775807):
  Calls Tryz.prog 67 #[.string (s.extract k s.size)] w fun e w'=>e=.returned (.bool (gU s[k]))∧w=w':=
 (tW (s.extract k s.size) w (by simp[ByteArray.size_extract];omega)).mono fun _ _ ⟨he,hw⟩=>⟨by rw[he,Cu s k h],hw⟩
theorem Am (s o:BA)(w:World)(hs:s.size≤9223372036854775807):
  Calls Tryz.prog 45 #[.string s,.string o] w fun e w'=>e=.returned (.bool (il (bl o) (bl s)))∧w=w':=by
 go_enter Tryz.func45,Tryz.ntmps45
 go_wp2
 go_loop [8] (fun i=>∃ k:Nat,k≤s.size∧i=.int .i64 k∧Hid (((bl s).take k).all (fun c=>gU c||(bl o).contains c)=true)) (fun i=>s.size-(intOf i).toNat)
 case atStart=>exact⟨0,z0,rfl,by simp[Hid]⟩
 case round=>
  obtain⟨k,hk,rfl,hw⟩:=hrel
  by_cases hlt:k<s.size
  ·cases hl:gU s[k]
   ·cases hc:(bl o).contains s[k]
    ·have hn:=ju o s[k] hc
     have HC:=ae hc;clear hc
     go_wp2_with (first | (go_at_call 67;refine(kw s k hlt _ hs).mono ?_;rintro e w' ⟨rfl,rfl⟩) | (go_at_call 68;refine(bt o s[k] _).mono ?_;rintro e w' ⟨rfl,rfl⟩))
     go_ret
     exact⟨am (Al _ s k hlt hl HC.out).symm,rfl⟩
    ·have hn:=jY o s[k] hc
     have HC:=ae hc;clear hc
     go_wp2_with (first | (go_at_call 67;refine(kw s k hlt _ hs).mono ?_;rintro e w' ⟨rfl,rfl⟩) | (go_at_call 68;refine(bt o s[k] _).mono ?_;rintro e w' ⟨rfl,rfl⟩))
     go_round
     case rel=>exact⟨k+1,by omega,by go_num,pQ _ s k hlt hw.out (by rw[HC.out];simp)⟩
     case measure=>simp[intOf];omega
   ·go_wp2_with (first | (go_at_call 67;refine(kw s k hlt _ hs).mono ?_;rintro e w' ⟨rfl,rfl⟩))
    go_round
    case rel=>exact⟨k+1,by omega,by go_num,pQ _ s k hlt hw.out (by rw[hl];simp)⟩
    case measure=>simp[intOf];omega
  ·go_wp2_with (go_at_call 67;refine(tW s _ hs).mono ?_;rintro e w' ⟨rfl,rfl⟩)
   go_ret
   exact⟨am (vH _ s k hlt hw.out).symm,rfl⟩
theorem jh (s:BA)(w:World)(hs:s.size≤9223372036854775807):
  Calls Tryz.prog 28 #[.string s] w fun e w'=>e=.returned (.bool (bo (bl s)))∧w=w':=by
 have hb:=af s
 have HB:=ae hb;clear hb
 by_cases h2:2≤s.size
 ·by_cases h3:s.size≤64
  ·go_enter Tryz.func28,Tryz.ntmps28
   go_wp2_with (go_at_call 45;refine(Am s _ _ hs).mono ?_;rintro e w' ⟨rfl,rfl⟩)
   go_ret
   exact⟨am (by unfold bo;rw[HB.out,dT h2,dT h3];simp[bl]),rfl⟩
  ·go_enter Tryz.func28,Tryz.ntmps28
   go_wp2_with fail
   go_ret
   exact⟨am (by unfold bo;rw[HB.out,dF h3];simp),rfl⟩
 ·go_enter Tryz.func28,Tryz.ntmps28
  go_wp2_with fail
  go_ret
  exact⟨am (by unfold bo;rw[HB.out,dF h2];simp),rfl⟩
theorem cO (c:UInt8)(w:World):
  Calls Tryz.prog 151 #[.int .u8 c.toNat] w fun e w'=>e=.returned (.bool (aD c))∧w=w':=by
 go_enter Tryz.func151,Tryz.ntmps151
 go_wp2
 all_goals (go_ret;refine⟨am ?_,rfl⟩;rw[bI];simp[aD];omega)
theorem lC (c:UInt8)(w:World):
  Calls Tryz.prog 155 #[.int .u8 c.toNat] w fun e w'=>e=.returned (.bool (be c))∧w=w':=by
 go_enter Tryz.func155,Tryz.ntmps155
 go_wp2
 all_goals (go_ret;refine⟨am ?_,rfl⟩;rw[bI];simp[be];omega)
theorem eu (c:UInt8)(w:World):
  Calls Tryz.prog 192 #[.int .u8 c.toNat] w fun e w'=>e=.returned (.bool (cD c))∧w=w':=by
 cases h:be c
 all_goals
  go_enter Tryz.func192,Tryz.ntmps192
  go_wp2_with (go_at_call 155;refine(lC _ _).mono ?_;rintro e w' ⟨rfl,rfl⟩)
 all_goals (go_ret;refine⟨am ?_,rfl⟩;rw[bI];simp[cD,zw,h];try omega)
def au (p:UInt8→Bool)(l:LU):Nat:=(l.takeWhile p).length
theorem lD {p:UInt8→Bool}:∀ (l:LU),l.all p=true→l.takeWhile p=l
 | [],_=>rfl
 | c::r,h=>by
  simp only[List.all_cons,Bool.and_eq_true] at h
  rw[List.takeWhile_cons_of_pos h.1,lD r h.2]
theorem oo (p:UInt8→Bool)(s:BA)(k:Nat)(h:k<s.size)(h0:((bl s).take k).all p=true)(h1:p s[k]=false):au p (bl s)=k:=by
 have hl:k<(bl s).length:=by rw[af];exact h
 have e:bl s=(bl s).take k++(bl s)[k]::(bl s).drop (k+1):=by rw[←List.drop_eq_getElem_cons hl,List.take_append_drop]
 unfold au
 rw[e,List.takeWhile_append_of_pos (by simpa using h0),gL s k h,List.takeWhile_cons_of_neg (by simp[h1])]
 simp;omega
theorem qP (p:UInt8→Bool)(s:BA)(k:Nat)(h:¬ k<s.size)(h0:((bl s).take k).all p=true):au p (bl s)=s.size:=by
 rw[eP s k (by omega)] at h0
 unfold au
 rw[lD _ h0,af]
theorem la (f:FuncId)(p:UInt8→Bool)(s:BA)(w:World)(hs:s.size≤9223372036854775807)
  (hcall:∀ (args:Array Value)(w:World),(callFunc f args).run Tryz.prog w=.ok (.enter f args) w)
  (hf:Hid (∀ c:UInt8,Calls Tryz.prog f #[.int .u8 c.toNat] w fun e w'=>e=.returned (.bool (p c))∧w=w')):
  Calls Tryz.prog 154 #[.string s,.func (.func f) #[] #[]] w fun e w'=>e=.returned (.int .i64 (au p (bl s)))∧w=w':=by
 go_enter Tryz.func154,Tryz.ntmps154
 go_wp2
 go_loop [5] (fun i=>∃ k:Nat,k≤s.size∧i=.int .i64 k∧Hid (((bl s).take k).all p=true)) (fun i=>s.size-(intOf i).toNat)
 case atStart=>exact⟨0,z0,rfl,by simp[Hid]⟩
 case round=>
  obtain⟨k,hk,rfl,hw⟩:=hrel
  by_cases hlt:k<s.size
  ·cases hl:p s[k]
   ·have HL:=ae hl;clear hl
    go_wp2_with fail
    refine(hf.out s[k]).mono ?_;rintro e w' ⟨rfl,rfl⟩
    rw[HL.out]
    go_wp2_with fail
    go_ret
    exact⟨az (by rw[oo p s k hlt hw.out HL.out]),rfl⟩
   ·have HL:=ae hl;clear hl
    go_wp2_with fail
    refine(hf.out s[k]).mono ?_;rintro e w' ⟨rfl,rfl⟩
    rw[HL.out]
    go_wp2_with fail
    go_round
    case rel=>exact⟨k+1,by omega,by go_num,by show _=_;rw[di s k hlt,hw.out,HL.out];rfl⟩
    case measure=>simp[intOf];omega
  ·go_wp2_with fail
   go_ret
   exact⟨az (by rw[qP p s k hlt hw.out];congr;omega),rfl⟩
theorem Cv (f:FuncId)(x:Value)(p:UInt8→Bool)(s:BA)(w:World)(hs:s.size≤9223372036854775807)
  (hcall:∀ (args:Array Value)(w:World),(callFunc f args).run Tryz.prog w=.ok (.enter f args) w)
  (hf:Hid (∀ c:UInt8,Calls Tryz.prog f #[.int .u8 c.toNat,x] w fun e w'=>e=.returned (.bool (p c))∧w=w')):
  Calls Tryz.prog 154 #[.string s,.func (.func f) #[] #[x]] w fun e w'=>e=.returned (.int .i64 (au p (bl s)))∧w=w':=by
 go_enter Tryz.func154,Tryz.ntmps154
 go_wp2
 go_loop [5] (fun i=>∃ k:Nat,k≤s.size∧i=.int .i64 k∧Hid (((bl s).take k).all p=true)) (fun i=>s.size-(intOf i).toNat)
 case atStart=>exact⟨0,z0,rfl,by simp[Hid]⟩
 case round=>
  obtain⟨k,hk,rfl,hw⟩:=hrel
  by_cases hlt:k<s.size
  ·cases hl:p s[k]
   ·have HL:=ae hl;clear hl
    go_wp2_with fail
    refine(hf.out s[k]).mono ?_;rintro e w' ⟨rfl,rfl⟩
    rw[HL.out]
    go_wp2_with fail
    go_ret
    exact⟨az (by rw[oo p s k hlt hw.out HL.out]),rfl⟩
   ·have HL:=ae hl;clear hl
    go_wp2_with fail
    refine(hf.out s[k]).mono ?_;rintro e w' ⟨rfl,rfl⟩
    rw[HL.out]
    go_wp2_with fail
    go_round
    case rel=>exact⟨k+1,by omega,by go_num,by show _=_;rw[di s k hlt,hw.out,HL.out];rfl⟩
    case measure=>simp[intOf];omega
  ·go_wp2_with fail
   go_ret
   exact⟨az (by rw[qP p s k hlt hw.out];congr;omega),rfl⟩
theorem kh (s:BA)(w:World)(hs:s.size≤9223372036854775807):
  Calls Tryz.prog 154 #[.string s,.func (.func 151) #[] #[]] w fun e w'=>e=.returned (.int .i64 (au aD (bl s)))∧w=w':=
 la _ aD s w hs Tryz.call151 (ae fun c=>cO c w)
theorem Le (s:BA)(w:World)(hs:s.size≤9223372036854775807):
  Calls Tryz.prog 154 #[.string s,.func (.func 155) #[] #[]] w fun e w'=>e=.returned (.int .i64 (au be (bl s)))∧w=w':=
 la _ be s w hs Tryz.call155 (ae fun c=>lC c w)
end
def kx (others:LU)(c:UInt8):Bool:=cD c||aD c||others.contains c
def aI (others l:LU):Bool:=!l.isEmpty&&l.all (kx others)
def gV (l:LU):Bool:=!l.isEmpty&&l.all aD
def ig:LU→Bool
 | []=>false
 | c::_=>aD c
def bU (c:UInt8):LU→Option Nat
 | []=>none
 | x::r=>match bU c r with
  | some i=>some (i+1)
  | none=>if x=c then some 0 else none
theorem ky (c:UInt8):∀ (l:LU)(i:Nat),l[i]?=some c→(∀ j:Nat,i<j→l[j]?≠some c)→bU c l=some i
 | [],i,h,_=>by simp at h
 | x::r,0,h,hn=>by
  have hr:bU c r=none:=by
   have key:∀ (r:LU),(∀ j:Nat,r[j]?≠some c)→bU c r=none:=by
    intro r
    induction r with
    | nil=>intro _;rfl
    | cons y t ih=>
     intro h
     have:=ih (fun j=>by simpa using h (j+1))
     have h0:=h 0
     simp at h0
     simp[bU,this,h0]
   exact key r (fun j=>by simpa using hn (j+1) (by omega))
  simp at h
  simp[bU,hr,h]
 | x::r,i+1,h,hn=>by
  have:=ky c r i (by simpa using h) (fun j hj=>by simpa using hn (j+1) (by omega))
  simp[bU,this]
theorem mw (c:UInt8):∀ (r:LU),(∀ j:Nat,r[j]?≠some c)→bU c r=none
 | [],_=>rfl
 | y::t,h=>by
  have:=mw c t (fun j=>by simpa using h (j+1))
  have h0:=h 0
  simp at h0
  simp[bU,this,h0]
theorem qQ (c:UInt8):∀ (l:LU)(i:Nat),bU c l=some i→i<l.length
 | [],_,h=>by simp[bU] at h
 | x::r,i,h=>by
  unfold bU at h
  split at h
  ·rename_i k hk
   have:=qQ c r k hk
   simp at h;simp;omega
  ·split at h
   ·simp at h;simp;omega
   ·simp at h
def cE (l:LU):Option (LU×LU):=
 if (Lib.cut l [58]).2.2=true then (if gV (Lib.cut l [58]).1=true∧(Lib.cut l [58]).1.length≤9 then some ((Lib.cut l [58]).1,(Lib.cut l [58]).2.1) else none) else some ([],l)
def gW (p:LU):Option (LU×LU):=
 match bU 45 p with
 | none=>if (aI [46,43,126,45] p&&ig p)=true then some (p,[]) else none
 | some i=>if aI [46,43,126] (p.drop (i+1))=true∧(aI [46,43,126,45] (p.take i)&&ig (p.take i))=true then some (p.take i,p.drop (i+1)) else none
def fg (l:LU):Option (LU×LU×LU):=
 match cE l with
 | none=>none
 | some (ep,p)=>(gW p).map fun r=>(ep,r.1,r.2)
def io (s sep:BA):BA:=⟨(Lib.cut (bl s) (bl sep)).1.toArray⟩
def kz (s sep:BA):BA:=⟨(Lib.cut (bl s) (bl sep)).2.1.toArray⟩
def zx (s sep:BA):Bool:=(Lib.cut (bl s) (bl sep)).2.2
theorem fc (s sep:BA):bl (io s sep)=(Lib.cut (bl s) (bl sep)).1:=gI _
theorem gy (s sep:BA):bl (kz s sep)=(Lib.cut (bl s) (bl sep)).2.1:=gI _
theorem Cw (l sep:LU):(Lib.cut l sep).1.length≤l.length∧(Lib.cut l sep).2.1.length≤l.length:=by
 unfold Lib.cut;split<;>simp;omega
theorem qR (s sep:BA):(io s sep).size≤s.size:=by
 rw[←af,←af,fc];exact(Cw _ _).1
theorem vl (s sep:BA):(kz s sep).size≤s.size:=by
 rw[←af,←af,gy];exact(Cw _ _).2
theorem bV (s:BA)(k:Nat):bl (s.extract 0 k)=(bl s).take k:=by rw[kv];simp
theorem ei (s:BA)(h:0<s.size):ig (bl s)=aD s[0]:=by rw[dZ s h];rfl
theorem ki (o:LU)(s:BA)(h:aI o (bl s)=true):0<s.size:=by
 rw[←af];unfold aI at h
 cases hb:bl s with
 | nil=>rw[hb] at h;simp at h
 | cons c r=>simp
section
open Go.RowKit
theorem cJ (p:UInt8→Bool)(l:LU):au p l≤l.length:=by
 unfold au;exact(List.takeWhile_sublist p).length_le
theorem Cx (p:UInt8→Bool)(l:LU):decide (au p l=l.length)=l.all p:=by
 rw[bI]
 constructor
 ·intro h
  have h:=dO h
  have:=(List.takeWhile_sublist p (l:=l)).eq_of_length h
  rw[←this];simp
 ·intro h
  unfold au;rw[lD _ h];simp
theorem Es (p:UInt8→Bool)(s:BA):(((au p (bl s):Nat):Int)==(s.size:Int))=(bl s).all p:=by
 rw[←Cx,af,bI];simp;omega
theorem nj (s:BA)(j:Nat)(c:UInt8)(h:j<s.size):((s.data[j]!).toNat:Int)=c.toNat↔(bl s)[j]?=some c:=by
 rw[ie s j h]
 have e:s.data[j]! = s[j]:=getElem!_pos s.data j h
 rw[e]
 constructor
 ·intro hh;congr 1;apply UInt8.toNat_inj.1;omega
 ·intro hh;injection hh with hh;rw[hh]
theorem vm (s:BA)(j:Nat)(h:¬ j<s.size):(bl s)[j]?=none:=by
 apply List.getElem?_eq_none;rw[af];omega
theorem Et (s:BA)(c:UInt8)(h:bU c (bl s)=none):Lib.lastIndexByte s c.toNat=-1:=by
 rcases Lib.lastIndexByte_spec s c.toNat with⟨e,_⟩ | ⟨i,hi,e,hc,hn⟩
 ·exact e
 ·have:=ky c (bl s) i ((nj s i c hi).1 hc) (fun j hj hh=>by
   by_cases hjs:j<s.size
   ·exact hn j hj hjs ((nj s j c hjs).2 hh)
   ·rw[vm s j hjs] at hh;cases hh)
  rw[this] at h;cases h
theorem Eu (s:BA)(c:UInt8)(i:Nat)(h:bU c (bl s)=some i):Lib.lastIndexByte s c.toNat=i:=by
 rcases Lib.lastIndexByte_spec s c.toNat with⟨e,hn⟩ | ⟨k,hk,e,hc,hn⟩
 ·have:=mw c (bl s) (fun j hh=>by
   by_cases hjs:j<s.size
   ·exact hn j hjs ((nj s j c hjs).2 hh)
   ·rw[vm s j hjs] at hh;cases hh)
  rw[this] at h;cases h
 ·have:=ky c (bl s) k ((nj s k c hk).1 hc) (fun j hj hh=>by
   by_cases hjs:j<s.size
   ·exact hn j hj hjs ((nj s j c hjs).2 hh)
   ·rw[vm s j hjs] at hh;cases hh)
  rw[this] at h;injection h with h;rw[e,h]
theorem zy (c:UInt8)(a:Addr)(o:BA)(w:World)(ha:w.cell? a=some (.string o)):
  Calls Tryz.prog 191 #[.int .u8 c.toNat,.pointer (some a)] w fun e w'=>e=.returned (.bool (cD c||aD c||(bl o).contains c))∧w=w':=by
 cases h1:cD c
 ·cases h2:aD c
  ·cases h3:(bl o).contains c
   ·have hn:=ju o c h3
    have H3:=ae h3;clear h3
    go_enter Tryz.func191,Tryz.ntmps191
    go_wp2_with (first | (go_at_call 192;refine(eu _ _).mono ?_;rintro e w' ⟨rfl,rfl⟩) | (go_at_call 151;refine(cO _ _).mono ?_;rintro e w' ⟨rfl,rfl⟩) | (go_at_call 68;refine(bt _ _ _).mono ?_;rintro e w' ⟨rfl,rfl⟩))
    go_ret
    exact⟨am dF,rfl⟩
   ·have hn:=jY o c h3
    have H3:=ae h3;clear h3
    go_enter Tryz.func191,Tryz.ntmps191
    go_wp2_with (first | (go_at_call 192;refine(eu _ _).mono ?_;rintro e w' ⟨rfl,rfl⟩) | (go_at_call 151;refine(cO _ _).mono ?_;rintro e w' ⟨rfl,rfl⟩) | (go_at_call 68;refine(bt _ _ _).mono ?_;rintro e w' ⟨rfl,rfl⟩))
    go_ret
    exact⟨am rfl,rfl⟩
  ·go_enter Tryz.func191,Tryz.ntmps191
   go_wp2_with (first | (go_at_call 192;refine(eu _ _).mono ?_;rintro e w' ⟨rfl,rfl⟩) | (go_at_call 151;refine(cO _ _).mono ?_;rintro e w' ⟨rfl,rfl⟩))
   go_ret
   exact⟨rfl,rfl⟩
 ·go_enter Tryz.func191,Tryz.ntmps191
  go_wp2_with (first | (go_at_call 192;refine(eu _ _).mono ?_;rintro e w' ⟨rfl,rfl⟩))
  go_ret
  exact⟨rfl,rfl⟩
theorem Lf (s o:BA)(a:Addr)(w:World)(ha:w.cell? a=some (.string o))(hs:s.size≤9223372036854775807):
  Calls Tryz.prog 154 #[.string s,.func (.func 191) #[] #[.pointer (some a)]] w fun e w'=>e=.returned (.int .i64 (au (kx (bl o)) (bl s)))∧w=w':=
 Cv _ _ _ s w hs Tryz.call191 (ae fun c=>zy c a o w ha)
theorem Cy (s o:BA)(w:World)(hs:s.size≤9223372036854775807):
  Calls Tryz.prog 150 #[.string s,.string o] w fun e w'=>e=.returned (.bool (aI (bl o) (bl s)))∧Below w.heap.size w w':=by
 by_cases h0:s.size=0
 ·have he:s.toList=[]:=by rw[ai,bj s h0]
  go_enter Tryz.func150,Tryz.ntmps150
  go_wp2_with fail
  go_ret
  exact⟨am (by rw[bj s h0];rfl),bR.alloc lr _⟩
 ·have he:s.toList.isEmpty=false:=by rw[ai,aL];simpa using h0
  have he':¬ s.toList=[]:=by intro h;rw[h] at he;simp at he
  go_enter Tryz.func150,Tryz.ntmps150
  go_wp2_with (go_at_call 154;refine(Lf _ _ _ _ (by simp;rfl) hs).mono ?_;rintro e w' ⟨rfl,rfl⟩)
  go_ret
  refine⟨am ?_,bR.alloc lr _⟩
  rw[Es];unfold aI;rw[aL,dF h0];rfl
theorem vI (s:BA)(w:World)(hs:s.size≤9223372036854775807):
  Calls Tryz.prog 148 #[.string s] w fun e w'=>e=.returned (.bool (gV (bl s)))∧w=w':=by
 by_cases h0:s.size=0
 ·have he:s.toList=[]:=by rw[ai,bj s h0]
  go_enter Tryz.func148,Tryz.ntmps148
  go_wp2_with fail
  go_ret
  exact⟨am (by rw[bj s h0];rfl),rfl⟩
 ·have he:s.toList.isEmpty=false:=by rw[ai,aL];simpa using h0
  have he':¬ s.toList=[]:=by intro h;rw[h] at he;simp at he
  go_enter Tryz.func148,Tryz.ntmps148
  go_wp2_with (go_at_call 154;refine(kh _ _ hs).mono ?_;rintro e w' ⟨rfl,rfl⟩)
  go_ret
  refine⟨am ?_,rfl⟩
  rw[Es];unfold gV;rw[aL,dF h0];rfl
theorem fB (s:BA)(c:UInt8)(w:World)(hs:s.size≤9223372036)(h:Hid (bU c (bl s)=none)):
  Calls Tryz.prog 149 #[.string s,.int .u8 c.toNat] w fun e w'=>e=.returned (.int .i64 (-1))∧w=w':=
 (Tryz.strings_LastIndexByte s c.toNat (by omega) w).mono fun _ _ ⟨he,hw⟩=>⟨by rw[he,Et s c h.out],hw.symm⟩
theorem dz (s:BA)(c:UInt8)(i:Nat)(w:World)(hs:s.size≤9223372036)(h:Hid (bU c (bl s)=some i)):
  Calls Tryz.prog 149 #[.string s,.int .u8 c.toNat] w fun e w'=>e=.returned (.int .i64 i)∧w=w':=
 (Tryz.strings_LastIndexByte s c.toNat (by omega) w).mono fun _ _ ⟨he,hw⟩=>⟨by rw[he,Eu s c i h.out],hw.symm⟩
theorem cm (s sep:BA)(w:World)(hG:Gl w)(hs:s.size≤4294967280):
  Calls Tryz.prog 72 #[.string s,.string sep] w fun e w'=>e=.returned (.tuple #[.string (io s sep),.string (kz s sep),.bool (zx s sep)])∧Below w.heap.size w w':=by
 obtain⟨m,hm⟩:=hG.ml
 exact(Tryz.strings_Cut s sep m w (by omega) hm).mono fun _ _ ⟨he,n,hw⟩=>⟨he,by rw[hw];exact bJ bR n⟩
theorem aH {T E:TypeId}{sz:Nat}(hT:Tryz.prog.underlying T=some (.slice (Tryz.prog.elem T)))(hE:Tryz.prog.elem T=E)(hs:∀ w,(sizeOf E).run Tryz.prog w=.ok sz w)
  {A:Option Addr}{n c k b off:Nat}(hA:A=some ⟨b,off,none⟩)(hk:k<n)(w:World):(Instr.indexAt T (.slice A n c) (.int .i64 k)).run Tryz.prog w=.ok (.pointer (some ⟨b,off+k*sz,none⟩)) w:=by
 rw[hA,run_indexAt_slice _ _ _ _ _ _ _ hT,if_pos (by omega),hE,hs]
 simp[Addr.add]
def cF (l:LU):Int:=l.foldl (fun n c=>10*n+((c.toNat:Int)-48)) 0
theorem tX (l:LU)(c:UInt8):cF (l++[c])=10*cF l+((c.toNat:Int)-48):=by simp[cF,List.foldl_append]
theorem tY (s:BA)(k:Nat)(h:k<s.size):cF ((bl s).take (k+1))=10*cF ((bl s).take k)+((s[k].toNat:Int)-48):=by
 rw[tS (by rw[af];exact h),tX,gL s k h]
theorem pR:∀ (l:LU)(n:Int),0≤n→l.all aD=true→n≤l.foldl (fun n c=>10*n+((c.toNat:Int)-48)) n
 | [],n,_,_=>Int.le_refl _
 | c::r,n,h,ha=>by
  rw[List.all_cons,Bool.and_eq_true] at ha
  have hc:48≤c.toNat:=(dO ha.1).1
  have:=pR r (10*n+((c.toNat:Int)-48)) (by omega) ha.2
  rw[List.foldl_cons];omega
theorem sK (l:LU)(k:Nat)(h:l.all aD=true):0≤cF (l.take k)∧cF (l.take k)≤cF l:=by
 have h1:(l.take k).all aD=true:=by rw[List.all_eq_true] at h ⊢;exact fun x hx=>h x (List.mem_of_mem_take hx)
 have h2:(l.drop k).all aD=true:=by rw[List.all_eq_true] at h ⊢;exact fun x hx=>h x (List.mem_of_mem_drop hx)
 have h3:0≤cF (l.take k):=pR _ 0 (Int.le_refl _) h1
 refine⟨h3,?_⟩
 have h4:=pR (l.drop k) _ h3 h2
 have h5:cF l=(l.drop k).foldl (fun n c=>10*n+((c.toNat:Int)-48)) (cF (l.take k)):=by
  unfold cF;rw[←List.foldl_append,List.take_append_drop]
 omega
def lK (l:LU):Bool:=!l.isEmpty && !(decide (1<l.length)&&decide (l.head?=some 48))&&l.all aD
def lL:Int:=4611686018427387903
def dq (l:LU):Int:=if lK l then (if cF l≤lL then cF l else 0) else 0
def ge (l:LU):Int:=if lK l then (if cF l≤lL then 0 else 4) else 3
theorem Ev {s:BA}(h:s.size=0):lK (bl s)=false:=by rw[bj s h];rfl
theorem tZ {s:BA}(h:1<s.size)(h0:s[0]=48):lK (bl s)=false:=by
 unfold lK
 have:(bl s).head?=some 48:=by rw[dZ s (by omega),h0];rfl
 rw[this,af];simp[h]
theorem Ew {s:BA}(h:0<s.size)(h0:¬ (1<s.size∧s[0]=48)):lK (bl s)=(bl s).all aD:=by
 unfold lK
 have h1:(bl s).head?=some s[0]:=by rw[dZ s h];rfl
 have h2:(bl s).isEmpty=false:=by rw[aL];exact dF (by omega)
 rw[h1,h2,af]
 have:(decide (1<s.size)&&decide (some s[0]=some (48:UInt8)))=false:=by
  rw[Bool.and_eq_false_iff]
  by_cases h3:1<s.size
  ·right;simp;exact fun h4=>h0 ⟨h3,h4⟩
  ·left;simp;omega
 rw[this];simp
theorem kj {l:LU}(h:lK l=false):dq l=0∧ge l=3:=by simp[dq,ge,h]
theorem Ex {l:LU}(h:lK l=true)(hv:cF l≤lL):dq l=cF l∧ge l=0:=by simp[dq,ge,h,hv]
theorem Lg {l:LU}(h:lK l=true)(hv:¬ cF l≤lL):dq l=0∧ge l=4:=by simp[dq,ge,h,hv]
def mx (l:LU):Value:=.tuple #[.int .i64 (dq l),.int .i64 (ge l)]
theorem Ey (s:BA)(w:World)(hs:s.size≤9223372036854775807):
  Calls Tryz.prog 70 #[.string s] w fun e w'=>e=.returned (mx (bl s))∧w=w':=by
 by_cases h0:s.size=0
 ·have he:s.toList=[]:=by rw[ai,bj s h0]
  have E:=ae (kj (Ev h0))
  go_enter Tryz.func70,Tryz.ntmps70
  go_wp2_with fail
  go_ret2
  exact⟨by unfold mx;rw[E.out.1,E.out.2];rfl,rfl⟩
 have hpos:0<s.size:=by omega
 have he:s.toList.isEmpty=false:=by rw[ai,aL];exact dF (by omega)
 have he1:¬ s.toList=[]:=by intro h;rw[h] at he;simp at he
 by_cases h1:1<s.size∧s[0]=48
 ·obtain⟨h1,h2⟩:=h1
  have E:=ae (kj (tZ h1 h2))
  have hc:((s[0].toNat:Int)==48)=true:=by rw[h2];rfl
  clear h2
  go_enter Tryz.func70,Tryz.ntmps70
  go_wp2_with fail
  go_ret2
  exact⟨by unfold mx;rw[E.out.1,E.out.2];rfl,rfl⟩
 have EA:=ae (Ew hpos h1)
 have walk:∀ (hc:decide (1<(s.size:Int))=false∨(decide (1<(s.size:Int))=true∧((s[0].toNat:Int)==48)=false)),Calls Tryz.prog 70 #[.string s] w fun e w'=>e=.returned (mx (bl s))∧w=w':=by
  intro hc
  rcases hc with hc | ⟨hc1,hc⟩
  all_goals
   go_enter Tryz.func70,Tryz.ntmps70
   go_wp2_with fail
   clear he he1 hc
   go_loop [4,5,22] (fun n lg i=>∃ (k:Nat) (m:Int) (b:Bool),k≤s.size∧i=.int .i64 k∧n=.int .i64 m∧lg=.bool b∧0≤m∧m≤4611686018427387903∧Hid (((bl s).take k).all aD=true)∧Hid (b=false→m=cF ((bl s).take k))∧Hid (b=true→lL<cF ((bl s).take k))) (fun _ _ i=>s.size-(intOf i).toNat)
   case atStart=>exact⟨0,0,false,z0,rfl,rfl,rfl,by omega,by omega,by simp[Hid],ae (fun _=>by simp[cF]),ae (fun h=>by cases h)⟩
   case round=>
    obtain⟨k,m,b,hk,rfl,rfl,rfl,m0,m1,HA,HV,HL⟩:=hrel
    by_cases hlt:k<s.size
    ·by_cases hd:48≤s[k].toNat∧s[k].toNat≤57
     ·obtain⟨d0,d1⟩:=hd
      have HD:Hid (aD s[k]=true):=dT ⟨d0,d1⟩
      have HN:=ae (tY s k hlt)
      have HA2:Hid (((bl s).take (k+1)).all aD=true):=by show _=_;rw[di s k hlt,HA.out,HD.out];rfl
      cases b
      ·by_cases hb:m > (4611686018427387903-((s[k].toNat:Int)-48)) / 10
       ·go_wp2_with fail
        go_round
        case rel=>exact⟨k+1,m,true,by omega,by go_num,rfl,rfl,m0,m1,HA2,ae (fun h=>by cases h),ae (fun _=>by rw[HN.out,←HV.out rfl];unfold lL;omega)⟩
        case measure=>simp[intOf];omega
       ·go_wp2_with fail
        go_round
        case rel=>exact⟨k+1,_,false,by omega,by go_num,rfl,rfl,by omega,by omega,HA2,ae (fun _=>by rw[HN.out,←HV.out rfl]),ae (fun h=>by cases h)⟩
        case measure=>simp[intOf];omega
      ·go_wp2_with fail
       go_round
       case rel=>exact⟨k+1,m,true,by omega,by go_num,rfl,rfl,m0,m1,HA2,ae (fun h=>by cases h),ae (fun _=>by rw[HN.out];have:=HL.out rfl;unfold lL at *;omega)⟩
       case measure=>simp[intOf];omega
     ·have E:=ae (kj (show lK (bl s)=false by rw[EA.out];exact jX s k hlt (dF hd)))
      by_cases mv:s[k].toNat<48
      ·go_wp2_with fail
       go_ret2
       exact⟨by unfold mx;rw[E.out.1,E.out.2];rfl,rfl⟩
      ·have hd2:57<s[k].toNat:=by omega
       go_wp2_with fail
       go_ret2
       exact⟨by unfold mx;rw[E.out.1,E.out.2];rfl,rfl⟩
    ·have hall:lK (bl s)=true:=by rw[EA.out];have:=HA.out;rw[eP s k (by omega)] at this;exact this
     have hval:(bl s).take k=bl s:=eP s k (by omega)
     cases b
     ·have hv:=HV.out rfl
      rw[hval] at hv
      have E:=ae (Ex hall (by rw[←hv];unfold lL;omega))
      have HVV:=ae hv
      clear hall hval hv
      go_wp2_with fail
      go_ret2
      exact⟨by unfold mx;rw[E.out.1,E.out.2,←HVV.out];rfl,rfl⟩
     ·have hv:=HL.out rfl
      rw[hval] at hv
      have E:=ae (Lg hall (by omega))
      clear hall hval hv
      go_wp2_with fail
      go_ret2
      exact⟨by unfold mx;rw[E.out.1,E.out.2];rfl,rfl⟩
 by_cases h2:1<s.size
 ·exact walk (.inr ⟨dT,by simp only[bF,ne_eq];intro h;apply h1;refine⟨h2,UInt8.toNat_inj.1 ?_⟩;show _=48;omega⟩)
 ·exact walk (.inl dF)
end
def aC (n:Nat):LU:=if n<10 then [UInt8.ofNat (48+n)] else aC (n / 10)++[UInt8.ofNat (48+n % 10)]
termination_by n
decreasing_by omega
theorem cK {n:Nat}(h:n<10):aC n=[UInt8.ofNat (48+n)]:=by rw[aC,if_pos h]
theorem gX {n:Nat}(h:¬ n<10):aC n=aC (n / 10)++[UInt8.ofNat (48+n % 10)]:=by rw[aC,if_neg h]
theorem jZ {d:Nat}(h:d<10):(UInt8.ofNat (48+d)).toNat=48+d:=by simp;omega
theorem JZ {d:Nat}(h:d<10):aD (UInt8.ofNat (48+d))=true:=by unfold aD;rw[jZ h];exact dT (by omega)
theorem cG (n:Nat):(aC n).all aD=true:=by
 induction n using Nat.strongRecOn with
 | ind n ih=>
  by_cases h:n<10
  ·rw[cK h];simp only[List.all_cons,List.all_nil,Bool.and_true];exact JZ h
  ·rw[gX h,List.all_append,ih (n / 10) (by omega)]
   simp only[List.all_cons,List.all_nil,Bool.and_true,Bool.true_and];exact JZ (by omega)
theorem iI (n:Nat):aC n≠[]:=by
 by_cases h:n<10
 ·rw[cK h];simp
 ·rw[gX h];simp
theorem vL (n:Nat):cF (aC n)=n:=by
 induction n using Nat.strongRecOn with
 | ind n ih=>
  by_cases h:n<10
  ·rw[cK h];unfold cF;simp only[List.foldl_cons,List.foldl_nil];rw[jZ h];omega
  ·rw[gX h,tX,ih (n / 10) (by omega),jZ (by omega)];omega
theorem gY (n:Nat):0<(aC n).length:=List.length_pos_iff.2 (iI n)
theorem sL:∀ n:Nat,10≤n→(aC n).head?≠some 48:=by
 intro n
 induction n using Nat.strongRecOn with
 | ind n ih=>
  intro h
  rw[gX (by omega)]
  by_cases h2:n / 10<10
  ·rw[cK h2]
   simp only[List.cons_append,List.head?_cons,ne_eq,Option.some.injEq]
   intro e
   have:=congrArg UInt8.toNat e
   rw[jZ h2] at this
   have h3:(48:UInt8).toNat=48:=rfl
   omega
  ·have:=ih (n / 10) (by omega) (by omega)
   cases e:aC (n / 10) with
   | nil=>exact absurd e (iI _)
   | cons a r=>rw[e] at this;exact this
theorem Ap (n:Nat):lK (aC n)=true:=by
 unfold lK
 rw[cG]
 have h1:(aC n).isEmpty=false:=by cases h:aC n with | nil=>exact absurd h (iI n) | cons a r=>rfl
 rw[h1]
 have h2:(decide (1<(aC n).length)&&decide ((aC n).head?=some 48))=false:=by
  by_cases h:n<10
  ·rw[cK h];simp
  ·rw[dF (sL n (by omega))];simp
 rw[h2];rfl
theorem Hw {n:Nat}(h:(n:Int)≤lL):dq (aC n)=n∧ge (aC n)=0:=by
 have:=Ex (Ap n) (by rw[vL];exact h)
 rw[vL] at this;exact this
theorem oq (n:Nat):gV (aC n)=true:=by
 unfold gV;rw[cG]
 cases h:aC n with | nil=>exact absurd h (iI n) | cons a r=>rfl
theorem Q8 {l:LU}(h:l.all aD=true){c:UInt8}(hc:aD c=false):c ∉ l:=by
 intro hm
 rw[List.all_eq_true] at h
 rw[h c hm] at hc;cases hc
theorem er {l r:LU}(h:l.all aD=true)(hr:∀ c,r.head?=some c→aD c=false):au aD (l++r)=l.length:=by
 unfold au
 induction l with
 | nil=>
  cases r with
  | nil=>rfl
  | cons a t=>rw[List.nil_append,List.takeWhile_cons_of_neg (by rw[hr a rfl];simp)]
 | cons a t ih=>
  rw[List.all_cons,Bool.and_eq_true] at h
  rw[List.cons_append,List.takeWhile_cons_of_pos h.1,List.length_cons,ih h.2,List.length_cons]
def cX (c:UInt8):LU→List (LU)
 | []=>[[]]
 | a::r=>if a=c then []::cX c r else ((a::(cX c r).headD [])::(cX c r).tail)
theorem Aq (c:UInt8):∀ l,cX c l≠[]
 | []=>by simp[cX]
 | a::r=>by unfold cX;split<;>simp
theorem sM (c:UInt8):∀ (l:LU),c ∉ l→cX c l=[l]
 | [],_=>rfl
 | a::r,h=>by
  have hc:a≠c:=fun e=>h (by rw[e];simp)
  rw[cX,if_neg hc,sM c r (fun hm=>h (List.mem_cons_of_mem _ hm))];rfl
theorem pS (c:UInt8):∀ (l r:LU),c ∉ l→cX c (l++c::r)=l::cX c r
 | [],r,_=>by rw[List.nil_append,cX,if_pos rfl]
 | a::t,r,h=>by
  have hc:a≠c:=fun e=>h (by rw[e];simp)
  rw[List.cons_append,cX,if_neg hc,pS c t r (fun hm=>h (List.mem_cons_of_mem _ hm))];rfl
def bE (c:UInt8):List (LU)→LU
 | []=>[]
 | [a]=>a
 | a::b::r=>a++c::bE c (b::r)
theorem qW (c:UInt8):∀ (L:List (LU)),L≠[]→(∀ l∈L,c ∉ l)→cX c (bE c L)=L
 | [],h,_=>absurd rfl h
 | [a],_,h=>sM c a (h a (by simp))
 | a::b::r,_,h=>by
  rw[bE,pS c a _ (h a (by simp)),qW c (b::r) (by simp) (fun l hl=>h l (List.mem_cons_of_mem _ hl))]
theorem my (c:UInt8):∀ (L:List (LU))(a:LU),bE c (L++[a])=(if L=[] then [] else bE c L++[c])++a
 | [],a=>rfl
 | [b],a=>by simp[bE]
 | b::d::r,a=>by
  have:=my c (d::r) a
  simp only[List.cons_append] at this ⊢
  rw[bE,this]
  simp[bE]
theorem sN (c:UInt8):∀ (L:List (LU))(x:UInt8),x∈bE c L→x=c∨∃ l∈L,x∈l
 | [],x,h=>by simp[bE] at h
 | [a],x,h=>.inr ⟨a,by simp,h⟩
 | a::b::r,x,h=>by
  rw[bE,List.mem_append,List.mem_cons] at h
  rcases h with h | h | h
  ·exact .inr ⟨a,by simp,h⟩
  ·exact .inl h
  ·rcases sN c (b::r) x h with h | ⟨l,hl,hx⟩
   ·exact .inl h
   ·exact .inr ⟨l,List.mem_cons_of_mem _ hl,hx⟩
section
open Go.RowKit
structure zz (p:Prop):Prop where
 out:¬ p
theorem dB (a b:UInt8):(((a.toNat:Nat):Int)==((b.toNat:Nat):Int))=(a==b):=by
 rw[bI];simp[←UInt8.toNat_inj];omega
theorem rJ (c:UInt8):∀ (l:LU),c∈l→∃ k:Nat,Lib.indexByte l c=k∧c ∉ l.take k∧l[k]?=some c
 | [],h=>by simp at h
 | b::r,h=>by
  by_cases hb:b=c
  ·subst hb;exact⟨0,by simp[Lib.indexByte],by simp,by simp⟩
  ·have hr:c∈r:=by rcases List.mem_cons.1 h with h | h;exact absurd h.symm hb;exact h
   obtain⟨k,h1,h2,h3⟩:=rJ c r hr
   refine⟨k+1,?_,?_,by simpa using h3⟩
   ·have:(b==c)=false:=by simp[hb]
    simp only[Lib.indexByte,this,h1]
    rw[if_neg (by simp),if_neg (by simp;try omega)];rfl
   ·rw[List.take_succ_cons];intro hm;rcases List.mem_cons.1 hm with hm | hm;exact hb hm.symm;exact h2 hm
theorem pC (c:UInt8):∀ (n:Nat)(l:LU),l.count c=n→Lib.splitK [c] 0 n l=cX c l
 | 0,l,h=>by
  rw[sM c l (List.count_eq_zero.1 h)];rfl
 | n+1,l,h=>by
  have hm:c∈l:=List.count_pos_iff.1 (by omega)
  unfold Lib.splitK
  rw[Lib.index_one]
  obtain⟨k,hk,hn,hg⟩:=rJ c l hm
  have hkl:k<l.length:=(gS hg).1
  have hd:l=l.take k++c::l.drop (k+1):=by
   have hc:l[k]=c:=(gS hg).2
   conv=>lhs;rw[←List.take_append_drop k l,List.drop_eq_getElem_cons hkl,hc]
  have hgs:cX c l=l.take k::cX c (l.drop (k+1)):=by
   conv=>lhs;rw[hd]
   exact pS c _ _ hn
  rw[hk,if_neg (by simp;try omega),hgs]
  have e:((k:Int)).toNat=k:=by omega
  rw[e]
  congr 1
  simp only[List.length_singleton]
  refine pC c n (l.drop (k+1)) ?_
  rw[hd,List.count_append,List.count_eq_zero.2 hn,List.count_cons_self] at h
  simp at h ⊢
  omega
def fe (c:UInt8)(s:BA):List BA:=(cX c (bl s)).map fun p=>(⟨p.toArray⟩:BA)
theorem pD (c:UInt8)(s:BA):Lib.splitB ⟨#[c]⟩ 0 (Lib.countB s ⟨#[c]⟩) s=fe c s:=by
 have h:=Lib.splitB_data ⟨#[c]⟩ 0 (Lib.countB s ⟨#[c]⟩) s
 have h2:Lib.countB s ⟨#[c]⟩=(bl s).count c:=by
  show Lib.count _ _=_
  exact Lib.count_one c (bl s)
 have h3:(Lib.splitB ⟨#[c]⟩ 0 (Lib.countB s ⟨#[c]⟩) s).map bl=cX c (bl s):=by
  refine Eq.trans h ?_
  rw[h2];exact pC c _ (bl s) rfl
 unfold fe
 rw[←h3,EC]
theorem OY (c:UInt8)(s:BA)(w:World)(hG:Gl w)(hs:s.size≤4294967280):
  Calls Tryz.prog 75 #[.string s,.string ⟨#[c]⟩] w fun e w'=>e=.returned (.slice (some ⟨w.heap.size,0,none⟩) (fe c s).length (fe c s).length)∧Rd w' 1 (some ⟨w.heap.size,0,none⟩) (fe c s).length (strCells (fe c s))∧Below w.heap.size w w':=by
 obtain⟨m,hm⟩:=hG.ml
 refine(Tryz.strings_Split s ⟨#[c]⟩ m w (by omega) hm (by simp[ByteArray.size])).mono fun e w' ⟨he,hw⟩=>?_
 have hl:(fe c s).length=Lib.countB s ⟨#[c]⟩+1:=by
  rw[←pD];exact Lib.splitB_all ⟨#[c]⟩ (by simp[ByteArray.size]) 0 _ s rfl
 rw[pD] at hw
 rw[hl,hw]
 refine⟨he,⟨by simp[strCells,hl],fun _=>⟨_,0,rfl,fun j u hu=>?_⟩⟩,bR.alloc lr _⟩
 simpa [strCells] using hu
theorem xg (c:UInt8):∀ (l:LU),(cX c l).length≤l.length+1
 | []=>by simp[cX]
 | a::r=>by
  have:=xg c r
  unfold cX
  split
  ·simp;omega
  ·simp;omega
theorem mF (c:UInt8):∀ (l p:LU),p∈cX c l→p.length≤l.length
 | [],p,h=>by simp[cX] at h;simp[h]
 | a::r,p,h=>by
  unfold cX at h
  split at h
  ·rcases List.mem_cons.1 h with rfl | h
   ·simp
   ·have:=mF c r p h;simp;omega
  ·cases hr:cX c r with
   | nil=>exact absurd hr (Aq c r)
   | cons q qs=>
    rw[hr] at h
    simp only[List.headD_cons,List.tail_cons] at h
    rcases List.mem_cons.1 h with rfl | h
    ·have:=mF c r q (by rw[hr];simp);simp;omega
    ·have:=mF c r p (by rw[hr];exact List.mem_cons_of_mem _ h);simp;omega
theorem qr (l:LU):dq l=((dq l).toNat:Int)∧(dq l).toNat≤4611686018427387903:=by
 unfold dq lL
 split
 ·rename_i h
  have h2:=(sK l l.length (by unfold lK at h;simp only[Bool.and_eq_true] at h;exact h.2)).1
  rw[tL lr] at h2
  split
  ·constructor<;>omega
  ·simp
 ·simp
def du (l:LU):Nat:=(dq l).toNat
theorem oz (s:BA)(w:World)(hs:s.size≤9223372036854775807):
  Calls Tryz.prog 70 #[.string s] w fun e w'=>e=.returned (.tuple #[.int .i64 (du (bl s)),.int .i64 (ge (bl s))])∧w=w':=
 (Ey s w hs).mono fun e w' ⟨he,hw⟩=>⟨by rw[he];unfold mx du;rw[←(qr (bl s)).1],hw⟩
theorem oA (l:LU):du l≤4611686018427387903:=(qr l).2
end
end Go.Proofs.YtkjdbpjglobbjaaGreatDoor
