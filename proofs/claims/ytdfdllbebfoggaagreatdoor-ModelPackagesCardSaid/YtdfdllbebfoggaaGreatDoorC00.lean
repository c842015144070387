/- A part of the proof that ModelPackages holds. No condition. -/
import Derived.Test.YtdfdllbebfoggaaGreatDoorProg
import Derived.Below
import Derived.BigQuiet
import Derived.BigRegion
import Derived.ChangeAlike
import Derived.Deep.AppendLies
import Derived.Deep.CutBlock
import Derived.Deep.DeepCutAuto
import Derived.Deep.Draws
import Derived.Deep.LoopGhost
import Derived.Deep.QuietTactic
import Derived.Deep.RegionLaw
import Derived.Ground.SlgmProg
import Derived.IntWalk
import Derived.Laws.OwnMore
import Derived.Lib.Hide
import Derived.Lib.IndexMore
import Derived.Lib.LastIndexByte
import Derived.Maps.AppendAt
import Derived.Maps.Own
import Derived.Maps.OwnOps
import Derived.Maps.OwnSet
import Derived.OwnWalk
import Derived.ProofKit
import Derived.RegionTactic
import Derived.Shelf.LaysM
import Derived.Shelf.Slices.Equal
import Derived.Shelf.Slices.Turned
import Derived.Shelf.Small.Strs
import Derived.Shelf.Small.Utf8
import Derived.Shelf.Small.Wraps
import Derived.Shelf.Sort.Plain
import Derived.Shelf.SortM.SortNone
import Derived.Shelf.Strings.AsciiSet
import Derived.Shelf.Strings.Builder1
import Derived.Shelf.Strings.Builder2
import Derived.Shelf.Strings.Count
import Derived.Shelf.Strings.Cut
import Derived.Shelf.Strings.IndexAny
import Derived.Shelf.Strings.IndexAnyAll
import Derived.Shelf.Strings.LastIndex
import Derived.Shelf.Strings.OnBuilder
import Derived.Shelf.Strings.Prefix
import Derived.Shelf.Strings.Runes
import Derived.Shelf.Strings.Search1
import Derived.Shelf.Strings.Search2
import Derived.Shelf.Strings.Search3
import Derived.Shelf.Strings.Shaped
import Derived.Shelf.Strings.Split
import Derived.Shelf.Strings.SplitShaped
import Derived.Shelf.Strings.Trim
import Derived.Shelf.Unicode.DecodeSlow
import Derived.Sort.KeysCollected
import Derived.StillTailTactics
import Derived.StringKeys
import Derived.WalkKit
import Derived.WalkLawsBesides
import Derived.WalkSpells
set_option maxRecDepth 100000
set_option maxHeartbeats 20000000
set_option linter.unusedVariables false
set_option linter.unusedSimpArgs false
namespace Go.Proofs.YtdfdllbebfoggaaGreatDoor
theorem dF{p:Prop}[Decidable p](h:¬p:=by omega):decide p=false:=decide_eq_false h
theorem dT{p:Prop}[Decidable p](h:p:=by omega):decide p=true:=decide_eq_true h
theorem lr{a:Nat}:a≤a:=Nat.le_refl a
theorem hid{p:Prop}(h:p):RowKit.Hid p:=h
theorem all_take_snoc {p:UInt8→Bool}(l:List UInt8)(k:Nat)(h:k<l.length):(l.take (k+1)).all p=((l.take k).all p&&p (l[k])):=by
 rw[List.take_succ_eq_append_getElem h,List.all_append];simp only[List.all_cons,List.all_nil,Bool.and_true]
theorem all_false_at {p:UInt8→Bool}(l:List UInt8)(k:Nat)(h:k<l.length)(hp:p (l[k])=false):l.all p=false:=by
 rw[List.all_eq_false];exact⟨l[k],List.getElem_mem h,by simp[hp]⟩
def bl (s:ByteArray):List UInt8:=s.data.toList
theorem bl_length (s:ByteArray):(bl s).length=s.size:=by simp[bl]
theorem bl_get (s:ByteArray)(k:Nat)(h:k<s.size):(bl s)[k]'(by rw[bl_length];exact h)=s[k]:=by simp[bl];rfl
theorem bl_get? (s:ByteArray)(k:Nat)(h:k<s.size):(bl s)[k]?=some s[k]:=by
 rw[List.getElem?_eq_getElem (by rw[bl_length];exact h),bl_get s k h]
theorem bl_extract (s:ByteArray)(a b:Nat):bl (s.extract a b)=((bl s).drop a).take (b-a):=by
 simp[bl,ByteArray.data_extract]
theorem bl_inj {s t:ByteArray}(h:bl s=bl t):s=t:=by
 cases s;cases t;simp only[bl] at h;congr;exact Array.toList_inj.1 h
theorem bl_append (s t:ByteArray):bl (s++t)=bl s++bl t:=by simp[bl]
theorem bl_mk (l:List UInt8):bl ⟨l.toArray⟩=l:=by simp[bl]
theorem bl_take_all {p:UInt8→Bool}(s:ByteArray)(k:Nat)(h:k<s.size):((bl s).take (k+1)).all p=(((bl s).take k).all p&&p (s[k])):=by
 rw[all_take_snoc _ _ (by rw[bl_length];exact h),bl_get s k h]
theorem bl_all_false {p:UInt8→Bool}(s:ByteArray)(k:Nat)(h:k<s.size)(hp:p (s[k])=false):(bl s).all p=false:=
 all_false_at _ k (by rw[bl_length];exact h) (by rw[bl_get s k h];exact hp)
theorem bl_take_size (s:ByteArray):(bl s).take s.size=bl s:=by rw[←bl_length,List.take_length]
theorem bl_take_ge (s:ByteArray)(k:Nat)(h:s.size≤k):(bl s).take k=bl s:=List.take_of_length_le (by rw[bl_length];exact h)
section
open Go.RowKit
theorem bl_toList (s:ByteArray):s.toList=bl s:=ByteArray.toList_eq s
theorem bl_isEmpty (s:ByteArray):(bl s).isEmpty=decide (s.size=0):=by
 rw[Bool.eq_iff_iff,List.isEmpty_iff,←List.length_eq_zero_iff,bl_length];simp
theorem pos_not_zero (n:Nat):decide (0<n)=(!decide (n=0)&&true):=by
 cases n<;>simp
theorem ret_bool {a b:Bool}(h:a=b):Ending.returned (.bool a)=.returned (.bool b):=by rw[h]
theorem ret_int {k:IntKind}{a b:Int}(h:a=b):Ending.returned (.int k a)=.returned (.int k b):=by rw[h]
def fmtB (n:Int):Bool:=decide (n=1∨n=2∨n=3)
theorem model_isFormat (n:Int)(w:World):
  Calls Tryz.prog 29 #[.int .i64 n] w fun e w'=>e=.returned (.bool (fmtB n))∧w=w':=by
 go_enter Tryz.func29,Tryz.ntmps29
 go_wp2
 all_goals (go_ret;refine⟨ret_bool ?_,rfl⟩;rw[Bool.eq_iff_iff];simp_all [fmtB];try omega)
def wthB (least:Nat)(l:List UInt8):Bool:=l.all fun c=>least≤c.toNat&&c.toNat≤126
def plainB (l:List UInt8):Bool:=!l.isEmpty&&wthB 33 l
theorem wthB_next (least:Nat)(s:ByteArray)(k:Nat)(h:k<s.size)(h0:wthB least ((bl s).take k)=true)(h1:least≤s[k].toNat)(h2:¬ s[k].toNat<least∧(s[k].toNat:Int)≤126):wthB least ((bl s).take (k+1))=true:=by
 unfold wthB at *;rw[bl_take_all s k h,h0];simp;omega
theorem wthB_bad (least:Nat)(s:ByteArray)(k:Nat)(h:k<s.size)(h1:s[k].toNat<least∨126<(s[k].toNat:Int)):wthB least (bl s)=false:=by
 unfold wthB;apply bl_all_false s k h;simp;omega
theorem model_within (s:ByteArray)(least:Nat)(w:World)(hs:s.size≤9223372036854775807):
  Calls Tryz.prog 41 #[.string s,.int .u8 least] w fun e w'=>e=.returned (.bool (wthB least (bl s)))∧w=w':=by
 go_enter Tryz.func41,Tryz.ntmps41
 go_wp2
 go_loop [8] (fun i=>∃ k:Nat,k≤s.size∧i=.int .i64 k∧Hid (wthB least ((bl s).take k)=true)) (fun i=>s.size-(intOf i).toNat)
 case atStart=>exact⟨0,Nat.zero_le _,rfl,by simp[wthB,Hid]⟩
 case round=>
  obtain⟨k,hk,rfl,hw⟩:=hrel
  by_cases hlt:k<s.size
  ·by_cases h1:least≤s[k].toNat
   ·by_cases h2:(s[k].toNat:Int)≤126
    ·go_wp2
     go_round
     case rel=>exact⟨k+1,by omega,by go_num,wthB_next least s k hlt hw.out h1 ⟨by omega,h2⟩⟩
     case measure=>simp[intOf];omega
    ·go_wp2
     go_ret
     exact⟨ret_bool (by rw[wthB_bad least s k hlt (by omega)]),rfl⟩
   ·go_wp2
    go_ret
    exact⟨ret_bool (by rw[wthB_bad least s k hlt (by omega)]),rfl⟩
  ·go_wp2
   go_ret
   exact⟨ret_bool (by have:=hw.out;rw[bl_take_ge s k (by omega)] at this;rw[this]),rfl⟩
theorem model_Plain (s:ByteArray)(w:World)(hs:s.size≤9223372036854775807):
  Calls Tryz.prog 16 #[.string s] w fun e w'=>e=.returned (.bool (plainB (bl s)))∧w=w':=by
 go_enter Tryz.func16,Tryz.ntmps16
 go_wp2_with (go_at_call 41;refine(model_within _ 33 _ hs).mono ?_;rintro e w' ⟨rfl,rfl⟩)
 all_goals (go_ret;refine⟨ret_bool ?_,rfl⟩;simp_all [plainB,bl_toList])
theorem ref_Plain (s:ByteArray)(w:World)(hs:s.size≤9223372036854775807):
  Calls Tryz.prog 17 #[.string s] w fun e w'=>e=.returned (.bool (plainB (bl s)))∧w=w':=by
 go_enter Tryz.func17,Tryz.ntmps17
 go_wp2
 go_loop [3] (fun i=>∃ k:Nat,k≤s.size∧i=.int .i64 k∧Hid (wthB 33 ((bl s).take k)=true)) (fun i=>s.size-(intOf i).toNat)
 case atStart=>exact⟨0,Nat.zero_le _,rfl,by simp[wthB,Hid]⟩
 case round=>
  obtain⟨k,hk,rfl,hw⟩:=hrel
  by_cases hlt:k<s.size
  ·by_cases h1:33≤s[k].toNat
   ·by_cases h2:(s[k].toNat:Int)≤126
    ·go_wp2
     go_round
     case rel=>exact⟨k+1,by omega,by go_num,wthB_next 33 s k hlt hw.out h1 ⟨by omega,h2⟩⟩
     case measure=>simp[intOf];omega
    ·go_wp2
     go_ret
     exact⟨ret_bool (by unfold plainB;rw[wthB_bad 33 s k hlt (by omega)];simp),rfl⟩
   ·go_wp2
    go_ret
    exact⟨ret_bool (by unfold plainB;rw[wthB_bad 33 s k hlt (by omega)];simp),rfl⟩
  ·go_wp2
   go_ret
   have:=hw.out
   rw[bl_take_ge s k (by omega)] at this
   refine⟨ret_bool ?_,rfl⟩
   unfold plainB
   rw[this,bl_isEmpty]
   exact pos_not_zero s.size
end
def digB (c:UInt8):Bool:=decide (48≤c.toNat∧c.toNat≤57)
def smlB (c:UInt8):Bool:=decide (97≤c.toNat∧c.toNat≤122)
def capB (c:UInt8):Bool:=decide (65≤c.toNat∧c.toNat≤90)
def letB (c:UInt8):Bool:=smlB c||capB c
def lowB (c:UInt8):Bool:=smlB c||digB c
def startsB:List UInt8→Bool
 | []=>false
 | c::_=>lowB c
def dmadeB (others l:List UInt8):Bool:=(l.all fun c=>lowB c||others.contains c)&&startsB l
def dnameB (l:List UInt8):Bool:=decide (2≤l.length)&&decide (l.length≤64)&&dmadeB [43,46,45] l
def dwordB (l:List UInt8):Bool:=decide (l.length≤32)&&dmadeB [45] l
theorem bl_cons (s:ByteArray)(h:0<s.size):bl s=s[0]::(bl s).tail:=by
 have h2:0<(bl s).length:=by rw[bl_length];exact h
 rw[←bl_get s 0 h,←List.drop_one,←List.drop_eq_getElem_cons h2,List.drop_zero]
theorem bl_nil (s:ByteArray)(h:s.size=0):bl s=[]:=by
 apply List.eq_nil_of_length_eq_zero;rw[bl_length];exact h
theorem startsB_pos (s:ByteArray)(h:0<s.size):startsB (bl s)=lowB s[0]:=by rw[bl_cons s h];rfl
theorem startsB_zero (s:ByteArray)(h:s.size=0):startsB (bl s)=false:=by rw[bl_nil s h];rfl
theorem bl_drop (s:ByteArray)(k:Nat):bl (s.extract k s.size)=(bl s).drop k:=by
 rw[bl_extract];apply List.take_of_length_le;rw[List.length_drop,bl_length];omega
theorem startsB_drop (s:ByteArray)(k:Nat)(h:k<s.size):startsB (bl (s.extract k s.size))=lowB s[k]:=by
 rw[bl_drop,List.drop_eq_getElem_cons (by rw[bl_length];exact h),bl_get s k h];rfl
theorem dmade_next (o:List UInt8)(s:ByteArray)(k:Nat)(h:k<s.size)(h0:((bl s).take k).all (fun c=>lowB c||o.contains c)=true)(h1:(lowB s[k]||o.contains s[k])=true):
  ((bl s).take (k+1)).all (fun c=>lowB c||o.contains c)=true:=by rw[bl_take_all s k h,h0,h1];rfl
theorem dmade_bad (o:List UInt8)(s:ByteArray)(k:Nat)(h:k<s.size)(h1:lowB s[k]=false)(h2:o.contains s[k]=false):dmadeB o (bl s)=false:=by
 unfold dmadeB;rw[bl_all_false s k h (by rw[h1,h2];rfl)];rfl
theorem dmade_good (o:List UInt8)(s:ByteArray)(k:Nat)(h:¬ k<s.size)(h0:((bl s).take k).all (fun c=>lowB c||o.contains c)=true):dmadeB o (bl s)=startsB (bl s):=by
 unfold dmadeB;rw[bl_take_ge s k (by omega)] at h0;rw[h0];rfl
theorem contains_take_next (s:ByteArray)(c:UInt8)(k:Nat)(h:k<s.size)(h0:((bl s).take k).contains c=false)(h1:(s[k]==c)=false):((bl s).take (k+1)).contains c=false:=by
 rw[List.take_succ_eq_append_getElem (by rw[bl_length];exact h),bl_get s k h]
 rw[Bool.eq_false_iff] at *;simp at *;exact⟨h0,fun h=>h1 h.symm⟩
theorem contains_at (s:ByteArray)(c:UInt8)(k:Nat)(h:k<s.size)(h1:s[k]=c):(bl s).contains c=true:=by
 simp;rw[←h1,←bl_get s k h];exact List.getElem_mem _
def vchB (others:List UInt8)(c:UInt8):Bool:=letB c||digB c||others.contains c
def vmadeB (others l:List UInt8):Bool:=!l.isEmpty&&l.all (vchB others)
def numB (l:List UInt8):Bool:=!l.isEmpty&&l.all digB
def headDig:List UInt8→Bool
 | []=>false
 | c::_=>digB c
def lastL (c:UInt8):List UInt8→Option Nat
 | []=>none
 | x::r=>match lastL c r with
  | some i=>some (i+1)
  | none=>if x=c then some 0 else none
theorem lastL_some (c:UInt8):∀ (l:List UInt8)(i:Nat),l[i]?=some c→(∀ j:Nat,i<j→l[j]?≠some c)→lastL c l=some i
 | [],i,h,_=>by simp at h
 | x::r,0,h,hn=>by
  have hr:lastL c r=none:=by
   have key:∀ (r:List UInt8),(∀ j:Nat,r[j]?≠some c)→lastL c r=none:=by
    intro r
    induction r with
    | nil=>intro _;rfl
    | cons y t ih=>
     intro h
     have:=ih (fun j=>by simpa using h (j+1))
     have h0:=h 0
     simp at h0
     simp[lastL,this,h0]
   exact key r (fun j=>by simpa using hn (j+1) (by omega))
  simp at h
  simp[lastL,hr,h]
 | x::r,i+1,h,hn=>by
  have:=lastL_some c r i (by simpa using h) (fun j hj=>by simpa using hn (j+1) (by omega))
  simp[lastL,this]
theorem lastL_none (c:UInt8):∀ (r:List UInt8),(∀ j:Nat,r[j]?≠some c)→lastL c r=none
 | [],_=>rfl
 | y::t,h=>by
  have:=lastL_none c t (fun j=>by simpa using h (j+1))
  have h0:=h 0
  simp at h0
  simp[lastL,this,h0]
theorem lastL_lt (c:UInt8):∀ (l:List UInt8)(i:Nat),lastL c l=some i→i<l.length
 | [],_,h=>by simp[lastL] at h
 | x::r,i,h=>by
  unfold lastL at h
  split at h
  ·rename_i k hk
   have:=lastL_lt c r k hk
   simp at h;simp;omega
  ·split at h
   ·simp at h;simp;omega
   ·simp at h
def epochOf (l:List UInt8):Option (List UInt8×List UInt8):=
 if (Lib.cut l [58]).2.2=true then (if numB (Lib.cut l [58]).1=true∧(Lib.cut l [58]).1.length≤9 then some ((Lib.cut l [58]).1,(Lib.cut l [58]).2.1) else none) else some ([],l)
def restD (p:List UInt8):Option (List UInt8×List UInt8):=
 match lastL 45 p with
 | none=>if (vmadeB [46,43,126,45] p&&headDig p)=true then some (p,[]) else none
 | some i=>if vmadeB [46,43,126] (p.drop (i+1))=true∧(vmadeB [46,43,126,45] (p.take i)&&headDig (p.take i))=true then some (p.take i,p.drop (i+1)) else none
def splitD (l:List UInt8):Option (List UInt8×List UInt8×List UInt8):=
 match epochOf l with
 | none=>none
 | some (ep,p)=>(restD p).map fun r=>(ep,r.1,r.2)
def cutA (s sep:ByteArray):ByteArray:=⟨(Lib.cut (bl s) (bl sep)).1.toArray⟩
def cutB (s sep:ByteArray):ByteArray:=⟨(Lib.cut (bl s) (bl sep)).2.1.toArray⟩
def cutK (s sep:ByteArray):Bool:=(Lib.cut (bl s) (bl sep)).2.2
theorem bl_cutA (s sep:ByteArray):bl (cutA s sep)=(Lib.cut (bl s) (bl sep)).1:=bl_mk _
theorem bl_cutB (s sep:ByteArray):bl (cutB s sep)=(Lib.cut (bl s) (bl sep)).2.1:=bl_mk _
theorem cut_le (l sep:List UInt8):(Lib.cut l sep).1.length≤l.length∧(Lib.cut l sep).2.1.length≤l.length:=by
 unfold Lib.cut;split<;>simp;omega
theorem cutA_le (s sep:ByteArray):(cutA s sep).size≤s.size:=by
 rw[←bl_length,←bl_length,bl_cutA];exact(cut_le _ _).1
theorem cutB_le (s sep:ByteArray):(cutB s sep).size≤s.size:=by
 rw[←bl_length,←bl_length,bl_cutB];exact(cut_le _ _).2
theorem bl_take (s:ByteArray)(k:Nat):bl (s.extract 0 k)=(bl s).take k:=by rw[bl_extract];simp
theorem headDig_pos (s:ByteArray)(h:0<s.size):headDig (bl s)=digB s[0]:=by rw[bl_cons s h];rfl
theorem vmade_pos (o:List UInt8)(s:ByteArray)(h:vmadeB o (bl s)=true):0<s.size:=by
 rw[←bl_length];unfold vmadeB at h
 cases hb:bl s with
 | nil=>rw[hb] at h;simp at h
 | cons c r=>simp
section
open Go.RowKit
theorem info_str:(Tryz.prog.info? 9).map (fun i=>(i.zero,i.size,i.bytes))=some (some (.string ⟨#[]⟩),1,16):=by kernel_rfl
end
theorem lt_irr (a:List UInt8):¬ a<a:=List.lt_irrefl a
theorem lt_tr {a b c:List UInt8}(h:a<b)(k:b<c):a<c:=List.lt_trans h k
theorem lt_of_not {a b:List UInt8}(h:¬ a<b)(hne:a≠b):b<a:=by
 have h1:b≤a:=h
 by_cases hb:b<a
 ·exact hb
 ·exact absurd (List.le_antisymm (show a≤b from hb) h1) hne
section
open Go.RowKit
theorem bytesLess_dec:∀ (x y:List UInt8),Op.bytesLess x y=decide (x<y)
 | [],[]=>by simp[Op.bytesLess]
 | _::_,[]=>by simp[Op.bytesLess]
 | [],_::_=>by simp[Op.bytesLess]
 | a::x,b::y=>by
  rw[Op.bytesLess,bytesLess_dec x y,Bool.eq_iff_iff]
  simp[List.cons_lt_cons_iff]
end
end Go.Proofs.YtdfdllbebfoggaaGreatDoor
