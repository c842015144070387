/- A part of the proof that ModelChecks holds. No condition. -/
import Derived.Test.YtdfdllbebfoggaaGreatDoorD01
set_option maxRecDepth 100000
set_option maxHeartbeats 20000000
set_option linter.unusedVariables false
set_option linter.unusedSimpArgs false
namespace Go.Proofs.YtdfdllbebfoggaaGreatDoor
def digB (c:UInt8):Bool:=decide (48≤c.toNat∧c.toNat≤57)
def smlB (c:UInt8):Bool:=decide (97≤c.toNat∧c.toNat≤122)
def capB (c:UInt8):Bool:=decide (65≤c.toNat∧c.toNat≤90)
def letB (c:UInt8):Bool:=smlB c||capB c
def lowB (c:UInt8):Bool:=smlB c||digB c
def startsB:LU→Bool
 | []=>false
 | c::_=>lowB c
def dmadeB (others l:LU):Bool:=(l.all fun c=>lowB c||others.contains c)&&startsB l
def dnameB (l:LU):Bool:=decide (2≤l.length)&&decide (l.length≤64)&&dmadeB [43,46,45] l
def dwordB (l:LU):Bool:=decide (l.length≤32)&&dmadeB [45] l
theorem bl_cons (s:BA)(h:0<s.size):bl s=s[0]::(bl s).tail:=by
 have h2:0<(bl s).length:=by rw[bl_length];exact h
 rw[←bl_get s 0 h,←List.drop_one,←List.drop_eq_getElem_cons h2,List.drop_zero]
theorem bl_nil (s:BA)(h:s.size=0):bl s=[]:=by
 apply List.eq_nil_of_length_eq_zero;rw[bl_length];exact h
theorem startsB_pos (s:BA)(h:0<s.size):startsB (bl s)=lowB s[0]:=by rw[bl_cons s h];rfl
theorem startsB_zero (s:BA)(h:s.size=0):startsB (bl s)=false:=by rw[bl_nil s h];rfl
theorem bl_drop (s:BA)(k:Nat):bl (s.extract k s.size)=(bl s).drop k:=by
 rw[bl_extract];apply tL;rw[List.length_drop,bl_length];omega
theorem startsB_drop (s:BA)(k:Nat)(h:k<s.size):startsB (bl (s.extract k s.size))=lowB s[k]:=by
 rw[bl_drop,List.drop_eq_getElem_cons (by rw[bl_length];exact h),bl_get s k h];rfl
theorem dmade_next (o:LU)(s:BA)(k:Nat)(h:k<s.size)(h0:((bl s).take k).all (fun c=>lowB c||o.contains c)=true)(h1:(lowB s[k]||o.contains s[k])=true):
  ((bl s).take (k+1)).all (fun c=>lowB c||o.contains c)=true:=by rw[bl_take_all s k h,h0,h1];rfl
theorem dmade_bad (o:LU)(s:BA)(k:Nat)(h:k<s.size)(h1:lowB s[k]=false)(h2:o.contains s[k]=false):dmadeB o (bl s)=false:=by
 unfold dmadeB;rw[bl_all_false s k h (by rw[h1,h2];rfl)];rfl
theorem dmade_good (o:LU)(s:BA)(k:Nat)(h:¬ k<s.size)(h0:((bl s).take k).all (fun c=>lowB c||o.contains c)=true):dmadeB o (bl s)=startsB (bl s):=by
 unfold dmadeB;rw[bl_take_ge s k (by omega)] at h0;rw[h0];rfl
theorem contains_take_next (s:BA)(c:UInt8)(k:Nat)(h:k<s.size)(h0:((bl s).take k).contains c=false)(h1:(s[k]==c)=false):((bl s).take (k+1)).contains c=false:=by
 rw[tS (by rw[bl_length];exact h),bl_get s k h]
 rw[Bool.eq_false_iff] at *;simp at *;exact⟨h0,fun h=>h1 h.symm⟩
theorem contains_at (s:BA)(c:UInt8)(k:Nat)(h:k<s.size)(h1:s[k]=c):(bl s).contains c=true:=by
 simp;rw[←h1,←bl_get s k h];exact List.getElem_mem _
def vchB (others:LU)(c:UInt8):Bool:=letB c||digB c||others.contains c
def vmadeB (others l:LU):Bool:=!l.isEmpty&&l.all (vchB others)
def numB (l:LU):Bool:=!l.isEmpty&&l.all digB
def headDig:LU→Bool
 | []=>false
 | c::_=>digB c
def lastL (c:UInt8):LU→Option Nat
 | []=>none
 | x::r=>match lastL c r with
  | some i=>some (i+1)
  | none=>if x=c then some 0 else none
theorem lastL_some (c:UInt8):∀ (l:LU)(i:Nat),l[i]?=some c→(∀ j:Nat,i<j→l[j]?≠some c)→lastL c l=some i
 | [],i,h,_=>by simp at h
 | x::r,0,h,hn=>by
  have hr:lastL c r=none:=by
   have key:∀ (r:LU),(∀ j:Nat,r[j]?≠some c)→lastL c r=none:=by
    intro r
    induction r with
    | nil=>intro _;rfl
    | cons y t ih=>
     intro h
     have:=ih (fun j=>by simpa using h (j+1))
     have h0:=h 0
     simp at h0
     simp[lastL,this,h0]
   exact key r (fun j=>by simpa using hn (j+1) (by omega))
  simp at h
  simp[lastL,hr,h]
 | x::r,i+1,h,hn=>by
  have:=lastL_some c r i (by simpa using h) (fun j hj=>by simpa using hn (j+1) (by omega))
  simp[lastL,this]
theorem lastL_none (c:UInt8):∀ (r:LU),(∀ j:Nat,r[j]?≠some c)→lastL c r=none
 | [],_=>rfl
 | y::t,h=>by
  have:=lastL_none c t (fun j=>by simpa using h (j+1))
  have h0:=h 0
  simp at h0
  simp[lastL,this,h0]
theorem lastL_lt (c:UInt8):∀ (l:LU)(i:Nat),lastL c l=some i→i<l.length
 | [],_,h=>by simp[lastL] at h
 | x::r,i,h=>by
  unfold lastL at h
  split at h
  ·rename_i k hk
   have:=lastL_lt c r k hk
   simp at h;simp;omega
  ·split at h
   ·simp at h;simp;omega
   ·simp at h
def epochOf (l:LU):Option (LU×LU):=
 if (Lib.cut l [58]).2.2=true then (if numB (Lib.cut l [58]).1=true∧(Lib.cut l [58]).1.length≤9 then some ((Lib.cut l [58]).1,(Lib.cut l [58]).2.1) else none) else some ([],l)
def restD (p:LU):Option (LU×LU):=
 match lastL 45 p with
 | none=>if (vmadeB [46,43,126,45] p&&headDig p)=true then some (p,[]) else none
 | some i=>if vmadeB [46,43,126] (p.drop (i+1))=true∧(vmadeB [46,43,126,45] (p.take i)&&headDig (p.take i))=true then some (p.take i,p.drop (i+1)) else none
def splitD (l:LU):Option (LU×LU×LU):=
 match epochOf l with
 | none=>none
 | some (ep,p)=>(restD p).map fun r=>(ep,r.1,r.2)
def cutA (s sep:BA):BA:=⟨(Lib.cut (bl s) (bl sep)).1.toArray⟩
def cutB (s sep:BA):BA:=⟨(Lib.cut (bl s) (bl sep)).2.1.toArray⟩
def cutK (s sep:BA):Bool:=(Lib.cut (bl s) (bl sep)).2.2
theorem bl_cutA (s sep:BA):bl (cutA s sep)=(Lib.cut (bl s) (bl sep)).1:=bl_mk _
theorem bl_cutB (s sep:BA):bl (cutB s sep)=(Lib.cut (bl s) (bl sep)).2.1:=bl_mk _
theorem cut_le (l sep:LU):(Lib.cut l sep).1.length≤l.length∧(Lib.cut l sep).2.1.length≤l.length:=by
 unfold Lib.cut;split<;>simp;omega
theorem cutA_le (s sep:BA):(cutA s sep).size≤s.size:=by
 rw[←bl_length,←bl_length,bl_cutA];exact(cut_le _ _).1
theorem cutB_le (s sep:BA):(cutB s sep).size≤s.size:=by
 rw[←bl_length,←bl_length,bl_cutB];exact(cut_le _ _).2
theorem bl_take (s:BA)(k:Nat):bl (s.extract 0 k)=(bl s).take k:=by rw[bl_extract];simp
theorem headDig_pos (s:BA)(h:0<s.size):headDig (bl s)=digB s[0]:=by rw[bl_cons s h];rfl
theorem vmade_pos (o:LU)(s:BA)(h:vmadeB o (bl s)=true):0<s.size:=by
 rw[←bl_length];unfold vmadeB at h
 cases hb:bl s with
 | nil=>rw[hb] at h;simp at h
 | cons c r=>simp
def psplit:LU→List (LU)
 | []=>[[]]
 | c::r=>if c=47 then []::psplit r else ((c::(psplit r).headD [])::(psplit r).tail)
theorem psplit_ne:∀ l,psplit l≠[]
 | []=>by simp[psplit]
 | c::r=>by unfold psplit;split<;>simp
theorem psplit_cons_ne {c:UInt8}(h:c≠47)(r:LU):∃ p ps,psplit r=p::ps∧psplit (c::r)=(c::p)::ps:=by
 cases hr:psplit r with
 | nil=>exact absurd hr (psplit_ne r)
 | cons p ps=>exact⟨p,ps,rfl,by rw[psplit,if_neg h,hr];rfl⟩
theorem psplit_none:∀ (l:LU),(47:UInt8) ∉ l→psplit l=[l]
 | [],_=>rfl
 | c::r,h=>by
  have hc:c≠47:=fun e=>h (by rw[e];simp)
  obtain⟨p,ps,h1,h2⟩:=psplit_cons_ne hc r
  rw[psplit_none r (fun hm=>h (List.mem_cons_of_mem _ hm))] at h1
  injection h1 with h3 h4
  rw[h2,←h3,←h4]
theorem psplit_hit:∀ (k:Nat)(l:LU),(47:UInt8) ∉ l.take k→l[k]?=some 47→psplit l=l.take k::psplit (l.drop (k+1))
 | k,[],_,h=>by simp at h
 | 0,c::r,_,h=>by
  simp at h;subst h
  simp[psplit]
 | k+1,c::r,hn,h=>by
  have hc:c≠47:=fun e=>hn (by rw[e];simp)
  obtain⟨p,ps,h1,h2⟩:=psplit_cons_ne hc r
  rw[psplit_hit k r (fun hm=>hn (by rw[List.take_succ_cons];exact List.mem_cons_of_mem _ hm)) (by simpa using h)] at h1
  injection h1 with h3 h4
  rw[h2,←h3,←h4];simp
theorem splitK_psplit:∀ (n:Nat)(l:LU),l.count 47=n→Lib.splitK [47] 0 n l=psplit l
 | 0,l,h=>by
  rw[psplit_none l (List.count_eq_zero.1 h)];rfl
 | n+1,l,h=>by
  have hm:(47:UInt8)∈l:=List.count_pos_iff.1 (by omega)
  unfold Lib.splitK
  rw[Lib.index_one]
  obtain⟨k,hk,hn,hg⟩:=indexByte_mem 47 l hm
  rw[hk,if_neg (by simp;try omega),psplit_hit k l hn hg]
  have e:((k:Int)).toNat=k:=by omega
  rw[e]
  congr 1
  simp only[List.length_singleton]
  refine splitK_psplit n (l.drop (k+1)) ?_
  have hkl:k<l.length:=(gS hg).1
  have hd:l=l.take k++47::l.drop (k+1):=by
   have h47:l[k]=47:=(gS hg).2
   rw[←h47,←List.drop_eq_getElem_cons hkl,List.take_append_drop]
  rw[hd,List.count_append,List.count_eq_zero.2 hn,List.count_cons_self] at h
  simp at h ⊢
  omega
 where
 indexByte_mem (c:UInt8):∀ (l:LU),c∈l→∃ k:Nat,Lib.indexByte l c=k∧c ∉ l.take k∧l[k]?=some c
  | [],h=>by simp at h
  | b::r,h=>by
   by_cases hb:b=c
   ·subst hb;exact⟨0,by simp[Lib.indexByte],by simp,by simp⟩
   ·have hr:c∈r:=by rcases List.mem_cons.1 h with h | h;exact absurd h.symm hb;exact h
    obtain⟨k,h1,h2,h3⟩:=indexByte_mem c r hr
    refine⟨k+1,?_,?_,by simpa using h3⟩
    ·have:(b==c)=false:=by simp[hb]
     simp only[Lib.indexByte,this,h1]
     rw[if_neg (by simp),if_neg (by simp;try omega)];rfl
    ·rw[List.take_succ_cons];intro hm;rcases List.mem_cons.1 hm with hm | hm;exact hb hm.symm;exact h2 hm
def partB (p:LU):Bool:=!(decide (p=[])||decide (p=[46])||decide (p=[46,46]))
def pathB (l:LU):Bool:=decide (1≤l.length)&&decide (l.length≤200) && !l.contains 0&&(psplit l).all partB
def parentL (l:LU):Option (LU):=if pathB l then (lastL 47 l).map (l.take ·) else none
theorem psplit_last:∀ (l:LU),(lastL 47 l=none→psplit l=[l])∧∀ i,lastL 47 l=some i→2≤(psplit l).length∧(psplit l).getLast?=some (l.drop (i+1))
 | []=>⟨fun _=>rfl,fun i h=>by simp[lastL] at h⟩
 | c::r=>by
  obtain⟨h0,h1⟩:=psplit_last r
  cases hr:lastL 47 r with
  | none=>
   have hp:=h0 hr
   by_cases hc:c=47
   ·subst hc
    have e:lastL 47 (47::r)=some 0:=by simp[lastL,hr]
    rw[e]
    refine⟨fun h=>(by cases h),fun i h=>?_⟩
    injection h with h;subst h
    rw[psplit,if_pos rfl,hp];simp
   ·have e:lastL 47 (c::r)=none:=by simp[lastL,hr,hc]
    rw[e]
    refine⟨fun _=>?_,fun i h=>by cases h⟩
    rw[psplit,if_neg hc,hp];simp
  | some k=>
   obtain⟨h2,h3⟩:=h1 k hr
   have e:lastL 47 (c::r)=some (k+1):=by simp[lastL,hr]
   rw[e]
   refine⟨fun h=>(by cases h),fun i h=>?_⟩
   injection h with h;subst h
   have hd:(c::r).drop (k+1+1)=r.drop (k+1):=rfl
   rw[hd]
   by_cases hc:c=47
   ·rw[psplit,if_pos hc]
    refine⟨by simp;omega,?_⟩
    rw[List.getLast?_cons,h3];rfl
   ·obtain⟨p,ps,h4,h5⟩:=psplit_cons_ne hc r
    rw[h4] at h2 h3
    rw[h5]
    refine⟨by simpa using h2,?_⟩
    cases ps with
    | nil=>simp at h2
    | cons q qs=>rw[List.getLast?_cons_cons] at h3 ⊢;exact h3
end Go.Proofs.YtdfdllbebfoggaaGreatDoor
