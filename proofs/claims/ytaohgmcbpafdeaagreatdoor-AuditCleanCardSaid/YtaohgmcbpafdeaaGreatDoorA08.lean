/- A part of the proof. -/
import Derived.BigQuiet
import Derived.BigRegion
import Derived.ChangeAlike
import Derived.ChangeSame
import Derived.Deep.CutBlock
import Derived.Deep.DeepCutAuto
import Derived.Deep.Fields
import Derived.Deep.LoopGhost
import Derived.Deep.QuietTactic
import Derived.Deep.RegionHeld3
import Derived.Deep.RegionLaw
import Derived.Deep.Slices
import Derived.Ground.SlgfProg
import Derived.Ground.SlgmProg
import Derived.IntWalk
import Derived.LaidEql
import Derived.LaidEqlPtr
import Derived.Laws.Bits64b
import Derived.Laws.CopyOwn
import Derived.Laws.IdiomCopy
import Derived.Laws.IdiomStrings
import Derived.Laws.StructEq
import Derived.Lib.DecodeN
import Derived.Lib.IndexAny
import Derived.Lib.IndexMore
import Derived.Lib.LastIndexByte
import Derived.Lib.OthersKept
import Derived.Lib.SplitLaws
import Derived.MapKept
import Derived.Maps.Own
import Derived.Maps.OwnOps
import Derived.Maps.OwnSet
import Derived.ProofKit
import Derived.RowKitTokens
import Derived.Shelf.LaysM
import Derived.Shelf.SlSortCmp.WholeK
import Derived.Shelf.Slices.Turned
import Derived.Shelf.SlicesE.IndexFunc
import Derived.Shelf.Small.Bits
import Derived.Shelf.Small.Strs
import Derived.Shelf.Small.Utf8
import Derived.Shelf.Small.Wraps
import Derived.Shelf.Sort.Plain
import Derived.Shelf.SortM.SortNone
import Derived.Shelf.Strconv.Itoa0
import Derived.Shelf.Strings.AsciiSet
import Derived.Shelf.Strings.Builder1
import Derived.Shelf.Strings.Builder2
import Derived.Shelf.Strings.Count
import Derived.Shelf.Strings.Cut
import Derived.Shelf.Strings.IndexAny
import Derived.Shelf.Strings.IndexAnyAll
import Derived.Shelf.Strings.LastIndex
import Derived.Shelf.Strings.OnBuilder
import Derived.Shelf.Strings.Prefix
import Derived.Shelf.Strings.Runes
import Derived.Shelf.Strings.Search1
import Derived.Shelf.Strings.Search2
import Derived.Shelf.Strings.Search3
import Derived.Shelf.Strings.Shaped
import Derived.Shelf.Strings.SlTrimAscii
import Derived.Shelf.Strings.Split
import Derived.Shelf.Strings.SplitShaped
import Derived.Shelf.Strings.Trim
import Derived.Shelf.Unicode.DecodeSlow
import Derived.Sort.KeysCollected
import Derived.StillTailTactics
import Derived.Stop.Asserts
import Derived.StringKeys
import Derived.WalkLawsBesides
import Derived.WalkMore
import Derived.WalkSmall
import Derived.WalkSpells
import Derived.Test.YtaohgmcbpafdeaaGreatDoorA01
import Derived.Test.YtaohgmcbpafdeaaGreatDoorA02
set_option maxRecDepth 100000
set_option maxHeartbeats 20000000
set_option linter.unusedVariables false
set_option linter.unusedSimpArgs false
namespace Go.Proofs.YtaohgmcbpafdeaaGreatDoor
section
open Go.RowKit
theorem Rd.reads {w:World}{sz n:Nat}{A:OA}{xs:LV}(h:Rd w sz A n xs)(hsz:0<sz):iF w w.heap.size sz A n xs:=by
 refine⟨h.1,fun hn=>?_⟩
 obtain⟨b,off,e,hc⟩:=h.2 hn
 have hl:0<xs.length:=by rw[h.1];exact Nat.mul_pos hn hsz
 have h0:=hc 0 _ (gG hl)
 refine⟨_,e,World.block_lt_of_cell? _ _ h0,fun j u hu=>?_⟩
 have:=hc j u hu
 unfold Addr.add
 split
 ·rename_i h;subst h;exact this
 ·exact this
theorem jD:(Tryz.prog.info? 9).map (fun i=>(i.zero,i.size,i.bytes))=some (some (.string ⟨#[]⟩),1,16):=by kernel_rfl
end
def cu (c:UInt8):Bool:=decide (48≤c.toNat∧c.toNat≤57)
def gK (c:UInt8):Bool:=decide (97≤c.toNat∧c.toNat≤122)
def Ld (c:UInt8):Bool:=decide (65≤c.toNat∧c.toNat≤90)
def jF (c:UInt8):Bool:=gK c||Ld c
def oS (c:UInt8):Bool:=gK c||cu c
def lL:LU→Bool
 | []=>false
 | c::_=>oS c
def mK (others l:LU):Bool:=(l.all fun c=>oS c||others.contains c)&&lL l
def dy (l:LU):Bool:=decide (2≤l.length)&&decide (l.length≤64)&&mK [43,46,45] l
def cU (l:LU):Bool:=decide (l.length≤32)&&mK [45] l
theorem fG (s:BA)(h:0<s.size):bl s=s[0]::(bl s).tail:=by
 have h2:0<(bl s).length:=by rw[ag];exact h
 rw[←gj s 0 h,←List.drop_one,←List.drop_eq_getElem_cons h2,List.drop_zero]
theorem bG (s:BA)(h:s.size=0):bl s=[]:=by
 apply List.eq_nil_of_length_eq_zero;rw[ag];exact h
theorem yA (s:BA)(h:0<s.size):lL (bl s)=oS s[0]:=by rw[fG s h];rfl
theorem wH (s:BA)(h:s.size=0):lL (bl s)=false:=by rw[bG s h];rfl
theorem cv (s:BA)(k:Nat):bl (s.extract k s.size)=(bl s).drop k:=by
 rw[iC];apply tL;rw[List.length_drop,ag];omega
theorem wI (s:BA)(k:Nat)(h:k<s.size):lL (bl (s.extract k s.size))=oS s[k]:=by
 rw[cv,List.drop_eq_getElem_cons (by rw[ag];exact h),gj s k h];rfl
theorem rB (o:LU)(s:BA)(k:Nat)(h:k<s.size)(h0:((bl s).take k).all (fun c=>oS c||o.contains c)=true)(h1:(oS s[k]||o.contains s[k])=true):
  ((bl s).take (k+1)).all (fun c=>oS c||o.contains c)=true:=by rw[de s k h,h0,h1];rfl
theorem EH (o:LU)(s:BA)(k:Nat)(h:k<s.size)(h1:oS s[k]=false)(h2:o.contains s[k]=false):mK o (bl s)=false:=by
 unfold mK;rw[jX s k h (by rw[h1,h2];rfl)];rfl
theorem Bj (o:LU)(s:BA)(k:Nat)(h:¬ k<s.size)(h0:((bl s).take k).all (fun c=>oS c||o.contains c)=true):mK o (bl s)=lL (bl s):=by
 unfold mK;rw[gm s k (by omega)] at h0;rw[h0];rfl
theorem mL (s:BA)(c:UInt8)(k:Nat)(h:k<s.size)(h0:((bl s).take k).contains c=false)(h1:(s[k]==c)=false):((bl s).take (k+1)).contains c=false:=by
 rw[tS (by rw[ag];exact h),gj s k h]
 rw[Bool.eq_false_iff] at *;simp at *;exact⟨h0,fun h=>h1 h.symm⟩
theorem yB (s:BA)(c:UInt8)(k:Nat)(h:k<s.size)(h1:s[k]=c):(bl s).contains c=true:=by
 simp;rw[←h1,←gj s k h];exact List.getElem_mem _
def Oj (others:LU)(c:UInt8):Bool:=jF c||cu c||others.contains c
def bm (others l:LU):Bool:=!l.isEmpty&&l.all (Oj others)
def kf (l:LU):Bool:=!l.isEmpty&&l.all cu
def kg:LU→Bool
 | []=>false
 | c::_=>cu c
def dH (c:UInt8):LU→Option Nat
 | []=>none
 | x::r=>match dH c r with
  | some i=>some (i+1)
  | none=>if x=c then some 0 else none
theorem mM (c:UInt8):∀ (l:LU)(i:Nat),l[i]?=some c→(∀ j:Nat,i<j→l[j]?≠some c)→dH c l=some i
 | [],i,h,_=>by simp at h
 | x::r,0,h,hn=>by
  have hr:dH c r=none:=by
   have key:∀ (r:LU),(∀ j:Nat,r[j]?≠some c)→dH c r=none:=by
    intro r
    induction r with
    | nil=>intro _;rfl
    | cons y t ih=>
     intro h
     have:=ih (fun j=>by simpa using h (j+1))
     have h0:=h 0
     simp at h0
     simp[dH,this,h0]
   exact key r (fun j=>by simpa using hn (j+1) (by omega))
  simp at h
  simp[dH,hr,h]
 | x::r,i+1,h,hn=>by
  have:=mM c r i (by simpa using h) (fun j hj=>by simpa using hn (j+1) (by omega))
  simp[dH,this]
theorem rC (c:UInt8):∀ (r:LU),(∀ j:Nat,r[j]?≠some c)→dH c r=none
 | [],_=>rfl
 | y::t,h=>by
  have:=rC c t (fun j=>by simpa using h (j+1))
  have h0:=h 0
  simp at h0
  simp[dH,this,h0]
theorem nK (c:UInt8):∀ (l:LU)(i:Nat),dH c l=some i→i<l.length
 | [],_,h=>by simp[dH] at h
 | x::r,i,h=>by
  unfold dH at h
  split at h
  ·rename_i k hk
   have:=nK c r k hk
   simp at h;simp;omega
  ·split at h
   ·simp at h;simp;omega
   ·simp at h
def kh (l:LU):Option (LU×LU):=
 if (Lib.cut l [58]).2.2=true then (if kf (Lib.cut l [58]).1=true∧(Lib.cut l [58]).1.length≤9 then some ((Lib.cut l [58]).1,(Lib.cut l [58]).2.1) else none) else some ([],l)
def kK (p:LU):Option (LU×LU):=
 match dH 45 p with
 | none=>if (bm [46,43,126,45] p&&kg p)=true then some (p,[]) else none
 | some i=>if bm [46,43,126] (p.drop (i+1))=true∧(bm [46,43,126,45] (p.take i)&&kg (p.take i))=true then some (p.take i,p.drop (i+1)) else none
def gV (l:LU):Option (LU×LU×LU):=
 match kh l with
 | none=>none
 | some (ep,p)=>(kK p).map fun r=>(ep,r.1,r.2)
def fX (s sep:BA):BA:=⟨(Lib.cut (bl s) (bl sep)).1.toArray⟩
def ki (s sep:BA):BA:=⟨(Lib.cut (bl s) (bl sep)).2.1.toArray⟩
def wK (s sep:BA):Bool:=(Lib.cut (bl s) (bl sep)).2.2
theorem dJ (s sep:BA):bl (fX s sep)=(Lib.cut (bl s) (bl sep)).1:=ii _
theorem fJ (s sep:BA):bl (ki s sep)=(Lib.cut (bl s) (bl sep)).2.1:=ii _
theorem Im (l sep:LU):(Lib.cut l sep).1.length≤l.length∧(Lib.cut l sep).2.1.length≤l.length:=by
 unfold Lib.cut;split<;>simp;omega
theorem qU (s sep:BA):(fX s sep).size≤s.size:=by
 rw[←ag,←ag,dJ];exact(Im _ _).1
theorem qV (s sep:BA):(ki s sep).size≤s.size:=by
 rw[←ag,←ag,fJ];exact(Im _ _).2
theorem dw (s:BA)(k:Nat):bl (s.extract 0 k)=(bl s).take k:=by rw[iC];simp
theorem dI (s:BA)(h:0<s.size):kg (bl s)=cu s[0]:=by rw[fG s h];rfl
theorem lN (o:LU)(s:BA)(h:bm o (bl s)=true):0<s.size:=by
 rw[←ag];unfold bm at h
 cases hb:bl s with
 | nil=>rw[hb] at h;simp at h
 | cons c r=>simp
section
open Go.RowKit
theorem mj:∀ (x y:LU),Op.bytesLess x y=decide (x<y)
 | [],[]=>by simp[Op.bytesLess]
 | _::_,[]=>by simp[Op.bytesLess]
 | [],_::_=>by simp[Op.bytesLess]
 | a::x,b::y=>by
  rw[Op.bytesLess,mj x y,bI]
  simp[List.cons_lt_cons_iff]
theorem Rd.take {α:Type}{f:α→LV}{sz:Nat}(hf:∀ x,(f x).length=sz){w:World}{A:OA}{l:List α}(h:Rd w sz A l.length (l.flatMap f))(k:Nat):Rd w sz A (l.take k).length ((l.take k).flatMap f):=by
 refine⟨eu hf _,fun hn=>?_⟩
 have hl:0<l.length:=by rw[List.length_take] at hn;omega
 obtain⟨b,off,e,hc⟩:=h.2 hl
 refine⟨b,off,e,fun j u hu=>hc j u ?_⟩
 have e2:l.flatMap f=(l.take k).flatMap f++(l.drop k).flatMap f:=by rw[←List.flatMap_append,List.take_append_drop]
 rw[e2,List.getElem?_append_left (gS hu).1];exact hu
end
section
open Go.RowKit Go.Shelf Go.Lib Go.Sort
section
variable {α : Type} [Inhabited α]
theorem rF {enc:α→LV}{k:Nat}(hk:∀ x,(enc x).length=k)(d:Array α):(flatK enc k d).toList=d.toList.flatMap enc:=by
 have hlen:(d.toList.flatMap enc).length=d.size*k:=by rw[eu hk];simp
 apply List.ext_getElem?
 intro t
 by_cases ht:t<d.size*k
 ·have k0:0<k:=by rcases Nat.eq_zero_or_pos k with h | h
                  ·subst h;simp at ht
                  ·exact h
  have hq:t / k<d.size:=(Nat.div_lt_iff_lt_mul k0).2 ht
  have hm:t % k<k:=Nat.mod_lt _ k0
  have hx:d.toList[t / k]?=some (d[t / k]'hq):=by simp[hq]
  have h1:=nA hk d.toList (t / k) (t % k) (d[t / k]'hq) hx hm
  have e:t / k*k+t % k=t:=Nat.div_add_mod' t k
  rw[e] at h1
  rw[h1]
  have h2:=get_flatK enc k d t ht
  have h3:(flatK enc k d)[t]?=some ((flatK enc k d)[t]!):=by
   rw[getElem!_pos _ t (by rw[size_flatK];exact ht)];exact Array.getElem?_eq_getElem _
  rw[Array.getElem?_toList,h3,h2,getElem!_pos d (t / k) hq]
  rw[getElem!_pos _ (t % k) (by rw[hk];exact hm)]
  exact(gG _).symm
 ·rw[List.getElem?_eq_none (by rw[Array.length_toList,size_flatK];omega),List.getElem?_eq_none (by omega)]
theorem Bl {enc:α→LV}{k:Nat}(hk:∀ x,(enc x).length=k){w:World}{base g cap:Nat}{e:TypeId}{l:List α}(h:w.ownsRow base e k (.slice (some ⟨g,0,none⟩) l.length cap) l.length (l.flatMap enc)):HoldsK enc k w g 0 l.toArray:=by
 intro j hj
 have hj':j<l.length*k:=by rw[size_flatK] at hj;simpa using hj
 rw[Nat.zero_add]
 refine⟨?_,h.frozenAt j⟩
 rw[h.cellAt j hj']
 have e1:=rF hk l.toArray
 have e2:(flatK enc k l.toArray)[j]?=some ((flatK enc k l.toArray)[j]!):=by
  rw[getElem!_pos _ j hj];exact Array.getElem?_eq_getElem _
 rw[←Array.getElem?_toList,e1] at e2
 exact e2
theorem Io {enc:α→LV}{k:Nat}(hk:∀ x,(enc x).length=k){w:World}{base g cap:Nat}{e:TypeId}{l:List α}(h:w.ownsRow base e k (.slice (some ⟨g,0,none⟩) l.length cap) l.length (l.flatMap enc))(d:Array α)(hd:d.size=l.length)(n:Nat)(os:Array Obj):
  (sortWorldK enc k w g 0 n d os).ownsRow base e k (.slice (some ⟨g,0,none⟩) l.length cap) l.length (d.toList.flatMap enc)∧w.grownBy (sortWorldK enc k w g 0 n d os) (some g):=by
 refine⟨?_,rfl,rfl,rfl,size_sortWorldK_c enc k w g 0 n d os,fun i hi hne=>?_⟩
 ·obtain⟨_,⟨hv,hn⟩ | ⟨g',cap',cur,hv,hb,hh,hc1,hc2,hsz,htk⟩⟩:=h
  ·cases hv
  injection hv with e1 e2 e3
  injection e1 with e1;injection e1 with e1;subst e1 e3
  have hg:g<w.heap.size:=(Array.getElem?_eq_some_iff.1 hh).1
  refine⟨by rw[eu hk];simp[hd],.inr ⟨g,cap,putCells id 0 (flatK enc k d) cur,rfl,hb,?_,hc1,hc2,by simp[putCells,hsz],?_⟩⟩
  ·show(w.heap.modify g _++os)[g]?=_
   rw[Array.getElem?_append_left (by simpa using hg),Array.getElem?_modify,if_pos rfl,hh];rfl
  ·rw[←rF hk]
   have hle:l.length*k≤cur.size:=by rw[hsz];exact Nat.mul_le_mul_right k hc1
   apply List.ext_getElem?
   intro t
   rw[List.getElem?_take]
   by_cases ht:t<l.length*k
   ·have hf:t<(flatK enc k d).size:=by rw[size_flatK,hd];exact ht
    rw[if_pos ht,Array.getElem?_toList,Array.getElem?_toList,Array.getElem?_eq_getElem (by simp[putCells];omega),Array.getElem?_eq_getElem hf]
    simp only[putCells,Array.getElem_mapIdx]
    rw[if_pos ⟨z0,by omega⟩]
    simp only[Nat.sub_zero,id]
    rw[getElem!_pos _ t hf]
   ·rw[if_neg ht,List.getElem?_eq_none (by rw[Array.length_toList,size_flatK,hd];omega)]
 ·have hne':g≠i:=fun e=>hne (by rw[e])
  show(w.heap.modify g _++os)[i]?=_
  rw[Array.getElem?_append_left (by simpa using hi),Array.getElem?_modify,if_neg hne']
end
section
variable {α : Type}
end
section
variable {α : Type} [Inhabited α]
theorem EL {n:Nat}{l:List α}{d:Array α}(hn:l.length=n)(h:PermIn 0 n l.toArray d):d.toList.Perm l:=by
 obtain⟨h1,_,h3⟩:=h
 have hs:d.size=n:=by rw[h1];simpa using hn
 have e1:d.extract 0 n=d:=by rw[←hs];simp
 have e2:l.toArray.extract 0 n=l.toArray:=by rw[←hn];simp
 rw[e1,e2] at h3
 simpa using h3
end
end
def bT:LU→List (LU)
 | []=>[[]]
 | c::r=>if c=47 then []::bT r else ((c::(bT r).headD [])::(bT r).tail)
theorem Fa:∀ l,bT l≠[]
 | []=>by simp[bT]
 | c::r=>by unfold bT;split<;>simp
theorem iJ {c:UInt8}(h:c≠47)(r:LU):∃ p ps,bT r=p::ps∧bT (c::r)=(c::p)::ps:=by
 cases hr:bT r with
 | nil=>exact absurd hr (Fa r)
 | cons p ps=>exact⟨p,ps,rfl,by rw[bT,if_neg h,hr];rfl⟩
theorem kR:∀ (l:LU),(47:UInt8) ∉ l→bT l=[l]
 | [],_=>rfl
 | c::r,h=>by
  have hc:c≠47:=fun e=>h (by rw[e];simp)
  obtain⟨p,ps,h1,h2⟩:=iJ hc r
  rw[kR r (fun hm=>h (List.mem_cons_of_mem _ hm))] at h1
  injection h1 with h3 h4
  rw[h2,←h3,←h4]
theorem mT:∀ (k:Nat)(l:LU),(47:UInt8) ∉ l.take k→l[k]?=some 47→bT l=l.take k::bT (l.drop (k+1))
 | k,[],_,h=>by simp at h
 | 0,c::r,_,h=>by
  simp at h;subst h
  simp[bT]
 | k+1,c::r,hn,h=>by
  have hc:c≠47:=fun e=>hn (by rw[e];simp)
  obtain⟨p,ps,h1,h2⟩:=iJ hc r
  rw[mT k r (fun hm=>hn (by rw[List.take_succ_cons];exact List.mem_cons_of_mem _ hm)) (by simpa using h)] at h1
  injection h1 with h3 h4
  rw[h2,←h3,←h4];simp
theorem mo:∀ (n:Nat)(l:LU),l.count 47=n→Lib.splitK [47] 0 n l=bT l
 | 0,l,h=>by
  rw[kR l (List.count_eq_zero.1 h)];rfl
 | n+1,l,h=>by
  have hm:(47:UInt8)∈l:=List.count_pos_iff.1 (by omega)
  unfold Lib.splitK
  rw[Lib.index_one]
  obtain⟨k,hk,hn,hg⟩:=indexByte_mem 47 l hm
  rw[hk,if_neg (by simp;try omega),mT k l hn hg]
  have e:((k:Int)).toNat=k:=by omega
  rw[e]
  congr 1
  simp only[List.length_singleton]
  refine mo n (l.drop (k+1)) ?_
  have hkl:k<l.length:=(gS hg).1
  have hd:l=l.take k++47::l.drop (k+1):=by
   have h47:l[k]=47:=(gS hg).2
   rw[←h47,←List.drop_eq_getElem_cons hkl,List.take_append_drop]
  rw[hd,List.count_append,List.count_eq_zero.2 hn,List.count_cons_self] at h
  simp at h ⊢
  omega
 where
 indexByte_mem (c:UInt8):∀ (l:LU),c∈l→∃ k:Nat,Lib.indexByte l c=k∧c ∉ l.take k∧l[k]?=some c
  | [],h=>by simp at h
  | b::r,h=>by
   by_cases hb:b=c
   ·subst hb;exact⟨0,by simp[Lib.indexByte],by simp,by simp⟩
   ·have hr:c∈r:=by rcases List.mem_cons.1 h with h | h;exact absurd h.symm hb;exact h
    obtain⟨k,h1,h2,h3⟩:=indexByte_mem c r hr
    refine⟨k+1,?_,?_,by simpa using h3⟩
    ·have:(b==c)=false:=by simp[hb]
     simp only[Lib.indexByte,this,h1]
     rw[if_neg (by simp),if_neg (by simp;try omega)];rfl
    ·rw[List.take_succ_cons];intro hm;rcases List.mem_cons.1 hm with hm | hm;exact hb hm.symm;exact h2 hm
def rJ (p:LU):Bool:=!(decide (p=[])||decide (p=[46])||decide (p=[46,46]))
def cy (l:LU):Bool:=decide (1≤l.length)&&decide (l.length≤200) && !l.contains 0&&(bT l).all rJ
def fK (l:LU):Option (LU):=if cy l then (dH 47 l).map (l.take ·) else none
section
open Go.RowKit Go.Maps
structure Q4 (q:bJ) (w:World) (lo hi:Nat):Prop where
 nd:w.ownsRow lo 9 1 (.slice q.na q.needs.length q.nc) q.needs.length (az q.needs)
 br:w.ownsRow lo 9 1 (.slice q.ba q.bars.length q.bc) q.bars.length (az q.bars)
 gv:w.ownsRow lo 110 3 (.slice q.ga q.gives.length q.gc) q.gives.length (q.gives.flatMap et.cells)
 sp:w.ownsRow lo 112 2 (.slice q.sa q.scripts.length q.sc) q.scripts.length (q.scripts.flatMap bd.cells)
 nl:∀ g,(Value.slice q.na q.needs.length q.nc).ownBlock=some g→g<hi
 bl:∀ g,(Value.slice q.ba q.bars.length q.bc).ownBlock=some g→g<hi
 gl:∀ g,(Value.slice q.ga q.gives.length q.gc).ownBlock=some g→g<hi
 sl:∀ g,(Value.slice q.sa q.scripts.length q.sc).ownBlock=some g→g<hi
end
section
open Go.ChangeShapes Go.WideShapes Go.Deep Go.RowKit
section
variable {H : Type} {enc : TypeId × Value → H} {P : Program} {w : World} {base : Nat} {spare : Nat → Bool} {held : Bool}
theorem oM {t e:TypeId}{fs:Array Field}{fuel:Nat}{cs:LV}{x:DataW H×List MemPlace}(ht:P.underlying t=some (.slice e))(he:P.underlying e=some (.struct fs))
  (hone:oneCellFields P fs=true)(hC:P.cellsOf e=fs.size)(h:DataW.trod enc P w base spare held fuel t cs=some x):
  (cs=[.slice none 0 0]∧x=(.nil,[])) ∨
  ∃ (a:Addr) (len cap m:Nat) (D:Nat→DataW H) (Pl:Nat→List MemPlace),cs=[.slice (some a) len cap]∧base≤a.block∧len≤cap∧cap≤maxLen∧m=(if spare a.block then cap else len) ∧
   x=(.slice ((List.range len).map D) ((List.range (m-len)).map fun j=>D (len+j)),MemPlace.row a (m*fs.size)++(List.range m).flatMap Pl) ∧
   ∀ i,i<m→∃ (ys:List (DataW H×List MemPlace)) (n:Nat),D i=.agg (ys.map (·.1))∧Pl i=ys.flatMap (·.2)∧ys.length=fs.size ∧
    ∀ (j:Nat)(f:Field),fs[j]?=some f→∃ (v:Value)(y:DataW H×List MemPlace),w.cell? (a.add (i*fs.size+j))=some v∧ys[j]?=some y∧DataW.trod enc P w base spare held n f.type [v]=some y:=by
 rcases open_slice ht h with h0 | ⟨a,len,cap,m,n,D,Pl,hcs,hb,hl,hm,hmm,hx,hi⟩
 ·exact .inl h0
 ·refine .inr ⟨a,len,cap,m,D,Pl,hcs,hb,hl,hm,hmm,by rw[hC] at hx;exact hx,fun i him=>?_⟩
  obtain⟨cs',hc,ht'⟩:=hi i him
  rw[hC] at hc
  obtain⟨ys,n',hn',hy,hlen,hyl,hf⟩:=DataW.trod_struct he ht'
  obtain⟨_,hcl,hat⟩:=World.cells?_some hc
  simp only[Prod.mk.injEq] at hy
  refine⟨ys,n',hy.1,hy.2,hyl,fun j f hj=>?_⟩
  obtain⟨ho,hk⟩:=hone_of hone j f hj
  have hjl:j<fs.size:=(Array.getElem?_eq_some_iff.1 hj).1
  have hcell:=hat j hjl
  have hv:cs'[j]?=some (cs'[j]'(by omega)):=gG (by omega)
  have h1:=hf j f hj
  rw[ho,hk] at h1
  have hone':(cs'.drop j).take 1=[cs'[j]'(by omega)]:=by
   rw[List.drop_eq_getElem_cons (by omega)]
   rfl
  rw[hone'] at h1
  have hys:ys[j]?=some (ys[j]'(by omega)):=gG (by omega)
  refine⟨_,_,?_,hys,h1.trans hys⟩
  rw[←Go.Deep.add_add,hcell,hv]
end
theorem rq {α:Type}{Q:Nat→α→Prop}:∀ n:Nat,(∀ i,i<n→∃ x,Q i x)→∃ l:List α,l.length=n∧∀ (i:Nat)(x:α),l[i]?=some x→Q i x
 | 0,_=>⟨[],rfl,fun i x h=>by simp at h⟩
 | n+1,h=>by
  obtain⟨l,hl,hq⟩:=rq n (fun i hi=>h i (by omega))
  obtain⟨x,hx⟩:=h n (by omega)
  refine⟨l++[x],by simp[hl],fun i y hy=>?_⟩
  by_cases hi:i<l.length
  ·rw[List.getElem?_append_left hi] at hy;exact hq i y hy
  ·rw[List.getElem?_append_right (by omega)] at hy
   have:i=n:=by have:=(gS hy).1;simp at this;omega
   subst this;rw[hl,Nat.sub_self] at hy;simp at hy;subst hy;exact hx
theorem Dz {α:Type}{f:α→LV}{sz:Nat}(hf:∀ x,(f x).length=sz)(hsz:0<sz)(l:List α)(j:Nat)(u:Value)(h:(l.flatMap f)[j]?=some u):∃ (i k:Nat)(x:α),l[i]?=some x∧k<sz∧j=i*sz+k∧(f x)[k]?=some u:=by
 have hj:j<l.length*sz:=by rw[←eu hf];exact(gS h).1
 have hi:j / sz<l.length:=Nat.div_lt_of_lt_mul (by rw[Nat.mul_comm];exact hj)
 have hk:j % sz<sz:=Nat.mod_lt _ hsz
 have e:j=j / sz*sz+j % sz:=by rw[Nat.mul_comm];exact(Nat.div_add_mod j sz).symm
 refine⟨j / sz,j % sz,l[j / sz],gG hi,hk,e,?_⟩
 rw[←nA hf l (j / sz) (j % sz) _ (gG hi) hk,←e,h]
theorem md {w:World}{a:Addr}{n:Nat}{v:Value}(h:w.cell? (a.add n)=some v):a.add n=⟨a.block,a.off+n,none⟩:=by
 unfold Addr.add at *
 split at h
 ·rename_i h0;subst h0
  simp only[if_pos]
  cases a with | mk b o s=>
   unfold World.cell? at h
   split at h
   ·split at h
    ·cases h
    ·rename_i hs;simp at hs;simp[hs]
   ·cases h
 ·rename_i h0;rw[if_neg h0]
section
variable {H : Type} {enc : TypeId × Value → H} {w : World} {spare : Nat → Bool}
theorem jW {T E:TypeId}{fs:Array Field}(hT:Tryz.prog.underlying T=some (.slice E))(hE:Tryz.prog.underlying E=some (.struct fs))(hone:oneCellFields Tryz.prog fs=true)(hC:Tryz.prog.cellsOf E=fs.size)(hpos:0<fs.size)
  {α:Type}(f:α→LV)(Pr:α→Prop)(hf:∀ x,(f x).length=fs.size)
  (hel:∀ (n:Nat)(vs:Nat→Value),(∀ (j:Nat)(fd:Field),fs[j]?=some fd→∃ y,DataW.trod enc Tryz.prog w 0 spare true n fd.type [vs j]=some y)→∃ x:α,Pr x∧∀ j,j<fs.size→(f x)[j]?=some (vs j))
  {fuel:Nat}{v:Value}{d:DataW H×List MemPlace}(h:DataW.trod enc Tryz.prog w 0 spare true fuel T [v]=some d):
  ∃ (A:OA) (c:Nat) (l:List α),v=.slice A l.length c∧Rd w fs.size A l.length (l.flatMap f)∧(∀ x∈l,Pr x)∧l.length≤9223372036854775807∧l.length≤c:=by
 rcases oM hT hE hone hC h with⟨hcs,_⟩ | ⟨a,len,cap,m,D,Pl,hcs,_,hl,hm,hmm,_,hi⟩
 ·injection hcs with hcs _
  exact⟨none,0,[],hcs,Rd.nil _ _ _,fun x hx=>by simp at hx,z0,z0⟩
 ·injection hcs with hcs _
  have hlen:len≤m:=by rw[hmm];split<;>omega
  have key:∀ i,i<len→∃ x:α,Pr x∧∀ j u,(f x)[j]?=some u→w.cell? ⟨a.block,a.off+(i*fs.size+j),none⟩=some u:=by
   intro i hi'
   obtain⟨ys,n,_,_,hyl,hj⟩:=hi i (by omega)
   have hv:∀ j,∃ v,(∀ fd,fs[j]?=some fd→w.cell? (a.add (i*fs.size+j))=some v∧∃ y,DataW.trod enc Tryz.prog w 0 spare true n fd.type [v]=some y):=by
    intro j
    cases hfd:fs[j]? with
    | none=>exact⟨default,fun fd h=>by cases h⟩
    | some fd=>
     obtain⟨v,y,h1,_,h3⟩:=hj j fd hfd
     exact⟨v,fun fd' h=>by injection h with h;subst h;exact⟨h1,y,h3⟩⟩
   have hvs:∃ vs:Nat→Value,∀ j fd,fs[j]?=some fd→w.cell? (a.add (i*fs.size+j))=some (vs j)∧∃ y,DataW.trod enc Tryz.prog w 0 spare true n fd.type [vs j]=some y:=
    ⟨fun j=>Classical.choose (hv j),fun j fd h=>Classical.choose_spec (hv j) fd h⟩
   obtain⟨vs,hvs⟩:=hvs
   obtain⟨x,hx,hc⟩:=hel n vs (fun j fd h=>(hvs j fd h).2)
   refine⟨x,hx,fun j u hu=>?_⟩
   have hjs:j<fs.size:=by rw[←hf x];exact(gS hu).1
   have h1:=hc j hjs
   rw[hu] at h1
   have h1:=Option.some.inj h1
   subst h1
   have h2:=(hvs j _ (Array.getElem?_eq_getElem hjs)).1
   rw[md h2] at h2
   exact h2
  obtain⟨l,hll,hlq⟩:=rq len key
  refine⟨some a,cap,l,by rw[hll];exact hcs,⟨eu hf l,fun hn=>?_⟩,fun x hx=>?_,by rw[hll];unfold maxLen at hm;omega,by rw[hll];exact hl⟩
  ·obtain⟨x0,hx0⟩:∃ x,l[0]?=some x:=⟨_,gG hn⟩
   obtain⟨u0,hu0⟩:∃ u,(f x0)[0]?=some u:=⟨_,gG (by rw[hf];exact hpos)⟩
   refine⟨a.block,a.off,?_,fun j u hu=>?_⟩
   ·obtain⟨ys,n,_,_,_,hj⟩:=hi 0 (by omega)
    obtain⟨v0,y0,h1,_,_⟩:=hj 0 _ (Array.getElem?_eq_getElem hpos)
    have h2:=md h1
    simp only[Nat.zero_mul,Nat.zero_add,Addr.add,if_pos,Nat.add_zero] at h2
    rw[←h2]
   ·obtain⟨i,k,x,hx,hk,rfl,hu'⟩:=Dz hf hpos l j u hu
    exact(hlq i x hx).2 k u hu'
  ·obtain⟨i,hi',rfl⟩:=List.getElem_of_mem hx
   exact(hlq i _ (gG hi')).1
theorem wD {T E:TypeId}(hT:Tryz.prog.underlying T=some (.slice E))(hE:Tryz.prog.underlying E=some .string)(hC:Tryz.prog.cellsOf E=1)
  {fuel:Nat}{v:Value}{d:DataW H×List MemPlace}(h:DataW.trod enc Tryz.prog w 0 spare true fuel T [v]=some d):
  ∃ (A:OA) (c:Nat) (l:List BA),v=.slice A l.length c∧Rd w 1 A l.length (az l)∧(∀ x∈l,x.size≤9223372036854775807)∧l.length≤9223372036854775807∧l.length≤c:=by
 rcases open_slice hT h with⟨hcs,_⟩ | ⟨a,len,cap,m,n,D,Pl,hcs,_,hl,hm,hmm,_,hi⟩
 ·injection hcs with hcs _
  exact⟨none,0,[],hcs,Rd.nil _ _ _,fun x hx=>by simp at hx,z0,z0⟩
 ·injection hcs with hcs _
  have hlen:len≤m:=by rw[hmm];split<;>omega
  have key:∀ i,i<len→∃ x:BA,x.size≤9223372036854775807∧w.cell? ⟨a.block,a.off+i,none⟩=some (.string x)∧a.add i=⟨a.block,a.off+i,none⟩:=by
   intro i hi'
   obtain⟨cs',hc,ht'⟩:=hi i (by omega)
   rw[hC] at hc
   obtain⟨_,hcl,hat⟩:=World.cells?_some hc
   obtain⟨s,hs,_,hsz⟩:=DataW.trod_string hE ht'
   have h0:=hat 0 (by omega)
   rw[hs,Nat.mul_one] at h0
   have h1:w.cell? (a.add i)=some (.string s):=by
    have e:(a.add i).add 0=a.add i:=by simp[Addr.add]
    rw[e] at h0;simpa using h0
   have h2:=md h1
   refine⟨s,by unfold maxLen at hsz;omega,by rw[←h2];exact h1,h2⟩
  obtain⟨l,hll,hlq⟩:=rq len key
  refine⟨some a,cap,l,by rw[hll];exact hcs,⟨by simp[az],fun hn=>?_⟩,fun x hx=>?_,by rw[hll];unfold maxLen at hm;omega,by rw[hll];exact hl⟩
  ·refine⟨a.block,a.off,?_,fun j u hu=>?_⟩
   ·have h2:=(hlq 0 _ (gG hn)).2.2
    simp only[Addr.add,if_pos,Nat.add_zero] at h2
    rw[←h2]
   ·simp only[az,List.getElem?_map,Option.map_eq_some_iff] at hu
    obtain⟨x,hx,rfl⟩:=hu
    exact(hlq j x hx).2.1
  ·obtain⟨i,hi',rfl⟩:=List.getElem_of_mem hx
   exact(hlq i _ (gG hi')).1
end
end
section
open Go.ChangeShapes Go.WideShapes Go.Deep Go.RowKit
section
variable {H : Type} {enc : TypeId × Value → H} {w : World} {spare : Nat → Bool}
def KP (x:et):Prop:=x.nm.size≤9223372036854775807∧x.ver.size≤9223372036854775807∧(Lit.int .i64 x.op).wf=true
def KQ (x:av):Prop:=x.path.size≤9223372036854775807∧x.owner.size≤9223372036854775807∧x.group.size≤9223372036854775807∧x.link.size≤9223372036854775807∧x.sum.size≤9223372036854775807∧(Lit.int .i64 x.kind).wf=true∧(Lit.int .i64 x.mode).wf=true
def A8 (x:bd):Prop:=x.body.size≤9223372036854775807∧(Lit.int .i64 x.phase).wf=true
theorem cN {n:Nat}{v:Value}{y:DataW H×List MemPlace}(h:DataW.trod enc Tryz.prog w 0 spare true n 9 [v]=some y):∃ s:BA,v=.string s∧s.size≤9223372036854775807:=by
 obtain⟨s,hs,_,hz⟩:=DataW.trod_string Tryz.underlying9 h
 injection hs with hs _
 exact⟨s,hs,by unfold maxLen at hz;omega⟩
theorem fW {n:Nat}{v:Value}{y:DataW H×List MemPlace}(h:DataW.trod enc Tryz.prog w 0 spare true n 3 [v]=some y):∃ z:Int,v=.int .i64 z∧(Lit.int .i64 z).wf=true:=by
 obtain⟨z,hz,_,hw⟩:=DataW.trod_int Tryz.underlying3 h
 injection hz with hz _
 exact⟨z,hz,hw⟩
theorem Hy {n:Nat}{v:Value}{y:DataW H×List MemPlace}(h:DataW.trod enc Tryz.prog w 0 spare true n 4 [v]=some y):∃ z:Bool,v=.bool z:=by
 obtain⟨z,hz,_⟩:=DataW.trod_bool Tryz.underlying4 h
 injection hz with hz _
 exact⟨z,hz⟩
theorem DB {fuel:Nat}{v:Value}{d:DataW H×List MemPlace}(h:DataW.trod enc Tryz.prog w 0 spare true fuel 35 [v]=some d):
  ∃ (A:OA) (c:Nat) (l:List et),v=.slice A l.length c∧Rd w 3 A l.length (l.flatMap et.cells)∧(∀ x∈l,KP x)∧l.length≤9223372036854775807∧l.length≤c:=by
 refine jW Tryz.underlying35 Tryz.underlying110 (by kernel_rfl) (by kernel_rfl) (by decide) et.cells KP (fun _=>rfl) (fun n vs hv=>?_) h
 obtain⟨y0,h0⟩:=hv 0 _ rfl
 obtain⟨y1,h1⟩:=hv 1 _ rfl
 obtain⟨y2,h2⟩:=hv 2 _ rfl
 obtain⟨s0,e0,z0⟩:=cN h0
 obtain⟨s1,e1,z1⟩:=fW h1
 obtain⟨s2,e2,z2⟩:=cN h2
 refine⟨⟨s0,s1,s2⟩,⟨z0,z2,z1⟩,fun j hj=>?_⟩
 have hj':j<3:=hj
 rcases(by omega:j=0∨j=1∨j=2) with rfl | rfl | rfl
 ·rw[e0];rfl
 ·rw[e1];rfl
 ·rw[e2];rfl
theorem DC {fuel:Nat}{v:Value}{d:DataW H×List MemPlace}(h:DataW.trod enc Tryz.prog w 0 spare true fuel 36 [v]=some d):
  ∃ (A:OA) (c:Nat) (l:List av),v=.slice A l.length c∧Rd w 8 A l.length (l.flatMap av.cells)∧(∀ x∈l,KQ x)∧l.length≤9223372036854775807∧l.length≤c:=by
 refine jW Tryz.underlying36 Tryz.underlying42 (by kernel_rfl) (by kernel_rfl) (by decide) av.cells KQ (fun _=>rfl) (fun n vs hv=>?_) h
 obtain⟨y0,h0⟩:=hv 0 _ rfl
 obtain⟨y1,h1⟩:=hv 1 _ rfl
 obtain⟨y2,h2⟩:=hv 2 _ rfl
 obtain⟨y3,h3⟩:=hv 3 _ rfl
 obtain⟨y4,h4⟩:=hv 4 _ rfl
 obtain⟨y5,h5⟩:=hv 5 _ rfl
 obtain⟨y6,h6⟩:=hv 6 _ rfl
 obtain⟨y7,h7⟩:=hv 7 _ rfl
 obtain⟨s0,e0,z0⟩:=cN h0
 obtain⟨s1,e1,z1⟩:=fW h1
 obtain⟨s2,e2,z2⟩:=fW h2
 obtain⟨s3,e3,z3⟩:=cN h3
 obtain⟨s4,e4,z4⟩:=cN h4
 obtain⟨s5,e5,z5⟩:=cN h5
 obtain⟨s6,e6,z6⟩:=cN h6
 obtain⟨s7,e7⟩:=Hy h7
 refine⟨⟨s0,s1,s2,s3,s4,s5,s6,s7⟩,⟨z0,z3,z4,z5,z6,z1,z2⟩,fun j hj=>?_⟩
 have hj':j<8:=hj
 rcases(by omega:j=0∨j=1∨j=2∨j=3∨j=4∨j=5∨j=6∨j=7) with rfl | rfl | rfl | rfl | rfl | rfl | rfl | rfl
 ·rw[e0];rfl
 ·rw[e1];rfl
 ·rw[e2];rfl
 ·rw[e3];rfl
 ·rw[e4];rfl
 ·rw[e5];rfl
 ·rw[e6];rfl
 ·rw[e7];rfl
theorem yk {fuel:Nat}{v:Value}{d:DataW H×List MemPlace}(h:DataW.trod enc Tryz.prog w 0 spare true fuel 37 [v]=some d):
  ∃ (A:OA) (c:Nat) (l:List bd),v=.slice A l.length c∧Rd w 2 A l.length (l.flatMap bd.cells)∧(∀ x∈l,A8 x)∧l.length≤9223372036854775807∧l.length≤c:=by
 refine jW Tryz.underlying37 Tryz.underlying112 (by kernel_rfl) (by kernel_rfl) (by decide) bd.cells A8 (fun _=>rfl) (fun n vs hv=>?_) h
 obtain⟨y0,h0⟩:=hv 0 _ rfl
 obtain⟨y1,h1⟩:=hv 1 _ rfl
 obtain⟨s0,e0,z0⟩:=fW h0
 obtain⟨s1,e1,z1⟩:=cN h1
 refine⟨⟨s0,s1⟩,⟨z1,z0⟩,fun j hj=>?_⟩
 have hj':j<2:=hj
 rcases(by omega:j=0∨j=1) with rfl | rfl
 ·rw[e0];rfl
 ·rw[e1];rfl
theorem Ms (n:Nat)(vs:Nat→Value)
  (hv:∀ (j:Nat)(t:TypeId),[(9:TypeId),9,9,9,26,26,35,36,37][j]?=some t→∃ y,DataW.trod enc Tryz.prog w 0 spare true n t [vs j]=some y):
  ∃ p:bJ,(p.ok w∧p.fits∧p.files.length≤p.fc∧p.needs.length≤p.nc∧p.bars.length≤p.bc∧p.gives.length≤p.gc∧p.scripts.length≤p.sc)∧∀ j,j<9→p.cells[j]?=some (vs j):=by
 obtain⟨y0,h0⟩:=hv 0 _ rfl
 obtain⟨y1,h1⟩:=hv 1 _ rfl
 obtain⟨y2,h2⟩:=hv 2 _ rfl
 obtain⟨y3,h3⟩:=hv 3 _ rfl
 obtain⟨y4,h4⟩:=hv 4 _ rfl
 obtain⟨y5,h5⟩:=hv 5 _ rfl
 obtain⟨y6,h6⟩:=hv 6 _ rfl
 obtain⟨y7,h7⟩:=hv 7 _ rfl
 obtain⟨y8,h8⟩:=hv 8 _ rfl
 obtain⟨s0,e0,z0⟩:=cN h0
 obtain⟨s1,e1,z1⟩:=cN h1
 obtain⟨s2,e2,z2⟩:=cN h2
 obtain⟨s3,e3,z3⟩:=cN h3
 obtain⟨a4,c4,l4,e4,r4,x4,n4,k4⟩:=wD Tryz.underlying26 Tryz.underlying9 (by kernel_rfl) h4
 obtain⟨a5,c5,l5,e5,r5,x5,n5,k5⟩:=wD Tryz.underlying26 Tryz.underlying9 (by kernel_rfl) h5
 obtain⟨a6,c6,l6,e6,r6,x6,n6,k6⟩:=DB h6
 obtain⟨a7,c7,l7,e7,r7,x7,n7,k7⟩:=DC h7
 obtain⟨a8,c8,l8,e8,r8,x8,n8,k8⟩:=yk h8
 refine⟨⟨s0,s1,s2,s3,a4,c4,l4,a5,c5,l5,a6,c6,l6,a7,c7,l7,a8,c8,l8⟩,⟨⟨r4,r5,r6,r7,r8⟩,⟨z0,z1,z2,z3,n4,n5,n6,n7,n8,x4,x5,x6,x7,x8⟩,k7,k4,k5,k6,k8⟩,fun j hj=>?_⟩
 rcases(by omega:j=0∨j=1∨j=2∨j=3∨j=4∨j=5∨j=6∨j=7∨j=8) with rfl | rfl | rfl | rfl | rfl | rfl | rfl | rfl | rfl
 ·rw[e0];rfl
 ·rw[e1];rfl
 ·rw[e2];rfl
 ·rw[e3];rfl
 ·rw[e4];rfl
 ·rw[e5];rfl
 ·rw[e6];rfl
 ·rw[e7];rfl
 ·rw[e8];rfl
theorem Mt {fuel:Nat}{v:Value}{d:DataW H×List MemPlace}(h:DataW.trod enc Tryz.prog w 0 spare true fuel 22 [v]=some d):
  ∃ (A:OA) (c:Nat) (l:List bJ),v=.slice A l.length c∧oO w A l∧(∀ p∈l,p.fits)∧l.length≤9223372036854775807∧(∀ p∈l,p.files.length≤p.fc∧p.needs.length≤p.nc∧p.bars.length≤p.bc∧p.gives.length≤p.gc∧p.scripts.length≤p.sc)∧l.length≤c:=by
 obtain⟨A,c,l,h1,h2,h3,h4,h5⟩:=jW Tryz.underlying22 Tryz.underlying39 (by kernel_rfl) (by kernel_rfl) (by decide) bJ.cells (fun p=>p.ok w∧p.fits∧p.files.length≤p.fc∧p.needs.length≤p.nc∧p.bars.length≤p.bc∧p.gives.length≤p.gc∧p.scripts.length≤p.sc) (fun _=>rfl) (fun n vs hv=>by
  refine Ms (enc:=enc) (spare:=spare) n vs (fun j t ht=>?_)
  have hj:j<9:=by simpa using(gS ht).1
  rcases(by omega:j=0∨j=1∨j=2∨j=3∨j=4∨j=5∨j=6∨j=7∨j=8) with rfl | rfl | rfl | rfl | rfl | rfl | rfl | rfl | rfl
  ·have ht:=Option.some.inj ht;subst ht;exact hv 0 _ rfl
  ·have ht:=Option.some.inj ht;subst ht;exact hv 1 _ rfl
  ·have ht:=Option.some.inj ht;subst ht;exact hv 2 _ rfl
  ·have ht:=Option.some.inj ht;subst ht;exact hv 3 _ rfl
  ·have ht:=Option.some.inj ht;subst ht;exact hv 4 _ rfl
  ·have ht:=Option.some.inj ht;subst ht;exact hv 5 _ rfl
  ·have ht:=Option.some.inj ht;subst ht;exact hv 6 _ rfl
  ·have ht:=Option.some.inj ht;subst ht;exact hv 7 _ rfl
  ·have ht:=Option.some.inj ht;subst ht;exact hv 8 _ rfl) h
 exact⟨A,c,l,h1,⟨h2,fun p hp=>(h3 p hp).1⟩,fun p hp=>(h3 p hp).2.1,h4,fun p hp=>(h3 p hp).2.2,h5⟩
end
end
end Go.Proofs.YtaohgmcbpafdeaaGreatDoor
