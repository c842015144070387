/- A part of the proof that ModelPackages holds. No condition. -/
import Derived.Test.YtdfdllbebfoggaaGreatDoorC07
import Derived.Test.YtdfdllbebfoggaaGreatDoorC08
import Derived.Test.YtdfdllbebfoggaaGreatDoorC09
set_option maxRecDepth 100000
set_option maxHeartbeats 20000000
set_option linter.unusedVariables false
set_option linter.unusedSimpArgs false
namespace Go.Proofs.YtdfdllbebfoggaaGreatDoor
section
open Go.RowKit
def psplitS (s:ByteArray):List ByteArray:=(psplit (bl s)).map fun p=>(⟨p.toArray⟩:ByteArray)
theorem map_baOf_bl (l:List ByteArray):(l.map bl).map (fun p=>(⟨p.toArray⟩:ByteArray))=l:=by
 rw[List.map_map];conv=>rhs;rw[←List.map_id l]
 apply List.map_congr_left;intro a _;apply bl_inj;simp[bl]
theorem splitB_psplit (s:ByteArray):Lib.splitB ⟨#[47]⟩ 0 (Lib.countB s ⟨#[47]⟩) s=psplitS s:=by
 have h:=Lib.splitB_data ⟨#[47]⟩ 0 (Lib.countB s ⟨#[47]⟩) s
 have h2:Lib.countB s ⟨#[47]⟩=(bl s).count 47:=by
  show Lib.count _ _=_
  exact Lib.count_one 47 (bl s)
 have h3:(Lib.splitB ⟨#[47]⟩ 0 (Lib.countB s ⟨#[47]⟩) s).map bl=psplit (bl s):=by
  refine Eq.trans h ?_
  rw[h2];exact splitK_psplit _ (bl s) rfl
 unfold psplitS
 rw[←h3,map_baOf_bl]
theorem Split_any (s:ByteArray)(w:World)(hG:Gl w)(hs:s.size≤4294967280):
  Calls Tryz.prog 95 #[.string s,.string ⟨#[47]⟩] w fun e w'=>e=.returned (.slice (some ⟨w.heap.size,0,none⟩) (psplitS s).length (psplitS s).length)∧Rd w' 1 (some ⟨w.heap.size,0,none⟩) (psplitS s).length (strCells (psplitS s))∧Below w.heap.size w w':=by
 obtain⟨m,hm⟩:=hG.ml
 refine(Tryz.strings_Split s ⟨#[47]⟩ m w (by omega) hm (by decide)).mono fun e w' ⟨he,hw⟩=>?_
 have hl:(psplitS s).length=Lib.countB s ⟨#[47]⟩+1:=by
  rw[←splitB_psplit];exact Lib.splitB_all ⟨#[47]⟩ (by decide) 0 _ s rfl
 rw[splitB_psplit] at hw
 rw[hl,hw]
 refine⟨he,⟨by simp[strCells,hl],fun _=>⟨_,0,rfl,fun j u hu=>?_⟩⟩,(Below.refl _ _).alloc lr _⟩
 simpa [strCells] using hu
theorem Contains0 (s:ByteArray)(w:World):
  Calls Tryz.prog 68 #[.string s,.string ⟨#[0]⟩] w fun e w'=>e=.returned (.bool ((bl s).contains 0))∧w=w':=
 (Tryz.strings_Contains_one s 0 w).mono fun e w' ⟨he,hw⟩=>⟨by
  rw[he];congr 2
  cases h:(bl s).contains 0
  ·have:=ixB_neg s 0 h;unfold ixB at this;simp only[bl] at this;simp;omega
  ·have:=ixB_pos s 0 h;unfold ixB at this;simp only[bl] at this;simpa using this,hw.symm⟩
theorem reads_one (w:World)(s:ByteArray):Reads (w.alloc (.cells #[.string s] 9)) (w.heap.size+1) 1 (some ⟨w.heap.size,0,none⟩) 1 [.string s]:=by
 refine⟨rfl,fun _=>⟨_,rfl,by simp,fun j u hu=>?_⟩⟩
 cases j with
 | zero=>simp at hu;subst hu;simp[Addr.add]
 | succ j=>simp at hu
theorem partB_bl (p:ByteArray):partB (bl p)=!(p.toList.isEmpty||p.toList == [46]||p.toList == [46,46]):=by
 rw[bl_toList];unfold partB
 rw[Bool.eq_iff_iff];simp
theorem psplitS_get (s:ByteArray)(k:Nat)(x:ByteArray)(h:(psplitS s)[k]?=some x):(psplit (bl s))[k]?=some (bl x):=by
 unfold psplitS at h
 rw[List.getElem?_map] at h
 obtain⟨p,hp,rfl⟩:=Option.map_eq_some_iff.1 h
 rw[hp,bl_mk]
theorem psplitS_len (s:ByteArray):(psplitS s).length=(psplit (bl s)).length:=by simp[psplitS]
theorem psplit_length:∀ (l:List UInt8),(psplit l).length≤l.length+1
 | []=>by simp[psplit]
 | c::r=>by
  have:=psplit_length r
  by_cases hc:c=47
  ·rw[psplit,if_pos hc];simp;omega
  ·obtain⟨p,ps,h1,h2⟩:=psplit_cons_ne hc r
   rw[h1] at this;rw[h2];simp at *;omega
theorem all_next {α:Type}{p:α→Bool}{l:List α}{k:Nat}{x:α}(h:l[k]?=some x)(h0:(l.take k).all p=true)(hx:p x=true):(l.take (k+1)).all p=true:=by
 obtain⟨hk,he⟩:=List.getElem?_eq_some_iff.1 h
 rw[List.take_succ_eq_append_getElem hk,List.all_append,h0,he];simp[hx]
theorem all_bad {α:Type}{p:α→Bool}{l:List α}{k:Nat}{x:α}(h:l[k]?=some x)(hx:p x=false):l.all p=false:=by
 rw[List.all_eq_false];exact⟨x,List.mem_of_getElem? h,by simp[hx]⟩
theorem entry_Path (s:ByteArray)(w:World)(hG:Gl w)(hs:s.size≤9223372036854775807):
  Calls Tryz.prog 65 #[.string s] w fun e w'=>e=.returned (.bool (pathB (bl s)))∧Below w.heap.size w w':=by
 have HG:=hid hG;clear hG
 by_cases h1:s.size<1
 ·have E:Hid (pathB (bl s)=false):=by show _=_;unfold pathB;rw[bl_length,show decide (1≤s.size)=false from decide_eq_false (by omega)];rfl
  go_enter Tryz.func65,Tryz.ntmps65
  go_wp2_with fail
  go_ret
  exact⟨ret_bool E.out.symm,Below.refl _ _⟩
 by_cases h2:200<s.size
 ·have E:Hid (pathB (bl s)=false):=by show _=_;unfold pathB;rw[bl_length,show decide (s.size≤200)=false from decide_eq_false (by omega)];simp
  go_enter Tryz.func65,Tryz.ntmps65
  go_wp2_with fail
  go_ret
  exact⟨ret_bool E.out.symm,Below.refl _ _⟩
 go_enter Tryz.func65,Tryz.ntmps65
 go_wp2_with fail
 refine(Contains0 _ _).mono ?_;rintro e w' ⟨rfl,rfl⟩
 cases h0:(bl s).contains 0
 ·go_wp2_with fail
  refine(Split_any s _ HG.out (by omega)).mono ?_;rintro e w1 ⟨rfl,hr,hb⟩
  have HR:=hid hr;have HB:=hid hb;clear hr hb
  have hN:(psplitS s).length≤201:=by rw[psplitS_len];have:=psplit_length (bl s);rw[bl_length] at this;omega
  have E:Hid (pathB (bl s)=(psplit (bl s)).all partB):=by show _=_;unfold pathB;rw[h0,bl_length,show decide (1≤s.size)=true from decide_eq_true (by omega),show decide (s.size≤200)=true from decide_eq_true (by omega)];simp
  have HL:=hid (psplitS_len s)
  clear h0
  go_wp2_with fail
  go_loop [20] (fun i=>∃ k:Nat,k≤(psplitS s).length∧i=.int .i64 k∧Hid (((psplit (bl s)).take k).all partB=true)) (fun i=>(psplitS s).length-(intOf i).toNat)
  case atStart=>exact⟨0,Nat.zero_le _,rfl,by simp[Hid]⟩
  case round=>
   obtain⟨k,hk,rfl,HA⟩:=hrel
   by_cases hlt:k<(psplitS s).length
   ·obtain⟨x,hx⟩:∃ x,(psplitS s)[k]?=some x:=⟨_,List.getElem?_eq_getElem hlt⟩
    obtain⟨b,off,hA,he⟩:=HR.out.str k x hx
    have hix:=fun W=>idx_of (T:=22) (E:=9) (sz:=1) (c:=(psplitS s).length) Tryz.underlying22 rfl Tryz.sizeOf9 hA hlt W
    simp only[Nat.mul_one] at hix
    have HX:=hid (psplitS_get s k x hx)
    clear hx hA
    go_wp2_with fail
    ·go_ret
     exact⟨ret_bool (by rw[E.out];exact(all_bad HX.out (by rw[partB_bl];simp_all)).symm),HB.out⟩
    ·go_ret
     exact⟨ret_bool (by rw[E.out];exact(all_bad HX.out (by rw[partB_bl];simp_all)).symm),HB.out⟩
    ·go_ret
     exact⟨ret_bool (by rw[E.out];exact(all_bad HX.out (by rw[partB_bl];simp_all)).symm),HB.out⟩
    ·go_round
     case rel=>exact⟨k+1,by omega,by go_num,hid (all_next HX.out HA.out (by rw[partB_bl];simp_all))⟩
     case measure=>simp[intOf];omega
   ·go_wp2_with fail
    go_ret
    exact⟨ret_bool (by rw[E.out];have:=HA.out;rw[List.take_of_length_le (by rw[←HL.out];omega)] at this;exact this.symm),HB.out⟩
 ·have E:Hid (pathB (bl s)=false):=by show _=_;unfold pathB;rw[h0];simp
  go_wp2_with fail
  go_ret
  exact⟨ret_bool E.out.symm,Below.refl _ _⟩
end
section
open Go.RowKit
def hasB (l:List UInt8)(c:UInt8):Bool:=l.contains c
theorem ref_Has (s:ByteArray)(c:UInt8)(w:World)(hs:s.size≤9223372036854775807):
  Calls Tryz.prog 104 #[.string s,.int .u8 c.toNat] w fun e w'=>e=.returned (.bool (hasB (bl s) c))∧w=w':=by
 go_enter Tryz.func104,Tryz.ntmps104
 go_wp2_with fail
 go_loop [5] (fun i=>∃ k:Nat,k≤s.size∧i=.int .i64 k∧Hid (((bl s).take k).contains c=false)) (fun i=>s.size-(intOf i).toNat)
 case atStart=>exact⟨0,Nat.zero_le _,rfl,by simp[Hid]⟩
 case round=>
  obtain⟨k,hk,rfl,HA⟩:=hrel
  by_cases hlt:k<s.size
  ·by_cases hc:s[k]=c
   ·have hc1:((s[k].toNat:Int)==(c.toNat:Int))=true:=by rw[hc];simp
    have HC:=hid hc
    clear hc
    go_wp2_with fail
    go_ret
    exact⟨ret_bool (contains_at s c k hlt HC.out).symm,rfl⟩
   ·have hc1:((s[k].toNat:Int)==(c.toNat:Int))=false:=by
     simp only[beq_eq_false_iff_ne,ne_eq];intro h;apply hc;apply UInt8.toNat_inj.1;omega
    have HC:=hid hc
    clear hc
    go_wp2_with fail
    go_round
    case rel=>exact⟨k+1,by omega,by go_num,hid (contains_take_next s c k hlt HA.out (by simpa using HC.out))⟩
    case measure=>simp[intOf];omega
  ·go_wp2_with fail
   go_ret
   exact⟨ret_bool (by have:=HA.out;rw[bl_take_ge s k (by omega)] at this;exact this.symm),rfl⟩
def PartsInv (s:ByteArray)(k from_:Nat)(out:List ByteArray):Prop:=
 (k≤s.size∧from_≤k∧(47:UInt8) ∉ ((bl s).drop from_).take (k-from_)∧psplit (bl s)=out.map bl++psplit ((bl s).drop from_))∨(k=s.size+1∧psplit (bl s)=out.map bl)
theorem PartsInv.next {s:ByteArray}{k from_:Nat}{out:List ByteArray}(h:PartsInv s k from_ out)(hk:k<s.size)(hc:¬ s[k]=47):PartsInv s (k+1) from_ out:=by
 rcases h with⟨h1,h2,h3,h4⟩ | ⟨h1,_⟩
 ·refine .inl ⟨by omega,by omega,?_,h4⟩
  have hl:k-from_<((bl s).drop from_).length:=by rw[List.length_drop,bl_length];omega
  rw[show k+1-from_=(k-from_)+1 by omega,List.take_succ_eq_append_getElem hl,List.mem_append,List.mem_singleton]
  rintro(h | h)
  ·exact h3 h
  ·apply hc
   have h5:=bl_get s k hk
   rw[List.getElem_drop] at h
   simp only[show from_+(k-from_)=k by omega] at h
   rw[←h5];exact h.symm
 ·omega
theorem PartsInv.hit {s:ByteArray}{k from_:Nat}{out:List ByteArray}(h:PartsInv s k from_ out)(hk:k<s.size)(hc:s[k]=47):PartsInv s (k+1) (k+1) (out++[s.extract from_ k]):=by
 rcases h with⟨h1,h2,h3,h4⟩ | ⟨h1,_⟩
 ·refine .inl ⟨by omega,lr,by simp,?_⟩
  have hg:((bl s).drop from_)[k-from_]?=some 47:=by
   rw[List.getElem?_drop,show from_+(k-from_)=k by omega,bl_get? s k hk,hc]
  rw[h4,psplit_hit _ _ h3 hg,List.map_append,List.append_assoc]
  congr 1
  simp only[List.map_cons,List.map_nil,List.singleton_append,bl_extract,List.drop_drop]
  rw[show from_+(k-from_+1)=k+1 by omega]
 ·omega
theorem PartsInv.last {s:ByteArray}{from_:Nat}{out:List ByteArray}(h:PartsInv s s.size from_ out):PartsInv s (s.size+1) (s.size+1) (out++[s.extract from_ s.size]):=by
 rcases h with⟨h1,h2,h3,h4⟩ | ⟨h1,_⟩
 ·refine .inr ⟨rfl,?_⟩
  have hn:(47:UInt8) ∉ (bl s).drop from_:=by
   rw[List.take_of_length_le (by rw[List.length_drop,bl_length];omega)] at h3;exact h3
  rw[h4,psplit_none _ hn,List.map_append]
  simp[bl_drop]
 ·omega
theorem PartsInv.le {s:ByteArray}{k from_:Nat}{out:List ByteArray}(h:PartsInv s k from_ out)(hk:k≤s.size):from_≤k∧out.length≤s.size+1:=by
 have hp:=psplit_length (bl s)
 rw[bl_length] at hp
 rcases h with⟨h1,h2,h3,h4⟩ | ⟨h1,_⟩
 ·refine⟨h2,?_⟩
  have:=congrArg List.length h4
  rw[List.length_append,List.length_map] at this;omega
 ·omega
def PartsPost (s:ByteArray)(w:World)(e:Ending)(w':World):Prop:=∃ A c,e=.returned (.slice A (psplitS s).length c)∧Rd w' 1 A (psplitS s).length (strCells (psplitS s))∧Below w.heap.size w w'
theorem ref_Parts (s:ByteArray)(w:World)(hs:s.size≤100000):
  Calls Tryz.prog 105 #[.string s] w (PartsPost s w):=by
 obtain⟨i0,hi0,hz0,hz1,hz2⟩:=info_parts info_str
 go_enter Tryz.func105,Tryz.ntmps105
 go_wp2_with fail
 go_loopw [3,4,5] (fun o f i wr=>∃ (k fr:Nat) (out:List ByteArray),k≤s.size+1∧fr≤s.size+1∧i=.int .i64 k∧f=.int .i64 fr∧Hid (PartsInv s k fr out)∧Hid (wr.ownsRow w.heap.size 9 1 o out.length (strCells out))∧Hid (Below w.heap.size w wr)) (fun _ _ i _=>s.size+1-(intOf i).toNat)
 case atStart=>exact⟨0,0,[],Nat.zero_le _,Nat.zero_le _,rfl,rfl,hid (.inl ⟨Nat.zero_le _,lr,by simp,by simp⟩),World.ownsRow_nil _ _ _ _,Below.refl _ _⟩
 case round=>
  obtain⟨k,fr,out,hk,hf,rfl,rfl,HI,HO,HB⟩:=hrel
  obtain⟨Ao,co,rfl⟩:=owns_form HO.out
  by_cases hle:k≤s.size
  ·obtain⟨hfk,hol⟩:=HI.out.le hle
   have fin:∀ (k:Nat),True:=fun _=>trivial
   by_cases hlt:k<s.size
   ·have hne:((k:Int)==(s.size:Int))=false:=by simp;omega
    by_cases hc:s[k]=47
    ·have hc1:((s[k].toNat:Int)==47)=true:=by rw[hc];rfl
     have HC:=hid hc
     clear hc
     go_wp2_with (at_builtin;refine wpList_append_any _ rfl _ _ _ rfl w.heap.size 9 i0 _ 1 16 Tryz.underlying22 hi0 hz0 hz1 hz2 rfl (by omega) (.slice Ao out.length co) out.length _ rfl (HO.out.alloc _) (wr.heap.size+1) (some ⟨wr.heap.size,0,none⟩) 1 1 [.string (s.extract fr k)] rfl (reads_one wr _) (by simp[Value.oneCell']) (by simp only[maxLen];omega) (by omega) (by simp;have:=HB.out.size;omega) ?_;intro v1 w1 o1 g1 a1)
     have O1:Hid (w1.ownsRow w.heap.size 9 1 v1 (out++[s.extract fr k]).length (strCells (out++[s.extract fr k]))):=by show World.ownsRow _ _ _ _ _ _ _;rw[List.length_append];simpa [strCells] using o1
     have B1:Hid (Below w.heap.size w w1):=(HB.out.alloc HB.out.size _).grown g1 (by simp;have:=HB.out.size;omega) (fun j hj=>(HO.out.lt j hj).1)
     clear o1 g1 a1
     go_roundw
     case rel=>exact⟨k+1,k+1,_,by omega,by omega,by go_num,by go_num,hid (HI.out.hit hlt HC.out),O1,B1⟩
     case measure=>simp[intOf];omega
    ·have hc1:((s[k].toNat:Int)==47)=false:=by
      simp only[beq_eq_false_iff_ne,ne_eq];intro h;apply hc;apply UInt8.toNat_inj.1;show _=47;omega
     have HC:=hid hc
     clear hc
     go_wp2_with fail
     go_roundw
     case rel=>exact⟨k+1,fr,out,by omega,by omega,by go_num,rfl,hid (HI.out.next hlt HC.out),HO,HB⟩
     case measure=>simp[intOf];omega
   ·obtain rfl:k=s.size:=by omega
    have hne:((s.size:Int)==(s.size:Int))=true:=by simp
    go_wp2_with (at_builtin;refine wpList_append_any _ rfl _ _ _ rfl w.heap.size 9 i0 _ 1 16 Tryz.underlying22 hi0 hz0 hz1 hz2 rfl (by omega) (.slice Ao out.length co) out.length _ rfl (HO.out.alloc _) (wr.heap.size+1) (some ⟨wr.heap.size,0,none⟩) 1 1 [.string (s.extract fr s.size)] rfl (reads_one wr _) (by simp[Value.oneCell']) (by simp only[maxLen];omega) (by omega) (by simp;have:=HB.out.size;omega) ?_;intro v1 w1 o1 g1 a1)
    have O1:Hid (w1.ownsRow w.heap.size 9 1 v1 (out++[s.extract fr s.size]).length (strCells (out++[s.extract fr s.size]))):=by show World.ownsRow _ _ _ _ _ _ _;rw[List.length_append];simpa [strCells] using o1
    have B1:Hid (Below w.heap.size w w1):=(HB.out.alloc HB.out.size _).grown g1 (by simp;have:=HB.out.size;omega) (fun j hj=>(HO.out.lt j hj).1)
    clear o1 g1 a1
    go_roundw
    case rel=>exact⟨s.size+1,s.size+1,_,by omega,by omega,by go_num,by go_num,hid HI.out.last,O1,B1⟩
    case measure=>simp[intOf]
  ·go_wp2_with fail
   go_ret
   have e:out=psplitS s:=by
    rcases HI.out with⟨h1,_⟩ | ⟨_,h2⟩
    ·omega
    ·unfold psplitS;rw[h2,map_baOf_bl]
   subst e
   exact⟨Ao,co,rfl,owns_rd HO.out,HB.out⟩
end
section
open Go.RowKit
def aFirst (c:UInt8):Bool:=letB c||digB c||c==46||c==95||c==47
def aNext (c:UInt8):Bool:=aFirst c||c==43||c==45||c==58||c==64
def anameB (l:List UInt8):Bool:=decide (1≤l.length∧l.length≤64)&&(match l with | c::_=>aFirst c | []=>false)&&l.all aNext
theorem of_bytes (p:UInt8→Bool)(h:(List.range 256).all (fun n=>p (UInt8.ofNat n))=true)(c:UInt8):p c=true:=by
 have:=List.all_eq_true.1 h c.toNat (List.mem_range.2 c.toNat_lt)
 simpa using this
theorem a_others (c:UInt8)(h1:letB c=false)(h2:digB c=false):(bl ⟨#[46,95,43,45,58,47,64]⟩).contains c=aNext c:=by
 simp only[aNext,aFirst,h1,h2,bl]
 rw[Bool.eq_iff_iff]
 simp
 grind
theorem a_head (c:UInt8)(h:aNext c=true):(bl ⟨#[45,43,58,64]⟩).contains c=!aFirst c:=by
 exact of_bytes (fun c=>!aNext c||((bl ⟨#[45,43,58,64]⟩).contains c == !aFirst c)) (by kernel_rfl) c |> fun hh=>by simpa [h] using hh
theorem aname_bad (s:ByteArray)(k:Nat)(h:k<s.size)(h1:aNext s[k]=false):anameB (bl s)=false:=by
 have:(bl s).all aNext=false:=by
  rw[List.all_eq_false]
  exact⟨s[k],List.mem_of_getElem? (bl_get? s k h),by rw[h1];simp⟩
 unfold anameB;rw[this,Bool.and_false]
theorem aname_good (s:ByteArray)(k:Nat)(h:¬ k<s.size)(h0:0<s.size)(h64:s.size≤64)(hf:(bl ⟨#[45,43,58,64]⟩).contains s[0]=false)(ha:((bl s).take k).all aNext=true):anameB (bl s)=true:=by
 rw[List.take_of_length_le (by rw[bl_length];omega)] at ha
 have hc:=bl_cons s h0
 have h1:aNext s[0]=true:=by rw[hc,List.all_cons,Bool.and_eq_true] at ha;exact ha.1
 have h2:aFirst s[0]=true:=by have:=a_head s[0] h1;rw[hf] at this;simpa using this.symm
 unfold anameB
 rw[ha,bl_length,decide_eq_true ⟨by omega,h64⟩]
 rw[hc]
 simp[h2]
theorem aname_head (s:ByteArray)(h0:0<s.size)(hf:(bl ⟨#[45,43,58,64]⟩).contains s[0]=true):anameB (bl s)=false:=by
 cases hn:aNext s[0] with
 | false=>exact aname_bad s 0 h0 hn
 | true=>
  have h2:aFirst s[0]=false:=by have:=a_head s[0] hn;rw[hf] at this;simpa using this.symm
  unfold anameB
  rw[bl_cons s h0]
  simp[h2]
theorem aname_size (s:ByteArray)(h:¬ (1≤s.size∧s.size≤64)):anameB (bl s)=false:=by
 unfold anameB;rw[bl_length,decide_eq_false h];rfl
theorem adep_Name (s:ByteArray)(w:World)(hs:s.size≤9223372036854775807):
  Calls Tryz.prog 93 #[.string s] w fun e w'=>e=.returned (.bool (anameB (bl s)))∧w=w':=by
 by_cases h0:s.size=0
 ·have he:s.toList=[]:=by rw[bl_toList,bl_nil s h0]
  have he2:s.toList.isEmpty=true:=by rw[he];rfl
  have E:Hid (anameB (bl s)=false):=aname_size s (by omega)
  go_enter Tryz.func93,Tryz.ntmps93
  go_wp2_with fail
  go_ret
  exact⟨ret_bool E.out.symm,rfl⟩
 have hp:0<s.size:=by omega
 have he2:s.toList.isEmpty=false:=by rw[bl_toList,bl_isEmpty];exact decide_eq_false h0
 have he:¬ s.toList=[]:=by intro h;rw[h] at he2;simp at he2
 by_cases h64:64<s.size
 ·have E:Hid (anameB (bl s)=false):=aname_size s (by omega)
  go_enter Tryz.func93,Tryz.ntmps93
  go_wp2_with fail
  go_ret
  exact⟨ret_bool E.out.symm,rfl⟩
 cases hf:(bl ⟨#[45,43,58,64]⟩).contains s[0] with
 | true=>
  have hn:=ixB_pos ⟨#[45,43,58,64]⟩ s[0] hf
  have E:Hid (anameB (bl s)=false):=aname_head s hp hf
  clear hf
  go_enter Tryz.func93,Tryz.ntmps93
  go_wp2_with (go_at_call 82;refine(IndexByte_any _ s[0] _).mono ?_;rintro e w' ⟨rfl,rfl⟩)
  go_ret
  exact⟨ret_bool E.out.symm,rfl⟩
 | false=>
  have hn:=ixB_neg ⟨#[45,43,58,64]⟩ s[0] hf
  have HF:=hid hf
  clear hf
  go_enter Tryz.func93,Tryz.ntmps93
  go_wp2_with (go_at_call 82;refine(IndexByte_any _ s[0] _).mono ?_;rintro e w' ⟨rfl,rfl⟩)
  go_loop [21] (fun i=>∃ k:Nat,k≤s.size∧i=.int .i64 k∧Hid (((bl s).take k).all aNext=true)) (fun i=>s.size-(intOf i).toNat)
  case atStart=>exact⟨0,Nat.zero_le _,rfl,by simp[Hid]⟩
  case round=>
   obtain⟨k,hk,rfl,HA⟩:=hrel
   by_cases hlt:k<s.size
   ·go_upto_region 7 with(fail)
    go_cut [5] (fun v wx=>v=.bool (letB s[k])∧w=wx)
    case first=>
     go_wp2_with fail
     all_goals go_meet
     all_goals (refine⟨?_,rfl⟩;congr 1;rw[Bool.eq_iff_iff];simp[letB,smlB,capB];omega)
    case rest=>
    obtain⟨rfl,rfl⟩:=hcut
    have IB:=fun W=>IndexByte_any ⟨#[46,95,43,45,58,47,64]⟩ s[k] W
    cases hl:letB s[k] with
    | true=>
     have HN:Hid (aNext s[k]=true):=by show _=_;simp[aNext,aFirst,hl]
     clear hl
     go_wp2_with fail
     go_round
     case rel=>exact⟨k+1,by omega,by go_num,by show _=_;rw[bl_take_all s k hlt,HA.out,HN.out];rfl⟩
     case measure=>simp[intOf];omega
    | false=>
     by_cases hd:48≤s[k].toNat∧s[k].toNat≤57
     ·obtain⟨d1,d2⟩:=hd
      have HN:Hid (aNext s[k]=true):=by show _=_;simp[aNext,aFirst,digB,d1,d2]
      clear hl
      go_wp2_with fail
      go_round
      case rel=>exact⟨k+1,by omega,by go_num,by show _=_;rw[bl_take_all s k hlt,HA.out,HN.out];rfl⟩
      case measure=>simp[intOf];omega
     ·have hdg:digB s[k]=false:=decide_eq_false hd
      have hco:=a_others s[k] hl hdg
      cases hn2:aNext s[k] with
      | true=>
       have hx:=ixB_pos ⟨#[46,95,43,45,58,47,64]⟩ s[k] (by rw[hco,hn2])
       have HN:=hid hn2
       clear hl hco hn2 hdg IB
       by_cases d1:s[k].toNat<48
       ·clear hd
        go_wp2_with (go_at_call 82;refine(IndexByte_any _ s[k] _).mono ?_;rintro e w' ⟨rfl,rfl⟩)
        go_round
        case rel=>exact⟨k+1,by omega,by go_num,by show _=_;rw[bl_take_all s k hlt,HA.out,HN.out];rfl⟩
        case measure=>simp[intOf];omega
       ·have d2:57<s[k].toNat:=by omega
        clear hd
        go_wp2_with (go_at_call 82;refine(IndexByte_any _ s[k] _).mono ?_;rintro e w' ⟨rfl,rfl⟩)
        go_round
        case rel=>exact⟨k+1,by omega,by go_num,by show _=_;rw[bl_take_all s k hlt,HA.out,HN.out];rfl⟩
        case measure=>simp[intOf];omega
      | false=>
       have hx:=ixB_neg ⟨#[46,95,43,45,58,47,64]⟩ s[k] (by rw[hco,hn2])
       have E:Hid (anameB (bl s)=false):=aname_bad s k hlt hn2
       clear hl hco hn2 hdg IB
       by_cases d1:s[k].toNat<48
       ·clear hd
        go_wp2_with (go_at_call 82;refine(IndexByte_any _ s[k] _).mono ?_;rintro e w' ⟨rfl,rfl⟩)
        go_ret
        exact⟨ret_bool E.out.symm,rfl⟩
       ·have d2:57<s[k].toNat:=by omega
        clear hd
        go_wp2_with (go_at_call 82;refine(IndexByte_any _ s[k] _).mono ?_;rintro e w' ⟨rfl,rfl⟩)
        go_ret
        exact⟨ret_bool E.out.symm,rfl⟩
   ·go_wp2_with fail
    go_ret
    exact⟨ret_bool (aname_good s k hlt hp (by omega) HF.out HA.out).symm,rfl⟩
end
section
open Go.RowKit
def parS (s:ByteArray):ByteArray:=⟨((parentL (bl s)).getD []).toArray⟩
def parB (s:ByteArray):Bool:=(parentL (bl s)).isSome
def parV (s:ByteArray):Value:=.tuple #[.string (parS s),.bool (parB s)]
theorem parV_none {s:ByteArray}(h:parentL (bl s)=none):parV s=.tuple #[.string ⟨#[]⟩,.bool false]:=by simp[parV,parS,parB,h]
theorem parV_some {s:ByteArray}{i:Nat}(h:parentL (bl s)=some ((bl s).take i)):parV s=.tuple #[.string (s.extract 0 i),.bool true]:=by
 simp only[parV,parS,parB,h,Option.getD_some,Option.isSome_some]
 congr 3
 apply congrArg;apply bl_inj;rw[bl_mk,bl_take]
theorem entry_Parent (s:ByteArray)(w:World)(hG:Gl w)(hs:s.size≤4294967280):
  Calls Tryz.prog 64 #[.string s] w fun e w'=>e=.returned (parV s)∧Below w.heap.size w w':=by
 have HG:=hid hG;clear hG
 cases hl:lastL 47 (bl s) with
 | none=>
  have E:Hid (parentL (bl s)=none):=by show _=_;unfold parentL;rw[hl];simp
  have HL:=hid hl;clear hl
  go_enter Tryz.func64,Tryz.ntmps64
  go_wp2_with fail
  refine(LastIndexByte_none s 47 _ (by omega) HL).mono ?_;rintro e w' ⟨rfl,rfl⟩
  go_wp2_with fail
  go_ret2
  exact⟨by rw[parV_none E.out];rfl,Below.refl _ _⟩
 | some i=>
  have hi:i<s.size:=by have:=lastL_lt _ _ _ hl;rw[bl_length] at this;exact this
  cases hp:pathB (bl s)
  ·have E:Hid (parentL (bl s)=none):=by show _=_;unfold parentL;rw[hp];rfl
   have HL:=hid hl;have HP:=hid hp;clear hl hp
   go_enter Tryz.func64,Tryz.ntmps64
   go_wp2_with fail
   refine(LastIndexByte_some s 47 i _ (by omega) HL).mono ?_;rintro e w' ⟨rfl,rfl⟩
   go_wp2_with fail
   refine(entry_Path s _ HG.out (by omega)).mono ?_;rintro e w1 ⟨rfl,hb⟩
   rw[HP.out]
   have HB:=hid hb;clear hb
   go_wp2_with fail
   go_ret2
   exact⟨by rw[parV_none E.out];rfl,HB.out⟩
  ·have E:Hid (parentL (bl s)=some ((bl s).take i)):=by show _=_;unfold parentL;rw[hp,hl];rfl
   have HL:=hid hl;have HP:=hid hp;clear hl hp
   go_enter Tryz.func64,Tryz.ntmps64
   go_wp2_with fail
   refine(LastIndexByte_some s 47 i _ (by omega) HL).mono ?_;rintro e w' ⟨rfl,rfl⟩
   go_wp2_with fail
   refine(entry_Path s _ HG.out (by omega)).mono ?_;rintro e w1 ⟨rfl,hb⟩
   rw[HP.out]
   have HB:=hid hb;clear hb
   go_wp2_with fail
   go_ret2
   exact⟨by rw[parV_some E.out];rfl,HB.out⟩
theorem ref_Path (s:ByteArray)(w:World)(hs:s.size≤9223372036854775807):
  Calls Tryz.prog 74 #[.string s] w fun e w'=>e=.returned (.bool (pathB (bl s)))∧Below w.heap.size w w':=by
 by_cases h1:s.size<1
 ·have E:Hid (pathB (bl s)=false):=by show _=_;unfold pathB;rw[bl_length,show decide (1≤s.size)=false from decide_eq_false (by omega)];rfl
  go_enter Tryz.func74,Tryz.ntmps74
  go_wp2_with fail
  go_ret
  exact⟨ret_bool E.out.symm,Below.refl _ _⟩
 by_cases h2:200<s.size
 ·have E:Hid (pathB (bl s)=false):=by show _=_;unfold pathB;rw[bl_length,show decide (s.size≤200)=false from decide_eq_false (by omega)];simp
  go_enter Tryz.func74,Tryz.ntmps74
  go_wp2_with fail
  go_ret
  exact⟨ret_bool E.out.symm,Below.refl _ _⟩
 go_enter Tryz.func74,Tryz.ntmps74
 go_wp2_with fail
 refine(ref_Has s 0 _ hs).mono ?_;rintro e w' ⟨rfl,rfl⟩
 unfold hasB
 cases h0:(bl s).contains 0
 ·go_wp2_with fail
  refine(ref_Parts s _ (by omega)).mono ?_;rintro e w1 ⟨Ap,cp,rfl,hr,hb⟩
  have HR:=hid hr;have HB:=hid hb;clear hr hb
  have hN:(psplitS s).length≤201:=by rw[psplitS_len];have:=psplit_length (bl s);rw[bl_length] at this;omega
  have E:Hid (pathB (bl s)=(psplit (bl s)).all partB):=by show _=_;unfold pathB;rw[h0,bl_length,show decide (1≤s.size)=true from decide_eq_true (by omega),show decide (s.size≤200)=true from decide_eq_true (by omega)];simp
  have HL:=hid (psplitS_len s)
  clear h0
  go_wp2_with fail
  go_loop [4] (fun i=>∃ k:Nat,k≤(psplitS s).length∧i=.int .i64 k∧Hid (((psplit (bl s)).take k).all partB=true)) (fun i=>(psplitS s).length-(intOf i).toNat)
  case atStart=>exact⟨0,Nat.zero_le _,rfl,by simp[Hid]⟩
  case round=>
   obtain⟨k,hk,rfl,HA⟩:=hrel
   by_cases hlt:k<(psplitS s).length
   ·obtain⟨x,hx⟩:∃ x,(psplitS s)[k]?=some x:=⟨_,List.getElem?_eq_getElem hlt⟩
    obtain⟨b,off,hA,he⟩:=HR.out.str k x hx
    have hix:=fun W=>idx_of (T:=22) (E:=9) (sz:=1) (c:=cp) Tryz.underlying22 rfl Tryz.sizeOf9 hA hlt W
    simp only[Nat.mul_one] at hix
    have HX:=hid (psplitS_get s k x hx)
    clear hx hA
    go_wp2_with fail
    ·go_ret
     exact⟨ret_bool (by rw[E.out];exact(all_bad HX.out (by rw[partB_bl];simp_all)).symm),HB.out⟩
    ·go_ret
     exact⟨ret_bool (by rw[E.out];exact(all_bad HX.out (by rw[partB_bl];simp_all)).symm),HB.out⟩
    ·go_ret
     exact⟨ret_bool (by rw[E.out];exact(all_bad HX.out (by rw[partB_bl];simp_all)).symm),HB.out⟩
    ·go_round
     case rel=>exact⟨k+1,by omega,by go_num,hid (all_next HX.out HA.out (by rw[partB_bl];simp_all))⟩
     case measure=>simp[intOf];omega
   ·go_wp2_with fail
    go_ret
    exact⟨ret_bool (by rw[E.out];have:=HA.out;rw[List.take_of_length_le (by rw[←HL.out];omega)] at this;exact this.symm),HB.out⟩
 ·have E:Hid (pathB (bl s)=false):=by show _=_;unfold pathB;rw[h0];simp
  go_wp2_with fail
  go_ret
  exact⟨ret_bool E.out.symm,Below.refl _ _⟩
theorem pathB_le {s:ByteArray}(h:pathB (bl s)=true):s.size≤200:=by
 unfold pathB at h
 rw[Bool.and_eq_true,Bool.and_eq_true,Bool.and_eq_true] at h
 have:=of_decide_eq_true h.1.1.2
 rw[bl_length] at this;exact this
theorem ref_Parts_at (s:ByteArray)(n:Nat)(hn:Hid ((psplitS s).length=n))(w:World)(hs:s.size≤100000):
  Calls Tryz.prog 105 #[.string s] w fun e w'=>∃ A c,e=.returned (.slice A n c)∧Rd w' 1 A (psplitS s).length (strCells (psplitS s))∧Below w.heap.size w w':=
 (ref_Parts s w hs).mono fun e w' ⟨A,c,h1,h2,h3⟩=>⟨A,c,by rw[←hn.out];exact h1,h2,h3⟩
theorem ref_Parent (s:ByteArray)(w:World)(hs:s.size≤9223372036854775807):
  Calls Tryz.prog 76 #[.string s] w fun e w'=>e=.returned (parV s)∧Below w.heap.size w w':=by
 cases hp:pathB (bl s)
 ·have E:Hid (parentL (bl s)=none):=by show _=_;unfold parentL;rw[hp];rfl
  have HP:=hid hp;clear hp
  go_enter Tryz.func76,Tryz.ntmps76
  go_wp2_with fail
  refine(ref_Path s _ hs).mono ?_;rintro e w1 ⟨rfl,hb⟩
  rw[HP.out]
  have HB:=hid hb;clear hb
  go_wp2_with fail
  go_ret2
  exact⟨by rw[parV_none E.out];rfl,HB.out⟩
 have h200:=pathB_le hp
 cases hl:lastL 47 (bl s) with
 | none=>
  have E:Hid (parentL (bl s)=none):=by show _=_;unfold parentL;rw[hp,hl];rfl
  have HN:Hid ((psplitS s).length=1):=by show _=_;rw[psplitS_len,(psplit_last (bl s)).1 hl];rfl
  have HP:=hid hp;clear hp hl
  go_enter Tryz.func76,Tryz.ntmps76
  go_wp2_with fail
  refine(ref_Path s _ hs).mono ?_;rintro e w1 ⟨rfl,hb⟩
  rw[HP.out]
  have HB:=hid hb;clear hb
  go_wp2_with fail
  refine(ref_Parts_at s 1 HN _ (by omega)).mono ?_;rintro e w2 ⟨Ap,cp,rfl,_,hb2⟩
  have HB2:=hid (bthen HB.out hb2);clear hb2
  go_wp2_with fail
  go_ret2
  exact⟨by rw[parV_none E.out];rfl,HB2.out⟩
 | some i=>
  have hi:i<s.size:=by have:=lastL_lt _ _ _ hl;rw[bl_length] at this;exact this
  have E:Hid (parentL (bl s)=some ((bl s).take i)):=by show _=_;unfold parentL;rw[hp,hl];rfl
  obtain⟨h2,h3⟩:=(psplit_last (bl s)).2 i hl
  obtain⟨M,hM⟩:∃ M,(psplitS s).length=M+1:=⟨(psplitS s).length-1,by rw[psplitS_len];omega⟩
  have hM1:1≤M:=by rw[psplitS_len] at hM;omega
  have hM2:M≤1000:=by have:=psplit_length (bl s);rw[←psplitS_len,bl_length] at this;omega
  obtain⟨x,hx⟩:∃ x,(psplitS s)[M]?=some x:=⟨_,List.getElem?_eq_getElem (by omega)⟩
  have hxl:x.size=s.size-i-1:=by
   have h4:=psplitS_get s M x hx
   rw[List.getLast?_eq_getElem?,←psplitS_len,hM,show M+1-1=M by omega,h4] at h3
   injection h3 with h3
   have:=congrArg List.length h3
   rw[bl_length,List.length_drop,bl_length] at this;omega
  have HN:=hid hM
  have HP:=hid hp;have HX:=hid hx;have HXL:=hid hxl
  clear hp hl h3 hM hx hxl h2
  go_enter Tryz.func76,Tryz.ntmps76
  go_wp2_with fail
  refine(ref_Path s _ hs).mono ?_;rintro e w1 ⟨rfl,hb⟩
  rw[HP.out]
  have HB:=hid hb;clear hb
  go_wp2_with fail
  refine(ref_Parts_at s (M+1) HN _ (by omega)).mono ?_;rintro e w2 ⟨Ap,cp,rfl,hr,hb2⟩
  have HB2:=hid (bthen HB.out hb2);clear hb2
  obtain⟨b,off,hA,he⟩:=hr.str M x HX.out
  have hix:=fun W=>idx_of (T:=22) (E:=9) (sz:=1) (c:=cp) (n:=M+1) Tryz.underlying22 rfl Tryz.sizeOf9 hA (show M<M+1 by omega) W
  simp only[Nat.mul_one] at hix
  clear hr hA
  have hx1:(x.size:Int)=(s.size:Int)-i-1:=by have:=HXL.out;omega
  go_wp2_with fail
  go_ret2
  refine⟨?_,HB2.out⟩
  rw[parV_some E.out]
  simp
  congr 1;omega
end
section
open Go.RowKit
theorem bneI {a:Nat}{b:Int}(h:(a:Int)≠b):((a:Int) != b)=true:=by simp[bne,h]
def aHead:List UInt8→Bool
 | c::_=>aFirst c
 | []=>false
theorem anameB_eq (l:List UInt8):anameB l=(decide (1≤l.length∧l.length≤64)&&aHead l&&l.all aNext):=by cases l<;>rfl
def aAt (l:List UInt8)(k:Nat):Bool:=(l.take k).all aNext&&(decide (k=0)||aHead l)
theorem aname_at (s:ByteArray)(k:Nat)(h:¬ k<s.size)(hk:k≤s.size)(ha:aAt (bl s) k=true):anameB (bl s)=decide (1≤s.size∧s.size≤64):=by
 obtain rfl:k=s.size:=by omega
 by_cases h1:1≤s.size∧s.size≤64
 ·unfold aAt at ha
  rw[List.take_of_length_le (by rw[bl_length];omega),Bool.and_eq_true] at ha
  rw[anameB_eq,bl_length,ha.1]
  have h2:=ha.2
  rw[dF,Bool.false_or] at h2
  rw[h2];simp
 ·rw[aname_size s h1,decide_eq_false h1]
theorem aAt_step (s:ByteArray)(k:Nat)(h:k<s.size)(ha:aAt (bl s) k=true)(h1:aNext s[k]=true)(h2:k=0→aFirst s[k]=true):aAt (bl s) (k+1)=true:=by
 unfold aAt at ha ⊢
 rw[Bool.and_eq_true] at ha
 rw[bl_take_all s k h,ha.1,h1]
 by_cases k0:k=0
 ·subst k0;rw[bl_cons s h];simp[aHead,h2 rfl]
 ·have:=ha.2;rw[decide_eq_false k0,Bool.false_or] at this;simp[this]
theorem aAt_bad0 (s:ByteArray)(h:0<s.size)(h1:aFirst s[0]=false):anameB (bl s)=false:=by
 rw[anameB_eq,bl_cons s h];simp[aHead,h1]
theorem r16_Name (s:ByteArray)(w:World)(hs:s.size≤9223372036854775807):
  Calls Tryz.prog 102 #[.string s] w fun e w'=>e=.returned (.bool (anameB (bl s)))∧w=w':=by
 go_enter Tryz.func102,Tryz.ntmps102
 go_wp2_with fail
 go_loop [3] (fun i=>∃ k:Nat,k≤s.size∧i=.int .i64 k∧Hid (aAt (bl s) k=true)) (fun i=>s.size-(intOf i).toNat)
 case atStart=>exact⟨0,Nat.zero_le _,rfl,by simp[Hid,aAt]⟩
 case round=>
  obtain⟨k,hk,rfl,HA⟩:=hrel
  by_cases hlt:k<s.size
  ·obtain⟨c,hc⟩:∃ c:UInt8,s[k]=c:=⟨_,rfl⟩
   have hcc:∀ n:UInt8,c=n↔c.toNat=n.toNat:=fun n=>UInt8.toNat_inj.symm
   have STEP:=hid (aAt_step s k hlt HA.out)
   have BAD:=hid (aname_bad s k hlt)
   have BAD0:Hid (k=0→aFirst c=false→anameB (bl s)=false):=by
    intro k0 h;subst k0;exact aAt_bad0 s hlt (by rw[hc];exact h)
   rw[hc] at STEP BAD
   go_upto_region 5 with(fail)
   go_cut [4,5] (fun u v wx=>u=.int .u8 c.toNat∧v=.bool (aFirst c)∧w=wx)
   case first=>
    go_wp2_with fail
    all_goals go_meet
    all_goals (refine⟨by first | rfl | (congr 1;omega),?_,rfl⟩;congr 1;rw[Bool.eq_iff_iff];simp[aFirst,letB,smlB,capB,digB,hcc];omega)
   case rest=>
   obtain⟨rfl,rfl,rfl⟩:=hcut
   clear hc
   cases hf:aFirst c with
   | true=>
    have HN:Hid (aAt (bl s) (k+1)=true):=STEP.out (by simp[aNext,hf]) (fun _=>hf)
    clear hf
    go_wp2_with fail
    go_round
    case rel=>exact⟨k+1,by omega,by go_num,HN⟩
    case measure=>simp[intOf];omega
   | false=>
    by_cases k0:k=0
    ·have E:=hid (BAD0.out k0 hf)
     have k1:((k:Int)==0)=true:=by simpa using k0
     clear hf
     go_wp2_with fail
     go_ret
     exact⟨ret_bool E.out.symm,rfl⟩
    ·have k1:((k:Int)==0)=false:=by simpa using k0
     cases hn:aNext c with
     | true=>
      have HN:Hid (aAt (bl s) (k+1)=true):=STEP.out hn (fun h=>absurd h k0)
      have hq:c.toNat=43∨c.toNat=45∨c.toNat=58∨c.toNat=64:=by
       simp only[aNext,hf,Bool.false_or,Bool.or_eq_true,beq_iff_eq,hcc] at hn
       revert hn;simp;omega
      clear hf hn
      rcases hq with h | h | h | h
      ·go_wp2_with fail
       go_round
       case rel=>exact⟨k+1,by omega,by go_num,HN⟩
       case measure=>simp[intOf];omega
      ·go_wp2_with fail
       go_round
       case rel=>exact⟨k+1,by omega,by go_num,HN⟩
       case measure=>simp[intOf];omega
      ·go_wp2_with fail
       go_round
       case rel=>exact⟨k+1,by omega,by go_num,HN⟩
       case measure=>simp[intOf];omega
      ·go_wp2_with fail
       go_round
       case rel=>exact⟨k+1,by omega,by go_num,HN⟩
       case measure=>simp[intOf];omega
     | false=>
      have E:=hid (BAD.out hn)
      have hq:c.toNat≠43∧c.toNat≠45∧c.toNat≠58∧c.toNat≠64:=by
       simp only[aNext,hf,Bool.false_or,Bool.or_eq_false_iff,beq_eq_false_iff_ne,ne_eq,hcc] at hn
       revert hn;simp;omega
      obtain⟨q1,q2,q3,q4⟩:=hq
      have b1:=bneI (b:=43) (by omega:(c.toNat:Int)≠43)
      have b2:=bneI (b:=45) (by omega:(c.toNat:Int)≠45)
      have b3:=bneI (b:=58) (by omega:(c.toNat:Int)≠58)
      have b4:=bneI (b:=64) (by omega:(c.toNat:Int)≠64)
      clear q1 q2 q3 q4
      clear hf hn
      go_wp2_with fail
      go_ret
      exact⟨ret_bool E.out.symm,rfl⟩
  ·have E:=hid (aname_at s k hlt hk HA.out)
   go_wp2_with fail
   all_goals go_ret
   all_goals (refine⟨ret_bool ?_,rfl⟩;rw[E.out];rw[Bool.eq_iff_iff];simp;omega)
end
section
open Go.RowKit
def rOther (c:UInt8):Bool:=letB c||digB c||c==46||c==95||c==43||c==45||c==47||c==58
def rPlain (c:UInt8):Bool:=letB c||digB c||c==47
def rHead:List UInt8→Bool
 | c::_=>rPlain c
 | []=>false
def rStep (o:Option Nat)(c:UInt8):Option Nat:=match o with
 | none=>none
 | some n=>if c==40 then some (n+1) else if c==41 then (if n=0 then none else some (n-1)) else if rOther c then some n else none
def rnameB (l:List UInt8):Bool:=decide (1≤l.length∧l.length≤64)&&rHead l&&decide (l.foldl rStep (some 0)=some 0)
theorem rStep_none:∀ l:List UInt8,l.foldl rStep none=none
 | []=>rfl
 | _::r=>rStep_none r
theorem foldl_take {α:Type}(f:α→UInt8→α)(z:α)(s:ByteArray)(k:Nat)(h:k<s.size):((bl s).take (k+1)).foldl f z=f (((bl s).take k).foldl f z) s[k]:=by
 rw[List.take_succ_eq_append_getElem (by rw[bl_length];exact h),List.foldl_append,bl_get s k h];rfl
theorem rname_bad (s:ByteArray)(k n:Nat)(h:k<s.size)(h0:((bl s).take k).foldl rStep (some 0)=some n)(h1:rStep (some n) s[k]=none):rnameB (bl s)=false:=by
 have h2:=foldl_take rStep (some 0) s k h
 rw[h0,h1] at h2
 have:(bl s).foldl rStep (some 0)=none:=by
  rw[←List.take_append_drop (k+1) (bl s),List.foldl_append,h2,rStep_none]
 unfold rnameB;rw[this];simp
theorem rname_next (s:ByteArray)(k n m:Nat)(h:k<s.size)(h0:((bl s).take k).foldl rStep (some 0)=some n)(h1:rStep (some n) s[k]=some m):((bl s).take (k+1)).foldl rStep (some 0)=some m:=by
 rw[foldl_take rStep (some 0) s k h,h0,h1]
theorem rname_end (s:ByteArray)(k n:Nat)(h:¬ k<s.size)(h0:((bl s).take k).foldl rStep (some 0)=some n)(h1:1≤s.size)(h2:s.size≤64)(h3:rHead (bl s)=true):rnameB (bl s)=decide (n=0):=by
 rw[List.take_of_length_le (by rw[bl_length];omega)] at h0
 unfold rnameB;rw[h0,h3,bl_length,decide_eq_true ⟨h1,h2⟩];simp
theorem rname_size (s:ByteArray)(h:¬ (1≤s.size∧s.size≤64)):rnameB (bl s)=false:=by
 unfold rnameB;rw[bl_length,decide_eq_false h];rfl
theorem rname_head (s:ByteArray)(h:rHead (bl s)=false):rnameB (bl s)=false:=by
 unfold rnameB;rw[h];simp
theorem rHead_pos (s:ByteArray)(h:0<s.size):rHead (bl s)=rPlain s[0]:=by rw[bl_cons s h];rfl
theorem r_others (c:UInt8)(h1:letB c=false)(h2:digB c=false):(bl ⟨#[46,95,43,45,47,58]⟩).contains c=rOther c:=by
 exact of_bytes (fun c=>letB c||digB c||((bl ⟨#[46,95,43,45,47,58]⟩).contains c==rOther c)) (by kernel_rfl) c |> fun hh=>by simpa [h1,h2] using hh
theorem rdep_letter (c:UInt8)(w:World):Calls Tryz.prog 135 #[.int .u8 c.toNat] w fun e w'=>e=.returned (.bool (letB c))∧w=w':=by
 go_enter Tryz.func135,Tryz.ntmps135
 go_wp2_with fail
 all_goals go_ret
 all_goals (refine⟨ret_bool ?_,rfl⟩;rw[Bool.eq_iff_iff];simp[letB,smlB,capB];omega)
theorem rdep_digit (c:UInt8)(w:World):Calls Tryz.prog 136 #[.int .u8 c.toNat] w fun e w'=>e=.returned (.bool (digB c))∧w=w':=by
 go_enter Tryz.func136,Tryz.ntmps136
 go_wp2_with fail
 all_goals go_ret
 all_goals (refine⟨ret_bool ?_,rfl⟩;rw[Bool.eq_iff_iff];simp[digB];omega)
end
section
open Go.RowKit
theorem r15_Name (s:ByteArray)(w:World)(hs:s.size≤9223372036854775807):
  Calls Tryz.prog 103 #[.string s] w fun e w'=>e=.returned (.bool (rnameB (bl s)))∧w=w':=by
 by_cases h0:s.size<1
 ·have E:Hid (rnameB (bl s)=false):=rname_size s (by omega)
  go_enter Tryz.func103,Tryz.ntmps103
  go_wp2_with fail
  go_ret
  exact⟨ret_bool E.out.symm,rfl⟩
 by_cases h64:64<s.size
 ·have E:Hid (rnameB (bl s)=false):=rname_size s (by omega)
  go_enter Tryz.func103,Tryz.ntmps103
  go_wp2_with fail
  go_ret
  exact⟨ret_bool E.out.symm,rfl⟩
 have hp:0<s.size:=by omega
 have HH:=hid (rHead_pos s hp)
 go_enter Tryz.func103,Tryz.ntmps103
 go_wp2_with fail
 go_loop [3,4] (fun o i=>∃ k n:Nat,k≤s.size∧n≤k∧o=.int .i64 n∧i=.int .i64 k∧Hid (((bl s).take k).foldl rStep (some 0)=some n)∧Hid (0<k→rHead (bl s)=true)) (fun _ i=>s.size-(intOf i).toNat)
 case atStart=>exact⟨0,0,Nat.zero_le _,lr,rfl,rfl,by simp[Hid],fun h=>absurd h (Nat.lt_irrefl 0)⟩
 case round=>
  obtain⟨k,n,hk,hn,rfl,rfl,HA,HK⟩:=hrel
  by_cases hlt:k<s.size
  ·obtain⟨c,hc⟩:∃ c:UInt8,s[k]=c:=⟨_,rfl⟩
   have NX:=hid (fun m=>rname_next s k n m hlt HA.out)
   have BD:=hid (rname_bad s k n hlt HA.out)
   have H0:Hid (k=0→rHead (bl s)=rPlain c):=by intro k0;rw[HH.out];subst k0;rw[hc]
   rw[hc] at NX BD
   have hcc:∀ n:UInt8,c=n↔c.toNat=n.toNat:=fun n=>UInt8.toNat_inj.symm
   go_upto_region 8 with(fail)
   go_cut [5,48] (fun u v wx=>u=.int .u8 c.toNat∧v=.bool (rPlain c)∧w=wx)
   case first=>
    go_wp2_with fail
    all_goals go_meet
    all_goals (refine⟨by first | rfl | (congr 1;omega),?_,rfl⟩;congr 1;rw[Bool.eq_iff_iff];simp[rPlain,letB,smlB,capB,digB,hcc];omega)
   case rest=>
   obtain⟨rfl,rfl,rfl⟩:=hcut
   clear hc
   cases hp0:rPlain c with
   | true=>
    have ho:rOther c=true:=by simp only[rPlain,Bool.or_eq_true] at hp0;simp only[rOther,Bool.or_eq_true];rcases hp0 with(h | h) | h<;>simp[h]
    have e40:(c==40)=false:=of_bytes (fun c=>!rPlain c || !(c==40)) (by kernel_rfl) c |> fun hh=>by simpa [hp0] using hh
    have e41:(c==41)=false:=of_bytes (fun c=>!rPlain c || !(c==41)) (by kernel_rfl) c |> fun hh=>by simpa [hp0] using hh
    have HN:=hid (NX.out n (by simp[rStep,e40,e41,ho]))
    have HP:Hid (0<k+1→rHead (bl s)=true):=by
     intro _;by_cases k0:k=0
     ·rw[H0.out k0,hp0]
     ·exact HK.out (by omega)
    clear ho e40 e41 hp0
    go_wp2_with fail
    go_round
    case rel=>exact⟨k+1,n,by omega,by omega,by go_num,by go_num,HN,HP⟩
    case measure=>simp[intOf];omega
   | false=>
    by_cases k0:k=0
    ·have E:Hid (rnameB (bl s)=false):=rname_head s (by rw[H0.out k0,hp0])
     have k1:((k:Int)==0)=true:=by simpa using k0
     clear hp0
     go_wp2_with fail
     go_ret
     exact⟨ret_bool E.out.symm,rfl⟩
    have k1:((k:Int)==0)=false:=by simpa using k0
    have HP:Hid (0<k+1→rHead (bl s)=true):=fun _=>HK.out (by omega)
    by_cases c40:c.toNat=40
    ·have e40:(c==40)=true:=by rw[beq_iff_eq,hcc];exact c40
     have HN:=hid (NX.out (n+1) (by simp[rStep,e40]))
     clear e40 hp0
     go_wp2_with fail
     go_round
     case rel=>exact⟨k+1,n+1,by omega,by omega,by go_num,by go_num,HN,HP⟩
     case measure=>simp[intOf];omega
    have e40:(c==40)=false:=by rw[beq_eq_false_iff_ne,ne_eq,hcc];exact c40
    by_cases c41:c.toNat=41
    ·have e41:(c==41)=true:=by rw[beq_iff_eq,hcc];exact c41
     by_cases n0:n=0
     ·have E:=hid (BD.out (by simp[rStep,e40,e41,n0]))
      subst n0
      clear e40 e41 hp0
      go_wp2_with fail
      go_ret
      exact⟨ret_bool E.out.symm,rfl⟩
     ·have HN:=hid (NX.out (n-1) (by simp[rStep,e40,e41,n0]))
      obtain⟨m,rfl⟩:∃ m,n=m+1:=⟨n-1,by omega⟩
      clear e40 e41 hp0
      go_wp2_with fail
      go_round
      case rel=>exact⟨k+1,m,by omega,by omega,by go_num,by go_num,HN,HP⟩
      case measure=>simp[intOf];omega
    have e41:(c==41)=false:=by rw[beq_eq_false_iff_ne,ne_eq,hcc];exact c41
    have OT:rOther c=(c==46||c==95||c==43||c==45||c==58):=
     of_bytes (fun c=>rPlain c||(rOther c==(c==46||c==95||c==43||c==45||c==58))) (by kernel_rfl) c |> fun hh=>by simpa [hp0] using hh
    cases ho:rOther c with
    | true=>
     have HN:=hid (NX.out n (by simp[rStep,e40,e41,ho]))
     have hq:c.toNat=46∨c.toNat=95∨c.toNat=43∨c.toNat=45∨c.toNat=58:=by
      rw[ho] at OT;replace OT:=OT.symm
      simp only[Bool.or_eq_true,beq_iff_eq,hcc] at OT
      revert OT;simp;omega
     clear ho e40 e41 OT hp0
     rcases hq with h | h | h | h | h
     ·go_wp2_with fail
      go_round
      case rel=>exact⟨k+1,n,by omega,by omega,by go_num,by go_num,HN,HP⟩
      case measure=>simp[intOf];omega
     ·go_wp2_with fail
      go_round
      case rel=>exact⟨k+1,n,by omega,by omega,by go_num,by go_num,HN,HP⟩
      case measure=>simp[intOf];omega
     ·go_wp2_with fail
      go_round
      case rel=>exact⟨k+1,n,by omega,by omega,by go_num,by go_num,HN,HP⟩
      case measure=>simp[intOf];omega
     ·go_wp2_with fail
      go_round
      case rel=>exact⟨k+1,n,by omega,by omega,by go_num,by go_num,HN,HP⟩
      case measure=>simp[intOf];omega
     ·go_wp2_with fail
      go_round
      case rel=>exact⟨k+1,n,by omega,by omega,by go_num,by go_num,HN,HP⟩
      case measure=>simp[intOf];omega
    | false=>
     have E:=hid (BD.out (by simp[rStep,e40,e41,ho]))
     have hq:c.toNat≠46∧c.toNat≠95∧c.toNat≠43∧c.toNat≠45∧c.toNat≠58:=by
      rw[ho] at OT;replace OT:=OT.symm
      simp only[Bool.or_eq_false_iff,beq_eq_false_iff_ne,ne_eq,hcc] at OT
      revert OT;simp;omega
     obtain⟨q1,q2,q3,q4,q5⟩:=hq
     have b1:=bneI (b:=46) (by omega:(c.toNat:Int)≠46)
     have b2:=bneI (b:=95) (by omega:(c.toNat:Int)≠95)
     have b3:=bneI (b:=43) (by omega:(c.toNat:Int)≠43)
     have b4:=bneI (b:=45) (by omega:(c.toNat:Int)≠45)
     have b5:=bneI (b:=58) (by omega:(c.toNat:Int)≠58)
     clear q1 q2 q3 q4 q5
     clear ho e40 e41 OT hp0
     go_wp2_with fail
     go_ret
     exact⟨ret_bool E.out.symm,rfl⟩
  ·have E:=hid (rname_end s k n hlt HA.out (by omega) (by omega) (HK.out (by omega)))
   go_wp2_with fail
   go_ret
   exact⟨ret_bool (by rw[E.out,Bool.eq_iff_iff];simp),rfl⟩
def inL (l:List UInt8)(c:UInt8):Bool:=l.contains c
def made14 (o s:ByteArray)(lo hi:Nat):Bool:=decide (lo≤s.size∧s.size≤hi)&&dmadeB (bl o) (bl s)
theorem r14_in (c:UInt8)(s:ByteArray)(w:World)(hs:s.size≤9223372036854775807):
  Calls Tryz.prog 142 #[.int .u8 c.toNat,.string s] w fun e w'=>e=.returned (.bool (inL (bl s) c))∧w=w':=by
 go_enter Tryz.func142,Tryz.ntmps142
 go_wp2_with fail
 go_loop [5] (fun i=>∃ k:Nat,k≤s.size∧i=.int .i64 k∧Hid (((bl s).take k).contains c=false)) (fun i=>s.size-(intOf i).toNat)
 case atStart=>exact⟨0,Nat.zero_le _,rfl,by simp[Hid]⟩
 case round=>
  obtain⟨k,hk,rfl,HA⟩:=hrel
  by_cases hlt:k<s.size
  ·obtain⟨d,hd⟩:∃ d:UInt8,s[k]=d:=⟨_,rfl⟩
   by_cases hcd:d=c
   ·have E:=hid (contains_at s c k hlt (hd.trans hcd))
    have hq:d.toNat=c.toNat:=by rw[hcd]
    clear hcd
    go_wp2_with fail
    go_ret
    exact⟨ret_bool E.out.symm,rfl⟩
   ·have HN:=hid (contains_take_next s c k hlt HA.out (by rw[hd];simpa using hcd))
    have hq:¬ d.toNat=c.toNat:=fun h=>hcd (UInt8.toNat_inj.1 h)
    clear hcd
    go_wp2_with fail
    go_round
    case rel=>exact⟨k+1,by omega,by go_num,HN⟩
    case measure=>simp[intOf];omega
  ·have E:Hid ((bl s).contains c=false):=by show _=_;rw[←bl_take_ge s k (by omega)];exact HA.out
   go_wp2_with fail
   go_ret
   exact⟨ret_bool E.out.symm,rfl⟩
def dAt (o l:List UInt8)(k:Nat):Bool:=(l.take k).all (fun c=>lowB c||o.contains c)&&(decide (k=0)||startsB l)
theorem dAt_step (o:List UInt8)(s:ByteArray)(k:Nat)(h:k<s.size)(ha:dAt o (bl s) k=true)(h1:(lowB s[k]||o.contains s[k])=true)(h2:k=0→lowB s[k]=true):dAt o (bl s) (k+1)=true:=by
 unfold dAt at ha ⊢
 rw[Bool.and_eq_true] at ha
 rw[dmade_next o s k h ha.1 h1]
 by_cases k0:k=0
 ·subst k0;rw[startsB_pos s h,h2 rfl];simp
 ·have:=ha.2;rw[decide_eq_false k0,Bool.false_or] at this;simp[this]
theorem dAt_end (o:List UInt8)(s:ByteArray)(k:Nat)(h:¬ k<s.size)(hk:k≤s.size)(h1:1≤s.size)(ha:dAt o (bl s) k=true):dmadeB o (bl s)=true:=by
 unfold dAt at ha
 rw[Bool.and_eq_true] at ha
 rw[dmade_good o s k h ha.1]
 have:=ha.2;rw[dF,Bool.false_or] at this;exact this
theorem dAt_bad0 (o:List UInt8)(s:ByteArray)(h:0<s.size)(h1:lowB s[0]=false):dmadeB o (bl s)=false:=by
 unfold dmadeB;rw[startsB_pos s h,h1];simp
theorem r14_made (s o:ByteArray)(lo hi:Nat)(w:World)(hs:s.size≤9223372036854775807)(ho:o.size≤9223372036854775807)(hlo:1≤lo)(hlo2:lo≤64)(hhi:hi≤64):
  Calls Tryz.prog 99 #[.string s,.string o,.int .i64 lo,.int .i64 hi] w fun e w'=>e=.returned (.bool (made14 o s lo hi))∧w=w':=by
 by_cases h0:s.size<lo
 ·have E:Hid (made14 o s lo hi=false):=by show _=_;unfold made14;rw[dF];rfl
  go_enter Tryz.func99,Tryz.ntmps99
  go_wp2_with fail
  go_ret
  exact⟨ret_bool E.out.symm,rfl⟩
 by_cases h64:hi<s.size
 ·have E:Hid (made14 o s lo hi=false):=by show _=_;unfold made14;rw[dF];rfl
  go_enter Tryz.func99,Tryz.ntmps99
  go_wp2_with fail
  go_ret
  exact⟨ret_bool E.out.symm,rfl⟩
 have EQ:Hid (made14 o s lo hi=dmadeB (bl o) (bl s)):=by show _=_;unfold made14;rw[dT];rfl
 go_enter Tryz.func99,Tryz.ntmps99
 go_wp2_with fail
 go_loop [9] (fun i=>∃ k:Nat,k≤s.size∧i=.int .i64 k∧Hid (dAt (bl o) (bl s) k=true)) (fun i=>s.size-(intOf i).toNat)
 case atStart=>exact⟨0,Nat.zero_le _,rfl,by simp[Hid,dAt]⟩
 case round=>
  obtain⟨k,hk,rfl,HA⟩:=hrel
  by_cases hlt:k<s.size
  ·obtain⟨c,hc⟩:∃ c:UInt8,s[k]=c:=⟨_,rfl⟩
   have STEP:=hid (dAt_step (bl o) s k hlt HA.out)
   have BAD:=hid (dmade_bad (bl o) s k hlt)
   have BAD0:Hid (k=0→lowB c=false→dmadeB (bl o) (bl s)=false):=by
    intro k0 h;subst k0;exact dAt_bad0 (bl o) s hlt (by rw[hc];exact h)
   rw[hc] at STEP BAD
   go_upto_region 7 with(fail)
   go_cut [10,11] (fun u v wx=>u=.int .u8 c.toNat∧v=.bool (lowB c)∧w=wx)
   case first=>
    go_wp2_with fail
    all_goals go_meet
    all_goals (refine⟨by first | rfl | (congr 1;omega),?_,rfl⟩;congr 1;rw[Bool.eq_iff_iff];simp[lowB,smlB,digB];omega)
   case rest=>
   obtain⟨rfl,rfl,rfl⟩:=hcut
   clear hc
   cases hf:lowB c with
   | true=>
    have HN:=hid (STEP.out (by rw[hf];rfl) (fun _=>hf))
    clear hf
    go_wp2_with fail
    go_round
    case rel=>exact⟨k+1,by omega,by go_num,HN⟩
    case measure=>simp[intOf];omega
   | false=>
    by_cases k0:k=0
    ·have E:=hid (BAD0.out k0 hf)
     have k1:((k:Int)==0)=true:=by simpa using k0
     clear hf
     go_wp2_with fail
     go_ret
     exact⟨ret_bool (by rw[EQ.out,E.out]),rfl⟩
    ·have k1:((k:Int)==0)=false:=by simpa using k0
     cases hn:inL (bl o) c with
     | true=>
      have HN:=hid (STEP.out (by rw[show(bl o).contains c=true from hn];simp) (fun h=>absurd h k0))
      clear hf
      go_wp2_with (go_at_call 142;refine(r14_in c o _ ho).mono ?_;rintro e w' ⟨rfl,rfl⟩)
      go_round
      case rel=>exact⟨k+1,by omega,by go_num,HN⟩
      case measure=>simp[intOf];omega
     | false=>
      have E:=hid (BAD.out hf hn)
      clear hf
      go_wp2_with (go_at_call 142;refine(r14_in c o _ ho).mono ?_;rintro e w' ⟨rfl,rfl⟩)
      go_ret
      exact⟨ret_bool (by rw[EQ.out,E.out]),rfl⟩
  ·have E:=hid (dAt_end (bl o) s k hlt hk (by omega) HA.out)
   go_wp2_with fail
   go_ret
   exact⟨ret_bool (by rw[EQ.out,E.out]),rfl⟩
theorem r14_Name (s:ByteArray)(w:World)(hs:s.size≤9223372036854775807):
  Calls Tryz.prog 69 #[.string s] w fun e w'=>e=.returned (.bool (dnameB (bl s)))∧w=w':=by
 have E:Hid (dnameB (bl s)=made14 ⟨#[43,46,45]⟩ s 2 64):=by
  show _=_;unfold dnameB made14;rw[bl_length,Bool.eq_iff_iff];simp[bl,and_assoc]
 go_enter Tryz.func69,Tryz.ntmps69
 go_wp2_with fail
 refine(r14_made s ⟨#[43,46,45]⟩ 2 64 _ hs (by decide) (by omega) (by omega) (by omega)).mono ?_;rintro e w' ⟨rfl,rfl⟩
 go_wp2_with fail
 go_ret
 exact⟨ret_bool E.out.symm,rfl⟩
theorem dmade_pos (o l:List UInt8)(h:l.length=0):dmadeB o l=false:=by
 rw[List.length_eq_zero_iff] at h;subst h;rfl
theorem r14_Word (s:ByteArray)(w:World)(hs:s.size≤9223372036854775807):
  Calls Tryz.prog 209 #[.string s] w fun e w'=>e=.returned (.bool (dwordB (bl s)))∧w=w':=by
 have E:Hid (dwordB (bl s)=made14 ⟨#[45]⟩ s 1 32):=by
  show _=_;unfold dwordB made14
  by_cases h:s.size=0
  ·rw[dmade_pos _ _ (by rw[bl_length];exact h),dmade_pos _ _ (by rw[bl_length];exact h)];simp
  ·rw[bl_length,Bool.eq_iff_iff];simp[bl];omega
 go_enter Tryz.func209,Tryz.ntmps209
 go_wp2_with fail
 refine(r14_made s ⟨#[45]⟩ 1 32 _ hs (by decide) (by omega) (by omega) (by omega)).mono ?_;rintro e w' ⟨rfl,rfl⟩
 go_wp2_with fail
 go_ret
 exact⟨ret_bool E.out.symm,rfl⟩
theorem ddep_word (s:ByteArray)(w:World)(hs:s.size≤9223372036854775807):
  Calls Tryz.prog 228 #[.string s] w fun e w'=>e=.returned (.bool (dwordB (bl s)))∧w=w':=by
 have hb:=bl_length s
 have HB:=hid hb;clear hb
 by_cases h3:s.size≤32
 ·go_enter Tryz.func228,Tryz.ntmps228
  go_wp2_with (go_at_call 58;refine(ddep_made s _ _ hs).mono ?_;rintro e w' ⟨rfl,rfl⟩)
  go_ret
  exact⟨ret_bool (by unfold dwordB;rw[HB.out,decide_eq_true h3];simp[bl]),rfl⟩
 ·go_enter Tryz.func228,Tryz.ntmps228
  go_wp2_with fail
  go_ret
  exact⟨ret_bool (by unfold dwordB;rw[HB.out,decide_eq_false h3];simp),rfl⟩
end
section
open Go.RowKit Go.Extern.Stop Go.Stop Go.Extern
theorem rl_valueOfPE (t:Addr)(w:World):(ReflectliteValue.unpack (.iface 227 (.pointer (some t)))).run Tryz.prog w
  = .ok (.agg #[.pointer (some ⟨9,227,none⟩),.pointer (some ⟨w.heap.size,0,none⟩),.int .u64 150]) (w.alloc (.cells #[.pointer (some t)] 227)):=by kernel_rfl
theorem rl_typePE (a : Addr) (w : World) : (ReflectliteValue.methodAny (ReflectliteValue.valueError "reflectlite.Value.Type" 0) (fun t _ _ _ => ReflectliteType.toType t) #[.agg #[.pointer (some ⟨9, 227, none⟩), .pointer (some a), .int .u64 150]]).run Tryz.prog w
  = .ok (.iface 301 (.agg #[.pointer (some ⟨9,227,none⟩)])) w:=by kernel_rfl
theorem rl_kindPE (w:World):((ReflectliteType.abiMethod fun t=>(fun a:Nat=>Value.int IntKind.u8 (a:Int)) <$> Rtype.kind t) #[.pointer (some ⟨9,227,none⟩)]).run Tryz.prog w=.ok (.int .u8 22) w:=by kernel_rfl
theorem rl_elemPE (w:World):(ReflectliteType.method ReflectliteType.elem #[.agg #[.pointer (some ⟨9,227,none⟩)]]).run Tryz.prog w=.ok (.iface 301 (.agg #[.pointer (some ⟨9,30,none⟩)])) w:=by kernel_rfl
theorem rl_implementsE (w : World) : (ReflectliteType.relation "Implements" ReflectliteType.implements_ #[.agg #[.pointer (some ⟨9, 30, none⟩)], .iface 301 (.agg #[.pointer (some ⟨9, 174, none⟩)])]).run Tryz.prog w = .ok (.bool true) w := by kernel_rfl
theorem rl_typeOfE (v:Value)(w:World):(ReflectliteType.typeOf #[.iface 30 v]).run Tryz.prog w=.ok (.iface 301 (.agg #[.pointer (some ⟨9,30,none⟩)])) w:=by kernel_rfl
theorem rl_assignableE (w : World) : (ReflectliteType.relation "AssignableTo" ReflectliteType.assignableTo #[.agg #[.pointer (some ⟨9, 30, none⟩)], .iface 301 (.agg #[.pointer (some ⟨9, 30, none⟩)])]).run Tryz.prog w = .ok (.bool true) w := by kernel_rfl
theorem rl_partsPE (a:Addr)(w:World):(ReflectliteValue.parts (.agg #[.pointer (some ⟨9,227,none⟩),.pointer (some a),.int .u64 150])).run Tryz.prog w=.ok (some (227,a,150)) w:=by kernel_rfl
theorem rl_isNilPE (a p:Addr)(W:World)(ha:W.cell? a=some (.pointer (some p))):
  (ReflectliteValue.method (ReflectliteValue.valueError "reflectlite.Value.IsNil" 0) ReflectliteValue.isNil #[.agg #[.pointer (some ⟨9, 227, none⟩), .pointer (some a), .int .u64 150]]).run Tryz.prog W = .ok (.bool false) W := by
 rw[rlm]
 simp only[Sem.run_bind,rl_partsPE,Result.andThen]
 simp[ReflectliteValue.isNil,loadVar,isAgg,underlying,Tryz.underlying227,ha,Result.andThen]
theorem rl_elemOfPE (w:World):(Rtype.elem? 227).run Tryz.prog w=.ok (some 30) w:=by kernel_rfl
theorem rl_mkE (p:Addr)(w:World):(ReflectliteValue.mk 30 p ReflectliteValue.flagAddr).run Tryz.prog w=.ok (.agg #[.pointer (some ⟨9,30,none⟩),.pointer (some p),.int .u64 386]) w:=by kernel_rfl
theorem rl_elemVPE (a p:Addr)(W:World)(ha:W.cell? a=some (.pointer (some p))):
  (ReflectliteValue.method (ReflectliteValue.valueError "reflectlite.Value.Elem" 0) ReflectliteValue.elem #[.agg #[.pointer (some ⟨9, 227, none⟩), .pointer (some a), .int .u64 150]]).run Tryz.prog W
   = .ok (.agg #[.pointer (some ⟨9,30,none⟩),.pointer (some p),.int .u64 386]) W:=by
 rw[rlm]
 simp only[Sem.run_bind,rl_partsPE,Result.andThen]
 simp[ReflectliteValue.elem,loadVar,isAgg,underlying,Tryz.underlying227,ha,Result.andThen,rl_elemOfPE,rl_mkE]
theorem rl_partsEa (a:Addr)(w:World):(ReflectliteValue.parts (.agg #[.pointer (some ⟨9,30,none⟩),.pointer (some a),.int .u64 386])).run Tryz.prog w=.ok (some (30,a,386)) w:=by kernel_rfl
theorem rl_partsE (a:Addr)(w:World):(ReflectliteValue.parts (.agg #[.pointer (some ⟨9,30,none⟩),.pointer (some a),.int .u64 130])).run Tryz.prog w=.ok (some (30,a,130)) w:=by kernel_rfl
theorem rl_directE (w:World):(Rtype.directlyAssignable 30 30).run Tryz.prog w=.ok true w:=by kernel_rfl
theorem rl_kindE (w:World):((ReflectliteType.abiMethod fun t=>(fun a:Nat=>Value.int IntKind.u8 (a:Int)) <$> Rtype.kind t) #[.pointer (some ⟨9,30,none⟩)]).run Tryz.prog w=.ok (.int .u8 2) w:=by kernel_rfl
theorem rl_valueOfE (c:Int)(w:World):(ReflectliteValue.unpack (.iface 30 (.int .i64 c))).run Tryz.prog w
  = .ok (.agg #[.pointer (some ⟨9,30,none⟩),.pointer (some ⟨w.heap.size,0,none⟩),.int .u64 130]) (w.alloc (.cells #[.int .i64 c] 30)):=by kernel_rfl
theorem rl_assignableWE (w : World) : (ReflectliteType.relation "AssignableTo" ReflectliteType.assignableTo #[.agg #[.pointer (some ⟨9, 222, none⟩)], .iface 301 (.agg #[.pointer (some ⟨9, 30, none⟩)])]).run Tryz.prog w = .ok (.bool false) w := by kernel_rfl
theorem rl_methodUnwrap (n : Nat) (v : Value) (w : World) : (Go.method (n + 1) 222 v "Unwrap").run Tryz.prog w = .ok (303, v) w := by kernel_rfl
theorem rl_assertAs (v:Value)(w:World):(Instr.typeAssert (.iface 222 v) 174 306 true).run Tryz.prog w=.ok (.tuple #[.nilIface,.bool false]) w:=run_typeAssert_lacksB Tryz.underlying306 (by kernel_rfl) (by kernel_rfl) v _ w
theorem rl_assertUn (v:Value)(w:World):(Instr.typeAssert (.iface 222 v) 174 309 true).run Tryz.prog w=.ok (.tuple #[.iface 222 v,.bool true]) w:=by kernel_rfl
theorem rl_setE (b c:Nat)(y:Int)(o1:Value)(W:World)(hb0:W.cell? ⟨c,0,none⟩=some (.int .i64 y))(h0:W.cell? ⟨b,0,none⟩=some o1)(f0:W.frozen? ⟨b,0,none⟩=false):
  (ReflectliteValue.set #[.agg #[.pointer (some ⟨9,30,none⟩),.pointer (some ⟨b,0,none⟩),.int .u64 386],.agg #[.pointer (some ⟨9,30,none⟩),.pointer (some ⟨c,0,none⟩),.int .u64 130]]).run Tryz.prog W
   = .ok (.tuple #[]) (W.setCell ⟨b,0,none⟩ (.int .i64 y)):=by
 rw[rls]
 simp only[Sem.run_bind,rl_partsEa,rl_partsE,Result.andThen]
 simp[ReflectliteValue.flagAddr,loadVar,isAgg,underlying,Tryz.underlying30,hb0,Result.andThen,rl_directE,storeVar,Value.cells,storeCells,Addr.add]
 rw[run_store Tryz.prog W ⟨b,0,none⟩ _ _ (by rfl)]
 simp[h0,f0]
theorem as_errno (b:Nat)(x y:Int)(w:World)(hG:w.cell? ⟨5,0,none⟩=some (.iface 301 (.agg #[.pointer (some ⟨9,174,none⟩)])))(hB:Blk w b [.int .i64 0]):
  Calls Tryz.prog 189 #[.iface 222 (.agg #[.int .i64 x,.int .i64 y]),.iface 227 (.pointer (some ⟨b,0,none⟩))] w fun e w'=>e=.returned (.bool true)∧Blk w' b [.int .i64 y]∧w.grownBy w' (some b):=by
 have e1:=@run_callFunc_extern Tryz.prog 240 _ (fun args=>ReflectliteValue.unpack (args.getD 0 (.tuple #[]))) Tryz.func240 (by kernel_rfl) (by kernel_rfl) (by kernel_rfl) (by kernel_rfl)
 have e2 := @run_callFunc_extern Tryz.prog 241 _ (ReflectliteValue.methodAny (ReflectliteValue.valueError "reflectlite.Value.Type" 0) (fun t _ _ _ => ReflectliteType.toType t)) Tryz.func241 (by kernel_rfl) (by kernel_rfl) (by kernel_rfl) (by kernel_rfl)
 have e3 := @run_callFunc_extern Tryz.prog 242 _ (ReflectliteValue.method (ReflectliteValue.valueError "reflectlite.Value.IsNil" 0) ReflectliteValue.isNil) Tryz.func242 (by kernel_rfl) (by kernel_rfl) (by kernel_rfl) (by kernel_rfl)
 have e4:=@run_callFunc_extern Tryz.prog 296 _ (ReflectliteType.abiMethod fun t=>do pure (.int .u8 (←Rtype.kind t))) Tryz.func296 (by kernel_rfl) (by kernel_rfl) (by kernel_rfl) (by kernel_rfl)
 have e5:=@run_callFunc_extern Tryz.prog 310 _ (ReflectliteType.method ReflectliteType.elem) Tryz.func310 (by kernel_rfl) (by kernel_rfl) (by kernel_rfl) (by kernel_rfl)
 have e6 := @run_callFunc_extern Tryz.prog 311 _ (ReflectliteType.relation "Implements" ReflectliteType.implements_) Tryz.func311 (by kernel_rfl) (by kernel_rfl) (by kernel_rfl) (by kernel_rfl)
 have e7:=@run_callFunc_extern Tryz.prog 272 _ ReflectliteType.typeOf Tryz.func272 (by kernel_rfl) (by kernel_rfl) (by kernel_rfl) (by kernel_rfl)
 have e8 := @run_callFunc_extern Tryz.prog 308 _ (ReflectliteType.relation "AssignableTo" ReflectliteType.assignableTo) Tryz.func308 (by kernel_rfl) (by kernel_rfl) (by kernel_rfl) (by kernel_rfl)
 have e9 := @run_callFunc_extern Tryz.prog 273 _ (ReflectliteValue.method (ReflectliteValue.valueError "reflectlite.Value.Elem" 0) ReflectliteValue.elem) Tryz.func273 (by kernel_rfl) (by kernel_rfl) (by kernel_rfl) (by kernel_rfl)
 have e10:=@run_callFunc_extern Tryz.prog 274 _ ReflectliteValue.set Tryz.func274 (by kernel_rfl) (by kernel_rfl) (by kernel_rfl) (by kernel_rfl)
 have m1:=rl_methodKind
 have m2:=rl_methodElem
 have m3:=rl_methodImplements
 have m4:=rl_methodAssignableTo
 have m5:=rl_methodUnwrap
 have q1:=rl_valueOfPE
 have q2:=rl_valueOfE
 have q3:=rl_typePE
 have q4:=rl_kindPE
 have q5:=rl_kindE
 have q6:=rl_elemPE
 have q7:=rl_implementsE
 have q8:=rl_typeOfW
 have q9:=rl_assignableWE
 have q10:=rl_typeOfE
 have q11:=rl_assignableE
 have q12:=rl_assertAs
 have q13:=rl_assertUn
 have hg0:=World.block_lt_of_cell? _ _ hG
 have hg0:5<w.heap.size:=hg0
 have hb0:=hB.sz
 let W1:=w.alloc (.cells #[.pointer (some ⟨b,0,none⟩)] 227)
 let W2:=W1.alloc (.cells #[.pointer (some ⟨9,227,none⟩),.pointer (some ⟨w.heap.size,0,none⟩),.int .u64 150] 271)
 let W3:=W2.alloc (.cells #[.pointer (some ⟨9,227,none⟩),.pointer (some ⟨w.heap.size,0,none⟩),.int .u64 150] 271)
 let W4:=W3.alloc (.cells #[.int .i64 x,.int .i64 y] 222)
 let W5:=W4.alloc (.cells #[.int .i64 y] 30)
 have K1:Blk W1 w.heap.size [.pointer (some ⟨b,0,none⟩)]:=Blk.new w _ _
 have K2:Blk W2 w.heap.size [.pointer (some ⟨b,0,none⟩)]:=K1.alloc _
 have K3:Blk W4 w.heap.size [.pointer (some ⟨b,0,none⟩)]:=(K2.alloc _).alloc _
 have K5:Blk W5 (w.heap.size+1+1+1+1) [.int .i64 y]:=by have:=Blk.new W4 [.int .i64 y] 30;simpa [W4,W3,W2,W1] using this
 have T5:Blk W5 b [.int .i64 0]:=((((hB.alloc _).alloc _).alloc _).alloc _).alloc _
 have n8:=rl_isNilPE ⟨w.heap.size,0,none⟩ ⟨b,0,none⟩ W2 (K2.cell 0 _ rfl)
 have el:=rl_elemVPE ⟨w.heap.size,0,none⟩ ⟨b,0,none⟩ W4 (K3.cell 0 _ rfl)
 have st:=rl_setE b (w.heap.size+1+1+1+1) y _ W5 (K5.cell 0 _ rfl) (T5.cell 0 _ rfl) (T5.free 0 (by simp))
 have hg2:W2.cell? ⟨5,0,none⟩=some (.iface 301 (.agg #[.pointer (some ⟨9,174,none⟩)])):=by
  show((w.alloc _).alloc _).cell? _=_
  rw[World.cell?_alloc_lt _ _ ⟨5,0,none⟩ (by simp;omega),World.cell?_alloc_lt _ _ ⟨5,0,none⟩ hg0];exact hG
 have FIN:Hid (Blk (W5.setCell ⟨b,0,none⟩ (.int .i64 y)) b [.int .i64 y]):=T5.set 0 (by simp) _
 have GRW:Hid (w.grownBy (W5.setCell ⟨b,0,none⟩ (.int .i64 y)) (some b)):=by
  have hb5:Below w.heap.size w W5:=(((((Below.refl _ _).alloc lr _).alloc (by simp) _).alloc (by simp;omega) _).alloc (by simp;omega) _).alloc (by simp;omega) _
  have g5:w.grownBy W5 (some b):=⟨hb5.os,hb5.tape,hb5.output,hb5.size,fun i hi _=>hb5.block i hi⟩
  exact only_setCell g5 (.inl rfl) _
 simp only[W5,W4,W3,W2,W1] at n8 el st hg2 FIN GRW
 clear K1 K2 K3 K5 T5 hB
 clear W5 W4 W3 W2 W1
 go_enter Tryz.func189,Tryz.ntmps189
 go_wp2
 refine wp_loop_rounds 2 ?_
 rw[rounds_succ]
 go_wp2
 rw[rounds_succ]
 go_wp2
 go_ret
 exact⟨rfl,FIN.out,GRW.out⟩
end
section
open Go.RowKit
theorem rdep_Name (s:ByteArray)(w:World)(hs:s.size≤9223372036854775807):
  Calls Tryz.prog 92 #[.string s] w fun e w'=>e=.returned (.bool (rnameB (bl s)))∧w=w':=by
 by_cases h0:s.size=0
 ·have he:s.toList=[]:=by rw[bl_toList,bl_nil s h0]
  have he2:s.toList.isEmpty=true:=by rw[he];rfl
  have E:Hid (rnameB (bl s)=false):=rname_size s (by omega)
  go_enter Tryz.func92,Tryz.ntmps92
  go_wp2_with fail
  go_ret
  exact⟨ret_bool E.out.symm,rfl⟩
 have hp:0<s.size:=by omega
 have he2:s.toList.isEmpty=false:=by rw[bl_toList,bl_isEmpty];exact decide_eq_false h0
 have he:¬ s.toList=[]:=by intro h;rw[h] at he2;simp at he2
 by_cases h64:64<s.size
 ·have E:Hid (rnameB (bl s)=false):=rname_size s (by omega)
  go_enter Tryz.func92,Tryz.ntmps92
  go_wp2_with fail
  go_ret
  exact⟨ret_bool E.out.symm,rfl⟩
 have h64':decide (64<(s.size:Int))=false:=decide_eq_false (by omega)
 obtain⟨c0,hc0⟩:∃ c0:UInt8,s[0]=c0:=⟨_,rfl⟩
 have HH:=hid (rHead_pos s hp)
 rw[hc0] at HH
 cases hl:letB c0 with
 | true=>
  have HD:Hid (rHead (bl s)=true):=by show _=_;rw[HH.out];simp[rPlain,hl]
  have hL:=fun W=>rdep_letter c0 W
  rw[hl] at hL
  clear hl
  go_enter Tryz.func92,Tryz.ntmps92
  go_wp2_with fail
  refine(hL _).mono ?_;rintro e w' ⟨rfl,rfl⟩
  go_wp2_with fail
  clear hL
  go_loop [3,32] (fun o i=>∃ k n:Nat,k≤s.size∧n≤k∧o=.int .i64 n∧i=.int .i64 k∧Hid (((bl s).take k).foldl rStep (some 0)=some n)) (fun _ i=>s.size-(intOf i).toNat)
  case atStart=>exact⟨0,0,Nat.zero_le _,lr,rfl,rfl,by simp[Hid]⟩
  case round=>
   obtain⟨k,n,hk,hn,rfl,rfl,HA⟩:=hrel
   by_cases hlt:k<s.size
   ·obtain⟨c,hc⟩:∃ c:UInt8,s[k]=c:=⟨_,rfl⟩
    have NX:=hid (fun m=>rname_next s k n m hlt HA.out)
    have BD:=hid (rname_bad s k n hlt HA.out)
    rw[hc] at NX BD
    have hcc:∀ n:UInt8,c=n↔c.toNat=n.toNat:=fun n=>UInt8.toNat_inj.symm
    by_cases c40:c.toNat=40
    ·have e40:(c==40)=true:=by rw[beq_iff_eq,hcc];exact c40
     have HN:=hid (NX.out (n+1) (by simp[rStep,e40]))
     clear e40 hcc
     go_wp2_with fail
     go_round
     case rel=>exact⟨k+1,n+1,by omega,by omega,by go_num,by go_num,HN⟩
     case measure=>simp[intOf];omega
    have e40:(c==40)=false:=by rw[beq_eq_false_iff_ne,ne_eq,hcc];exact c40
    by_cases c41:c.toNat=41
    ·have e41:(c==41)=true:=by rw[beq_iff_eq,hcc];exact c41
     by_cases n0:n=0
     ·have E:=hid (BD.out (by simp[rStep,e40,e41,n0]))
      subst n0
      clear e40 e41 hcc
      go_wp2_with fail
      go_ret
      exact⟨ret_bool E.out.symm,rfl⟩
     ·have HN:=hid (NX.out (n-1) (by simp[rStep,e40,e41,n0]))
      obtain⟨m,rfl⟩:∃ m,n=m+1:=⟨n-1,by omega⟩
      clear e40 e41 hcc
      go_wp2_with fail
      go_round
      case rel=>exact⟨k+1,m,by omega,by omega,by go_num,by go_num,HN⟩
      case measure=>simp[intOf];omega
    have e41:(c==41)=false:=by rw[beq_eq_false_iff_ne,ne_eq,hcc];exact c41
    cases hl:letB c with
    | true=>
     have ho:rOther c=true:=by simp[rOther,hl]
     have HN:=hid (NX.out (n) (by simp[rStep,e40,e41,ho]))
     have hL:=fun W=>rdep_letter c W
     rw[hl] at hL
     clear hl ho e40 e41 hcc
     go_wp2_with fail
     refine(hL _).mono ?_;rintro e w' ⟨rfl,rfl⟩
     go_wp2_with fail
     go_round
     case rel=>exact⟨k+1,n,by omega,by omega,by go_num,by go_num,HN⟩
     case measure=>simp[intOf];omega
    | false=>
     cases hd:digB c with
     | true=>
      have ho:rOther c=true:=by simp[rOther,hd]
      have HN:=hid (NX.out (n) (by simp[rStep,e40,e41,ho]))
      have hL:=fun W=>rdep_letter c W
      rw[hl] at hL
      have hD:=fun W=>rdep_digit c W
      rw[hd] at hD
      clear hl hd ho e40 e41 hcc
      go_wp2_with fail
      refine(hL _).mono ?_;rintro e w' ⟨rfl,rfl⟩
      go_wp2_with fail
      refine(hD _).mono ?_;rintro e w' ⟨rfl,rfl⟩
      go_wp2_with fail
      go_round
      case rel=>exact⟨k+1,n,by omega,by omega,by go_num,by go_num,HN⟩
      case measure=>simp[intOf];omega
     | false=>
      have hco:=r_others c hl hd
      cases ho:rOther c with
      | true=>
       have hx:=ixB_pos ⟨#[46,95,43,45,47,58]⟩ c (by rw[hco,ho])
       have HN:=hid (NX.out (n) (by simp[rStep,e40,e41,ho]))
       have hL:=fun W=>rdep_letter c W
       rw[hl] at hL
       have hD:=fun W=>rdep_digit c W
       rw[hd] at hD
       clear hl hd ho hco e40 e41 hcc
       go_wp2_with fail
       refine(hL _).mono ?_;rintro e w' ⟨rfl,rfl⟩
       go_wp2_with fail
       refine(hD _).mono ?_;rintro e w' ⟨rfl,rfl⟩
       go_wp2_with fail
       refine(IndexByte_any _ c _).mono ?_;rintro e w' ⟨rfl,rfl⟩
       go_wp2_with fail
       go_round
       case rel=>exact⟨k+1,n,by omega,by omega,by go_num,by go_num,HN⟩
       case measure=>simp[intOf];omega
      | false=>
       have hx:=ixB_neg ⟨#[46,95,43,45,47,58]⟩ c (by rw[hco,ho])
       have E:=hid (BD.out (by simp[rStep,e40,e41,ho]))
       have hL:=fun W=>rdep_letter c W
       rw[hl] at hL
       have hD:=fun W=>rdep_digit c W
       rw[hd] at hD
       clear hl hd ho hco e40 e41 hcc
       go_wp2_with fail
       refine(hL _).mono ?_;rintro e w' ⟨rfl,rfl⟩
       go_wp2_with fail
       refine(hD _).mono ?_;rintro e w' ⟨rfl,rfl⟩
       go_wp2_with fail
       refine(IndexByte_any _ c _).mono ?_;rintro e w' ⟨rfl,rfl⟩
       go_wp2_with fail
       go_ret
       exact⟨ret_bool E.out.symm,rfl⟩
   ·have E:=hid (rname_end s k n hlt HA.out (by omega) (by omega) HD.out)
    go_wp2_with fail
    go_ret
    exact⟨ret_bool (by rw[E.out,Bool.eq_iff_iff];simp),rfl⟩
 | false=>
  cases hd:digB c0 with
  | true=>
   have HD:Hid (rHead (bl s)=true):=by show _=_;rw[HH.out];simp[rPlain,hd]
   have hL:=fun W=>rdep_letter c0 W
   rw[hl] at hL
   have hD:=fun W=>rdep_digit c0 W
   rw[hd] at hD
   clear hl hd
   go_enter Tryz.func92,Tryz.ntmps92
   go_wp2_with fail
   refine(hL _).mono ?_;rintro e w' ⟨rfl,rfl⟩
   go_wp2_with fail
   refine(hD _).mono ?_;rintro e w' ⟨rfl,rfl⟩
   go_wp2_with fail
   clear hL hD
   go_loop [3,32] (fun o i=>∃ k n:Nat,k≤s.size∧n≤k∧o=.int .i64 n∧i=.int .i64 k∧Hid (((bl s).take k).foldl rStep (some 0)=some n)) (fun _ i=>s.size-(intOf i).toNat)
   case atStart=>exact⟨0,0,Nat.zero_le _,lr,rfl,rfl,by simp[Hid]⟩
   case round=>
    obtain⟨k,n,hk,hn,rfl,rfl,HA⟩:=hrel
    by_cases hlt:k<s.size
    ·obtain⟨c,hc⟩:∃ c:UInt8,s[k]=c:=⟨_,rfl⟩
     have NX:=hid (fun m=>rname_next s k n m hlt HA.out)
     have BD:=hid (rname_bad s k n hlt HA.out)
     rw[hc] at NX BD
     have hcc:∀ n:UInt8,c=n↔c.toNat=n.toNat:=fun n=>UInt8.toNat_inj.symm
     by_cases c40:c.toNat=40
     ·have e40:(c==40)=true:=by rw[beq_iff_eq,hcc];exact c40
      have HN:=hid (NX.out (n+1) (by simp[rStep,e40]))
      clear e40 hcc
      go_wp2_with fail
      go_round
      case rel=>exact⟨k+1,n+1,by omega,by omega,by go_num,by go_num,HN⟩
      case measure=>simp[intOf];omega
     have e40:(c==40)=false:=by rw[beq_eq_false_iff_ne,ne_eq,hcc];exact c40
     by_cases c41:c.toNat=41
     ·have e41:(c==41)=true:=by rw[beq_iff_eq,hcc];exact c41
      by_cases n0:n=0
      ·have E:=hid (BD.out (by simp[rStep,e40,e41,n0]))
       subst n0
       clear e40 e41 hcc
       go_wp2_with fail
       go_ret
       exact⟨ret_bool E.out.symm,rfl⟩
      ·have HN:=hid (NX.out (n-1) (by simp[rStep,e40,e41,n0]))
       obtain⟨m,rfl⟩:∃ m,n=m+1:=⟨n-1,by omega⟩
       clear e40 e41 hcc
       go_wp2_with fail
       go_round
       case rel=>exact⟨k+1,m,by omega,by omega,by go_num,by go_num,HN⟩
       case measure=>simp[intOf];omega
     have e41:(c==41)=false:=by rw[beq_eq_false_iff_ne,ne_eq,hcc];exact c41
     cases hl:letB c with
     | true=>
      have ho:rOther c=true:=by simp[rOther,hl]
      have HN:=hid (NX.out (n) (by simp[rStep,e40,e41,ho]))
      have hL:=fun W=>rdep_letter c W
      rw[hl] at hL
      clear hl ho e40 e41 hcc
      go_wp2_with fail
      refine(hL _).mono ?_;rintro e w' ⟨rfl,rfl⟩
      go_wp2_with fail
      go_round
      case rel=>exact⟨k+1,n,by omega,by omega,by go_num,by go_num,HN⟩
      case measure=>simp[intOf];omega
     | false=>
      cases hd:digB c with
      | true=>
       have ho:rOther c=true:=by simp[rOther,hd]
       have HN:=hid (NX.out (n) (by simp[rStep,e40,e41,ho]))
       have hL:=fun W=>rdep_letter c W
       rw[hl] at hL
       have hD:=fun W=>rdep_digit c W
       rw[hd] at hD
       clear hl hd ho e40 e41 hcc
       go_wp2_with fail
       refine(hL _).mono ?_;rintro e w' ⟨rfl,rfl⟩
       go_wp2_with fail
       refine(hD _).mono ?_;rintro e w' ⟨rfl,rfl⟩
       go_wp2_with fail
       go_round
       case rel=>exact⟨k+1,n,by omega,by omega,by go_num,by go_num,HN⟩
       case measure=>simp[intOf];omega
      | false=>
       have hco:=r_others c hl hd
       cases ho:rOther c with
       | true=>
        have hx:=ixB_pos ⟨#[46,95,43,45,47,58]⟩ c (by rw[hco,ho])
        have HN:=hid (NX.out (n) (by simp[rStep,e40,e41,ho]))
        have hL:=fun W=>rdep_letter c W
        rw[hl] at hL
        have hD:=fun W=>rdep_digit c W
        rw[hd] at hD
        clear hl hd ho hco e40 e41 hcc
        go_wp2_with fail
        refine(hL _).mono ?_;rintro e w' ⟨rfl,rfl⟩
        go_wp2_with fail
        refine(hD _).mono ?_;rintro e w' ⟨rfl,rfl⟩
        go_wp2_with fail
        refine(IndexByte_any _ c _).mono ?_;rintro e w' ⟨rfl,rfl⟩
        go_wp2_with fail
        go_round
        case rel=>exact⟨k+1,n,by omega,by omega,by go_num,by go_num,HN⟩
        case measure=>simp[intOf];omega
       | false=>
        have hx:=ixB_neg ⟨#[46,95,43,45,47,58]⟩ c (by rw[hco,ho])
        have E:=hid (BD.out (by simp[rStep,e40,e41,ho]))
        have hL:=fun W=>rdep_letter c W
        rw[hl] at hL
        have hD:=fun W=>rdep_digit c W
        rw[hd] at hD
        clear hl hd ho hco e40 e41 hcc
        go_wp2_with fail
        refine(hL _).mono ?_;rintro e w' ⟨rfl,rfl⟩
        go_wp2_with fail
        refine(hD _).mono ?_;rintro e w' ⟨rfl,rfl⟩
        go_wp2_with fail
        refine(IndexByte_any _ c _).mono ?_;rintro e w' ⟨rfl,rfl⟩
        go_wp2_with fail
        go_ret
        exact⟨ret_bool E.out.symm,rfl⟩
    ·have E:=hid (rname_end s k n hlt HA.out (by omega) (by omega) HD.out)
     go_wp2_with fail
     go_ret
     exact⟨ret_bool (by rw[E.out,Bool.eq_iff_iff];simp),rfl⟩
  | false=>
   by_cases h47:c0.toNat=47
   ·have c47:c0=47:=UInt8.toNat_inj.1 h47
    have HD:Hid (rHead (bl s)=true):=by show _=_;rw[HH.out];simp[rPlain,c47]
    clear c47
    have hL:=fun W=>rdep_letter c0 W
    rw[hl] at hL
    have hD:=fun W=>rdep_digit c0 W
    rw[hd] at hD
    have b47:((c0.toNat:Int) != 47)=false:=by simp[h47]
    clear hl hd h47
    go_enter Tryz.func92,Tryz.ntmps92
    go_wp2_with fail
    refine(hL _).mono ?_;rintro e w' ⟨rfl,rfl⟩
    go_wp2_with fail
    refine(hD _).mono ?_;rintro e w' ⟨rfl,rfl⟩
    go_wp2_with fail
    clear hL hD
    go_loop [3,32] (fun o i=>∃ k n:Nat,k≤s.size∧n≤k∧o=.int .i64 n∧i=.int .i64 k∧Hid (((bl s).take k).foldl rStep (some 0)=some n)) (fun _ i=>s.size-(intOf i).toNat)
    case atStart=>exact⟨0,0,Nat.zero_le _,lr,rfl,rfl,by simp[Hid]⟩
    case round=>
     obtain⟨k,n,hk,hn,rfl,rfl,HA⟩:=hrel
     by_cases hlt:k<s.size
     ·obtain⟨c,hc⟩:∃ c:UInt8,s[k]=c:=⟨_,rfl⟩
      have NX:=hid (fun m=>rname_next s k n m hlt HA.out)
      have BD:=hid (rname_bad s k n hlt HA.out)
      rw[hc] at NX BD
      have hcc:∀ n:UInt8,c=n↔c.toNat=n.toNat:=fun n=>UInt8.toNat_inj.symm
      by_cases c40:c.toNat=40
      ·have e40:(c==40)=true:=by rw[beq_iff_eq,hcc];exact c40
       have HN:=hid (NX.out (n+1) (by simp[rStep,e40]))
       clear e40 hcc
       go_wp2_with fail
       go_round
       case rel=>exact⟨k+1,n+1,by omega,by omega,by go_num,by go_num,HN⟩
       case measure=>simp[intOf];omega
      have e40:(c==40)=false:=by rw[beq_eq_false_iff_ne,ne_eq,hcc];exact c40
      by_cases c41:c.toNat=41
      ·have e41:(c==41)=true:=by rw[beq_iff_eq,hcc];exact c41
       by_cases n0:n=0
       ·have E:=hid (BD.out (by simp[rStep,e40,e41,n0]))
        subst n0
        clear e40 e41 hcc
        go_wp2_with fail
        go_ret
        exact⟨ret_bool E.out.symm,rfl⟩
       ·have HN:=hid (NX.out (n-1) (by simp[rStep,e40,e41,n0]))
        obtain⟨m,rfl⟩:∃ m,n=m+1:=⟨n-1,by omega⟩
        clear e40 e41 hcc
        go_wp2_with fail
        go_round
        case rel=>exact⟨k+1,m,by omega,by omega,by go_num,by go_num,HN⟩
        case measure=>simp[intOf];omega
      have e41:(c==41)=false:=by rw[beq_eq_false_iff_ne,ne_eq,hcc];exact c41
      cases hl:letB c with
      | true=>
       have ho:rOther c=true:=by simp[rOther,hl]
       have HN:=hid (NX.out (n) (by simp[rStep,e40,e41,ho]))
       have hL:=fun W=>rdep_letter c W
       rw[hl] at hL
       clear hl ho e40 e41 hcc
       go_wp2_with fail
       refine(hL _).mono ?_;rintro e w' ⟨rfl,rfl⟩
       go_wp2_with fail
       go_round
       case rel=>exact⟨k+1,n,by omega,by omega,by go_num,by go_num,HN⟩
       case measure=>simp[intOf];omega
      | false=>
       cases hd:digB c with
       | true=>
        have ho:rOther c=true:=by simp[rOther,hd]
        have HN:=hid (NX.out (n) (by simp[rStep,e40,e41,ho]))
        have hL:=fun W=>rdep_letter c W
        rw[hl] at hL
        have hD:=fun W=>rdep_digit c W
        rw[hd] at hD
        clear hl hd ho e40 e41 hcc
        go_wp2_with fail
        refine(hL _).mono ?_;rintro e w' ⟨rfl,rfl⟩
        go_wp2_with fail
        refine(hD _).mono ?_;rintro e w' ⟨rfl,rfl⟩
        go_wp2_with fail
        go_round
        case rel=>exact⟨k+1,n,by omega,by omega,by go_num,by go_num,HN⟩
        case measure=>simp[intOf];omega
       | false=>
        have hco:=r_others c hl hd
        cases ho:rOther c with
        | true=>
         have hx:=ixB_pos ⟨#[46,95,43,45,47,58]⟩ c (by rw[hco,ho])
         have HN:=hid (NX.out (n) (by simp[rStep,e40,e41,ho]))
         have hL:=fun W=>rdep_letter c W
         rw[hl] at hL
         have hD:=fun W=>rdep_digit c W
         rw[hd] at hD
         clear hl hd ho hco e40 e41 hcc
         go_wp2_with fail
         refine(hL _).mono ?_;rintro e w' ⟨rfl,rfl⟩
         go_wp2_with fail
         refine(hD _).mono ?_;rintro e w' ⟨rfl,rfl⟩
         go_wp2_with fail
         refine(IndexByte_any _ c _).mono ?_;rintro e w' ⟨rfl,rfl⟩
         go_wp2_with fail
         go_round
         case rel=>exact⟨k+1,n,by omega,by omega,by go_num,by go_num,HN⟩
         case measure=>simp[intOf];omega
        | false=>
         have hx:=ixB_neg ⟨#[46,95,43,45,47,58]⟩ c (by rw[hco,ho])
         have E:=hid (BD.out (by simp[rStep,e40,e41,ho]))
         have hL:=fun W=>rdep_letter c W
         rw[hl] at hL
         have hD:=fun W=>rdep_digit c W
         rw[hd] at hD
         clear hl hd ho hco e40 e41 hcc
         go_wp2_with fail
         refine(hL _).mono ?_;rintro e w' ⟨rfl,rfl⟩
         go_wp2_with fail
         refine(hD _).mono ?_;rintro e w' ⟨rfl,rfl⟩
         go_wp2_with fail
         refine(IndexByte_any _ c _).mono ?_;rintro e w' ⟨rfl,rfl⟩
         go_wp2_with fail
         go_ret
         exact⟨ret_bool E.out.symm,rfl⟩
     ·have E:=hid (rname_end s k n hlt HA.out (by omega) (by omega) HD.out)
      go_wp2_with fail
      go_ret
      exact⟨ret_bool (by rw[E.out,Bool.eq_iff_iff];simp),rfl⟩
   ·have E:Hid (rnameB (bl s)=false):=rname_head s (by rw[HH.out];simp only[rPlain,hl,hd];simp;intro e;exact h47 (by rw[e];rfl))
    have hL:=fun W=>rdep_letter c0 W
    rw[hl] at hL
    have hD:=fun W=>rdep_digit c0 W
    rw[hd] at hD
    clear hl hd
    have b47:=bneI (b:=47) (by omega:(c0.toNat:Int)≠47)
    go_enter Tryz.func92,Tryz.ntmps92
    go_wp2_with fail
    refine(hL _).mono ?_;rintro e w' ⟨rfl,rfl⟩
    go_wp2_with fail
    refine(hD _).mono ?_;rintro e w' ⟨rfl,rfl⟩
    go_wp2_with fail
    go_ret
    exact⟨ret_bool E.out.symm,rfl⟩
end
end Go.Proofs.YtdfdllbebfoggaaGreatDoor
