/- A part of the proof that ModelChecks holds. No condition. -/
import Derived.Test.YtdfdllbebfoggaaGreatDoorD14
import Derived.Test.YtdfdllbebfoggaaGreatDoorD15
import Derived.Test.YtdfdllbebfoggaaGreatDoorD16
set_option maxRecDepth 100000
set_option maxHeartbeats 20000000
set_option linter.unusedVariables false
set_option linter.unusedSimpArgs false
namespace Go.Proofs.YtdfdllbebfoggaaGreatDoor
section
open Go.RowKit
def psplitS (s:BA):List BA:=(psplit (bl s)).map fun p=>(⟨p.toArray⟩:BA)
theorem map_baOf_bl (l:List BA):(l.map bl).map (fun p=>(⟨p.toArray⟩:BA))=l:=by
 rw[List.map_map];conv=>rhs;rw[←List.map_id l]
 apply List.map_congr_left;intro a _;apply bl_inj;simp[bl]
theorem splitB_psplit (s:BA):Lib.splitB ⟨#[47]⟩ 0 (Lib.countB s ⟨#[47]⟩) s=psplitS s:=by
 have h:=Lib.splitB_data ⟨#[47]⟩ 0 (Lib.countB s ⟨#[47]⟩) s
 have h2:Lib.countB s ⟨#[47]⟩=(bl s).count 47:=by
  show Lib.count _ _=_
  exact Lib.count_one 47 (bl s)
 have h3:(Lib.splitB ⟨#[47]⟩ 0 (Lib.countB s ⟨#[47]⟩) s).map bl=psplit (bl s):=by
  refine Eq.trans h ?_
  rw[h2];exact splitK_psplit _ (bl s) rfl
 unfold psplitS
 rw[←h3,map_baOf_bl]
theorem Split_any (s:BA)(w:World)(hG:Gl w)(hs:s.size≤4294967280):
  Calls Tryz.prog 95 #[.string s,.string ⟨#[47]⟩] w fun e w'=>e=.returned (.slice (some ⟨w.heap.size,0,none⟩) (psplitS s).length (psplitS s).length)∧Rd w' 1 (some ⟨w.heap.size,0,none⟩) (psplitS s).length (strCells (psplitS s))∧Below w.heap.size w w':=by
 obtain⟨m,hm⟩:=hG.ml
 refine(Tryz.strings_Split s ⟨#[47]⟩ m w (by omega) hm (by decide)).mono fun e w' ⟨he,hw⟩=>?_
 have hl:(psplitS s).length=Lib.countB s ⟨#[47]⟩+1:=by
  rw[←splitB_psplit];exact Lib.splitB_all ⟨#[47]⟩ (by decide) 0 _ s rfl
 rw[splitB_psplit] at hw
 rw[hl,hw]
 refine⟨he,⟨by simp[strCells,hl],fun _=>⟨_,0,rfl,fun j u hu=>?_⟩⟩,bR.alloc lr _⟩
 simpa [strCells] using hu
theorem Contains0 (s:BA)(w:World):
  Calls Tryz.prog 68 #[.string s,.string ⟨#[0]⟩] w fun e w'=>e=.returned (.bool ((bl s).contains 0))∧w=w':=
 (Tryz.strings_Contains_one s 0 w).mono fun e w' ⟨he,hw⟩=>⟨by
  rw[he];congr 2
  cases h:(bl s).contains 0
  ·have:=ixB_neg s 0 h;unfold ixB at this;simp only[bl] at this;simp;omega
  ·have:=ixB_pos s 0 h;unfold ixB at this;simp only[bl] at this;simpa using this,hw.symm⟩
theorem reads_one (w:World)(s:BA):Reads (w.alloc (.cells #[.string s] 9)) (w.heap.size+1) 1 (some ⟨w.heap.size,0,none⟩) 1 [.string s]:=by
 refine⟨rfl,fun _=>⟨_,rfl,by simp,fun j u hu=>?_⟩⟩
 cases j with
 | zero=>simp at hu;subst hu;simp[Addr.add]
 | succ j=>simp at hu
theorem partB_bl (p:BA):partB (bl p)=!(p.toList.isEmpty||p.toList == [46]||p.toList == [46,46]):=by
 rw[bl_toList];unfold partB
 rw[bI];simp
theorem psplitS_get (s:BA)(k:Nat)(x:BA)(h:(psplitS s)[k]?=some x):(psplit (bl s))[k]?=some (bl x):=by
 unfold psplitS at h
 rw[List.getElem?_map] at h
 obtain⟨p,hp,rfl⟩:=Option.map_eq_some_iff.1 h
 rw[hp,bl_mk]
theorem psplitS_len (s:BA):(psplitS s).length=(psplit (bl s)).length:=by simp[psplitS]
theorem psplit_length:∀ (l:LU),(psplit l).length≤l.length+1
 | []=>by simp[psplit]
 | c::r=>by
  have:=psplit_length r
  by_cases hc:c=47
  ·rw[psplit,if_pos hc];simp;omega
  ·obtain⟨p,ps,h1,h2⟩:=psplit_cons_ne hc r
   rw[h1] at this;rw[h2];simp at *;omega
theorem all_next {α:Type}{p:α→Bool}{l:List α}{k:Nat}{x:α}(h:l[k]?=some x)(h0:(l.take k).all p=true)(hx:p x=true):(l.take (k+1)).all p=true:=by
 obtain⟨hk,he⟩:=gS h
 rw[tS hk,List.all_append,h0,he];simp[hx]
theorem all_bad {α:Type}{p:α→Bool}{l:List α}{k:Nat}{x:α}(h:l[k]?=some x)(hx:p x=false):l.all p=false:=by
 rw[List.all_eq_false];exact⟨x,gM h,by simp[hx]⟩
theorem entry_Path (s:BA)(w:World)(hG:Gl w)(hs:s.size≤9223372036854775807):
  Calls Tryz.prog 65 #[.string s] w fun e w'=>e=.returned (.bool (pathB (bl s)))∧Below w.heap.size w w':=by
 have HG:=hid hG;clear hG
 by_cases h1:s.size<1
 ·have E:Hid (pathB (bl s)=false):=by show _=_;unfold pathB;rw[bl_length,show decide (1≤s.size)=false from dF (by omega)];rfl
  go_enter Tryz.func65,Tryz.ntmps65
  go_wp2_with fail
  go_ret
  exact⟨ret_bool E.out.symm,bR⟩
 by_cases h2:200<s.size
 ·have E:Hid (pathB (bl s)=false):=by show _=_;unfold pathB;rw[bl_length,show decide (s.size≤200)=false from dF (by omega)];simp
  go_enter Tryz.func65,Tryz.ntmps65
  go_wp2_with fail
  go_ret
  exact⟨ret_bool E.out.symm,bR⟩
 go_enter Tryz.func65,Tryz.ntmps65
 go_wp2_with fail
 refine(Contains0 _ _).mono ?_;rintro e w' ⟨rfl,rfl⟩
 cases h0:(bl s).contains 0
 ·go_wp2_with fail
  refine(Split_any s _ HG.out (by omega)).mono ?_;rintro e w1 ⟨rfl,hr,hb⟩
  have HR:=hid hr;have HB:=hid hb;clear hr hb
  have hN:(psplitS s).length≤201:=by rw[psplitS_len];have:=psplit_length (bl s);rw[bl_length] at this;omega
  have E:Hid (pathB (bl s)=(psplit (bl s)).all partB):=by show _=_;unfold pathB;rw[h0,bl_length,show decide (1≤s.size)=true from dT (by omega),show decide (s.size≤200)=true from dT (by omega)];simp
  have HL:=hid (psplitS_len s)
  clear h0
  go_wp2_with fail
  go_loop [20] (fun i=>∃ k:Nat,k≤(psplitS s).length∧i=.int .i64 k∧Hid (((psplit (bl s)).take k).all partB=true)) (fun i=>(psplitS s).length-(intOf i).toNat)
  case atStart=>exact⟨0,z0,rfl,by simp[Hid]⟩
  case round=>
   obtain⟨k,hk,rfl,HA⟩:=hrel
   by_cases hlt:k<(psplitS s).length
   ·obtain⟨x,hx⟩:∃ x,(psplitS s)[k]?=some x:=⟨_,gG hlt⟩
    obtain⟨b,off,hA,he⟩:=HR.out.str k x hx
    have hix:=fun W=>idx_of (T:=22) (E:=9) (sz:=1) (c:=(psplitS s).length) Tryz.underlying22 rfl Tryz.sizeOf9 hA hlt W
    simp only[Nat.mul_one] at hix
    have HX:=hid (psplitS_get s k x hx)
    clear hx hA
    go_wp2_with fail
    ·go_ret
     exact⟨ret_bool (by rw[E.out];exact(all_bad HX.out (by rw[partB_bl];simp_all)).symm),HB.out⟩
    ·go_ret
     exact⟨ret_bool (by rw[E.out];exact(all_bad HX.out (by rw[partB_bl];simp_all)).symm),HB.out⟩
    ·go_ret
     exact⟨ret_bool (by rw[E.out];exact(all_bad HX.out (by rw[partB_bl];simp_all)).symm),HB.out⟩
    ·go_round
     case rel=>exact⟨k+1,by omega,by go_num,hid (all_next HX.out HA.out (by rw[partB_bl];simp_all))⟩
     case measure=>simp[intOf];omega
   ·go_wp2_with fail
    go_ret
    exact⟨ret_bool (by rw[E.out];have:=HA.out;rw[tL (by rw[←HL.out];omega)] at this;exact this.symm),HB.out⟩
 ·have E:Hid (pathB (bl s)=false):=by show _=_;unfold pathB;rw[h0];simp
  go_wp2_with fail
  go_ret
  exact⟨ret_bool E.out.symm,bR⟩
def hasB (l:LU)(c:UInt8):Bool:=l.contains c
theorem ref_Has (s:BA)(c:UInt8)(w:World)(hs:s.size≤9223372036854775807):
  Calls Tryz.prog 104 #[.string s,.int .u8 c.toNat] w fun e w'=>e=.returned (.bool (hasB (bl s) c))∧w=w':=by
 go_enter Tryz.func104,Tryz.ntmps104
 go_wp2_with fail
 go_loop [5] (fun i=>∃ k:Nat,k≤s.size∧i=.int .i64 k∧Hid (((bl s).take k).contains c=false)) (fun i=>s.size-(intOf i).toNat)
 case atStart=>exact⟨0,z0,rfl,by simp[Hid]⟩
 case round=>
  obtain⟨k,hk,rfl,HA⟩:=hrel
  by_cases hlt:k<s.size
  ·by_cases hc:s[k]=c
   ·have hc1:((s[k].toNat:Int)==(c.toNat:Int))=true:=by rw[hc];simp
    have HC:=hid hc
    clear hc
    go_wp2_with fail
    go_ret
    exact⟨ret_bool (contains_at s c k hlt HC.out).symm,rfl⟩
   ·have hc1:((s[k].toNat:Int)==(c.toNat:Int))=false:=by
     simp only[bF,ne_eq];intro h;apply hc;apply UInt8.toNat_inj.1;omega
    have HC:=hid hc
    clear hc
    go_wp2_with fail
    go_round
    case rel=>exact⟨k+1,by omega,by go_num,hid (contains_take_next s c k hlt HA.out (by simpa using HC.out))⟩
    case measure=>simp[intOf];omega
  ·go_wp2_with fail
   go_ret
   exact⟨ret_bool (by have:=HA.out;rw[bl_take_ge s k (by omega)] at this;exact this.symm),rfl⟩
def PartsInv (s:BA)(k from_:Nat)(out:List BA):Prop:=
 (k≤s.size∧from_≤k∧(47:UInt8) ∉ ((bl s).drop from_).take (k-from_)∧psplit (bl s)=out.map bl++psplit ((bl s).drop from_))∨(k=s.size+1∧psplit (bl s)=out.map bl)
theorem PartsInv.next {s:BA}{k from_:Nat}{out:List BA}(h:PartsInv s k from_ out)(hk:k<s.size)(hc:¬ s[k]=47):PartsInv s (k+1) from_ out:=by
 rcases h with⟨h1,h2,h3,h4⟩ | ⟨h1,_⟩
 ·refine .inl ⟨by omega,by omega,?_,h4⟩
  have hl:k-from_<((bl s).drop from_).length:=by rw[List.length_drop,bl_length];omega
  rw[show k+1-from_=(k-from_)+1 by omega,tS hl,List.mem_append,List.mem_singleton]
  rintro(h | h)
  ·exact h3 h
  ·apply hc
   have h5:=bl_get s k hk
   rw[List.getElem_drop] at h
   simp only[show from_+(k-from_)=k by omega] at h
   rw[←h5];exact h.symm
 ·omega
theorem PartsInv.hit {s:BA}{k from_:Nat}{out:List BA}(h:PartsInv s k from_ out)(hk:k<s.size)(hc:s[k]=47):PartsInv s (k+1) (k+1) (out++[s.extract from_ k]):=by
 rcases h with⟨h1,h2,h3,h4⟩ | ⟨h1,_⟩
 ·refine .inl ⟨by omega,lr,by simp,?_⟩
  have hg:((bl s).drop from_)[k-from_]?=some 47:=by
   rw[List.getElem?_drop,show from_+(k-from_)=k by omega,bl_get? s k hk,hc]
  rw[h4,psplit_hit _ _ h3 hg,List.map_append,List.append_assoc]
  congr 1
  simp only[List.map_cons,List.map_nil,List.singleton_append,bl_extract,List.drop_drop]
  rw[show from_+(k-from_+1)=k+1 by omega]
 ·omega
theorem PartsInv.last {s:BA}{from_:Nat}{out:List BA}(h:PartsInv s s.size from_ out):PartsInv s (s.size+1) (s.size+1) (out++[s.extract from_ s.size]):=by
 rcases h with⟨h1,h2,h3,h4⟩ | ⟨h1,_⟩
 ·refine .inr ⟨rfl,?_⟩
  have hn:(47:UInt8) ∉ (bl s).drop from_:=by
   rw[tL (by rw[List.length_drop,bl_length];omega)] at h3;exact h3
  rw[h4,psplit_none _ hn,List.map_append]
  simp[bl_drop]
 ·omega
theorem PartsInv.le {s:BA}{k from_:Nat}{out:List BA}(h:PartsInv s k from_ out)(hk:k≤s.size):from_≤k∧out.length≤s.size+1:=by
 have hp:=psplit_length (bl s)
 rw[bl_length] at hp
 rcases h with⟨h1,h2,h3,h4⟩ | ⟨h1,_⟩
 ·refine⟨h2,?_⟩
  have:=congrArg List.length h4
  rw[List.length_append,List.length_map] at this;omega
 ·omega
def PartsPost (s:BA)(w:World)(e:Ending)(w':World):Prop:=∃ A c,e=.returned (.slice A (psplitS s).length c)∧Rd w' 1 A (psplitS s).length (strCells (psplitS s))∧Below w.heap.size w w'
theorem ref_Parts (s:BA)(w:World)(hs:s.size≤100000):
  Calls Tryz.prog 105 #[.string s] w (PartsPost s w):=by
 obtain⟨i0,hi0,hz0,hz1,hz2⟩:=info_parts info_str
 go_enter Tryz.func105,Tryz.ntmps105
 go_wp2_with fail
 go_loopw [3,4,5] (fun o f i wr=>∃ (k fr:Nat) (out:List BA),k≤s.size+1∧fr≤s.size+1∧i=.int .i64 k∧f=.int .i64 fr∧Hid (PartsInv s k fr out)∧Hid (wr.ownsRow w.heap.size 9 1 o out.length (strCells out))∧Hid (Below w.heap.size w wr)) (fun _ _ i _=>s.size+1-(intOf i).toNat)
 case atStart=>exact⟨0,0,[],z0,z0,rfl,rfl,hid (.inl ⟨z0,lr,by simp,by simp⟩),World.ownsRow_nil _ _ _ _,bR⟩
 case round=>
  obtain⟨k,fr,out,hk,hf,rfl,rfl,HI,HO,HB⟩:=hrel
  obtain⟨Ao,co,rfl⟩:=owns_form HO.out
  by_cases hle:k≤s.size
  ·obtain⟨hfk,hol⟩:=HI.out.le hle
   have fin:∀ (k:Nat),True:=fun _=>trivial
   by_cases hlt:k<s.size
   ·have hne:((k:Int)==(s.size:Int))=false:=by simp;omega
    by_cases hc:s[k]=47
    ·have hc1:((s[k].toNat:Int)==47)=true:=by rw[hc];rfl
     have HC:=hid hc
     clear hc
     go_wp2_with (at_builtin;refine wpList_append_any _ rfl _ _ _ rfl w.heap.size 9 i0 _ 1 16 Tryz.underlying22 hi0 hz0 hz1 hz2 rfl (by omega) (.slice Ao out.length co) out.length _ rfl (HO.out.alloc _) (wr.heap.size+1) (some ⟨wr.heap.size,0,none⟩) 1 1 [.string (s.extract fr k)] rfl (reads_one wr _) (by simp[Value.oneCell']) (by simp only[maxLen];omega) (by omega) (by simp;have:=HB.out.size;omega) ?_;intro v1 w1 o1 g1 a1)
     have O1:Hid (w1.ownsRow w.heap.size 9 1 v1 (out++[s.extract fr k]).length (strCells (out++[s.extract fr k]))):=by show World.ownsRow _ _ _ _ _ _ _;rw[List.length_append];simpa [strCells] using o1
     have B1:Hid (Below w.heap.size w w1):=(HB.out.alloc HB.out.size _).grown g1 (by simp;have:=HB.out.size;omega) (fun j hj=>(HO.out.lt j hj).1)
     clear o1 g1 a1
     go_roundw
     case rel=>exact⟨k+1,k+1,_,by omega,by omega,by go_num,by go_num,hid (HI.out.hit hlt HC.out),O1,B1⟩
     case measure=>simp[intOf];omega
    ·have hc1:((s[k].toNat:Int)==47)=false:=by
      simp only[bF,ne_eq];intro h;apply hc;apply UInt8.toNat_inj.1;show _=47;omega
     have HC:=hid hc
     clear hc
     go_wp2_with fail
     go_roundw
     case rel=>exact⟨k+1,fr,out,by omega,by omega,by go_num,rfl,hid (HI.out.next hlt HC.out),HO,HB⟩
     case measure=>simp[intOf];omega
   ·obtain rfl:k=s.size:=by omega
    have hne:((s.size:Int)==(s.size:Int))=true:=by simp
    go_wp2_with (at_builtin;refine wpList_append_any _ rfl _ _ _ rfl w.heap.size 9 i0 _ 1 16 Tryz.underlying22 hi0 hz0 hz1 hz2 rfl (by omega) (.slice Ao out.length co) out.length _ rfl (HO.out.alloc _) (wr.heap.size+1) (some ⟨wr.heap.size,0,none⟩) 1 1 [.string (s.extract fr s.size)] rfl (reads_one wr _) (by simp[Value.oneCell']) (by simp only[maxLen];omega) (by omega) (by simp;have:=HB.out.size;omega) ?_;intro v1 w1 o1 g1 a1)
    have O1:Hid (w1.ownsRow w.heap.size 9 1 v1 (out++[s.extract fr s.size]).length (strCells (out++[s.extract fr s.size]))):=by show World.ownsRow _ _ _ _ _ _ _;rw[List.length_append];simpa [strCells] using o1
    have B1:Hid (Below w.heap.size w w1):=(HB.out.alloc HB.out.size _).grown g1 (by simp;have:=HB.out.size;omega) (fun j hj=>(HO.out.lt j hj).1)
    clear o1 g1 a1
    go_roundw
    case rel=>exact⟨s.size+1,s.size+1,_,by omega,by omega,by go_num,by go_num,hid HI.out.last,O1,B1⟩
    case measure=>simp[intOf]
  ·go_wp2_with fail
   go_ret
   have e:out=psplitS s:=by
    rcases HI.out with⟨h1,_⟩ | ⟨_,h2⟩
    ·omega
    ·unfold psplitS;rw[h2,map_baOf_bl]
   subst e
   exact⟨Ao,co,rfl,owns_rd HO.out,HB.out⟩
def parS (s:BA):BA:=⟨((parentL (bl s)).getD []).toArray⟩
def parB (s:BA):Bool:=(parentL (bl s)).isSome
def parV (s:BA):Value:=.tuple #[.string (parS s),.bool (parB s)]
theorem parV_none {s:BA}(h:parentL (bl s)=none):parV s=.tuple #[.string ⟨#[]⟩,.bool false]:=by simp[parV,parS,parB,h]
theorem parV_some {s:BA}{i:Nat}(h:parentL (bl s)=some ((bl s).take i)):parV s=.tuple #[.string (s.extract 0 i),.bool true]:=by
 simp only[parV,parS,parB,h,Option.getD_some,Option.isSome_some]
 congr 3
 apply congrArg;apply bl_inj;rw[bl_mk,bl_take]
theorem entry_Parent (s:BA)(w:World)(hG:Gl w)(hs:s.size≤4294967280):
  Calls Tryz.prog 64 #[.string s] w fun e w'=>e=.returned (parV s)∧Below w.heap.size w w':=by
 have HG:=hid hG;clear hG
 cases hl:lastL 47 (bl s) with
 | none=>
  have E:Hid (parentL (bl s)=none):=by show _=_;unfold parentL;rw[hl];simp
  have HL:=hid hl;clear hl
  go_enter Tryz.func64,Tryz.ntmps64
  go_wp2_with fail
  refine(LastIndexByte_none s 47 _ (by omega) HL).mono ?_;rintro e w' ⟨rfl,rfl⟩
  go_wp2_with fail
  go_ret2
  exact⟨by rw[parV_none E.out];rfl,bR⟩
 | some i=>
  have hi:i<s.size:=by have:=lastL_lt _ _ _ hl;rw[bl_length] at this;exact this
  cases hp:pathB (bl s)
  ·have E:Hid (parentL (bl s)=none):=by show _=_;unfold parentL;rw[hp];rfl
   have HL:=hid hl;have HP:=hid hp;clear hl hp
   go_enter Tryz.func64,Tryz.ntmps64
   go_wp2_with fail
   refine(LastIndexByte_some s 47 i _ (by omega) HL).mono ?_;rintro e w' ⟨rfl,rfl⟩
   go_wp2_with fail
   refine(entry_Path s _ HG.out (by omega)).mono ?_;rintro e w1 ⟨rfl,hb⟩
   rw[HP.out]
   have HB:=hid hb;clear hb
   go_wp2_with fail
   go_ret2
   exact⟨by rw[parV_none E.out];rfl,HB.out⟩
  ·have E:Hid (parentL (bl s)=some ((bl s).take i)):=by show _=_;unfold parentL;rw[hp,hl];rfl
   have HL:=hid hl;have HP:=hid hp;clear hl hp
   go_enter Tryz.func64,Tryz.ntmps64
   go_wp2_with fail
   refine(LastIndexByte_some s 47 i _ (by omega) HL).mono ?_;rintro e w' ⟨rfl,rfl⟩
   go_wp2_with fail
   refine(entry_Path s _ HG.out (by omega)).mono ?_;rintro e w1 ⟨rfl,hb⟩
   rw[HP.out]
   have HB:=hid hb;clear hb
   go_wp2_with fail
   go_ret2
   exact⟨by rw[parV_some E.out];rfl,HB.out⟩
theorem ref_Path (s:BA)(w:World)(hs:s.size≤9223372036854775807):
  Calls Tryz.prog 74 #[.string s] w fun e w'=>e=.returned (.bool (pathB (bl s)))∧Below w.heap.size w w':=by
 by_cases h1:s.size<1
 ·have E:Hid (pathB (bl s)=false):=by show _=_;unfold pathB;rw[bl_length,show decide (1≤s.size)=false from dF (by omega)];rfl
  go_enter Tryz.func74,Tryz.ntmps74
  go_wp2_with fail
  go_ret
  exact⟨ret_bool E.out.symm,bR⟩
 by_cases h2:200<s.size
 ·have E:Hid (pathB (bl s)=false):=by show _=_;unfold pathB;rw[bl_length,show decide (s.size≤200)=false from dF (by omega)];simp
  go_enter Tryz.func74,Tryz.ntmps74
  go_wp2_with fail
  go_ret
  exact⟨ret_bool E.out.symm,bR⟩
 go_enter Tryz.func74,Tryz.ntmps74
 go_wp2_with fail
 refine(ref_Has s 0 _ hs).mono ?_;rintro e w' ⟨rfl,rfl⟩
 unfold hasB
 cases h0:(bl s).contains 0
 ·go_wp2_with fail
  refine(ref_Parts s _ (by omega)).mono ?_;rintro e w1 ⟨Ap,cp,rfl,hr,hb⟩
  have HR:=hid hr;have HB:=hid hb;clear hr hb
  have hN:(psplitS s).length≤201:=by rw[psplitS_len];have:=psplit_length (bl s);rw[bl_length] at this;omega
  have E:Hid (pathB (bl s)=(psplit (bl s)).all partB):=by show _=_;unfold pathB;rw[h0,bl_length,show decide (1≤s.size)=true from dT (by omega),show decide (s.size≤200)=true from dT (by omega)];simp
  have HL:=hid (psplitS_len s)
  clear h0
  go_wp2_with fail
  go_loop [4] (fun i=>∃ k:Nat,k≤(psplitS s).length∧i=.int .i64 k∧Hid (((psplit (bl s)).take k).all partB=true)) (fun i=>(psplitS s).length-(intOf i).toNat)
  case atStart=>exact⟨0,z0,rfl,by simp[Hid]⟩
  case round=>
   obtain⟨k,hk,rfl,HA⟩:=hrel
   by_cases hlt:k<(psplitS s).length
   ·obtain⟨x,hx⟩:∃ x,(psplitS s)[k]?=some x:=⟨_,gG hlt⟩
    obtain⟨b,off,hA,he⟩:=HR.out.str k x hx
    have hix:=fun W=>idx_of (T:=22) (E:=9) (sz:=1) (c:=cp) Tryz.underlying22 rfl Tryz.sizeOf9 hA hlt W
    simp only[Nat.mul_one] at hix
    have HX:=hid (psplitS_get s k x hx)
    clear hx hA
    go_wp2_with fail
    ·go_ret
     exact⟨ret_bool (by rw[E.out];exact(all_bad HX.out (by rw[partB_bl];simp_all)).symm),HB.out⟩
    ·go_ret
     exact⟨ret_bool (by rw[E.out];exact(all_bad HX.out (by rw[partB_bl];simp_all)).symm),HB.out⟩
    ·go_ret
     exact⟨ret_bool (by rw[E.out];exact(all_bad HX.out (by rw[partB_bl];simp_all)).symm),HB.out⟩
    ·go_round
     case rel=>exact⟨k+1,by omega,by go_num,hid (all_next HX.out HA.out (by rw[partB_bl];simp_all))⟩
     case measure=>simp[intOf];omega
   ·go_wp2_with fail
    go_ret
    exact⟨ret_bool (by rw[E.out];have:=HA.out;rw[tL (by rw[←HL.out];omega)] at this;exact this.symm),HB.out⟩
 ·have E:Hid (pathB (bl s)=false):=by show _=_;unfold pathB;rw[h0];simp
  go_wp2_with fail
  go_ret
  exact⟨ret_bool E.out.symm,bR⟩
theorem pathB_le {s:BA}(h:pathB (bl s)=true):s.size≤200:=by
 unfold pathB at h
 rw[Bool.and_eq_true,Bool.and_eq_true,Bool.and_eq_true] at h
 have:=dO h.1.1.2
 rw[bl_length] at this;exact this
theorem ref_Parts_at (s:BA)(n:Nat)(hn:Hid ((psplitS s).length=n))(w:World)(hs:s.size≤100000):
  Calls Tryz.prog 105 #[.string s] w fun e w'=>∃ A c,e=.returned (.slice A n c)∧Rd w' 1 A (psplitS s).length (strCells (psplitS s))∧Below w.heap.size w w':=
 (ref_Parts s w hs).mono fun e w' ⟨A,c,h1,h2,h3⟩=>⟨A,c,by rw[←hn.out];exact h1,h2,h3⟩
theorem ref_Parent (s:BA)(w:World)(hs:s.size≤9223372036854775807):
  Calls Tryz.prog 76 #[.string s] w fun e w'=>e=.returned (parV s)∧Below w.heap.size w w':=by
 cases hp:pathB (bl s)
 ·have E:Hid (parentL (bl s)=none):=by show _=_;unfold parentL;rw[hp];rfl
  have HP:=hid hp;clear hp
  go_enter Tryz.func76,Tryz.ntmps76
  go_wp2_with fail
  refine(ref_Path s _ hs).mono ?_;rintro e w1 ⟨rfl,hb⟩
  rw[HP.out]
  have HB:=hid hb;clear hb
  go_wp2_with fail
  go_ret2
  exact⟨by rw[parV_none E.out];rfl,HB.out⟩
 have h200:=pathB_le hp
 cases hl:lastL 47 (bl s) with
 | none=>
  have E:Hid (parentL (bl s)=none):=by show _=_;unfold parentL;rw[hp,hl];rfl
  have HN:Hid ((psplitS s).length=1):=by show _=_;rw[psplitS_len,(psplit_last (bl s)).1 hl];rfl
  have HP:=hid hp;clear hp hl
  go_enter Tryz.func76,Tryz.ntmps76
  go_wp2_with fail
  refine(ref_Path s _ hs).mono ?_;rintro e w1 ⟨rfl,hb⟩
  rw[HP.out]
  have HB:=hid hb;clear hb
  go_wp2_with fail
  refine(ref_Parts_at s 1 HN _ (by omega)).mono ?_;rintro e w2 ⟨Ap,cp,rfl,_,hb2⟩
  have HB2:=hid (bthen HB.out hb2);clear hb2
  go_wp2_with fail
  go_ret2
  exact⟨by rw[parV_none E.out];rfl,HB2.out⟩
 | some i=>
  have hi:i<s.size:=by have:=lastL_lt _ _ _ hl;rw[bl_length] at this;exact this
  have E:Hid (parentL (bl s)=some ((bl s).take i)):=by show _=_;unfold parentL;rw[hp,hl];rfl
  obtain⟨h2,h3⟩:=(psplit_last (bl s)).2 i hl
  obtain⟨M,hM⟩:∃ M,(psplitS s).length=M+1:=⟨(psplitS s).length-1,by rw[psplitS_len];omega⟩
  have hM1:1≤M:=by rw[psplitS_len] at hM;omega
  have hM2:M≤1000:=by have:=psplit_length (bl s);rw[←psplitS_len,bl_length] at this;omega
  obtain⟨x,hx⟩:∃ x,(psplitS s)[M]?=some x:=⟨_,gG (by omega)⟩
  have hxl:x.size=s.size-i-1:=by
   have h4:=psplitS_get s M x hx
   rw[List.getLast?_eq_getElem?,←psplitS_len,hM,show M+1-1=M by omega,h4] at h3
   injection h3 with h3
   have:=congrArg List.length h3
   rw[bl_length,List.length_drop,bl_length] at this;omega
  have HN:=hid hM
  have HP:=hid hp;have HX:=hid hx;have HXL:=hid hxl
  clear hp hl h3 hM hx hxl h2
  go_enter Tryz.func76,Tryz.ntmps76
  go_wp2_with fail
  refine(ref_Path s _ hs).mono ?_;rintro e w1 ⟨rfl,hb⟩
  rw[HP.out]
  have HB:=hid hb;clear hb
  go_wp2_with fail
  refine(ref_Parts_at s (M+1) HN _ (by omega)).mono ?_;rintro e w2 ⟨Ap,cp,rfl,hr,hb2⟩
  have HB2:=hid (bthen HB.out hb2);clear hb2
  obtain⟨b,off,hA,he⟩:=hr.str M x HX.out
  have hix:=fun W=>idx_of (T:=22) (E:=9) (sz:=1) (c:=cp) (n:=M+1) Tryz.underlying22 rfl Tryz.sizeOf9 hA (show M<M+1 by omega) W
  simp only[Nat.mul_one] at hix
  clear hr hA
  have hx1:(x.size:Int)=(s.size:Int)-i-1:=by have:=HXL.out;omega
  go_wp2_with fail
  go_ret2
  refine⟨?_,HB2.out⟩
  rw[parV_some E.out]
  simp
  congr 1;omega
def FileM.val (f:FileM):Value:=.agg #[.string f.path,.int .i64 f.kind,.int .i64 f.mode,.string f.owner,.string f.group,.string f.link,.string f.sum,.bool f.conf]
def restB (fmt:Int)(f:FileM):Bool:=decide (0≤f.mode∧f.mode≤4095)&&ownB fmt f.owner&&ownB fmt f.group&&(if f.kind=3 then decide (f.mode=511)&&plainB (bl f.link)&&decide (f.link.size≤200) else decide (f.link.size=0))&&(if f.kind=1 then sgB fmt f.sum&&(!f.conf||decide (fmt≠3)) else decide (f.sum.size=0) && !f.conf)
def restE (fmt:Int)(f:FileM):Int:=if restB fmt f then 0 else 1
theorem model_restRight (fmt:Int)(hfmt:fmt=1∨fmt=2∨fmt=3)(f:FileM)(w:World)(ho:f.owner.size≤9223372036854775807)(hg:f.group.size≤9223372036854775807)(hl:f.link.size≤9223372036854775807)(hsm:f.sum.size≤9223372036854775807):
  Calls Tryz.prog 66 #[.int .i64 fmt,f.val] w fun e w'=>e=.returned (.bool (restB fmt f))∧Below w.heap.size w w':=by
 have HW:Hid (Below w.heap.size w (w.alloc (.cells #[.string f.path,.int .i64 f.kind,.int .i64 f.mode,.string f.owner,.string f.group,.string f.link,.string f.sum,.bool f.conf] 46))):=bR.alloc lr _
 unfold FileM.val
 by_cases hm0:f.mode<0
 ·skip
  have E:Hid (restB fmt f=false):=by show _=_;unfold restB;rw[dF (by omega)];rfl
  go_enter Tryz.func66,Tryz.ntmps66
  go_wp2_with fail
  go_ret
  exact⟨ret_bool (by rw[E.out]),HW.out⟩
 by_cases hm1:4095<f.mode
 ·skip
  have E:Hid (restB fmt f=false):=by show _=_;unfold restB;rw[dF (by omega)];rfl
  go_enter Tryz.func66,Tryz.ntmps66
  go_wp2_with fail
  go_ret
  exact⟨ret_bool (by rw[E.out]),HW.out⟩
 have RM:Hid (decide (0≤f.mode∧f.mode≤4095)=true):=dT (by omega)
 go_enter Tryz.func66,Tryz.ntmps66
 go_wp2_with fail
 refine(model_ownerRight fmt f.owner _ ho).mono ?_;rintro e w' ⟨rfl,rfl⟩
 cases g1:ownB fmt f.owner
 ·skip
  have E:Hid (restB fmt f=false):=by show _=_;unfold restB;rw[g1];simp
  clear g1
  go_wp2_with fail
  go_ret
  exact⟨ret_bool (by rw[E.out]),HW.out⟩
 have G1:=hid g1;clear g1
 go_wp2_with fail
 refine(model_ownerRight fmt f.group _ hg).mono ?_;rintro e w' ⟨rfl,rfl⟩
 cases g2:ownB fmt f.group
 ·skip
  have E:Hid (restB fmt f=false):=by show _=_;unfold restB;rw[g2];simp
  clear g2
  go_wp2_with fail
  go_ret
  exact⟨ret_bool (by rw[E.out]),HW.out⟩
 have G2:=hid g2;clear g2
 have HWX:=HW.out
 by_cases k3:f.kind=3
 ·have k3':(f.kind==3)=true:=by simpa using k3
  have k1':(f.kind==1)=false:=by simp;omega
  by_cases m5:f.mode=511
  ·have m5':(f.mode != 511)=false:=by simpa [bne] using m5
   have M5:Hid (decide (f.mode=511)=true):=dT m5
   have K3:=hid k3;clear k3 m5
   go_wp2_with fail
   refine(model_Plain f.link _ hl).mono ?_;rintro e w' ⟨rfl,rfl⟩
   cases g3:plainB (bl f.link)
   ·skip
    have E:Hid (restB fmt f=false):=by show _=_;unfold restB;rw[if_pos K3.out,g3];simp
    clear g3
    go_wp2_with fail
    go_ret
    exact⟨ret_bool (by rw[E.out]),HWX⟩
   have G3:=hid g3;clear g3
   by_cases l2:200<f.link.size
   ·skip
    have E:Hid (restB fmt f=false):=by show _=_;unfold restB;rw[if_pos K3.out,dF (show ¬ f.link.size≤200 by omega)];simp
    go_wp2_with fail
    go_ret
    exact⟨ret_bool (by rw[E.out]),HWX⟩
   have L2:Hid (decide (f.link.size≤200)=true):=dT (by omega)
   have RL:Hid ((if f.kind=3 then decide (f.mode=511)&&plainB (bl f.link)&&decide (f.link.size≤200) else decide (f.link.size=0))=true):=by show _=_;rw[if_pos K3.out,M5.out,G3.out,L2.out];rfl
   have KN:HidN (f.kind=1):=⟨by have:=K3.out;omega⟩
   by_cases s0:f.sum.size=0
   ·have se:f.sum.toList=[]:=by rw[bl_toList,bl_nil _ s0]
    have se2:f.sum.toList.isEmpty=true:=by rw[se];rfl
    cases hcf:f.conf
    ·skip
     have E:Hid (restB fmt f=true):=by show _=_;unfold restB;rw[RM.out,G1.out,G2.out,RL.out,if_neg KN.out,dT s0,hcf];rfl
     simp only[hcf] at *
     go_wp2_with fail
     go_ret
     exact⟨ret_bool (by rw[E.out]),HWX⟩
    ·skip
     have E:Hid (restB fmt f=false):=by show _=_;unfold restB;rw[if_neg KN.out,hcf];simp
     simp only[hcf] at *
     go_wp2_with fail
     go_ret
     exact⟨ret_bool (by rw[E.out]),HWX⟩
   ·have se2:f.sum.toList.isEmpty=false:=by rw[bl_toList,bl_isEmpty];exact dF s0
    have se:¬ f.sum.toList=[]:=by intro h;rw[h] at se2;simp at se2
    have E:Hid (restB fmt f=false):=by show _=_;unfold restB;rw[if_neg KN.out,dF s0];simp
    clear s0
    go_wp2_with fail
    go_ret
    exact⟨ret_bool (by rw[E.out]),HWX⟩
  ·have m5':(f.mode != 511)=true:=by simpa [bne] using m5
   have E:Hid (restB fmt f=false):=by show _=_;unfold restB;rw[if_pos k3,dF m5];simp
   clear k3 m5
   go_wp2_with fail
   go_ret
   exact⟨ret_bool (by rw[E.out]),HWX⟩
 ·have k3':(f.kind==3)=false:=by simpa using k3
  by_cases l0:f.link.size=0
  ·have le:f.link.toList=[]:=by rw[bl_toList,bl_nil _ l0]
   have le2:f.link.toList.isEmpty=true:=by rw[le];rfl
   have RL:Hid ((if f.kind=3 then decide (f.mode=511)&&plainB (bl f.link)&&decide (f.link.size≤200) else decide (f.link.size=0))=true):=by show _=_;rw[if_neg k3,dT l0]
   by_cases k1:f.kind=1
   ·have k1':(f.kind==1)=true:=by simpa using k1
    have K1:=hid k1;clear k1 k3 l0
    go_wp2_with fail
    refine(model_sumRight fmt hfmt f.sum _ hsm).mono ?_;rintro e w3 ⟨rfl,hb3⟩
    have X3:Hid (Bx w w3 f.cells):=(Bx.start w f.cells _).step hb3
    have x7:=X3.out.cell 7 _ rfl
    clear hb3
    have HWZ:=X3.out.bel
    cases g4:sgB fmt f.sum
    ·skip
     have E:Hid (restB fmt f=false):=by show _=_;unfold restB;rw[if_pos K1.out,g4];simp
     clear g4
     go_wp2_with fail
     go_ret
     exact⟨ret_bool (by rw[E.out]),HWZ⟩
    have G4:=hid g4;clear g4
    cases hcf:f.conf
    ·skip
     have E:Hid (restB fmt f=true):=by show _=_;unfold restB;rw[RM.out,G1.out,G2.out,RL.out,if_pos K1.out,G4.out,hcf];rfl
     simp only[hcf] at *
     go_wp2_with fail
     go_ret
     exact⟨ret_bool (by rw[E.out]),HWZ⟩
    by_cases f3:fmt=3
    ·have f3':(fmt==3)=true:=by simpa using f3
     have f3n:(fmt != 3)=false:=by simpa [bne] using f3
     have E:Hid (restB fmt f=false):=by show _=_;unfold restB;rw[if_pos K1.out,hcf,dF (show ¬ fmt≠3 from fun h=>h f3)];simp
     clear f3
     simp only[hcf] at *
     go_wp2_with fail
     go_ret
     exact⟨ret_bool (by rw[E.out]),HWZ⟩
    ·have f3':(fmt==3)=false:=by simpa using f3
     have f3n:(fmt != 3)=true:=by simpa [bne] using f3
     have E:Hid (restB fmt f=true):=by show _=_;unfold restB;rw[RM.out,G1.out,G2.out,RL.out,if_pos K1.out,G4.out,hcf,dT (show fmt≠3 from f3)];rfl
     clear f3
     simp only[hcf] at *
     go_wp2_with fail
     go_ret
     exact⟨ret_bool (by rw[E.out]),HWZ⟩
   ·have k1':(f.kind==1)=false:=by simpa using k1
    have KN:HidN (f.kind=1):=⟨k1⟩
    clear k1 k3 l0
    by_cases s0:f.sum.size=0
    ·have se:f.sum.toList=[]:=by rw[bl_toList,bl_nil _ s0]
     have se2:f.sum.toList.isEmpty=true:=by rw[se];rfl
     cases hcf:f.conf
     ·skip
      have E:Hid (restB fmt f=true):=by show _=_;unfold restB;rw[RM.out,G1.out,G2.out,RL.out,if_neg KN.out,dT s0,hcf];rfl
      simp only[hcf] at *
      go_wp2_with fail
      go_ret
      exact⟨ret_bool (by rw[E.out]),HWX⟩
     ·skip
      have E:Hid (restB fmt f=false):=by show _=_;unfold restB;rw[if_neg KN.out,hcf];simp
      simp only[hcf] at *
      go_wp2_with fail
      go_ret
      exact⟨ret_bool (by rw[E.out]),HWX⟩
    ·have se2:f.sum.toList.isEmpty=false:=by rw[bl_toList,bl_isEmpty];exact dF s0
     have se:¬ f.sum.toList=[]:=by intro h;rw[h] at se2;simp at se2
     have E:Hid (restB fmt f=false):=by show _=_;unfold restB;rw[if_neg KN.out,dF s0];simp
     clear s0
     go_wp2_with fail
     go_ret
     exact⟨ret_bool (by rw[E.out]),HWX⟩
  ·have le2:f.link.toList.isEmpty=false:=by rw[bl_toList,bl_isEmpty];exact dF l0
   have le:¬ f.link.toList=[]:=by intro h;rw[h] at le2;simp at le2
   have E:Hid (restB fmt f=false):=by show _=_;unfold restB;rw[if_neg k3,dF l0];simp
   clear k3 l0
   go_wp2_with fail
   go_ret
   exact⟨ret_bool (by rw[E.out]),HWX⟩
theorem ref_file1 (fmt:Int)(hfmt:fmt=1∨fmt=2∨fmt=3)(f:FileM)(w:World)(hk1:¬ f.kind<1)(hk2:¬ 3<f.kind)(ho:f.owner.size≤9223372036854775807)(hg:f.group.size≤9223372036854775807)(hl:f.link.size≤9223372036854775807)(hsm:f.sum.size≤9223372036854775807):
  Calls Tryz.prog 75 #[.int .i64 fmt,f.val] w fun e w'=>e=.returned (.int .i64 (restE fmt f))∧Below w.heap.size w w':=by
 have HW:Hid (Below w.heap.size w (w.alloc (.cells #[.string f.path,.int .i64 f.kind,.int .i64 f.mode,.string f.owner,.string f.group,.string f.link,.string f.sum,.bool f.conf] 46))):=bR.alloc lr _
 unfold FileM.val
 by_cases hm0:f.mode<0
 ·skip
  have E:Hid (restE fmt f=1):=by show _=_;unfold restE;rw[show restB fmt f=false by unfold restB;rw[dF (by omega)];rfl];rfl
  go_enter Tryz.func75,Tryz.ntmps75
  go_wp2_with fail
  go_ret
  exact⟨ret_int (by rw[E.out]),HW.out⟩
 by_cases hm1:4095<f.mode
 ·skip
  have E:Hid (restE fmt f=1):=by show _=_;unfold restE;rw[show restB fmt f=false by unfold restB;rw[dF (by omega)];rfl];rfl
  go_enter Tryz.func75,Tryz.ntmps75
  go_wp2_with fail
  go_ret
  exact⟨ret_int (by rw[E.out]),HW.out⟩
 have RM:Hid (decide (0≤f.mode∧f.mode≤4095)=true):=dT (by omega)
 go_enter Tryz.func75,Tryz.ntmps75
 go_wp2_with fail
 refine(ref_Owner fmt f.owner _ ho).mono ?_;rintro e w1 ⟨rfl,hb1⟩
 have X1:Hid (Bx w w1 f.cells):=(Bx.start w f.cells _).step hb1
 clear hb1
 cases g1:ownB fmt f.owner
 ·skip
  have E:Hid (restE fmt f=1):=by show _=_;unfold restE;rw[show restB fmt f=false by unfold restB;rw[g1];simp];rfl
  have x1c0:=X1.out.cell 0 _ rfl
  have x1c1:=X1.out.cell 1 _ rfl
  have x1c2:=X1.out.cell 2 _ rfl
  have x1c3:=X1.out.cell 3 _ rfl
  have x1c4:=X1.out.cell 4 _ rfl
  have x1c5:=X1.out.cell 5 _ rfl
  have x1c6:=X1.out.cell 6 _ rfl
  have x1c7:=X1.out.cell 7 _ rfl
  clear g1
  go_wp2_with fail
  go_ret
  exact⟨ret_int (by rw[E.out]),X1.out.bel⟩
 have G1:=hid g1;clear g1
 have x1c0:=X1.out.cell 0 _ rfl
 have x1c1:=X1.out.cell 1 _ rfl
 have x1c2:=X1.out.cell 2 _ rfl
 have x1c3:=X1.out.cell 3 _ rfl
 have x1c4:=X1.out.cell 4 _ rfl
 have x1c5:=X1.out.cell 5 _ rfl
 have x1c6:=X1.out.cell 6 _ rfl
 have x1c7:=X1.out.cell 7 _ rfl
 go_wp2_with fail
 refine(ref_Owner fmt f.group _ hg).mono ?_;rintro e w2 ⟨rfl,hb2⟩
 have X2:Hid (Bx w w2 f.cells):=X1.out.step hb2
 clear hb2 x1c0 x1c1 x1c2 x1c3 x1c4 x1c5 x1c6 x1c7
 cases g2:ownB fmt f.group
 ·skip
  have E:Hid (restE fmt f=1):=by show _=_;unfold restE;rw[show restB fmt f=false by unfold restB;rw[g2];simp];rfl
  have x2c0:=X2.out.cell 0 _ rfl
  have x2c1:=X2.out.cell 1 _ rfl
  have x2c2:=X2.out.cell 2 _ rfl
  have x2c3:=X2.out.cell 3 _ rfl
  have x2c4:=X2.out.cell 4 _ rfl
  have x2c5:=X2.out.cell 5 _ rfl
  have x2c6:=X2.out.cell 6 _ rfl
  have x2c7:=X2.out.cell 7 _ rfl
  clear g2
  go_wp2_with fail
  go_ret
  exact⟨ret_int (by rw[E.out]),X2.out.bel⟩
 have G2:=hid g2;clear g2
 have x2c0:=X2.out.cell 0 _ rfl
 have x2c1:=X2.out.cell 1 _ rfl
 have x2c2:=X2.out.cell 2 _ rfl
 have x2c3:=X2.out.cell 3 _ rfl
 have x2c4:=X2.out.cell 4 _ rfl
 have x2c5:=X2.out.cell 5 _ rfl
 have x2c6:=X2.out.cell 6 _ rfl
 have x2c7:=X2.out.cell 7 _ rfl
 have HWX:=X2.out.bel
 by_cases k3:f.kind=3
 ·have k3':(f.kind==3)=true:=by simpa using k3
  have k1':(f.kind==1)=false:=by simp;omega
  by_cases m5:f.mode=511
  ·have m5':(f.mode != 511)=false:=by simpa [bne] using m5
   have M5:Hid (decide (f.mode=511)=true):=dT m5
   have K3:=hid k3;clear k3 m5
   go_wp2_with fail
   refine(ref_Plain f.link _ hl).mono ?_;rintro e w' ⟨rfl,rfl⟩
   cases g3:plainB (bl f.link)
   ·skip
    have E:Hid (restE fmt f=1):=by show _=_;unfold restE;rw[show restB fmt f=false by unfold restB;rw[if_pos K3.out,g3];simp];rfl
    clear g3
    go_wp2_with fail
    go_ret
    exact⟨ret_int (by rw[E.out]),HWX⟩
   have G3:=hid g3;clear g3
   by_cases l2:200<f.link.size
   ·skip
    have E:Hid (restE fmt f=1):=by show _=_;unfold restE;rw[show restB fmt f=false by unfold restB;rw[if_pos K3.out,dF (show ¬ f.link.size≤200 by omega)];simp];rfl
    go_wp2_with fail
    go_ret
    exact⟨ret_int (by rw[E.out]),HWX⟩
   have L2:Hid (decide (f.link.size≤200)=true):=dT (by omega)
   have RL:Hid ((if f.kind=3 then decide (f.mode=511)&&plainB (bl f.link)&&decide (f.link.size≤200) else decide (f.link.size=0))=true):=by show _=_;rw[if_pos K3.out,M5.out,G3.out,L2.out];rfl
   have KN:HidN (f.kind=1):=⟨by have:=K3.out;omega⟩
   by_cases s0:f.sum.size=0
   ·have se:f.sum.toList=[]:=by rw[bl_toList,bl_nil _ s0]
    have se2:f.sum.toList.isEmpty=true:=by rw[se];rfl
    cases hcf:f.conf
    ·skip
     have E:Hid (restE fmt f=0):=by show _=_;unfold restE;rw[show restB fmt f=true by unfold restB;rw[RM.out,G1.out,G2.out,RL.out,if_neg KN.out,dT s0,hcf];rfl];rfl
     simp only[hcf] at *
     go_wp2_with fail
     go_ret
     exact⟨ret_int (by rw[E.out]),HWX⟩
    ·skip
     have E:Hid (restE fmt f=1):=by show _=_;unfold restE;rw[show restB fmt f=false by unfold restB;rw[if_neg KN.out,hcf];simp];rfl
     simp only[hcf] at *
     go_wp2_with fail
     go_ret
     exact⟨ret_int (by rw[E.out]),HWX⟩
   ·have se2:f.sum.toList.isEmpty=false:=by rw[bl_toList,bl_isEmpty];exact dF s0
    have se:¬ f.sum.toList=[]:=by intro h;rw[h] at se2;simp at se2
    have E:Hid (restE fmt f=1):=by show _=_;unfold restE;rw[show restB fmt f=false by unfold restB;rw[if_neg KN.out,dF s0];simp];rfl
    clear s0
    go_wp2_with fail
    go_ret
    exact⟨ret_int (by rw[E.out]),HWX⟩
  ·have m5':(f.mode != 511)=true:=by simpa [bne] using m5
   have E:Hid (restE fmt f=1):=by show _=_;unfold restE;rw[show restB fmt f=false by unfold restB;rw[if_pos k3,dF m5];simp];rfl
   clear k3 m5
   go_wp2_with fail
   go_ret
   exact⟨ret_int (by rw[E.out]),HWX⟩
 ·have k3':(f.kind==3)=false:=by simpa using k3
  by_cases l0:f.link.size=0
  ·have le:f.link.toList=[]:=by rw[bl_toList,bl_nil _ l0]
   have le2:f.link.toList.isEmpty=true:=by rw[le];rfl
   have RL:Hid ((if f.kind=3 then decide (f.mode=511)&&plainB (bl f.link)&&decide (f.link.size≤200) else decide (f.link.size=0))=true):=by show _=_;rw[if_neg k3,dT l0]
   by_cases k1:f.kind=1
   ·have k1':(f.kind==1)=true:=by simpa using k1
    have K1:=hid k1;clear k1 k3 l0
    go_wp2_with fail
    refine(ref_Sum fmt hfmt f.sum _ hsm).mono ?_;rintro e w3 ⟨rfl,hb3⟩
    have X3:Hid (Bx w w3 f.cells):=X2.out.step hb3
    have x7:=X3.out.cell 7 _ rfl
    clear hb3
    have HWZ:=X3.out.bel
    cases g4:sgB fmt f.sum
    ·skip
     have E:Hid (restE fmt f=1):=by show _=_;unfold restE;rw[show restB fmt f=false by unfold restB;rw[if_pos K1.out,g4];simp];rfl
     clear g4
     go_wp2_with fail
     go_ret
     exact⟨ret_int (by rw[E.out]),HWZ⟩
    have G4:=hid g4;clear g4
    cases hcf:f.conf
    ·skip
     have E:Hid (restE fmt f=0):=by show _=_;unfold restE;rw[show restB fmt f=true by unfold restB;rw[RM.out,G1.out,G2.out,RL.out,if_pos K1.out,G4.out,hcf];rfl];rfl
     simp only[hcf] at *
     go_wp2_with fail
     go_ret
     exact⟨ret_int (by rw[E.out]),HWZ⟩
    by_cases f3:fmt=3
    ·have f3':(fmt==3)=true:=by simpa using f3
     have f3n:(fmt != 3)=false:=by simpa [bne] using f3
     have E:Hid (restE fmt f=1):=by show _=_;unfold restE;rw[show restB fmt f=false by unfold restB;rw[if_pos K1.out,hcf,dF (show ¬ fmt≠3 from fun h=>h f3)];simp];rfl
     clear f3
     simp only[hcf] at *
     go_wp2_with fail
     go_ret
     exact⟨ret_int (by rw[E.out]),HWZ⟩
    ·have f3':(fmt==3)=false:=by simpa using f3
     have f3n:(fmt != 3)=true:=by simpa [bne] using f3
     have E:Hid (restE fmt f=0):=by show _=_;unfold restE;rw[show restB fmt f=true by unfold restB;rw[RM.out,G1.out,G2.out,RL.out,if_pos K1.out,G4.out,hcf,dT (show fmt≠3 from f3)];rfl];rfl
     clear f3
     simp only[hcf] at *
     go_wp2_with fail
     go_ret
     exact⟨ret_int (by rw[E.out]),HWZ⟩
   ·have k1':(f.kind==1)=false:=by simpa using k1
    have KN:HidN (f.kind=1):=⟨k1⟩
    clear k1 k3 l0
    by_cases s0:f.sum.size=0
    ·have se:f.sum.toList=[]:=by rw[bl_toList,bl_nil _ s0]
     have se2:f.sum.toList.isEmpty=true:=by rw[se];rfl
     cases hcf:f.conf
     ·skip
      have E:Hid (restE fmt f=0):=by show _=_;unfold restE;rw[show restB fmt f=true by unfold restB;rw[RM.out,G1.out,G2.out,RL.out,if_neg KN.out,dT s0,hcf];rfl];rfl
      simp only[hcf] at *
      go_wp2_with fail
      go_ret
      exact⟨ret_int (by rw[E.out]),HWX⟩
     ·skip
      have E:Hid (restE fmt f=1):=by show _=_;unfold restE;rw[show restB fmt f=false by unfold restB;rw[if_neg KN.out,hcf];simp];rfl
      simp only[hcf] at *
      go_wp2_with fail
      go_ret
      exact⟨ret_int (by rw[E.out]),HWX⟩
    ·have se2:f.sum.toList.isEmpty=false:=by rw[bl_toList,bl_isEmpty];exact dF s0
     have se:¬ f.sum.toList=[]:=by intro h;rw[h] at se2;simp at se2
     have E:Hid (restE fmt f=1):=by show _=_;unfold restE;rw[show restB fmt f=false by unfold restB;rw[if_neg KN.out,dF s0];simp];rfl
     clear s0
     go_wp2_with fail
     go_ret
     exact⟨ret_int (by rw[E.out]),HWX⟩
  ·have le2:f.link.toList.isEmpty=false:=by rw[bl_toList,bl_isEmpty];exact dF l0
   have le:¬ f.link.toList=[]:=by intro h;rw[h] at le2;simp at le2
   have E:Hid (restE fmt f=1):=by show _=_;unfold restE;rw[show restB fmt f=false by unfold restB;rw[if_neg k3,dF l0];simp];rfl
   clear k3 l0
   go_wp2_with fail
   go_ret
   exact⟨ret_int (by rw[E.out]),HWX⟩
end
section
open Go.RowKit Go.Maps
def orderB (prev:Option FileM)(f:FileM):Bool:=match prev with
 | none=>true
 | some g=>decide (bl g.path<bl f.path)
def parBad (pre:List FileM)(f:FileM):Bool:=parB f.path&&pre.any (fun g=>decide (g.path=parS f.path)&&decide (g.kind≠2))
def fErr (fmt:Int)(pre:List FileM)(f:FileM):Int:=
 if (pathB (bl f.path)&&plainB (bl f.path))=false then 10 else if orderB pre.getLast? f=false then 15 else if ¬ (f.kind=1∨f.kind=2∨f.kind=3) then 9
 else if restB fmt f=false then 1 else if parBad pre f=true then 9 else 0
def filesE (fmt:Int):List FileM→List FileM→Option (BA×Int)
 | _,[]=>none
 | pre,f::r=>if fErr fmt pre f=0 then filesE fmt (pre++[f]) r else some (f.path,fErr fmt pre f)
theorem filesE_next {fmt:Int}{fs:List FileM}{k:Nat}{f:FileM}(h:fs[k]?=some f)(h0:filesE fmt [] fs=filesE fmt (fs.take k) (fs.drop k))(he:fErr fmt (fs.take k) f=0):filesE fmt [] fs=filesE fmt (fs.take (k+1)) (fs.drop (k+1)):=by
 obtain⟨hk,hf⟩:=gS h
 rw[h0,List.drop_eq_getElem_cons hk,hf,filesE,if_pos he,tS hk,hf]
theorem filesE_bad {fmt:Int}{fs:List FileM}{k:Nat}{f:FileM}(h:fs[k]?=some f)(h0:filesE fmt [] fs=filesE fmt (fs.take k) (fs.drop k))(he:fErr fmt (fs.take k) f≠0):filesE fmt [] fs=some (f.path,fErr fmt (fs.take k) f):=by
 obtain⟨hk,hf⟩:=gS h
 rw[h0,List.drop_eq_getElem_cons hk,hf,filesE,if_neg he]
theorem filesE_end {fmt:Int}{fs:List FileM}{k:Nat}(hk:fs.length≤k)(h0:filesE fmt [] fs=filesE fmt (fs.take k) (fs.drop k)):filesE fmt [] fs=none:=by
 rw[h0,List.drop_of_length_le hk];rfl
def filesAns (fmt:Int)(fs:List FileM):BA×Int:=if 512<fs.length then (⟨#[102,105,108,101,115]⟩,4) else (filesE fmt [] fs).getD (⟨#[]⟩,0)
def filesV (fmt:Int)(fs:List FileM):Value:=.tuple #[.string (filesAns fmt fs).1,.int .i64 (filesAns fmt fs).2]
structure KInv (pre:List FileM) (g:BA→Option Value):Prop where
 sorted:(fpaths pre).Pairwise (fun s t=>bl s<bl t)
 kind:∀ x∈pre,g x.path=some (.int .i64 x.kind)
 mem:∀ s,g s≠none→s∈fpaths pre
theorem KInv.nil:KInv [] (fun _=>none):=⟨by simp[fpaths],by simp,by simp⟩
theorem KInv.less {pre:List FileM}{g:BA→Option Value}(h:KInv pre g){f:FileM}(ho:orderB pre.getLast? f=true):∀ x∈pre,bl x.path<bl f.path:=by
 intro x hx
 cases hl:pre.getLast? with
 | none=>rw[List.getLast?_eq_none_iff] at hl;subst hl;simp at hx
 | some y=>
  rw[hl] at ho
  have hyf:bl y.path<bl f.path:=dO ho
  obtain⟨ys,rfl⟩:=List.getLast?_eq_some_iff.1 hl
  rcases List.mem_append.1 hx with hx | hx
  ·have hs:=h.sorted
   rw[show fpaths (ys++[y])=fpaths ys++[y.path] by simp[fpaths],List.pairwise_append] at hs
   exact lt_tr (hs.2.2 x.path (List.mem_map.2 ⟨x,hx,rfl⟩) y.path (by simp)) hyf
  ·rw[List.mem_singleton.1 hx];exact hyf
theorem KInv.put {pre:List FileM}{g:BA→Option Value}(h:KInv pre g){f:FileM}(ho:orderB pre.getLast? f=true):KInv (pre++[f]) (fun x=>if x=f.path then some (.int .i64 f.kind) else g x):=by
 have hl:=h.less ho
 refine⟨?_,fun x hx=>?_,fun s hs=>?_⟩
 ·rw[show fpaths (pre++[f])=fpaths pre++[f.path] by simp[fpaths],List.pairwise_append]
  refine⟨h.sorted,by simp,fun a ha b hb=>?_⟩
  obtain⟨x,hx,rfl⟩:=List.mem_map.1 ha
  rw[List.mem_singleton.1 hb];exact hl x hx
 ·rcases List.mem_append.1 hx with hx | hx
  ·have hne:x.path≠f.path:=fun e=>by have:=hl x hx;rw[e] at this;exact lt_irr _ this
   simp only[if_neg hne];exact h.kind x hx
  ·rw[List.mem_singleton.1 hx];simp
 ·by_cases e:s=f.path
  ·subst e;simp[fpaths]
  ·simp only[if_neg e] at hs
   have:=h.mem s hs
   simp only[fpaths,List.map_append,List.mem_append] at this ⊢
   exact .inl this
theorem KInv.par {pre:List FileM}{g:BA→Option Value}(h:KInv pre g)(f:FileM)(hp:parB f.path=true):
  (g (parS f.path)=none∧parBad pre f=false)∨∃ k:Int,g (parS f.path)=some (.int .i64 k)∧parBad pre f=decide (k≠2):=by
 unfold parBad
 rw[hp]
 cases hg:g (parS f.path) with
 | none=>
  refine .inl ⟨rfl,?_⟩
  rw[Bool.true_and,List.any_eq_false]
  intro x hx hc
  rw[Bool.and_eq_true] at hc
  have he:=dO hc.1
  have:=h.kind x hx
  rw[he,hg] at this;cases this
 | some v=>
  obtain⟨x,hx,he⟩:=List.mem_map.1 (h.mem (parS f.path) (by rw[hg];simp))
  have hk:=h.kind x hx
  have he:x.path=parS f.path:=he
  rw[he,hg] at hk
  injection hk with hk
  subst hk
  refine .inr ⟨x.kind,rfl,?_⟩
  rw[Bool.true_and,bI,List.any_eq_true,decide_eq_true_iff]
  constructor
  ·rintro⟨y,hy,hc⟩
   rw[Bool.and_eq_true] at hc
   have hye:=dO hc.1
   have hyk:=dO hc.2
   have h1:=h.kind y hy
   have h2:=h.kind x hx
   rw[hye] at h1
   rw[he,h1] at h2
   injection h2 with h2
   injection h2 with _ h2
   rw[←h2];exact hyk
  ·intro hk
   exact⟨x,hx,by rw[dT he,dT hk];rfl⟩
theorem parS_le (s:BA):(parS s).size≤s.size:=by
 have h:(bl (parS s)).length≤(bl s).length:=by
  unfold parS;rw[bl_mk]
  unfold parentL
  split
  ·cases lastL 47 (bl s) with
   | none=>simp
   | some i=>simp only[Option.map_some,Option.getD_some];rw[List.length_take];omega
  ·simp
 rw[bl_length,bl_length] at h;exact h
theorem zeroInt (w:World):(zeroValue 3).run Tryz.prog w=.ok (.int .i64 0) w:=by kernel_rfl
theorem model_parentRight (f:FileM)(pre:List FileM)(g:BA→Option Value)(mb B n:Nat)(w:World)(hG:Gl w)(hc:w.cell? ⟨mb,0,none⟩=some (.map (some B)))(hlt:mb<w.heap.size)(hM:MapIs w B n g)(hK:KInv pre g)(hs:f.path.size≤4294967280):
  Calls Tryz.prog 63 #[.string f.path,.pointer (some ⟨mb,0,none⟩)] w fun e w'=>e=.returned (.bool (!parBad pre f))∧Below w.heap.size w w':=by
 have HG:=hid hG;have HM:=hid hM;have HK:=hid hK;have HC:=hid hc
 clear hG hM hK hc
 go_enter Tryz.func63,Tryz.ntmps63
 go_wp2_with fail
 refine(entry_Parent f.path _ HG.out hs).mono ?_;rintro e w1 ⟨rfl,hb⟩
 have HB:=hid hb
 have hc1:w1.cell? ⟨mb,0,none⟩=some (.map (some B)):=(hb.cell (p:=⟨mb,0,none⟩) hlt).trans HC.out
 have hpl:=parS_le f.path
 have hlk:=(HM.out.below hb).look_ok Tryz.underlying88 zeroInt (parS f.path) (by unfold maxLen;omega)
 clear hb
 unfold parV
 cases hp:parB f.path
 ·have E:Hid (parBad pre f=false):=by show _=_;unfold parBad;rw[hp];rfl
  clear hp
  go_wp2_with fail
  go_ret
  exact⟨ret_bool (by rw[E.out];rfl),HB.out⟩
 ·rcases HK.out.par f hp with⟨h1,h2⟩ | ⟨k,h1,h2⟩
  ·rw[h1] at hlk
   simp only[Option.getD_none,Option.isSome_none] at hlk
   have E:=hid h2
   clear h1 h2 hp
   go_wp2_with fail
   go_ret
   exact⟨ret_bool (by rw[E.out];rfl),HB.out⟩
  ·rw[h1] at hlk
   simp only[Option.getD_some,Option.isSome_some] at hlk
   by_cases hk:k=2
   ·have hk1:(k==2)=true:=by simpa using hk
    have E:Hid (parBad pre f=false):=by show _=_;rw[h2];simp[hk]
    clear h1 h2 hp hk
    go_wp2_with fail
    go_ret
    exact⟨ret_bool (by rw[E.out];rfl),HB.out⟩
   ·have hk1:(k==2)=false:=by simpa using hk
    have E:Hid (parBad pre f=true):=by show _=_;rw[h2];simp[hk]
    clear h1 h2 hp hk
    go_wp2_with fail
    go_ret
    exact⟨ret_bool (by rw[E.out];rfl),HB.out⟩
theorem filesV_bad {fmt:Int}{fs:List FileM}{p:BA}{e:Int}(hl:¬ 512<fs.length)(h:filesE fmt [] fs=some (p,e)):filesV fmt fs=.tuple #[.string p,.int .i64 e]:=by
 unfold filesV filesAns;rw[if_neg hl,h];rfl
theorem filesV_ok {fmt:Int}{fs:List FileM}(hl:¬ 512<fs.length)(h:filesE fmt [] fs=none):filesV fmt fs=.tuple #[.string ⟨#[]⟩,.int .i64 0]:=by
 unfold filesV filesAns;rw[if_neg hl,h];rfl
theorem take_last {fs:List FileM}{k:Nat}{f:FileM}(h:fs[k]?=some f):(fs.take (k+1)).getLast?=some f:=by
 obtain⟨hk,hf⟩:=gS h
 rw[tS hk,hf];simp
theorem leq_bl (s t:BA):(Op.bytesLess s.toList t.toList||s.toList==t.toList)=!decide (bl t<bl s):=by
 rw[bytesLess_dec,beq_bl,bl_toList,bl_toList]
 by_cases h:bl t<bl s
 ·rw[dT h]
  have h1:¬ bl s<bl t:=fun h'=>lt_irr _ (lt_tr h h')
  have h2:s≠t:=fun e=>by rw[e] at h;exact lt_irr _ h
  simp[h1,h2]
 ·rw[dF h]
  by_cases e:s=t
  ·simp[e]
  ·have:bl s<bl t:=lt_of_not h (fun h'=>e (bl_inj h').symm)
   simp[this]
structure KSt (w wr:World) (k:Nat) (pre:List FileM) (g:BA→Option Value):Prop where
 map:MapIs wr w.heap.size k g
 inv:KInv pre g
 cell:wr.cell? ⟨w.heap.size+1,0,none⟩=some (.map (some w.heap.size))
 bel:Below w.heap.size w wr
 sz:w.heap.size+2≤wr.heap.size
theorem KSt.below {w wr w':World}{k:Nat}{pre:List FileM}{g:BA→Option Value}(h:KSt w wr k pre g)(hb:Below wr.heap.size wr w'):KSt w w' k pre g:=
 ⟨h.map.below hb,h.inv,(hb.cell (p:=⟨w.heap.size+1,0,none⟩) (by have:=h.sz;show w.heap.size+1<_;omega)).trans h.cell,bthen h.bel hb,Nat.le_trans h.sz hb.size⟩
theorem KSt.start (w:World):KSt w ((w.alloc (.map #[] 0)).alloc (.cells #[.map (some w.heap.size)] 88)) 0 [] (fun _=>none):=
 ⟨(MapIs.made w).alloc _,KInv.nil,by simp,(bR.alloc lr _).alloc (by simp) _,by simp⟩
theorem KSt.put {w wr w':World}{k:Nat}{pre:List FileM}{g:BA→Option Value}{f:FileM}(h:KSt w wr k pre g)(ho:orderB pre.getLast? f=true)(hm:MapIs w' w.heap.size (k+1) (fun x=>if x=f.path then some (.int .i64 f.kind) else g x))(hg:wr.grownBy w' (some w.heap.size)):KSt w w' (k+1) (pre++[f]) (fun x=>if x=f.path then some (.int .i64 f.kind) else g x):=
 ⟨hm,h.inv.put ho,hg.cell h.cell (by simp),h.bel.grown hg h.bel.size (fun j hj=>by injection hj with hj;omega),Nat.le_trans h.sz hg.size⟩
theorem model_checkFiles (fmt:Int)(hfmt:fmt=1∨fmt=2∨fmt=3)(A:Option Addr)(c:Nat)(fs:List FileM)(w:World)(hG:Gl w)(hr:Rd w 8 A fs.length (fs.flatMap FileM.cells))(hn:fs.length≤9223372036854775807)(hf:∀ x∈fs,x.path.size≤4294967280∧x.owner.size≤4294967280∧x.group.size≤4294967280∧x.link.size≤4294967280∧x.sum.size≤4294967280):
  Calls Tryz.prog 37 #[.int .i64 fmt,.slice A fs.length c] w fun e w'=>e=.returned (filesV fmt fs)∧Below w.heap.size w w':=by
 have HG:=hid hG;have HR:=hid hr;have HF:=hid hf
 clear hG hr hf
 by_cases h512:512<fs.length
 ·have E:Hid (filesV fmt fs=.tuple #[.string ⟨#[102,105,108,101,115]⟩,.int .i64 4]):=by show _=_;unfold filesV filesAns;rw[if_pos h512]
  go_enter Tryz.func37,Tryz.ntmps37
  go_wp2_with fail
  go_ret2
  exact⟨by rw[E.out];rfl,bR⟩
 have hmm:=@run_makeMap Tryz.prog
 go_enter Tryz.func37,Tryz.ntmps37
 go_wp2_with fail
 clear hmm
 go_loopw [17] (fun i wr=>∃ (k:Nat) (g:BA→Option Value),k≤fs.length∧i=.int .i64 k∧Hid (filesE fmt [] fs=filesE fmt (fs.take k) (fs.drop k))∧Hid (KSt w wr k (fs.take k) g)) (fun i _=>fs.length-(intOf i).toNat)
 case atStart=>exact⟨0,_,z0,rfl,rfl,KSt.start w⟩
 case round=>
  obtain⟨k,g,hk,rfl,HE,HS⟩:=hrel
  by_cases hlt:k<fs.length
  ·obtain⟨f,hf⟩:∃ f,fs[k]?=some f:=⟨_,gG hlt⟩
   obtain⟨fz1,fz2,fz3,fz4,fz5⟩:=HF.out f (gM hf)
   obtain⟨b,off,hA,he⟩:=(HR.out.below HS.out.bel).elem file_len k f hf
   have e0:=he 0 _ rfl
   have e1:=he 1 _ rfl
   have e2:=he 2 _ rfl
   have e3:=he 3 _ rfl
   have e4:=he 4 _ rfl
   have e5:=he 5 _ rfl
   have e6:=he 6 _ rfl
   have e7:=he 7 _ rfl
   simp only[Nat.add_zero] at e0
   have hix:=fun W=>idx_of (T:=24) (E:=46) (sz:=8) (c:=c) Tryz.underlying24 rfl Tryz.sizeOf46 hA hlt W
   have HX:=hid hf
   clear hf he hA
   have X0:Hid (Bx wr (wr.alloc (.cells #[.string f.path,.int .i64 f.kind,.int .i64 f.mode,.string f.owner,.string f.group,.string f.link,.string f.sum,.bool f.conf] 46)) f.cells):=Bx.start wr f.cells _
   go_wp2_with fail
   clear e0 e1 e2 e3 e4 e5 e6 e7 hix
   refine(entry_Path f.path _ (HG.out.below (bthen HS.out.bel X0.out.bel)) (by omega)).mono ?_;rintro e w1 ⟨rfl,hb1⟩
   have X1:Hid (Bx wr w1 f.cells):=X0.out.step hb1
   clear hb1
   cases g1:pathB (bl f.path)
   ·skip
    have c0:=X1.out.cell 0 _ rfl
    have FE:fErr fmt (fs.take k) f=10:=by unfold fErr;rw[g1];rfl
    have E:=hid (filesV_bad (fmt:=fmt) h512 (filesE_bad HX.out HE.out (by rw[FE];decide)))
    rw[FE] at E
    clear FE g1
    go_wp2_with fail
    go_ret2
    exact⟨by rw[E.out];rfl,bthen HS.out.bel X1.out.bel⟩
   have G1:=hid g1;clear g1
   have c0:=X1.out.cell 0 _ rfl
   go_wp2_with fail
   refine(model_Plain f.path _ (by omega)).mono ?_;rintro e w' ⟨rfl,rfl⟩
   cases g2:plainB (bl f.path)
   ·skip
    have FE:fErr fmt (fs.take k) f=10:=by unfold fErr;rw[G1.out,g2];rfl
    have E:=hid (filesV_bad (fmt:=fmt) h512 (filesE_bad HX.out HE.out (by rw[FE];decide)))
    rw[FE] at E
    clear FE g2
    go_wp2_with fail
    go_ret2
    exact⟨by rw[E.out];rfl,bthen HS.out.bel X1.out.bel⟩
   have G2:Hid ((pathB (bl f.path)&&plainB (bl f.path))=true):=by show _=_;rw[G1.out,g2];rfl
   clear g2
   go_upto_region 10 with(fail)
   go_cut [35] (fun s35 wx=>∃ bb:Bool,s35=.bool bb∧Hid (bb=!orderB (fs.take k).getLast? f)∧Hid (Bx wr wx f.cells))
   case first=>
    by_cases k0:k=0
    ·have k0':decide (0<(k:Int))=false:=dF (by omega)
     have k0n:decide (0<k)=false:=dF (by omega)
     have OB:Hid (false=!orderB (fs.take k).getLast? f):=by show _=_;rw[k0];rfl
     clear k0
     go_quiet (fail)
     go_wp2_with fail
     go_meet
     exact⟨false,rfl,OB,X1.out.drewN _⟩
    ·have k0':decide (0<(k:Int))=true:=dT (by omega)
     have k0n:decide (0<k)=true:=dT (by omega)
     have kpos:0<k:=by omega
     obtain⟨y,hy⟩:∃ y,fs[k-1]?=some y:=⟨_,gG (by omega)⟩
     have hly:(fs.take k).getLast?=some y:=by have:=take_last hy;rw[show k-1+1=k by omega] at this;exact this
     obtain⟨b2,off2,hA2,he2⟩:=(HR.out.below (bthen HS.out.bel X1.out.bel)).elem file_len (k-1) y hy
     have p0:=he2 0 _ rfl
     simp only[Nat.add_zero] at p0
     have hixp:=fun W=>idx_int (T:=24) (E:=46) (sz:=8) (c:=c) (i:=(k:Int)-1) Tryz.underlying24 rfl Tryz.sizeOf46 (by omega) hA2 (show k-1<fs.length by omega) W
     have OB:Hid ((Op.bytesLess f.path.toList y.path.toList||f.path.toList==y.path.toList)=!orderB (fs.take k).getLast? f):=by
      show _=_;rw[hly];exact leq_bl f.path y.path
     have iw:IntKind.i64.wrap ((k:Int)-1)=(k:Int)-1:=IntWalk.i64_in _ (by omega)
     clear hy hly he2 hA2 k0
     go_quiet (fail)
     go_wp2_with fail
     go_meet
     exact⟨_,rfl,OB,X1.out.drewN _⟩
   case rest=>
   obtain⟨bb,rfl,HOB,X2⟩:=hcut
   clear c0
   have c0:=X2.out.cell 0 _ rfl
   have c1:=X2.out.cell 1 _ rfl
   cases bb
   case true=>
    have HO:Hid (orderB (fs.take k).getLast? f=false):=by have:=HOB.out;show _=_;revert this;cases orderB (fs.take k).getLast? f<;>simp
    have FE:fErr fmt (fs.take k) f=15:=by unfold fErr;rw[G2.out,HO.out];rfl
    have E:=hid (filesV_bad (fmt:=fmt) h512 (filesE_bad HX.out HE.out (by rw[FE];decide)))
    rw[FE] at E
    clear FE
    go_wp2_with fail
    go_ret2
    exact⟨by rw[E.out];rfl,bthen HS.out.bel X2.out.bel⟩
   have HO:Hid (orderB (fs.take k).getLast? f=true):=by have:=HOB.out;show _=_;revert this;cases orderB (fs.take k).getLast? f<;>simp
   by_cases hkd:f.kind=1∨f.kind=2∨f.kind=3
   case neg=>
    have q1:(f.kind != 1)=true:=by simp[bne];omega
    have q2:(f.kind != 2)=true:=by simp[bne];omega
    have q3:(f.kind != 3)=true:=by simp[bne];omega
    have FE:fErr fmt (fs.take k) f=9:=by unfold fErr;rw[G2.out,HO.out,if_neg (by simp),if_neg (by simp),if_pos hkd]
    have E:=hid (filesV_bad (fmt:=fmt) h512 (filesE_bad HX.out HE.out (by rw[FE];decide)))
    rw[FE] at E
    clear FE hkd
    go_wp2_with fail
    go_ret2
    exact⟨by rw[E.out];rfl,bthen HS.out.bel X2.out.bel⟩
   have QQ:Hid (¬ ¬ (f.kind=1∨f.kind=2∨f.kind=3)):=fun h=>h hkd
   have Q:decide (f.kind=1)=true∨(decide (f.kind=1)=false∧decide (f.kind=2)=true)∨(decide (f.kind=1)=false∧decide (f.kind=2)=false∧decide (f.kind=3)=true):=by
    by_cases h1:f.kind=1
    ·exact .inl (dT h1)
    by_cases h2:f.kind=2
    ·exact .inr (.inl ⟨dF h1,dT h2⟩)
    ·exact .inr (.inr ⟨dF h1,dF h2,dT (by omega)⟩)
   clear hkd
   go_upto_region 12 with(fail)
   go_cut [51] (fun s51 wx=>s51=.bool false∧wc=wx)
   case first=>
    rcases Q with h | ⟨h,h'⟩ | ⟨h,h',h''⟩
    ·have q1:(f.kind != 1)=false:=by have:=dO h;simp[bne,this]
     clear h
     go_wp2_with fail
     go_meet
     exact⟨rfl,rfl⟩
    ·have q1:(f.kind != 1)=true:=by have:=of_decide_eq_false h;simp[bne,this]
     have q2:(f.kind != 2)=false:=by have:=dO h';simp[bne,this]
     clear h h'
     go_wp2_with fail
     go_meet
     exact⟨rfl,rfl⟩
    ·have q1:(f.kind != 1)=true:=by have:=of_decide_eq_false h;simp[bne,this]
     have q2:(f.kind != 2)=true:=by have:=of_decide_eq_false h';simp[bne,this]
     have q3:(f.kind != 3)=false:=by have:=dO h'';simp[bne,this]
     clear h h' h''
     go_wp2_with fail
     go_meet
     exact⟨rfl,rfl⟩
   case rest=>
   obtain⟨rfl,rfl⟩:=hcut
   have c2:=X2.out.cell 2 _ rfl
   have c3:=X2.out.cell 3 _ rfl
   have c4:=X2.out.cell 4 _ rfl
   have c5:=X2.out.cell 5 _ rfl
   have c6:=X2.out.cell 6 _ rfl
   have c7:=X2.out.cell 7 _ rfl
   go_wp2_with fail
   refine(model_restRight fmt hfmt f _ (by omega) (by omega) (by omega) (by omega)).mono ?_;rintro e w3 ⟨rfl,hb3⟩
   have X3:Hid (Bx wr w3 f.cells):=X2.out.step hb3
   clear hb3 c0 c1 c2 c3 c4 c5 c6 c7
   have c0:=X3.out.cell 0 _ rfl
   cases g3:restB fmt f
   case false=>
    have FE:fErr fmt (fs.take k) f=1:=by unfold fErr;rw[G2.out,HO.out,if_neg (by simp),if_neg (by simp),if_neg QQ.out,g3];rfl
    have E:=hid (filesV_bad (fmt:=fmt) h512 (filesE_bad HX.out HE.out (by rw[FE];decide)))
    rw[FE] at E
    clear FE g3
    go_wp2_with fail
    go_ret2
    exact⟨by rw[E.out];rfl,bthen HS.out.bel X3.out.bel⟩
   have G3:=hid g3;clear g3
   go_wp2_with fail
   have S3:=hid (HS.out.below X3.out.bel)
   refine(model_parentRight f (fs.take k) g (w.heap.size+1) w.heap.size k _ (HG.out.below S3.out.bel) S3.out.cell (by have:=S3.out.sz;omega) S3.out.map S3.out.inv fz1).mono ?_;rintro e w4 ⟨rfl,hb4⟩
   have X4:Hid (Bx wr w4 f.cells):=X3.out.step hb4
   have S4:=hid (S3.out.below hb4)
   clear hb4 c0
   have c0:=X4.out.cell 0 _ rfl
   have c1:=X4.out.cell 1 _ rfl
   cases g4:parBad (fs.take k) f
   case true=>
    have FE:fErr fmt (fs.take k) f=9:=by unfold fErr;rw[G2.out,HO.out,if_neg (by simp),if_neg (by simp),if_neg QQ.out,G3.out,if_neg (by simp),g4];rfl
    have E:=hid (filesV_bad (fmt:=fmt) h512 (filesE_bad HX.out HE.out (by rw[FE];decide)))
    rw[FE] at E
    clear FE g4
    go_wp2_with fail
    go_ret2
    exact⟨by rw[E.out];rfl,bthen HS.out.bel X4.out.bel⟩
   have FE:Hid (fErr fmt (fs.take k) f=0):=by show _=_;unfold fErr;rw[G2.out,HO.out,if_neg (by simp),if_neg (by simp),if_neg QQ.out,G3.out,if_neg (by simp),g4];rfl
   clear g4
   have hmc:=S4.out.cell
   obtain⟨w5,hrun5,hm5,hg5⟩:=S4.out.map.put Tryz.underlying88 (by unfold maxLen;omega) f.path (by unfold maxLen;omega) (.int .i64 f.kind)
   have S5:=hid (S4.out.put HO.out hm5 hg5)
   clear hm5 hg5
   go_wp2_with fail
   clear hrun5 hmc c0 c1
   have TK:Hid (fs.take (k+1)=fs.take k++[f]):=by show _=_;obtain⟨hk',hf'⟩:=gS HX.out;rw[tS hk',hf']
   go_roundw
   case rel=>exact⟨k+1,_,by omega,by go_num,hid (filesE_next HX.out HE.out FE.out),hid (by rw[TK.out];exact S5.out)⟩
   case measure=>simp[intOf];omega
  ·have E:=hid (filesV_ok (fmt:=fmt) h512 (filesE_end (by omega) HE.out))
   go_wp2_with fail
   go_ret2
   exact⟨by rw[E.out];rfl,HS.out.bel⟩
end
section
open Go.RowKit
def phB (fmt n:Int):Bool:=decide ((1≤n∧n≤4)∨(fmt=1∧n=7)∨(fmt=3∧(n=5∨n=6)))
def scB (fmt:Int)(x:ScriptM):Bool:=phB fmt x.phase&&decide (1≤x.body.size∧x.body.size≤4096) && !(bl x.body).contains 0
def incB:List ScriptM→Bool
 | x::y::r=>decide (x.phase<y.phase)&&incB (y::r)
 | _=>true
def scriptsE (fmt:Int)(l:List ScriptM):Int:=if 7<l.length then 4 else if incB l=false then 15 else if l.all (scB fmt)=true then 0 else 1
theorem incB_true:∀ (l:List ScriptM),(∀ (i:Nat) x y,l[i]?=some x→l[i+1]?=some y→x.phase<y.phase)→incB l=true
 | [],_=>rfl
 | [x],_=>rfl
 | x::y::r,h=>by
  rw[incB,dT (h 0 x y rfl rfl),incB_true (y::r) (fun i a b ha hb=>h (i+1) a b (by simpa using ha) (by simpa using hb))];rfl
theorem incB_false:∀ (l:List ScriptM)(i:Nat)(x y:ScriptM),l[i]?=some x→l[i+1]?=some y→¬ x.phase<y.phase→incB l=false
 | [],i,x,y,h,_,_=>by simp at h
 | [z],i,x,y,h,h',_=>by
  have:=(gS h').1
  simp at this
 | a::b::r,0,x,y,h,h',hn=>by
  simp at h h';subst h h'
  rw[incB,dF hn];rfl
 | a::b::r,i+1,x,y,h,h',hn=>by
  rw[incB,incB_false (b::r) i x y (by simpa using h) (by simpa using h') hn,Bool.and_false]
theorem model_phaseRight (fmt n:Int)(hfmt:fmt=1∨fmt=2∨fmt=3)(w:World):
  Calls Tryz.prog 67 #[.int .i64 fmt,.int .i64 n] w fun e w'=>e=.returned (.bool (phB fmt n))∧w=w':=by
 by_cases h1:1≤n
 ·by_cases h4:n≤4
  ·have E:Hid (phB fmt n=true):=dT (.inl ⟨h1,h4⟩)
   have t4:decide (n≤4)=true:=dT h4
   have t6:decide (n≤6)=true:=dT (by omega)
   have t1:decide (1≤n)=true:=dT h1
   rcases hfmt with rfl | rfl | rfl
   all_goals
    go_enter Tryz.func67,Tryz.ntmps67
    go_wp2_with fail
    go_ret
    exact⟨ret_bool (by rw[E.out]),rfl⟩
  ·have t4:decide (n≤4)=false:=dF h4
   have t1:decide (1≤n)=true:=dT h1
   rcases hfmt with rfl | rfl | rfl
   ·by_cases h7:n=7
    ·have E:Hid (phB 1 n=true):=dT (by omega)
     have t7:(n==7)=true:=by simpa using h7
     clear h7
     go_enter Tryz.func67,Tryz.ntmps67
     go_wp2_with fail
     go_ret
     exact⟨ret_bool (by rw[E.out]),rfl⟩
    ·have E:Hid (phB 1 n=false):=dF (by omega)
     have t7:(n==7)=false:=by simpa using h7
     clear h7
     go_enter Tryz.func67,Tryz.ntmps67
     go_wp2_with fail
     go_ret
     exact⟨ret_bool (by rw[E.out]),rfl⟩
   ·have E:Hid (phB 2 n=false):=dF (by omega)
    go_enter Tryz.func67,Tryz.ntmps67
    go_wp2_with fail
    go_ret
    exact⟨ret_bool (by rw[E.out]),rfl⟩
   ·by_cases h6:n≤6
    ·have E:Hid (phB 3 n=true):=dT (by omega)
     have t6:decide (n≤6)=true:=dT h6
     go_enter Tryz.func67,Tryz.ntmps67
     go_wp2_with fail
     go_ret
     exact⟨ret_bool (by rw[E.out]),rfl⟩
    ·have E:Hid (phB 3 n=false):=dF (by omega)
     have t6:decide (n≤6)=false:=dF h6
     go_enter Tryz.func67,Tryz.ntmps67
     go_wp2_with fail
     go_ret
     exact⟨ret_bool (by rw[E.out]),rfl⟩
 ·have E:Hid (phB fmt n=false):=dF (by omega)
  have t1:decide (1≤n)=false:=dF h1
  have t7:(n==7)=false:=by simp;omega
  rcases hfmt with rfl | rfl | rfl
  all_goals
   go_enter Tryz.func67,Tryz.ntmps67
   go_wp2_with fail
   go_ret
   exact⟨ret_bool (by rw[E.out]),rfl⟩
def Inc (l:List ScriptM)(k:Nat):Prop:=∀ (i:Nat) x y,i+1<k→l[i]?=some x→l[i+1]?=some y→x.phase<y.phase
theorem Inc.all {l:List ScriptM}{k:Nat}(h:Inc l k)(hk:l.length≤k):incB l=true:=
 incB_true l fun i x y hx hy=>h i x y (Nat.lt_of_lt_of_le (gS hy).1 hk) hx hy
theorem Inc.next {l:List ScriptM}{k:Nat}{x y:ScriptM}(h:Inc l k)(hx:l[k-1]?=some x)(hy:l[k]?=some y)(hlt:x.phase<y.phase):Inc l (k+1):=by
 intro i a b hi ha hb
 by_cases e:i+1=k
 ·subst e
  rw[Nat.add_sub_cancel] at hx
  rw[hx] at ha;rw[hy] at hb
  injection ha with ha;injection hb with hb
  subst ha hb;exact hlt
 ·exact h i a b (by omega) ha hb
theorem Inc.one {l:List ScriptM}:Inc l 1:=fun i x y hi=>by omega
theorem Inc.zero {l:List ScriptM}:Inc l 0:=fun i x y hi=>by omega
theorem scriptsE_order {fmt:Int}{l:List ScriptM}(h7:¬ 7<l.length)(h:incB l=false):scriptsE fmt l=15:=by unfold scriptsE;rw[if_neg h7,if_pos h]
theorem scriptsE_arg {fmt:Int}{l:List ScriptM}(h7:¬ 7<l.length)(h:incB l=true)(ha:l.all (scB fmt)=false):scriptsE fmt l=1:=by unfold scriptsE;rw[if_neg h7,h,ha];rfl
theorem scriptsE_ok {fmt:Int}{l:List ScriptM}(h7:¬ 7<l.length)(h:incB l=true)(ha:l.all (scB fmt)=true):scriptsE fmt l=0:=by unfold scriptsE;rw[if_neg h7,h,ha];rfl
theorem model_checkScripts (fmt:Int)(hfmt:fmt=1∨fmt=2∨fmt=3)(A:Option Addr)(c:Nat)(l:List ScriptM)(w:World)(hr:Rd w 2 A l.length (l.flatMap ScriptM.cells))(hn:l.length≤9223372036854775807)(hf:∀ x∈l,x.body.size≤4294967280):
  Calls Tryz.prog 38 #[.int .i64 fmt,.slice A l.length c] w fun e w'=>e=.returned (.int .i64 (scriptsE fmt l))∧Below w.heap.size w w':=by
 have HR:=hid hr;have HF:=hid hf
 clear hr hf
 by_cases h7:7<l.length
 ·have E:Hid (scriptsE fmt l=4):=by show _=_;unfold scriptsE;rw[if_pos h7]
  go_enter Tryz.func38,Tryz.ntmps38
  go_wp2_with fail
  go_ret
  exact⟨ret_int (by rw[E.out]),bR⟩
 go_enter Tryz.func38,Tryz.ntmps38
 go_wp2_with fail
 go_loopw [14] (fun i wr=>∃ k:Nat,k≤l.length∧i=.int .i64 k∧Hid (Inc l k)∧Hid (Below w.heap.size w wr)) (fun i _=>l.length-(intOf i).toNat)
 case atStart=>exact⟨0,z0,rfl,Inc.zero,bR⟩
 case round=>
  obtain⟨k,hk,rfl,HI,HB⟩:=hrel
  by_cases hlt:k<l.length
  ·obtain⟨y,hy⟩:∃ y,l[k]?=some y:=⟨_,gG hlt⟩
   by_cases k0:k=0
   ·have k0':decide (0<(k:Int))=false:=dF (by omega)
    have k0n:decide (0<k)=false:=dF (by omega)
    have HI2:Hid (Inc l (k+1)):=by show Inc _ _;rw[k0];exact Inc.one
    clear k0 hy
    go_wp2_with fail
    go_quiet (fail)
    go_wp2_with fail
    go_roundw
    case rel=>exact⟨k+1,by omega,by go_num,HI2,hid (below_drewN HB.out _)⟩
    case measure=>simp[intOf];omega
   ·have k0':decide (0<(k:Int))=true:=dT (by omega)
    have k0n:decide (0<k)=true:=dT (by omega)
    have kpos:0<k:=by omega
    obtain⟨x,hx⟩:∃ x,l[k-1]?=some x:=⟨_,gG (by omega)⟩
    obtain⟨b1,off1,hA1,he1⟩:=(HR.out.below HB.out).elem script_len k y hy
    obtain⟨b2,off2,hA2,he2⟩:=(HR.out.below HB.out).elem script_len (k-1) x hx
    have p1:=he1 0 _ rfl
    have p2:=he2 0 _ rfl
    simp only[Nat.add_zero] at p1 p2
    have hix1:=fun W=>idx_of (T:=25) (E:=50) (sz:=2) (c:=c) Tryz.underlying25 rfl Tryz.sizeOf50 hA1 hlt W
    have hix2:=fun W=>idx_int (T:=25) (E:=50) (sz:=2) (c:=c) (i:=(k:Int)-1) Tryz.underlying25 rfl Tryz.sizeOf50 (by omega) hA2 (show k-1<l.length by omega) W
    have iw:IntKind.i64.wrap ((k:Int)-1)=(k:Int)-1:=IntWalk.i64_in _ (by omega)
    have HX:=hid hx;have HY:=hid hy
    clear hx hy hA1 hA2 he1 he2 k0
    by_cases hp:x.phase<y.phase
    ·have HI2:Hid (Inc l (k+1)):=HI.out.next HX.out HY.out hp
     have hp2:decide (y.phase≤x.phase)=false:=dF (by omega)
     go_wp2_with fail
     go_quiet (fail)
     go_wp2_with fail
     clear iw hix1 hix2
     go_roundw
     case rel=>exact⟨k+1,by omega,by go_num,HI2,hid (below_drewN HB.out _)⟩
     case measure=>simp[intOf];omega
    ·have E:=hid (scriptsE_order (fmt:=fmt) h7 (incB_false l (k-1) x y HX.out (by rw[show k-1+1=k by omega];exact HY.out) hp))
     have hp2:decide (y.phase≤x.phase)=true:=dT (by omega)
     go_wp2_with fail
     go_quiet (fail)
     go_wp2_with fail
     go_ret
     exact⟨ret_int (by rw[E.out]),below_drewN HB.out _⟩
  ·have HIN:Hid (incB l=true):=HI.out.all (by omega)
   go_wp2_with fail
   go_loopw [36] (fun i wr=>∃ k:Nat,k≤l.length∧i=.int .i64 k∧Hid ((l.take k).all (scB fmt)=true)∧Hid (Below w.heap.size w wr)) (fun i _=>l.length-(intOf i).toNat)
   case atStart=>exact⟨0,z0,rfl,by simp[Hid],HB⟩
   case round=>
    clear HB
    obtain⟨m,hm,rfl,HA,HB⟩:=hrel
    by_cases hlt2:m<l.length
    ·obtain⟨x,hx⟩:∃ x,l[m]?=some x:=⟨_,gG hlt2⟩
     have hbs:=HF.out x (gM hx)
     obtain⟨b1,off1,hA1,he1⟩:=(HR.out.below HB.out).elem script_len m x hx
     have p1:=he1 0 _ rfl
     have p2:=he1 1 _ rfl
     simp only[Nat.add_zero] at p1
     have hix1:=fun W=>idx_of (T:=25) (E:=50) (sz:=2) (c:=c) Tryz.underlying25 rfl Tryz.sizeOf50 hA1 hlt2 W
     have HX:=hid hx
     have HB2:Hid (Below w.heap.size w (wr.alloc (.cells #[.int .i64 x.phase,.string x.body] 50))):=HB.out.alloc HB.out.size _
     clear hx hA1 he1
     go_wp2_with fail
     refine(model_phaseRight fmt x.phase hfmt _).mono ?_;rintro e w' ⟨rfl,rfl⟩
     cases g1:phB fmt x.phase
     ·have E:=hid (scriptsE_arg (fmt:=fmt) h7 HIN.out (all_bad HX.out (by unfold scB;rw[g1];rfl)))
      clear g1
      go_wp2_with fail
      go_ret
      exact⟨ret_int (by rw[E.out]),HB2.out⟩
     by_cases s1:x.body.size<1
     ·have E:=hid (scriptsE_arg (fmt:=fmt) h7 HIN.out (all_bad HX.out (by unfold scB;rw[dF (by omega)];simp)))
      clear g1
      go_wp2_with fail
      go_ret
      exact⟨ret_int (by rw[E.out]),HB2.out⟩
     by_cases s2:4096<x.body.size
     ·have E:=hid (scriptsE_arg (fmt:=fmt) h7 HIN.out (all_bad HX.out (by unfold scB;rw[dF (by omega)];simp)))
      clear g1
      go_wp2_with fail
      go_ret
      exact⟨ret_int (by rw[E.out]),HB2.out⟩
     have G1:=hid g1;clear g1
     go_wp2_with fail
     refine(Contains0 x.body _).mono ?_;rintro e w' ⟨rfl,rfl⟩
     cases g2:(bl x.body).contains 0
     ·have HA2:Hid ((l.take (m+1)).all (scB fmt)=true):=all_next HX.out HA.out (by unfold scB;rw[G1.out,g2,dT (by omega)];rfl)
      clear g2
      go_wp2_with fail
      go_roundw
      case rel=>exact⟨m+1,by omega,by go_num,HA2,HB2⟩
      case measure=>simp[intOf];omega
     ·have E:=hid (scriptsE_arg (fmt:=fmt) h7 HIN.out (all_bad HX.out (by unfold scB;rw[g2];simp)))
      clear g2
      go_wp2_with fail
      go_ret
      exact⟨ret_int (by rw[E.out]),HB2.out⟩
    ·have E:=hid (scriptsE_ok (fmt:=fmt) h7 HIN.out (by have:=HA.out;rw[tL (by omega)] at this;exact this))
     go_wp2_with fail
     go_ret
     exact⟨ret_int (by rw[E.out]),HB.out⟩
theorem ref_scripts (fmt:Int)(hfmt:fmt=1∨fmt=2∨fmt=3)(A:Option Addr)(c:Nat)(l:List ScriptM)(w:World)(hr:Rd w 2 A l.length (l.flatMap ScriptM.cells))(hn:l.length≤9223372036854775807)(hf:∀ x∈l,x.body.size≤4294967280):
  Calls Tryz.prog 77 #[.int .i64 fmt,.slice A l.length c] w fun e w'=>e=.returned (.int .i64 (scriptsE fmt l))∧Below w.heap.size w w':=by
 have HR:=hid hr;have HF:=hid hf
 clear hr hf
 by_cases h7:7<l.length
 ·have E:Hid (scriptsE fmt l=4):=by show _=_;unfold scriptsE;rw[if_pos h7]
  go_enter Tryz.func77,Tryz.ntmps77
  go_wp2_with fail
  go_ret
  exact⟨ret_int (by rw[E.out]),bR⟩
 go_enter Tryz.func77,Tryz.ntmps77
 go_wp2_with fail
 go_loopw [5] (fun i wr=>∃ k:Nat,1≤k∧(k≤l.length∨k=1)∧i=.int .i64 k∧Hid (Inc l k)∧Hid (Below w.heap.size w wr)) (fun i _=>l.length-(intOf i).toNat)
 case atStart=>exact⟨1,lr,.inr rfl,rfl,Inc.one,bR⟩
 case round=>
  obtain⟨k,hk1,hk,rfl,HI,HB⟩:=hrel
  by_cases hlt:k<l.length
  ·obtain⟨y,hy⟩:∃ y,l[k]?=some y:=⟨_,gG hlt⟩
   obtain⟨x,hx⟩:∃ x,l[k-1]?=some x:=⟨_,gG (by omega)⟩
   obtain⟨b1,off1,hA1,he1⟩:=(HR.out.below HB.out).elem script_len k y hy
   obtain⟨b2,off2,hA2,he2⟩:=(HR.out.below HB.out).elem script_len (k-1) x hx
   have p1:=he1 0 _ rfl
   have p2:=he2 0 _ rfl
   simp only[Nat.add_zero] at p1 p2
   have hix1:=fun W=>idx_of (T:=25) (E:=50) (sz:=2) (c:=c) Tryz.underlying25 rfl Tryz.sizeOf50 hA1 hlt W
   have hix2:=fun W=>idx_int (T:=25) (E:=50) (sz:=2) (c:=c) (i:=(k:Int)-1) Tryz.underlying25 rfl Tryz.sizeOf50 (by omega) hA2 (show k-1<l.length by omega) W
   have iw:IntKind.i64.wrap ((k:Int)-1)=(k:Int)-1:=IntWalk.i64_in _ (by omega)
   have HX:=hid hx;have HY:=hid hy
   clear hx hy hA1 hA2 he1 he2
   by_cases hp:x.phase<y.phase
   ·have HI2:Hid (Inc l (k+1)):=HI.out.next HX.out HY.out hp
    have hp2:decide (y.phase≤x.phase)=false:=dF (by omega)
    go_wp2_with fail
    go_quiet (fail)
    go_wp2_with fail
    clear iw hix1 hix2
    go_roundw
    case rel=>exact⟨k+1,by omega,.inl (by omega),by go_num,HI2,hid (below_drewN HB.out _)⟩
    case measure=>simp[intOf];omega
   ·have E:=hid (scriptsE_order (fmt:=fmt) h7 (incB_false l (k-1) x y HX.out (by rw[show k-1+1=k by omega];exact HY.out) hp))
    have hp2:decide (y.phase≤x.phase)=true:=dT (by omega)
    go_wp2_with fail
    go_quiet (fail)
    go_wp2_with fail
    go_ret
    exact⟨ret_int (by rw[E.out]),below_drewN HB.out _⟩
  ·have HIN:Hid (incB l=true):=HI.out.all (by omega)
   go_wp2_with fail
   go_loopw [6] (fun i wr=>∃ k:Nat,k≤l.length∧i=.int .i64 k∧Hid ((l.take k).all (scB fmt)=true)∧Hid (Below w.heap.size w wr)) (fun i _=>l.length-(intOf i).toNat)
   case atStart=>exact⟨0,z0,rfl,by simp[Hid],HB⟩
   case round=>
    clear HB
    obtain⟨m,hm,rfl,HA,HB⟩:=hrel
    by_cases hlt2:m<l.length
    ·obtain⟨x,hx⟩:∃ x,l[m]?=some x:=⟨_,gG hlt2⟩
     have hbs:=HF.out x (gM hx)
     obtain⟨b1,off1,hA1,he1⟩:=(HR.out.below HB.out).elem script_len m x hx
     have p1:=he1 0 _ rfl
     have p2:=he1 1 _ rfl
     simp only[Nat.add_zero] at p1
     have hix1:=fun W=>idx_of (T:=25) (E:=50) (sz:=2) (c:=c) Tryz.underlying25 rfl Tryz.sizeOf50 hA1 hlt2 W
     have HX:=hid hx
     clear hx hA1 he1
     go_upto_region 12 with(fail)
     go_cut [8] (fun s8 wx=>s8=.bool (phB fmt x.phase)∧wr=wx)
     case first=>
      have q1:decide (1≤x.phase)=true∨decide (1≤x.phase)=false:=by cases decide (1≤x.phase)<;>simp
      by_cases n1:1≤x.phase
      ·by_cases n4:x.phase≤4
       ·have t1:decide (1≤x.phase)=true:=dT n1
        have t4:decide (x.phase≤4)=true:=dT n4
        have E:Hid (phB fmt x.phase=true):=dT (.inl ⟨n1,n4⟩)
        go_wp2_with fail
        go_meet
        exact⟨by rw[E.out],rfl⟩
       ·have t1:decide (1≤x.phase)=true:=dT n1
        have t4:decide (x.phase≤4)=false:=dF n4
        rcases hfmt with rfl | rfl | rfl
        ·cases t7:(x.phase==7)
         ·have E:Hid (phB 1 x.phase=false):=decide_eq_false (by have:¬ x.phase=7:=by simpa using t7
                                                                omega)
          go_wp2_with fail
          go_meet
          exact⟨by rw[E.out],rfl⟩
         ·have E:Hid (phB 1 x.phase=true):=decide_eq_true (by have:x.phase=7:=by simpa using t7
                                                              omega)
          go_wp2_with fail
          go_meet
          exact⟨by rw[E.out],rfl⟩
        ·have E:Hid (phB 2 x.phase=false):=dF (by omega)
         go_wp2_with fail
         go_meet
         exact⟨by rw[E.out],rfl⟩
        ·by_cases n5:x.phase=5
         ·have t5:(x.phase==5)=true:=by simpa using n5
          have E:Hid (phB 3 x.phase=true):=dT (by omega)
          clear n5
          go_wp2_with fail
          go_meet
          exact⟨by rw[E.out],rfl⟩
         ·have t5:(x.phase==5)=false:=by simpa using n5
          have E:Hid (phB 3 x.phase=(x.phase==6)):=by show decide _=_;rw[bI,decide_eq_true_iff];simp;omega
          clear n5
          go_wp2_with fail
          go_meet
          exact⟨by rw[E.out],rfl⟩
      ·have t1:decide (1≤x.phase)=false:=dF n1
       have t7:(x.phase==7)=false:=by simp;omega
       have t5:(x.phase==5)=false:=by simp;omega
       have t6:(x.phase==6)=false:=by simp;omega
       have E:Hid (phB fmt x.phase=false):=dF (by omega)
       rcases hfmt with rfl | rfl | rfl
       all_goals
        go_wp2_with fail
        go_meet
        exact⟨by rw[E.out],rfl⟩
     case rest=>
     obtain⟨rfl,rfl⟩:=hcut
     cases g1:phB fmt x.phase
     ·have E:=hid (scriptsE_arg (fmt:=fmt) h7 HIN.out (all_bad HX.out (by unfold scB;rw[g1];rfl)))
      clear g1
      go_wp2_with fail
      go_ret
      exact⟨ret_int (by rw[E.out]),HB.out⟩
     by_cases s1:x.body.size=0
     ·have se:x.body.toList=[]:=by rw[bl_toList,bl_nil _ s1]
      have se2:x.body.toList.isEmpty=true:=by rw[se];rfl
      have E:=hid (scriptsE_arg (fmt:=fmt) h7 HIN.out (all_bad HX.out (by unfold scB;rw[dF (by omega)];simp)))
      clear g1
      go_wp2_with fail
      go_ret
      exact⟨ret_int (by rw[E.out]),HB.out⟩
     have se2:x.body.toList.isEmpty=false:=by rw[bl_toList,bl_isEmpty];exact dF s1
     have se:¬ x.body.toList=[]:=by intro h;rw[h] at se2;simp at se2
     by_cases s2:4096<x.body.size
     ·have E:=hid (scriptsE_arg (fmt:=fmt) h7 HIN.out (all_bad HX.out (by unfold scB;rw[dF (by omega)];simp)))
      clear g1
      go_wp2_with fail
      go_ret
      exact⟨ret_int (by rw[E.out]),HB.out⟩
     have G1:=hid g1;clear g1
     go_wp2_with fail
     refine(ref_Has x.body 0 _ (by omega)).mono ?_;rintro e w' ⟨rfl,rfl⟩
     unfold hasB
     cases g2:(bl x.body).contains 0
     ·have HA2:Hid ((l.take (m+1)).all (scB fmt)=true):=all_next HX.out HA.out (by unfold scB;rw[G1.out,g2,dT (by omega)];rfl)
      clear g2
      go_wp2_with fail
      go_roundw
      case rel=>exact⟨m+1,by omega,by go_num,HA2,HB⟩
      case measure=>simp[intOf];omega
     ·have E:=hid (scriptsE_arg (fmt:=fmt) h7 HIN.out (all_bad HX.out (by unfold scB;rw[g2];simp)))
      clear g2
      go_wp2_with fail
      go_ret
      exact⟨ret_int (by rw[E.out]),HB.out⟩
    ·have E:=hid (scriptsE_ok (fmt:=fmt) h7 HIN.out (by have:=HA.out;rw[tL (by omega)] at this;exact this))
     go_wp2_with fail
     go_ret
     exact⟨ret_int (by rw[E.out]),HB.out⟩
theorem ref_summary (s:BA)(w:World)(hs:s.size≤9223372036854775807):
  Calls Tryz.prog 71 #[.string s] w fun e w'=>e=.returned (.bool (sumB (bl s)))∧w=w':=by
 have HB:=hid (bl_length s)
 by_cases h1:s.size<1
 ·have E:Hid (sumB (bl s)=false):=by show _=_;unfold sumB;rw[HB.out,dF (by omega)];simp
  go_enter Tryz.func71,Tryz.ntmps71
  go_wp2_with fail
  go_ret
  exact⟨ret_bool E.out.symm,rfl⟩
 by_cases h2:100<s.size
 ·have E:Hid (sumB (bl s)=false):=by show _=_;unfold sumB;rw[HB.out,dF (show ¬ s.size≤100 by omega)];simp
  go_enter Tryz.func71,Tryz.ntmps71
  go_wp2_with fail
  go_ret
  exact⟨ret_bool E.out.symm,rfl⟩
 have hpos:0<s.size:=by omega
 have hh:=hid (head_bl s hpos)
 have hl:=hid (last_bl s hpos)
 by_cases a1:s[0].toNat=32
 ·have t1:((s[0].toNat:Int)==32)=true:=u8_beq a1
  have E:Hid (sumB (bl s)=false):=by show _=_;unfold sumB;rw[hh.out,←neq32,show((s[0].toNat:Int) != 32)=false from u8_beqN a1];simp
  clear a1
  go_enter Tryz.func71,Tryz.ntmps71
  go_wp2_with fail
  go_ret
  exact⟨ret_bool E.out.symm,rfl⟩
 have t1:((s[0].toNat:Int)==32)=false:=u8_bne a1
 by_cases a2:s[s.size-1].toNat=32
 ·have t2:((s[s.size-1].toNat:Int)==32)=true:=u8_beq a2
  have E:Hid (sumB (bl s)=false):=by show _=_;unfold sumB;rw[hl.out,←neq32,show((s[s.size-1].toNat:Int) != 32)=false from u8_beqN a2];simp
  clear a1 a2
  go_enter Tryz.func71,Tryz.ntmps71
  go_wp2_with fail
  go_ret
  exact⟨ret_bool E.out.symm,rfl⟩
 have t2:((s[s.size-1].toNat:Int)==32)=false:=u8_bne a2
 have E:Hid (sumB (bl s)=wthB 32 (bl s)):=by show _=_;unfold sumB;rw[HB.out,hh.out,hl.out,←neq32,←neq32,show((s[0].toNat:Int) != 32)=true from u8_bneN a1,show((s[s.size-1].toNat:Int) != 32)=true from u8_bneN a2,dT (by omega),dT (by omega)];simp
 clear a1 a2
 go_enter Tryz.func71,Tryz.ntmps71
 go_wp2_with fail
 clear t1 t2
 go_loop [4] (fun i=>∃ k:Nat,k≤s.size∧i=.int .i64 k∧Hid (wthB 32 ((bl s).take k)=true)) (fun i=>s.size-(intOf i).toNat)
 case atStart=>exact⟨0,z0,rfl,by simp[Hid,wthB]⟩
 case round=>
  obtain⟨k,hk,rfl,HA⟩:=hrel
  by_cases hlt:k<s.size
  ·by_cases d1:s[k].toNat<32
   ·have HE:Hid (wthB 32 (bl s)=false):=wthB_bad 32 s k hlt (.inl d1)
    go_wp2_with fail
    go_ret
    exact⟨ret_bool (by rw[E.out,HE.out]),rfl⟩
   by_cases d2:126<s[k].toNat
   ·have HE:Hid (wthB 32 (bl s)=false):=wthB_bad 32 s k hlt (.inr (by omega))
    go_wp2_with fail
    go_ret
    exact⟨ret_bool (by rw[E.out,HE.out]),rfl⟩
   ·have HN:Hid (wthB 32 ((bl s).take (k+1))=true):=wthB_next 32 s k hlt HA.out (by omega) ⟨by omega,by omega⟩
    go_wp2_with fail
    go_round
    case rel=>exact⟨k+1,by omega,by go_num,HN⟩
    case measure=>simp[intOf];omega
  ·have HE:Hid (wthB 32 (bl s)=true):=by have:=HA.out;rw[bl_take_ge s k (by omega)] at this;exact this
   go_wp2_with fail
   go_ret
   exact⟨ret_bool (by rw[E.out,HE.out]),rfl⟩
structure DbOk (w:World) (A:Option Addr) (l:List PkL):Prop where
 row:Rd w 9 A l.length (l.flatMap PkL.cells)
 all:∀ p∈l,p.ok w
theorem DbOk.below {w w':World}{A:Option Addr}{l:List PkL}(h:DbOk w A l)(hb:Below w.heap.size w w'):DbOk w' A l:=⟨h.1.below hb,fun p hp=>(h.2 p hp).below hb⟩
def wDb (l:List PkL):Nat:=(l.map fun p=>1+wsum p).sum
theorem wDb_snoc (l:List PkL)(k:Nat)(x:PkL)(h:l[k]?=some x):wDb (l.take (k+1))=wDb (l.take k)+1+wsum x:=by
 obtain⟨hk,hx⟩:=gS h
 unfold wDb;rw[tS hk,List.map_append,List.sum_append,hx];simp;omega
def LightPost (l:List PkL)(count:Nat)(most:Int)(e:Ending):Prop:=∃ b:Bool,e=.returned (.bool b)∧(b=true→l.length≤count∧(wDb l:Int)≤most)
set_option maxRecDepth 100000 in
set_option maxHeartbeats 1000000 in
theorem ref_Light (A:Option Addr)(c:Nat)(l:List PkL)(count:Nat)(hcnt:count≤1000)(most:Int)(h0:0≤most)(h1:most≤1000000)(w:World)(hd:DbOk w A l)(hf:∀ p∈l,p.fits)(hl:l.length≤9223372036854775807):
  Calls Tryz.prog 18 #[.slice A l.length c,.int .i64 count,.int .i64 most] w fun e w'=>LightPost l count most e∧Below w.heap.size w w':=by
 have HD:=hid hd;clear hd
 have HF:=hid hf;clear hf
 by_cases hc:l.length≤count
 ·have hcb:decide (count<l.length)=false:=by simp;omega
  go_enter Tryz.func18,Tryz.ntmps18
  go_upto_block 0 with(fail)
  go_cut [7] (fun s7 wx=>∃ m:Int,s7=.int .i64 m∧0≤m∧m≤7*most+7∧Hid (m≤most→m=(wDb l:Int))∧Hid (Below w.heap.size w wx))
  case first=>
   go_wp2_with fail
   go_loopw [7,8] (fun n i wr=>∃ (k:Nat) (m:Int),k≤l.length∧i=.int .i64 k∧n=.int .i64 m∧0≤m∧m≤7*most+7∧Hid (m≤most→m=(wDb (l.take k):Int))∧Hid (Below w.heap.size w wr)) (fun _ i _=>l.length-(intOf i).toNat)
   case atStart=>exact⟨0,0,z0,rfl,rfl,by omega,by omega,(fun h=>by simp[wDb]),bR⟩
   case round=>
    obtain⟨k,m,hk,rfl,rfl,m0,m1,M2,BX⟩:=hrel
    by_cases hlt:k<l.length
    ·by_cases hm:m≤most
     ·obtain⟨x,hx⟩:∃ x,l[k]?=some x:=⟨_,gG hlt⟩
      have hxm:x∈l:=gM hx
      obtain⟨b,off,hA,he⟩:=(HD.out.row.below BX.out).elem pk_len k x hx
      have e0:=he 0 _ rfl
      have e1:=he 1 _ rfl
      have e2:=he 2 _ rfl
      have e3:=he 3 _ rfl
      have e4:=he 4 _ rfl
      have e5:=he 5 _ rfl
      have e6:=he 6 _ rfl
      have e7:=he 7 _ rfl
      have e8:=he 8 _ rfl
      simp only[Nat.add_zero] at e0
      clear he
      have hix:=fun W=>idx_of (T:=40) (E:=27) (sz:=9) (c:=c) Tryz.underlying40 rfl Tryz.sizeOf27 hA hlt W
      have HX:=hid hx
      have HW:=hid (wDb_snoc l k x hx)
      have HM:=hid hxm
      clear hx hA hxm
      go_wp2_with fail
      refine(ref_Weight x most h0 h1 _ ((HD.out.all x HM.out).below BX.out) (HF.out x HM.out)).mono ?_
      rintro e w1 ⟨⟨q,rfl,q0,q1,q2⟩,hb1⟩
      have Q2:=hid q2;clear q2
      clear e0 e1 e2 e3 e4 e5 e6 e7 e8 hix
      go_wp2_with fail
      have F1:Hid (m+1+q≤most→m+1+q=(wDb (l.take (k+1)):Int)):=by
       intro h;rw[HW.out];have:=M2.out hm;have:=Q2.out (by omega);omega
      go_roundw
      case rel=>exact⟨k+1,_,by omega,by go_num,rfl,by omega,by omega,F1,bthen BX.out hb1⟩
      case measure=>simp[intOf];omega
     ·go_wp2_with fail
      go_meet
      exact⟨m,rfl,m0,m1,(fun h=>by omega),BX⟩
    ·go_wp2_with fail
     go_meet
     exact⟨m,rfl,m0,m1,(fun h=>by rw[M2.out h,tL (by omega)]),BX⟩
  case rest=>
   obtain⟨m,rfl,m0,m1,M2,BX⟩:=hcut
   go_wp2_with fail
   go_ret
   exact⟨⟨_,rfl,fun hb=>⟨hc,by have h:=dO hb;have:=M2.out h;omega⟩⟩,BX.out⟩
 ·go_enter Tryz.func18,Tryz.ntmps18
  go_wp2_with fail
  go_ret
  exact⟨⟨false,rfl,fun h=>by cases h⟩,bR⟩
end
section
open Go.RowKit Go.Maps
def shV (x:FileM):Value:=.agg #[.int .i64 x.kind,.int .i64 x.mode,.string x.owner,.string x.group,.string x.link]
def alikeB (x y:FileM):Bool:=(x.kind==y.kind)&&((x.mode==y.mode)&&((x.owner.toList==y.owner.toList)&&((x.group.toList==y.group.toList)&&(x.link.toList==y.link.toList))))
theorem alikeB_iff (a b:FileM):alikeB a b=true↔shV a=shV b:=by
 unfold alikeB shV
 simp only[Bool.and_eq_true,beq_bl,beq_iff_eq,decide_eq_true_iff]
 constructor
 ·rintro⟨h1,h2,h3,h4,h5⟩;rw[h1,h2,h3,h4,h5]
 ·intro h
  injection h with h
  have h:=congrArg Array.toList h
  simp only[List.cons.injEq,and_true] at h
  obtain⟨h1,h2,h3,h4,h5⟩:=h
  injection h1 with _ h1;injection h2 with _ h2;injection h3 with h3;injection h4 with h4;injection h5 with h5
  exact⟨h1,h2,h3,h4,h5⟩
def findF (fs:List FileM)(s:BA):Option FileM:=fs.find? fun y=>decide (y.path=s)
theorem findF_some {fs:List FileM}{s:BA}{y:FileM}(h:findF fs s=some y):y∈fs∧y.path=s:=
 by unfold findF at h;exact⟨List.mem_of_find?_eq_some h,by simpa using List.find?_some h⟩
theorem findF_none {fs:List FileM}{s:BA}(h:findF fs s=none):∀ y∈fs,y.path≠s:=by
 intro y hy he
 unfold findF at h
 have:=List.find?_eq_none.1 h y hy
 exact this (dT he)
def clash (q:PkL)(x:FileM):Bool:=match findF q.files x.path with
 | none=>false
 | some y=>!alikeB y x
def conf (pre:List PkL)(x:FileM):Bool:=pre.any fun q=>clash q x
def ordL (pre:List PkL)(p:PkL):Bool:=match pre.getLast? with | none=>true | some q=>decide (bl q.nm<bl p.nm)
def pkE (ans:BA×Int)(pre:List PkL)(p:PkL):BA×BA×Int:=
 if ans.2≠0 then (p.nm,ans.1,ans.2)
 else if ordL pre p=false then (p.nm,⟨#[110,97,109,101]⟩,15)
 else match p.files.find? (conf pre) with
  | some f=>(p.nm,f.path,8)
  | none=>(⟨#[]⟩,⟨#[]⟩,0)
def dbE (ans:PkL→BA×Int):List PkL→List PkL→BA×BA×Int
 | _,[]=>(⟨#[]⟩,⟨#[]⟩,0)
 | pre,p::r=>if (pkE (ans p) pre p).2.2=0 then dbE ans (pre++[p]) r else pkE (ans p) pre p
theorem dbE_next {ans:PkL→BA×Int}{l:List PkL}{k:Nat}{p:PkL}(h:l[k]?=some p)(h0:dbE ans [] l=dbE ans (l.take k) (l.drop k))(he:(pkE (ans p) (l.take k) p).2.2=0):dbE ans [] l=dbE ans (l.take (k+1)) (l.drop (k+1)):=by
 obtain⟨hk,hf⟩:=gS h
 rw[h0,List.drop_eq_getElem_cons hk,hf,dbE,if_pos he,tS hk,hf]
theorem dbE_bad {ans:PkL→BA×Int}{l:List PkL}{k:Nat}{p:PkL}(h:l[k]?=some p)(h0:dbE ans [] l=dbE ans (l.take k) (l.drop k))(he:(pkE (ans p) (l.take k) p).2.2≠0):dbE ans [] l=pkE (ans p) (l.take k) p:=by
 obtain⟨hk,hf⟩:=gS h
 rw[h0,List.drop_eq_getElem_cons hk,hf,dbE,if_neg he]
theorem dbE_end {ans:PkL→BA×Int}{l:List PkL}{k:Nat}(hk:l.length≤k)(h0:dbE ans [] l=dbE ans (l.take k) (l.drop k)):dbE ans [] l=(⟨#[]⟩,⟨#[]⟩,0):=by
 rw[h0,List.drop_of_length_le hk];rfl
def ordP (l:List PkL)(k:Nat)(p:PkL):Bool:=ordL (l.take k) p
theorem ordP_zero (l:List PkL)(p:PkL):ordP l 0 p=true:=by unfold ordP ordL;simp
theorem ordP_succ {l:List PkL}{k:Nat}{q:PkL}(p:PkL)(h:l[k]?=some q):ordP l (k+1) p=decide (bl q.nm<bl p.nm):=by
 obtain⟨hk,hf⟩:=gS h
 unfold ordP ordL
 rw[tS hk]
 simp[hf]
theorem pkE_ans {ans:BA×Int}{pre:List PkL}{p:PkL}(h:ans.2≠0):pkE ans pre p=(p.nm,ans.1,ans.2):=by unfold pkE;rw[if_pos h]
theorem pkE_ord {ans:BA×Int}{l:List PkL}{k:Nat}{p:PkL}(h:ans.2=0)(ho:ordP l k p=false):pkE ans (l.take k) p=(p.nm,⟨#[110,97,109,101]⟩,15):=by
 unfold pkE;unfold ordP at ho;rw[if_neg (by simpa using h),if_pos ho]
theorem pkE_conf {ans:BA×Int}{l:List PkL}{k m:Nat}{p:PkL}{x:FileM}(h:ans.2=0)(ho:ordP l k p=true)(hx:p.files[m]?=some x)(hn:∀ y∈p.files.take m,conf (l.take k) y=false)(hc:conf (l.take k) x=true):pkE ans (l.take k) p=(p.nm,x.path,8):=by
 unfold pkE;unfold ordP at ho;rw[if_neg (by simpa using h),ho,if_neg (by simp)]
 have:p.files.find? (conf (l.take k))=some x:=by
  obtain⟨hm,hx⟩:=gS hx
  rw[←List.take_append_drop m p.files,List.find?_append,List.find?_eq_none.2 (fun y hy=>by rw[hn y hy];simp),List.drop_eq_getElem_cons hm,hx]
  simp[hc]
 rw[this]
theorem pkE_fine {ans:BA×Int}{l:List PkL}{k:Nat}{p:PkL}(h:ans.2=0)(ho:ordP l k p=true)(hn:∀ y∈p.files,conf (l.take k) y=false):pkE ans (l.take k) p=(⟨#[]⟩,⟨#[]⟩,0):=by
 unfold pkE;unfold ordP at ho;rw[if_neg (by simpa using h),ho,if_neg (by simp),List.find?_eq_none.2 (fun y hy=>by rw[hn y hy];simp)]
def dbW (ans:PkL→BA×Int)(fo:Bool)(l:List PkL):BA×BA×Int:=
 if fo=false then (⟨#[]⟩,⟨#[102,111,114,109,97,116]⟩,9) else if 128<l.length then (⟨#[]⟩,⟨#[112,97,99,107,97,103,101,115]⟩,4) else dbE ans [] l
def dbV (r:BA×BA×Int):Value:=.agg #[.string r.1,.string r.2.1,.int .i64 r.2.2]
structure CInv (L:List FileM) (f:BA→Option Value):Prop where
 dom:∀ s,f s=none→∀ y∈L,y.path≠s
 mem:∀ s v,f s=some v→(∃ y∈L,y.path=s)∧∀ y∈L,y.path=s→shV y=v
theorem CInv.nil:CInv [] (fun _=>none):=⟨by simp,by simp⟩
theorem CInv.put {L:List FileM}{f:BA→Option Value}(h:CInv L f)(x:FileM)(hx:f x.path=none∨f x.path=some (shV x)):CInv (L++[x]) (fun s=>if s=x.path then some (shV x) else f s):=by
 refine⟨fun s hs y hy he=>?_,fun s v hv=>?_⟩
 ·by_cases e:s=x.path
  ·simp only[if_pos e] at hs;cases hs
  ·simp only[if_neg e] at hs
   rcases List.mem_append.1 hy with hy | hy
   ·exact h.dom s hs y hy he
   ·rw[List.mem_singleton.1 hy] at he;exact e he.symm
 ·by_cases e:s=x.path
  ·simp only[if_pos e] at hv
   injection hv with hv
   subst hv;subst e
   refine⟨⟨x,by simp,rfl⟩,fun y hy he=>?_⟩
   rcases List.mem_append.1 hy with hy | hy
   ·rcases hx with hx | hx
    ·exact absurd he (h.dom _ hx y hy)
    ·exact(h.mem _ _ hx).2 y hy he
   ·rw[List.mem_singleton.1 hy]
  ·simp only[if_neg e] at hv
   obtain⟨⟨y,hy,he⟩,h2⟩:=h.mem s v hv
   refine⟨⟨y,by simp[hy],he⟩,fun z hz hze=>?_⟩
   rcases List.mem_append.1 hz with hz | hz
   ·exact h2 z hz hze
   ·rw[List.mem_singleton.1 hz] at hze;exact absurd hze.symm e
def came (l:List PkL)(k:Nat)(fs:List FileM):List FileM:=(l.take k).flatMap PkL.files++fs
theorem CInv.fresh {l:List PkL}{k:Nat}{fs:List FileM}{f:BA→Option Value}(h:CInv (came l k fs) f){x:FileM}(hx:f x.path=none):conf (l.take k) x=false:=by
 unfold conf
 rw[List.any_eq_false]
 intro q hq hc
 unfold clash at hc
 cases e:findF q.files x.path with
 | none=>rw[e] at hc;cases hc
 | some y=>
  obtain⟨hy,hp⟩:=findF_some e
  exact h.dom _ hx y (List.mem_append_left _ (List.mem_flatMap.2 ⟨q,hq,hy⟩)) hp
theorem CInv.same {l:List PkL}{k:Nat}{fs:List FileM}{f:BA→Option Value}(h:CInv (came l k fs) f){x:FileM}(hx:f x.path=some (shV x)):conf (l.take k) x=false:=by
 unfold conf
 rw[List.any_eq_false]
 intro q hq hc
 unfold clash at hc
 cases e:findF q.files x.path with
 | none=>rw[e] at hc;cases hc
 | some y=>
  rw[e] at hc
  obtain⟨hy,hp⟩:=findF_some e
  have:=(h.mem _ _ hx).2 y (List.mem_append_left _ (List.mem_flatMap.2 ⟨q,hq,hy⟩)) hp
  have h2:=(alikeB_iff y x).2 this
  simp[h2] at hc
theorem CInv.other {l:List PkL}{k:Nat}{fs:List FileM}{f:BA→Option Value}(h:CInv (came l k fs) f){x:FileM}{v:Value}(hx:f x.path=some v)(hne:v≠shV x)(hf:∀ y∈fs,y.path≠x.path):conf (l.take k) x=true:=by
 obtain⟨⟨y,hy,hp⟩,h2⟩:=h.mem _ _ hx
 rcases List.mem_append.1 hy with hy | hy
 ·obtain⟨q,hq,hyq⟩:=List.mem_flatMap.1 hy
  unfold conf
  rw[List.any_eq_true]
  refine⟨q,hq,?_⟩
  unfold clash
  cases e:findF q.files x.path with
  | none=>exact absurd hp (findF_none e y hyq)
  | some z=>
   obtain⟨hz,hzp⟩:=findF_some e
   have h3:=h2 z (List.mem_append_left _ (List.mem_flatMap.2 ⟨q,hq,hz⟩)) hzp
   show(!alikeB z x)=true
   cases ha:alikeB z x with
   | false=>rfl
   | true=>exact absurd (h3.symm.trans ((alikeB_iff z x).1 ha)) hne
 ·exact absurd hp (hf y hy)
theorem came_next {l:List PkL}{k:Nat}{p:PkL}(h:l[k]?=some p):came l (k+1) []=came l k p.files:=by
 obtain⟨hk,hx⟩:=gS h
 unfold came;rw[tS hk,hx];simp
theorem came_snoc (l:List PkL)(k:Nat){fs:List FileM}{m:Nat}{x:FileM}(h:fs[m]?=some x):came l k (fs.take (m+1))=came l k (fs.take m)++[x]:=by
 obtain⟨hk,hx⟩:=gS h
 unfold came;rw[tS hk,hx];simp
theorem came_length (l:List PkL)(k:Nat)(p:PkL)(m:Nat)(h:l[k]?=some p):(came l k (p.files.take m)).length≤wDb l:=by
 have key:∀ (L:List PkL),(L.flatMap PkL.files).length≤wDb L:=by
  intro L
  induction L with
  | nil=>simp[wDb]
  | cons a r ih=>
   have h3:a.files.length≤wFiles a.files:=by
    unfold wFiles
    generalize a.files=fs
    induction fs with
    | nil=>simp
    | cons a r ih=>simp at *;omega
   unfold wDb at ih ⊢
   rw[List.flatMap_cons,List.length_append,List.map_cons,List.sum_cons]
   have hw:wsum a=wTexts a+wStrs a.needs+wStrs a.bars+wAtoms a.gives+wFiles a.files+wScripts a.scripts:=rfl
   omega
 have h1:=key (l.take (k+1))
 have h2:(came l k (p.files.take m)).length≤((l.take (k+1)).flatMap PkL.files).length:=by
  have e:=came_next h
  have e2:came l (k+1) []=(l.take (k+1)).flatMap PkL.files:=by unfold came;simp
  rw[←e2,e]
  unfold came
  rw[List.length_append,List.length_append,List.length_take];omega
 have h3:wDb (l.take (k+1))≤wDb l:=by
  have e:wDb l=wDb (l.take (k+1))+wDb (l.drop (k+1)):=by
   unfold wDb;rw[←List.sum_append,←List.map_append,List.take_append_drop]
  omega
 omega
theorem filesE_fine {fmt:Int}{fs:List FileM}(h:(filesAns fmt fs).2=0):(fpaths fs).Pairwise (fun s t=>bl s<bl t):=by
 unfold filesAns at h
 split at h
 ·simp at h
 ·have key:∀ (r pre:List FileM),(∃ g,KInv pre g)→((filesE fmt pre r).getD (⟨#[]⟩,0)).2=0→(fpaths (pre++r)).Pairwise (fun s t=>bl s<bl t):=by
   intro r
   induction r with
   | nil=>rintro pre ⟨g,hg⟩ _;simpa using hg.sorted
   | cons a r ih=>
    rintro pre ⟨g,hg⟩ h
    rw[filesE] at h
    by_cases he:fErr fmt pre a=0
    ·rw[if_pos he] at h
     have ho:orderB pre.getLast? a=true:=by
      unfold fErr at he
      cases e1:(pathB (bl a.path)&&plainB (bl a.path)) with
      | false=>rw[e1] at he;simp at he
      | true=>
       cases e2:orderB pre.getLast? a with
       | false=>rw[e1,e2] at he;simp at he
       | true=>rfl
     have:=ih (pre++[a]) ⟨_,hg.put ho⟩ h
     simpa using this
    ·rw[if_neg he] at h;exact absurd h he
  have:=key fs [] ⟨_,KInv.nil⟩ h
  simpa using this
theorem sorted_ne {fs:List FileM}(h:(fpaths fs).Pairwise (fun s t=>bl s<bl t)){m:Nat}{x:FileM}(hx:fs[m]?=some x):∀ y∈fs.take m,y.path≠x.path:=by
 intro y hy he
 obtain⟨hm,hx⟩:=gS hx
 have e:fpaths fs=fpaths (fs.take m)++fpaths (fs.drop m):=by unfold fpaths;rw[←List.map_append,List.take_append_drop]
 rw[e,List.pairwise_append] at h
 have:=h.2.2 y.path (List.mem_map.2 ⟨y,hy,rfl⟩) x.path (by rw[List.drop_eq_getElem_cons hm,hx];simp[fpaths])
 rw[he] at this;exact lt_irr _ this
end
section
open Go.RowKit
theorem fpaths_snocC {fs:List FileM}{k:Nat}{f:FileM}(h:fs[k]?=some f):fpaths (fs.take (k+1))=fpaths (fs.take k)++[f.path]:=by
 obtain⟨hk,hx⟩:=gS h
 rw[tS hk,hx];simp[fpaths]
def FindIs (fs:List FileM)(path:BA)(n:Int):Prop:=(n=-1∧path ∉ fpaths fs)∨∃ (k:Nat)(f:FileM),n=k∧fs[k]?=some f∧f.path=path∧path ∉ fpaths (fs.take k)
theorem FindIs.neg {fs:List FileM}{path:BA}{n:Int}(h:FindIs fs path n):n<0↔path ∉ fpaths fs:=by
 rcases h with⟨rfl,h⟩ | ⟨k,f,rfl,hf,hp,_⟩
 ·exact⟨fun _=>h,fun _=>by omega⟩
 ·refine⟨fun h=>by omega,fun h=>absurd ?_ h⟩
  exact List.mem_map.2 ⟨f,gM hf,hp⟩
def FindPost (fs:List FileM)(path:BA)(w:World)(e:Ending)(w':World):Prop:=∃ n:Int,e=.returned (.int .i64 n)∧-1≤n∧n≤9223372036854775807∧FindIs fs path n∧w=w'
set_option maxRecDepth 100000 in
set_option maxHeartbeats 400000 in
theorem ref_Find (A:Option Addr)(c:Nat)(fs:List FileM)(path:BA)(w:World)(hr:Rd w 8 A fs.length (fs.flatMap FileM.cells))(hn:fs.length≤9223372036854775807):
  Calls Tryz.prog 42 #[.slice A fs.length c,.string path] w (FindPost fs path w):=by
 have HR:=hid hr;clear hr
 go_enter Tryz.func42,Tryz.ntmps42
 go_wp2_with fail
 go_loop [5] (fun i=>∃ k:Nat,k≤fs.length∧i=.int .i64 k∧Hid (path ∉ fpaths (fs.take k))) (fun i=>fs.length-(intOf i).toNat)
 case atStart=>exact⟨0,z0,rfl,by simp[Hid,fpaths]⟩
 case round=>
  obtain⟨k,hk,rfl,HN⟩:=hrel
  by_cases hlt:k<fs.length
  ·obtain⟨x,hx⟩:∃ x,fs[k]?=some x:=⟨_,gG hlt⟩
   obtain⟨b,off,hA,he⟩:=HR.out.elem file_len k x hx
   have e0:=he 0 _ rfl
   simp only[Nat.add_zero] at e0
   have hix:=fun W=>idx_of (T:=24) (E:=46) (sz:=8) (c:=c) Tryz.underlying24 rfl Tryz.sizeOf46 hA hlt W
   have HX:=hid hx
   clear hx hA he
   cases hE:(x.path.toList==path.toList)
   ·have HNE:Hid (¬ x.path=path):=by show ¬ _;rw[beq_bl] at hE;exact of_decide_eq_false hE
    go_wp2_with fail
    go_round
    case rel=>exact⟨k+1,by omega,by go_num,hid (by rw[fpaths_snocC HX.out,List.mem_append,List.mem_singleton];rintro(h | h);exact HN.out h;exact HNE.out h.symm)⟩
    case measure=>simp[intOf];omega
   ·have HE:Hid (x.path=path):=by show _=_;rw[beq_bl] at hE;exact dO hE
    go_wp2_with fail
    go_ret
    exact⟨_,rfl,by omega,by omega,.inr ⟨k,x,rfl,HX.out,HE.out,HN.out⟩,rfl⟩
  ·go_wp2_with fail
   go_ret
   exact⟨_,rfl,by omega,by omega,.inl ⟨rfl,by have:=HN.out;rw[tL (by omega)] at this;exact this⟩,rfl⟩
theorem findF_of {fs:List FileM}{s:BA}{n:Int}(h:FindIs fs s n):(n<0→findF fs s=none)∧∀ k:Nat,n=k→∃ y,fs[k]?=some y∧findF fs s=some y:=by
 rcases h with⟨rfl,h⟩ | ⟨k,f,rfl,hf,hp,hn⟩
 ·refine⟨fun _=>List.find?_eq_none.2 (fun y hy=>?_),fun k hk=>by omega⟩
  intro he
  exact h (List.mem_map.2 ⟨y,hy,dO he⟩)
 ·refine⟨fun h=>by omega,fun j hj=>?_⟩
  obtain rfl:j=k:=by omega
  refine⟨f,hf,?_⟩
  obtain⟨hm,hx⟩:=gS hf
  unfold findF
  rw[←List.take_append_drop j fs,List.find?_append,List.find?_eq_none.2 (fun y hy he=>hn (List.mem_map.2 ⟨y,hy,dO he⟩)),List.drop_eq_getElem_cons hm,hx]
  simp[hp]
theorem clash_none {q:PkL}{x:FileM}{n:Int}(h:FindIs q.files x.path n)(hn:n<0):clash q x=false:=by
 unfold clash;rw[(findF_of h).1 hn]
theorem clash_some {q:PkL}{x:FileM}{k:Nat}{y:FileM}(h:FindIs q.files x.path k)(hy:q.files[k]?=some y):clash q x=!alikeB y x:=by
 obtain⟨z,hz,hf⟩:=(findF_of h).2 k rfl
 rw[hy] at hz;injection hz with hz;subst hz
 unfold clash;rw[hf]
theorem find_lt {fs:List FileM}{s:BA}{n:Int}(h:FindIs fs s n)(hn:0≤n):∃ (k:Nat)(y:FileM),n=k∧k<fs.length∧fs[k]?=some y:=by
 rcases h with⟨rfl,_⟩ | ⟨k,f,rfl,hf,_,_⟩
 ·omega
 ·exact⟨k,f,rfl,(gS hf).1,hf⟩
theorem FindIs.unique {fs:List FileM}{s:BA}{n m:Int}(h:FindIs fs s n)(k:FindIs fs s m):n=m:=by
 rcases h with⟨rfl,h⟩ | ⟨a,f,rfl,hf,hp,hn⟩
 ·rcases k with⟨rfl,_⟩ | ⟨b,g,rfl,hg,hq,_⟩
  ·rfl
  ·exact absurd (List.mem_map.2 ⟨g,gM hg,hq⟩) h
 ·rcases k with⟨rfl,k⟩ | ⟨b,g,rfl,hg,hq,hm⟩
  ·exact absurd (List.mem_map.2 ⟨f,gM hf,hp⟩) k
  ·have key:∀ {a b:Nat} {f:FileM},fs[a]?=some f→f.path=s→s ∉ fpaths (fs.take b)→b≤a:=by
    intro a b f hf hp hn
    apply Nat.le_of_not_lt
    intro hlt
    refine hn (List.mem_map.2 ⟨f,?_,hp⟩)
    have:(fs.take b)[a]?=some f:=by rw[List.getElem?_take_of_lt hlt];exact hf
    exact gM this
   have h1:=key hf hp hm
   have h2:=key hg hq hn
   omega
open Classical in
noncomputable def findN (fs:List FileM) (s:BA):Int:=if h:∃ n,FindIs fs s n then Classical.choose h else -1
theorem FindIs.eq {fs:List FileM}{s:BA}{n:Int}(h:FindIs fs s n):n=findN fs s:=by
 have he:∃ n,FindIs fs s n:=⟨n,h⟩
 unfold findN;rw[dif_pos he]
 exact h.unique (Classical.choose_spec he)
theorem findN_is (fs:List FileM)(s:BA):FindIs fs s (findN fs s):=by
 have key:∃ n,FindIs fs s n:=by
  induction fs with
  | nil=>exact⟨-1,.inl ⟨rfl,by simp[fpaths]⟩⟩
  | cons x r ih=>
   by_cases e:x.path=s
   ·exact⟨0,.inr ⟨0,x,rfl,rfl,e,by simp[fpaths]⟩⟩
   obtain⟨n,hn⟩:=ih
   rcases hn with⟨rfl,h⟩ | ⟨k,f,rfl,hf,hp,hk⟩
   ·refine⟨-1,.inl ⟨rfl,?_⟩⟩
    simp only[fpaths,List.map_cons,List.mem_cons] at h ⊢
    rintro(h1 | h1)
    ·exact e h1.symm
    ·exact h h1
   ·refine⟨(k+1:Nat),.inr ⟨k+1,f,rfl,hf,hp,?_⟩⟩
    simp only[fpaths,List.take_succ_cons,List.map_cons,List.mem_cons] at hk ⊢
    rintro(h1 | h1)
    ·exact e h1.symm
    ·exact hk h1
 obtain⟨n,hn⟩:=key
 rw[←hn.eq];exact hn
theorem ref_FindN (A:Option Addr)(c:Nat)(fs:List FileM)(path:BA)(w:World)(hr:Rd w 8 A fs.length (fs.flatMap FileM.cells))(hn:fs.length≤9223372036854775807):
  Calls Tryz.prog 42 #[.slice A fs.length c,.string path] w fun e w'=>e=.returned (.int .i64 (findN fs path))∧w'=w:=
 (ref_Find A c fs path w hr hn).mono fun e w' ⟨n,he,_,_,hi,hw⟩=>⟨by rw[he,hi.eq],hw.symm⟩
set_option maxRecDepth 100000 in
set_option maxHeartbeats 2000000 in
theorem ref_alike (x y:FileM)(w:World):
  Calls Tryz.prog 43 #[x.val,y.val] w fun e w'=>e=.returned (.bool (alikeB x y))∧Below w.heap.size w w':=by
 have HW:Hid (Below w.heap.size w ((w.alloc (.cells #[.string x.path,.int .i64 x.kind,.int .i64 x.mode,.string x.owner,.string x.group,.string x.link,.string x.sum,.bool x.conf] 46)).alloc (.cells #[.string y.path,.int .i64 y.kind,.int .i64 y.mode,.string y.owner,.string y.group,.string y.link,.string y.sum,.bool y.conf] 46))):=(bR.alloc lr _).alloc (by simp) _
 unfold FileM.val
 cases h1:(x.kind==y.kind)
 ·have E:Hid (alikeB x y=false):=by show _=_;simp[alikeB,h1]
  go_enter Tryz.func43,Tryz.ntmps43
  go_wp2_with fail
  go_ret
  exact⟨ret_bool E.out.symm,HW.out⟩
 cases h2:(x.mode==y.mode)
 ·have E:Hid (alikeB x y=false):=by show _=_;simp[alikeB,h2]
  go_enter Tryz.func43,Tryz.ntmps43
  go_wp2_with fail
  go_ret
  exact⟨ret_bool E.out.symm,HW.out⟩
 cases h3:(x.owner.toList==y.owner.toList)
 ·have E:Hid (alikeB x y=false):=by show _=_;simp[alikeB,h3]
  go_enter Tryz.func43,Tryz.ntmps43
  go_wp2_with fail
  go_ret
  exact⟨ret_bool E.out.symm,HW.out⟩
 cases h4:(x.group.toList==y.group.toList)
 ·have E:Hid (alikeB x y=false):=by show _=_;simp[alikeB,h4]
  go_enter Tryz.func43,Tryz.ntmps43
  go_wp2_with fail
  go_ret
  exact⟨ret_bool E.out.symm,HW.out⟩
 have E:Hid (alikeB x y=(x.link.toList==y.link.toList)):=by show _=_;simp[alikeB,h1,h2,h3,h4]
 go_enter Tryz.func43,Tryz.ntmps43
 go_wp2_with fail
 go_ret
 exact⟨ret_bool E.out.symm,HW.out⟩
end
section
open Go.ChangeShapes Go.WideShapes Go.Deep Go.RowKit
section
variable {H:Type} {enc:TypeId×Value→H} {w:World} {spare:Nat→Bool}
theorem open_db {fuel:Nat}{v:Value}{d:DataW H×List MemPlace}(h:DataW.trod enc Tryz.prog w 0 spare true fuel 40 [v]=some d):
  ∃ (A:Option Addr) (c:Nat) (l:List PkL),v=.slice A l.length c∧DbOk w A l∧(∀ p∈l,p.fits)∧l.length≤9223372036854775807∧(∀ p∈l,p.files.length≤p.fc∧p.needs.length≤p.nc∧p.bars.length≤p.bc∧p.gives.length≤p.gc∧p.scripts.length≤p.sc)∧l.length≤c:=by
 obtain⟨A,c,l,h1,h2,h3,h4,h5⟩:=open_list Tryz.underlying40 Tryz.underlying27 (by kernel_rfl) (by kernel_rfl) (by decide) PkL.cells (fun p=>p.ok w∧p.fits∧p.files.length≤p.fc∧p.needs.length≤p.nc∧p.bars.length≤p.bc∧p.gives.length≤p.gc∧p.scripts.length≤p.sc) (fun _=>rfl) (fun n vs hv=>by
  refine open_pk (enc:=enc) (spare:=spare) n vs (fun j t ht=>?_)
  have hj:j<9:=by simpa using(gS ht).1
  rcases(by omega:j=0∨j=1∨j=2∨j=3∨j=4∨j=5∨j=6∨j=7∨j=8) with rfl | rfl | rfl | rfl | rfl | rfl | rfl | rfl | rfl
  ·have ht:=Option.some.inj ht;subst ht;exact hv 0 _ rfl
  ·have ht:=Option.some.inj ht;subst ht;exact hv 1 _ rfl
  ·have ht:=Option.some.inj ht;subst ht;exact hv 2 _ rfl
  ·have ht:=Option.some.inj ht;subst ht;exact hv 3 _ rfl
  ·have ht:=Option.some.inj ht;subst ht;exact hv 4 _ rfl
  ·have ht:=Option.some.inj ht;subst ht;exact hv 5 _ rfl
  ·have ht:=Option.some.inj ht;subst ht;exact hv 6 _ rfl
  ·have ht:=Option.some.inj ht;subst ht;exact hv 7 _ rfl
  ·have ht:=Option.some.inj ht;subst ht;exact hv 8 _ rfl) h
 exact⟨A,c,l,h1,⟨h2,fun p hp=>(h3 p hp).1⟩,fun p hp=>(h3 p hp).2.1,h4,fun p hp=>(h3 p hp).2.2,h5⟩
end
end
end Go.Proofs.YtdfdllbebfoggaaGreatDoor
