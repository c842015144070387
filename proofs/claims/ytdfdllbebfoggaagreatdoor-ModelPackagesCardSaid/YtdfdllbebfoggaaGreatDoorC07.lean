/- A part of the proof that ModelPackages holds. No condition. -/
import Derived.Test.YtdfdllbebfoggaaGreatDoorC04
import Derived.Test.YtdfdllbebfoggaaGreatDoorC05
import Derived.Test.YtdfdllbebfoggaaGreatDoorC06
set_option maxRecDepth 100000
set_option maxHeartbeats 20000000
set_option linter.unusedVariables false
set_option linter.unusedSimpArgs false
namespace Go.Proofs.YtdfdllbebfoggaaGreatDoor
section
open Go.RowKit
theorem runN_le (p:UInt8→Bool)(l:List UInt8):runN p l≤l.length:=by
 unfold runN;exact(List.takeWhile_sublist p).length_le
theorem runN_eq (p:UInt8→Bool)(l:List UInt8):decide (runN p l=l.length)=l.all p:=by
 rw[Bool.eq_iff_iff]
 constructor
 ·intro h
  have h:=of_decide_eq_true h
  have:=(List.takeWhile_sublist p (l:=l)).eq_of_length h
  rw[←this];simp
 ·intro h
  unfold runN;rw[takeWhile_all _ h];simp
theorem runN_beq (p:UInt8→Bool)(s:ByteArray):(((runN p (bl s):Nat):Int)==(s.size:Int))=(bl s).all p:=by
 rw[←runN_eq,bl_length,Bool.eq_iff_iff];simp;omega
theorem data_get (s:ByteArray)(j:Nat)(c:UInt8)(h:j<s.size):((s.data[j]!).toNat:Int)=c.toNat↔(bl s)[j]?=some c:=by
 rw[bl_get? s j h]
 have e:s.data[j]! = s[j]:=getElem!_pos s.data j h
 rw[e]
 constructor
 ·intro hh;congr 1;apply UInt8.toNat_inj.1;omega
 ·intro hh;injection hh with hh;rw[hh]
theorem bl_none (s:ByteArray)(j:Nat)(h:¬ j<s.size):(bl s)[j]?=none:=by
 apply List.getElem?_eq_none;rw[bl_length];omega
theorem lastIx_none (s:ByteArray)(c:UInt8)(h:lastL c (bl s)=none):Lib.lastIndexByte s c.toNat=-1:=by
 rcases Lib.lastIndexByte_spec s c.toNat with⟨e,_⟩ | ⟨i,hi,e,hc,hn⟩
 ·exact e
 ·have:=lastL_some c (bl s) i ((data_get s i c hi).1 hc) (fun j hj hh=>by
   by_cases hjs:j<s.size
   ·exact hn j hj hjs ((data_get s j c hjs).2 hh)
   ·rw[bl_none s j hjs] at hh;cases hh)
  rw[this] at h;cases h
theorem lastIx_some (s:ByteArray)(c:UInt8)(i:Nat)(h:lastL c (bl s)=some i):Lib.lastIndexByte s c.toNat=i:=by
 rcases Lib.lastIndexByte_spec s c.toNat with⟨e,hn⟩ | ⟨k,hk,e,hc,hn⟩
 ·have:=lastL_none c (bl s) (fun j hh=>by
   by_cases hjs:j<s.size
   ·exact hn j hjs ((data_get s j c hjs).2 hh)
   ·rw[bl_none s j hjs] at hh;cases hh)
  rw[this] at h;cases h
 ·have:=lastL_some c (bl s) k ((data_get s k c hk).1 hc) (fun j hj hh=>by
   by_cases hjs:j<s.size
   ·exact hn j hj hjs ((data_get s j c hjs).2 hh)
   ·rw[bl_none s j hjs] at hh;cases hh)
  rw[this] at h;injection h with h;rw[e,h]
theorem version_made1 (c:UInt8)(a:Addr)(o:ByteArray)(w:World)(ha:w.cell? a=some (.string o)):
  Calls Tryz.prog 169 #[.int .u8 c.toNat,.pointer (some a)] w fun e w'=>e=.returned (.bool (letB c||digB c||(bl o).contains c))∧w=w':=by
 cases h1:letB c
 ·cases h2:digB c
  ·cases h3:(bl o).contains c
   ·have hn:=ixB_neg o c h3
    have H3:=hid h3;clear h3
    go_enter Tryz.func169,Tryz.ntmps169
    go_wp2_with (first | (go_at_call 170;refine(version_letter _ _).mono ?_;rintro e w' ⟨rfl,rfl⟩) | (go_at_call 115;refine(version_digit _ _).mono ?_;rintro e w' ⟨rfl,rfl⟩) | (go_at_call 82;refine(IndexByte_any _ _ _).mono ?_;rintro e w' ⟨rfl,rfl⟩))
    go_ret
    exact⟨ret_bool dF,rfl⟩
   ·have hn:=ixB_pos o c h3
    have H3:=hid h3;clear h3
    go_enter Tryz.func169,Tryz.ntmps169
    go_wp2_with (first | (go_at_call 170;refine(version_letter _ _).mono ?_;rintro e w' ⟨rfl,rfl⟩) | (go_at_call 115;refine(version_digit _ _).mono ?_;rintro e w' ⟨rfl,rfl⟩) | (go_at_call 82;refine(IndexByte_any _ _ _).mono ?_;rintro e w' ⟨rfl,rfl⟩))
    go_ret
    exact⟨ret_bool rfl,rfl⟩
  ·go_enter Tryz.func169,Tryz.ntmps169
   go_wp2_with (first | (go_at_call 170;refine(version_letter _ _).mono ?_;rintro e w' ⟨rfl,rfl⟩) | (go_at_call 115;refine(version_digit _ _).mono ?_;rintro e w' ⟨rfl,rfl⟩))
   go_ret
   exact⟨rfl,rfl⟩
 ·go_enter Tryz.func169,Tryz.ntmps169
  go_wp2_with (first | (go_at_call 170;refine(version_letter _ _).mono ?_;rintro e w' ⟨rfl,rfl⟩))
  go_ret
  exact⟨rfl,rfl⟩
theorem run_made1 (s o:ByteArray)(a:Addr)(w:World)(ha:w.cell? a=some (.string o))(hs:s.size≤9223372036854775807):
  Calls Tryz.prog 118 #[.string s,.func (.func 169) #[] #[.pointer (some a)]] w fun e w'=>e=.returned (.int .i64 (runN (vchB (bl o)) (bl s)))∧w=w':=
 version_run1 _ _ _ s w hs Tryz.call169 (hid fun c=>version_made1 c a o w ha)
theorem version_made (s o:ByteArray)(w:World)(hs:s.size≤9223372036854775807):
  Calls Tryz.prog 114 #[.string s,.string o] w fun e w'=>e=.returned (.bool (vmadeB (bl o) (bl s)))∧Below w.heap.size w w':=by
 by_cases h0:s.size=0
 ·have he:s.toList=[]:=by rw[bl_toList,bl_nil s h0]
  go_enter Tryz.func114,Tryz.ntmps114
  go_wp2_with fail
  go_ret
  exact⟨ret_bool (by rw[bl_nil s h0];rfl),(Below.refl _ _).alloc lr _⟩
 ·have he:s.toList.isEmpty=false:=by rw[bl_toList,bl_isEmpty];simpa using h0
  have he':¬ s.toList=[]:=by intro h;rw[h] at he;simp at he
  go_enter Tryz.func114,Tryz.ntmps114
  go_wp2_with (go_at_call 118;refine(run_made1 _ _ _ _ (by simp;rfl) hs).mono ?_;rintro e w' ⟨rfl,rfl⟩)
  go_ret
  refine⟨ret_bool ?_,(Below.refl _ _).alloc lr _⟩
  rw[runN_beq];unfold vmadeB;rw[bl_isEmpty,decide_eq_false h0];rfl
theorem version_number (s:ByteArray)(w:World)(hs:s.size≤9223372036854775807):
  Calls Tryz.prog 113 #[.string s] w fun e w'=>e=.returned (.bool (numB (bl s)))∧w=w':=by
 by_cases h0:s.size=0
 ·have he:s.toList=[]:=by rw[bl_toList,bl_nil s h0]
  go_enter Tryz.func113,Tryz.ntmps113
  go_wp2_with fail
  go_ret
  exact⟨ret_bool (by rw[bl_nil s h0];rfl),rfl⟩
 ·have he:s.toList.isEmpty=false:=by rw[bl_toList,bl_isEmpty];simpa using h0
  have he':¬ s.toList=[]:=by intro h;rw[h] at he;simp at he
  go_enter Tryz.func113,Tryz.ntmps113
  go_wp2_with (go_at_call 118;refine(run_digit _ _ hs).mono ?_;rintro e w' ⟨rfl,rfl⟩)
  go_ret
  refine⟨ret_bool ?_,rfl⟩
  rw[runN_beq];unfold numB;rw[bl_isEmpty,decide_eq_false h0];rfl
theorem LastIndexByte_none (s:ByteArray)(c:UInt8)(w:World)(hs:s.size≤9223372036)(h:Hid (lastL c (bl s)=none)):
  Calls Tryz.prog 94 #[.string s,.int .u8 c.toNat] w fun e w'=>e=.returned (.int .i64 (-1))∧w=w':=
 (Tryz.strings_LastIndexByte s c.toNat (by omega) w).mono fun _ _ ⟨he,hw⟩=>⟨by rw[he,lastIx_none s c h.out],hw.symm⟩
theorem LastIndexByte_some (s:ByteArray)(c:UInt8)(i:Nat)(w:World)(hs:s.size≤9223372036)(h:Hid (lastL c (bl s)=some i)):
  Calls Tryz.prog 94 #[.string s,.int .u8 c.toNat] w fun e w'=>e=.returned (.int .i64 i)∧w=w':=
 (Tryz.strings_LastIndexByte s c.toNat (by omega) w).mono fun _ _ ⟨he,hw⟩=>⟨by rw[he,lastIx_some s c i h.out],hw.symm⟩
theorem Cut_any (s sep:ByteArray)(w:World)(hG:Gl w)(hs:s.size≤4294967280):
  Calls Tryz.prog 112 #[.string s,.string sep] w fun e w'=>e=.returned (.tuple #[.string (cutA s sep),.string (cutB s sep),.bool (cutK s sep)])∧Below w.heap.size w w':=by
 obtain⟨m,hm⟩:=hG.ml
 exact(Tryz.strings_Cut s sep m w (by omega) hm).mono fun _ _ ⟨he,n,hw⟩=>⟨he,by rw[hw];exact below_drewN (Below.refl _ _) n⟩
end
section
open Go.RowKit
theorem r12_Digits (s:ByteArray)(w:World)(hs:s.size≤9223372036854775807):
  Calls Tryz.prog 144 #[.string s] w fun e w'=>e=.returned (.int .i64 (runN digB (bl s)))∧w=w':=by
 go_enter Tryz.func144,Tryz.ntmps144
 go_wp2
 go_loop [3] (fun i=>∃ k:Nat,k≤s.size∧i=.int .i64 k∧Hid (((bl s).take k).all digB=true)) (fun i=>s.size-(intOf i).toNat)
 case atStart=>exact⟨0,Nat.zero_le _,rfl,by simp[Hid]⟩
 case round=>
  obtain⟨k,hk,rfl,hw⟩:=hrel
  by_cases hlt:k<s.size
  ·cases hl:digB s[k]
   ·have HL:=hid hl;clear hl
    go_wp2_with fail
    refine(r12_digit s[k] _).mono ?_;rintro e w' ⟨rfl,rfl⟩
    rw[HL.out]
    go_wp2_with fail
    go_ret
    exact⟨ret_int (by rw[runN_stop digB s k hlt hw.out HL.out]),rfl⟩
   ·have HL:=hid hl;clear hl
    go_wp2_with fail
    refine(r12_digit s[k] _).mono ?_;rintro e w' ⟨rfl,rfl⟩
    rw[HL.out]
    go_wp2_with fail
    go_round
    case rel=>exact⟨k+1,by omega,by go_num,by show _=_;rw[bl_take_all s k hlt,hw.out,HL.out];rfl⟩
    case measure=>simp[intOf];omega
  ·go_wp2_with fail
   go_ret
   exact⟨ret_int (by rw[runN_all digB s k hlt hw.out];congr;omega),rfl⟩
theorem r12_letters (s:ByteArray)(w:World)(hs:s.size≤9223372036854775807):
  Calls Tryz.prog 204 #[.string s] w fun e w'=>e=.returned (.int .i64 (runN letB (bl s)))∧w=w':=by
 go_enter Tryz.func204,Tryz.ntmps204
 go_wp2
 go_loop [3] (fun i=>∃ k:Nat,k≤s.size∧i=.int .i64 k∧Hid (((bl s).take k).all letB=true)) (fun i=>s.size-(intOf i).toNat)
 case atStart=>exact⟨0,Nat.zero_le _,rfl,by simp[Hid]⟩
 case round=>
  obtain⟨k,hk,rfl,hw⟩:=hrel
  by_cases hlt:k<s.size
  ·cases hl:letB s[k]
   ·have HL:=hid hl;clear hl
    go_wp2_with fail
    refine(r12_letter s[k] _).mono ?_;rintro e w' ⟨rfl,rfl⟩
    rw[HL.out]
    go_wp2_with fail
    go_ret
    exact⟨ret_int (by rw[runN_stop letB s k hlt hw.out HL.out]),rfl⟩
   ·have HL:=hid hl;clear hl
    go_wp2_with fail
    refine(r12_letter s[k] _).mono ?_;rintro e w' ⟨rfl,rfl⟩
    rw[HL.out]
    go_wp2_with fail
    go_round
    case rel=>exact⟨k+1,by omega,by go_num,by show _=_;rw[bl_take_all s k hlt,hw.out,HL.out];rfl⟩
    case measure=>simp[intOf];omega
  ·go_wp2_with fail
   go_ret
   exact⟨ret_int (by rw[runN_all letB s k hlt hw.out];congr;omega),rfl⟩
def lastI (c:UInt8)(l:List UInt8):Int:=match lastL c l with | some i=>i | none=>-1
theorem r12_place (s:ByteArray)(c:UInt8)(w:World)(hs:s.size≤9223372036854775807):
  Calls Tryz.prog 145 #[.string s,.int .u8 c.toNat] w fun e w'=>e=.returned (.int .i64 (lastI c (bl s)))∧w=w':=by
 obtain⟨r,hr⟩:∃ r,lastI c (bl s)=r:=⟨_,rfl⟩
 rw[hr]
 have HR:=hid hr;clear hr
 go_enter Tryz.func145,Tryz.ntmps145
 go_wp2
 go_loop [5] (fun i=>∃ z:Int,-1≤z∧z<s.size∧i=.int .i64 z∧Hid (∀ j:Nat,z<j→(bl s)[j]?≠some c)) (fun i=>(intOf i+1).toNat)
 case atStart=>exact⟨(s.size:Int)-1,by omega,by omega,rfl,fun j hj hh=>by rw[bl_none s j (by omega)] at hh;cases hh⟩
 case round=>
  obtain⟨z,hz1,hz2,rfl,HZ⟩:=hrel
  by_cases hz:0≤z
  ·obtain⟨k,rfl⟩:=Int.eq_ofNat_of_zero_le hz
   have hlt:k<s.size:=by omega
   cases hc:(((s[k].toNat:Nat):Int)==((c.toNat:Nat):Int))
   ·have HC:=hid hc
    go_wp2
    have FZ:Hid (∀ j:Nat,((k:Int)-1)<j→(bl s)[j]?≠some c):=by
     intro j hj hh
     by_cases hjk:j=k
     ·subst hjk
      have:=HC.out
      rw[toNat_beq,beq_eq_false_iff_ne] at this
      rw[bl_get? s j hlt] at hh
      exact this (Option.some.inj hh)
     ·exact HZ.out j (by omega) hh
    go_round
    case rel=>exact⟨(k:Int)-1,by omega,by omega,rfl,FZ⟩
    case measure=>simp[intOf]
   ·have HC:=hid hc
    go_wp2
    go_ret
    refine⟨ret_int ?_,rfl⟩
    have:=HC.out
    rw[toNat_beq,beq_iff_eq] at this
    rw[←HR.out]
    unfold lastI
    rw[lastL_some c (bl s) k (by rw[bl_get? s k hlt,this]) (fun j hj=>HZ.out j (by omega))]
  ·go_wp2
   go_ret
   refine⟨ret_int ?_,rfl⟩
   rw[←HR.out]
   unfold lastI
   rw[lastL_none c (bl s) (fun j=>HZ.out j (by omega))]
end
end Go.Proofs.YtdfdllbebfoggaaGreatDoor
