/- A part of the proof that ModelChecks holds. No condition. -/
import Derived.Test.YtdfdllbebfoggaaGreatDoorD05
import Derived.Test.YtdfdllbebfoggaaGreatDoorD06
import Derived.Test.YtdfdllbebfoggaaGreatDoorD07
set_option maxRecDepth 100000
set_option maxHeartbeats 20000000
set_option linter.unusedVariables false
set_option linter.unusedSimpArgs false
namespace Go.Proofs.YtdfdllbebfoggaaGreatDoor
section
open Go.RowKit
theorem runN_le (p:UInt8→Bool)(l:LU):runN p l≤l.length:=by
 unfold runN;exact(List.takeWhile_sublist p).length_le
theorem runN_eq (p:UInt8→Bool)(l:LU):decide (runN p l=l.length)=l.all p:=by
 rw[bI]
 constructor
 ·intro h
  have h:=dO h
  have:=(List.takeWhile_sublist p (l:=l)).eq_of_length h
  rw[←this];simp
 ·intro h
  unfold runN;rw[takeWhile_all _ h];simp
theorem runN_beq (p:UInt8→Bool)(s:BA):(((runN p (bl s):Nat):Int)==(s.size:Int))=(bl s).all p:=by
 rw[←runN_eq,bl_length,bI];simp;omega
theorem data_get (s:BA)(j:Nat)(c:UInt8)(h:j<s.size):((s.data[j]!).toNat:Int)=c.toNat↔(bl s)[j]?=some c:=by
 rw[bl_get? s j h]
 have e:s.data[j]! = s[j]:=getElem!_pos s.data j h
 rw[e]
 constructor
 ·intro hh;congr 1;apply UInt8.toNat_inj.1;omega
 ·intro hh;injection hh with hh;rw[hh]
theorem bl_none (s:BA)(j:Nat)(h:¬ j<s.size):(bl s)[j]?=none:=by
 apply List.getElem?_eq_none;rw[bl_length];omega
theorem lastIx_none (s:BA)(c:UInt8)(h:lastL c (bl s)=none):Lib.lastIndexByte s c.toNat=-1:=by
 rcases Lib.lastIndexByte_spec s c.toNat with⟨e,_⟩ | ⟨i,hi,e,hc,hn⟩
 ·exact e
 ·have:=lastL_some c (bl s) i ((data_get s i c hi).1 hc) (fun j hj hh=>by
   by_cases hjs:j<s.size
   ·exact hn j hj hjs ((data_get s j c hjs).2 hh)
   ·rw[bl_none s j hjs] at hh;cases hh)
  rw[this] at h;cases h
theorem lastIx_some (s:BA)(c:UInt8)(i:Nat)(h:lastL c (bl s)=some i):Lib.lastIndexByte s c.toNat=i:=by
 rcases Lib.lastIndexByte_spec s c.toNat with⟨e,hn⟩ | ⟨k,hk,e,hc,hn⟩
 ·have:=lastL_none c (bl s) (fun j hh=>by
   by_cases hjs:j<s.size
   ·exact hn j hjs ((data_get s j c hjs).2 hh)
   ·rw[bl_none s j hjs] at hh;cases hh)
  rw[this] at h;cases h
 ·have:=lastL_some c (bl s) k ((data_get s k c hk).1 hc) (fun j hj hh=>by
   by_cases hjs:j<s.size
   ·exact hn j hj hjs ((data_get s j c hjs).2 hh)
   ·rw[bl_none s j hjs] at hh;cases hh)
  rw[this] at h;injection h with h;rw[e,h]
theorem version_made1 (c:UInt8)(a:Addr)(o:BA)(w:World)(ha:w.cell? a=some (.string o)):
  Calls Tryz.prog 169 #[.int .u8 c.toNat,.pointer (some a)] w fun e w'=>e=.returned (.bool (letB c||digB c||(bl o).contains c))∧w=w':=by
 cases h1:letB c
 ·cases h2:digB c
  ·cases h3:(bl o).contains c
   ·have hn:=ixB_neg o c h3
    have H3:=hid h3;clear h3
    go_enter Tryz.func169,Tryz.ntmps169
    go_wp2_with (first | (go_at_call 170;refine(version_letter _ _).mono ?_;rintro e w' ⟨rfl,rfl⟩) | (go_at_call 115;refine(version_digit _ _).mono ?_;rintro e w' ⟨rfl,rfl⟩) | (go_at_call 82;refine(IndexByte_any _ _ _).mono ?_;rintro e w' ⟨rfl,rfl⟩))
    go_ret
    exact⟨ret_bool (dF (by omega)),rfl⟩
   ·have hn:=ixB_pos o c h3
    have H3:=hid h3;clear h3
    go_enter Tryz.func169,Tryz.ntmps169
    go_wp2_with (first | (go_at_call 170;refine(version_letter _ _).mono ?_;rintro e w' ⟨rfl,rfl⟩) | (go_at_call 115;refine(version_digit _ _).mono ?_;rintro e w' ⟨rfl,rfl⟩) | (go_at_call 82;refine(IndexByte_any _ _ _).mono ?_;rintro e w' ⟨rfl,rfl⟩))
    go_ret
    exact⟨ret_bool rfl,rfl⟩
  ·go_enter Tryz.func169,Tryz.ntmps169
   go_wp2_with (first | (go_at_call 170;refine(version_letter _ _).mono ?_;rintro e w' ⟨rfl,rfl⟩) | (go_at_call 115;refine(version_digit _ _).mono ?_;rintro e w' ⟨rfl,rfl⟩))
   go_ret
   exact⟨rfl,rfl⟩
 ·go_enter Tryz.func169,Tryz.ntmps169
  go_wp2_with (first | (go_at_call 170;refine(version_letter _ _).mono ?_;rintro e w' ⟨rfl,rfl⟩))
  go_ret
  exact⟨rfl,rfl⟩
theorem run_made1 (s o:BA)(a:Addr)(w:World)(ha:w.cell? a=some (.string o))(hs:s.size≤9223372036854775807):
  Calls Tryz.prog 118 #[.string s,.func (.func 169) #[] #[.pointer (some a)]] w fun e w'=>e=.returned (.int .i64 (runN (vchB (bl o)) (bl s)))∧w=w':=
 version_run1 _ _ _ s w hs Tryz.call169 (hid fun c=>version_made1 c a o w ha)
theorem version_made (s o:BA)(w:World)(hs:s.size≤9223372036854775807):
  Calls Tryz.prog 114 #[.string s,.string o] w fun e w'=>e=.returned (.bool (vmadeB (bl o) (bl s)))∧Below w.heap.size w w':=by
 by_cases h0:s.size=0
 ·have he:s.toList=[]:=by rw[bl_toList,bl_nil s h0]
  go_enter Tryz.func114,Tryz.ntmps114
  go_wp2_with fail
  go_ret
  exact⟨ret_bool (by rw[bl_nil s h0];rfl),bR.alloc lr _⟩
 ·have he:s.toList.isEmpty=false:=by rw[bl_toList,bl_isEmpty];simpa using h0
  have he':¬ s.toList=[]:=by intro h;rw[h] at he;simp at he
  go_enter Tryz.func114,Tryz.ntmps114
  go_wp2_with (go_at_call 118;refine(run_made1 _ _ _ _ (by simp;rfl) hs).mono ?_;rintro e w' ⟨rfl,rfl⟩)
  go_ret
  refine⟨ret_bool ?_,bR.alloc lr _⟩
  rw[runN_beq];unfold vmadeB;rw[bl_isEmpty,dF h0];rfl
theorem version_number (s:BA)(w:World)(hs:s.size≤9223372036854775807):
  Calls Tryz.prog 113 #[.string s] w fun e w'=>e=.returned (.bool (numB (bl s)))∧w=w':=by
 by_cases h0:s.size=0
 ·have he:s.toList=[]:=by rw[bl_toList,bl_nil s h0]
  go_enter Tryz.func113,Tryz.ntmps113
  go_wp2_with fail
  go_ret
  exact⟨ret_bool (by rw[bl_nil s h0];rfl),rfl⟩
 ·have he:s.toList.isEmpty=false:=by rw[bl_toList,bl_isEmpty];simpa using h0
  have he':¬ s.toList=[]:=by intro h;rw[h] at he;simp at he
  go_enter Tryz.func113,Tryz.ntmps113
  go_wp2_with (go_at_call 118;refine(run_digit _ _ hs).mono ?_;rintro e w' ⟨rfl,rfl⟩)
  go_ret
  refine⟨ret_bool ?_,rfl⟩
  rw[runN_beq];unfold numB;rw[bl_isEmpty,dF h0];rfl
theorem LastIndexByte_none (s:BA)(c:UInt8)(w:World)(hs:s.size≤9223372036)(h:Hid (lastL c (bl s)=none)):
  Calls Tryz.prog 94 #[.string s,.int .u8 c.toNat] w fun e w'=>e=.returned (.int .i64 (-1))∧w=w':=
 (Tryz.strings_LastIndexByte s c.toNat (by omega) w).mono fun _ _ ⟨he,hw⟩=>⟨by rw[he,lastIx_none s c h.out],hw.symm⟩
theorem LastIndexByte_some (s:BA)(c:UInt8)(i:Nat)(w:World)(hs:s.size≤9223372036)(h:Hid (lastL c (bl s)=some i)):
  Calls Tryz.prog 94 #[.string s,.int .u8 c.toNat] w fun e w'=>e=.returned (.int .i64 i)∧w=w':=
 (Tryz.strings_LastIndexByte s c.toNat (by omega) w).mono fun _ _ ⟨he,hw⟩=>⟨by rw[he,lastIx_some s c i h.out],hw.symm⟩
theorem Cut_any (s sep:BA)(w:World)(hG:Gl w)(hs:s.size≤4294967280):
  Calls Tryz.prog 112 #[.string s,.string sep] w fun e w'=>e=.returned (.tuple #[.string (cutA s sep),.string (cutB s sep),.bool (cutK s sep)])∧Below w.heap.size w w':=by
 obtain⟨m,hm⟩:=hG.ml
 exact(Tryz.strings_Cut s sep m w (by omega) hm).mono fun _ _ ⟨he,n,hw⟩=>⟨he,by rw[hw];exact below_drewN bR n⟩
theorem ixOf_hit (x:LU):∀ (l:List (LU))(k:Nat),(∀ j,j<k→l[j]?≠some x)→l[k]?=some x→ixOf l x=some k
 | [],k,_,h=>by simp at h
 | a::r,0,_,h=>by simp at h;simp[ixOf,h]
 | a::r,k+1,hn,h=>by
  have ha:a≠x:=fun e=>hn 0 (by omega) (by simp[e])
  have:=ixOf_hit x r k (fun j hj=>by simpa using hn (j+1) (by omega)) (by simpa using h)
  simp[ixOf,ha,this]
theorem ixOf_miss (x:LU):∀ (l:List (LU)),(∀ j:Nat,l[j]?≠some x)→ixOf l x=none
 | [],_=>rfl
 | a::r,hn=>by
  have ha:a≠x:=fun e=>hn 0 (by simp[e])
  have:=ixOf_miss x r (fun j=>by simpa using hn (j+1))
  simp[ixOf,ha,this]
theorem aWords_at (j:Nat)(h:j<9):aWords[j]?=some (bl (vWord j)):=by
 rcases(by omega:j=0∨j=1∨j=2∨j=3∨j=4∨j=5∨j=6∨j=7∨j=8) with rfl | rfl | rfl | rfl | rfl | rfl | rfl | rfl | rfl<;>rfl
theorem wordIx_hit {s:BA}{k:Nat}(hk:k<9)(hn:∀ j,j<k→¬ vWord j=s)(h:vWord k=s):wordIx (bl s)=some k:=
 ixOf_hit _ _ k (fun j hj=>by rw[aWords_at j (by omega)];intro e;injection e with e;exact hn j hj (bl_inj e)) (by rw[aWords_at k hk,h])
theorem wordIx_miss {s:BA}(hn:∀ j,j<9→¬ vWord j=s):wordIx (bl s)=none:=
 ixOf_miss _ _ (fun j=>by
  by_cases hj:j<9
  ·rw[aWords_at j hj];intro e;injection e with e;exact hn j hj (bl_inj e)
  ·rw[List.getElem?_eq_none (by simp[aWords];omega)];simp)
def wIx (s:BA):Int:=match wordIx (bl s) with | some i=>i | none=>-1
theorem idx9 (k:Nat)(hk:k<9)(x:Nat→BA)(w:World):(Instr.index 204 (.agg #[.string (x 0),.string (x 1),.string (x 2),.string (x 3),.string (x 4),.string (x 5),.string (x 6),.string (x 7),.string (x 8)]) (.int .i64 k)).run Tryz.prog w=.ok (.string (x k)) w:=by
 rcases(by omega:k=0∨k=1∨k=2∨k=3∨k=4∨k=5∨k=6∨k=7∨k=8) with rfl | rfl | rfl | rfl | rfl | rfl | rfl | rfl | rfl<;>kernel_rfl
theorem version_wordAt (s:BA)(w:World)(hG:Gl w):
  Calls Tryz.prog 122 #[.string s] w fun e w'=>e=.returned (.int .i64 (wIx s))∧w=w':=by
 have g0:=hG.vwd 0 (by omega)
 have g1:=hG.vwd 1 (by omega)
 have g2:=hG.vwd 2 (by omega)
 have g3:=hG.vwd 3 (by omega)
 have g4:=hG.vwd 4 (by omega)
 have g5:=hG.vwd 5 (by omega)
 have g6:=hG.vwd 6 (by omega)
 have g7:=hG.vwd 7 (by omega)
 have g8:=hG.vwd 8 (by omega)
 clear hG
 go_enter Tryz.func122,Tryz.ntmps122
 go_wp2_with fail
 clear g0 g1 g2 g3 g4 g5 g6 g7 g8
 go_loop [6] (fun i=>∃ k:Nat,k≤9∧i=.int .i64 k∧Hid (∀ j,j<k→¬ vWord j=s)) (fun i=>9-(intOf i).toNat)
 case atStart=>exact⟨0,by omega,rfl,hid (fun j hj=>by omega)⟩
 case round=>
  obtain⟨k,hk,rfl,HN⟩:=hrel
  by_cases hlt:k<9
  ·have hix:=fun W=>idx9 k hlt vWord W
   cases hE:((vWord k).toList==s.toList)
   ·have HNE:Hid (¬ vWord k=s):=by show ¬ _;rw[beq_bl] at hE;exact of_decide_eq_false hE
    go_wp2_with fail
    go_round
    case rel=>exact⟨k+1,by omega,by go_num,hid (fun j hj=>by
     by_cases e:j=k
     ·subst e;exact HNE.out
     ·exact HN.out j (by omega))⟩
    case measure=>simp[intOf];omega
   ·have HE:Hid (vWord k=s):=by show _=_;rw[beq_bl] at hE;exact dO hE
    go_wp2_with fail
    go_ret
    exact⟨ret_int (by unfold wIx;rw[wordIx_hit hlt HN.out HE.out]),rfl⟩
  ·go_wp2_with fail
   go_ret
   exact⟨ret_int (by unfold wIx;rw[wordIx_miss (fun j hj=>HN.out j (by omega))]),rfl⟩
theorem r12_Digits (s:BA)(w:World)(hs:s.size≤9223372036854775807):
  Calls Tryz.prog 144 #[.string s] w fun e w'=>e=.returned (.int .i64 (runN digB (bl s)))∧w=w':=by
 go_enter Tryz.func144,Tryz.ntmps144
 go_wp2
 go_loop [3] (fun i=>∃ k:Nat,k≤s.size∧i=.int .i64 k∧Hid (((bl s).take k).all digB=true)) (fun i=>s.size-(intOf i).toNat)
 case atStart=>exact⟨0,z0,rfl,by simp[Hid]⟩
 case round=>
  obtain⟨k,hk,rfl,hw⟩:=hrel
  by_cases hlt:k<s.size
  ·cases hl:digB s[k]
   ·have HL:=hid hl;clear hl
    go_wp2_with fail
    refine(r12_digit s[k] _).mono ?_;rintro e w' ⟨rfl,rfl⟩
    rw[HL.out]
    go_wp2_with fail
    go_ret
    exact⟨ret_int (by rw[runN_stop digB s k hlt hw.out HL.out]),rfl⟩
   ·have HL:=hid hl;clear hl
    go_wp2_with fail
    refine(r12_digit s[k] _).mono ?_;rintro e w' ⟨rfl,rfl⟩
    rw[HL.out]
    go_wp2_with fail
    go_round
    case rel=>exact⟨k+1,by omega,by go_num,by show _=_;rw[bl_take_all s k hlt,hw.out,HL.out];rfl⟩
    case measure=>simp[intOf];omega
  ·go_wp2_with fail
   go_ret
   exact⟨ret_int (by rw[runN_all digB s k hlt hw.out];congr;omega),rfl⟩
theorem r12_letters (s:BA)(w:World)(hs:s.size≤9223372036854775807):
  Calls Tryz.prog 204 #[.string s] w fun e w'=>e=.returned (.int .i64 (runN letB (bl s)))∧w=w':=by
 go_enter Tryz.func204,Tryz.ntmps204
 go_wp2
 go_loop [3] (fun i=>∃ k:Nat,k≤s.size∧i=.int .i64 k∧Hid (((bl s).take k).all letB=true)) (fun i=>s.size-(intOf i).toNat)
 case atStart=>exact⟨0,z0,rfl,by simp[Hid]⟩
 case round=>
  obtain⟨k,hk,rfl,hw⟩:=hrel
  by_cases hlt:k<s.size
  ·cases hl:letB s[k]
   ·have HL:=hid hl;clear hl
    go_wp2_with fail
    refine(r12_letter s[k] _).mono ?_;rintro e w' ⟨rfl,rfl⟩
    rw[HL.out]
    go_wp2_with fail
    go_ret
    exact⟨ret_int (by rw[runN_stop letB s k hlt hw.out HL.out]),rfl⟩
   ·have HL:=hid hl;clear hl
    go_wp2_with fail
    refine(r12_letter s[k] _).mono ?_;rintro e w' ⟨rfl,rfl⟩
    rw[HL.out]
    go_wp2_with fail
    go_round
    case rel=>exact⟨k+1,by omega,by go_num,by show _=_;rw[bl_take_all s k hlt,hw.out,HL.out];rfl⟩
    case measure=>simp[intOf];omega
  ·go_wp2_with fail
   go_ret
   exact⟨ret_int (by rw[runN_all letB s k hlt hw.out];congr;omega),rfl⟩
def lastI (c:UInt8)(l:LU):Int:=match lastL c l with | some i=>i | none=>-1
theorem r12_place (s:BA)(c:UInt8)(w:World)(hs:s.size≤9223372036854775807):
  Calls Tryz.prog 145 #[.string s,.int .u8 c.toNat] w fun e w'=>e=.returned (.int .i64 (lastI c (bl s)))∧w=w':=by
 obtain⟨r,hr⟩:∃ r,lastI c (bl s)=r:=⟨_,rfl⟩
 rw[hr]
 have HR:=hid hr;clear hr
 go_enter Tryz.func145,Tryz.ntmps145
 go_wp2
 go_loop [5] (fun i=>∃ z:Int,-1≤z∧z<s.size∧i=.int .i64 z∧Hid (∀ j:Nat,z<j→(bl s)[j]?≠some c)) (fun i=>(intOf i+1).toNat)
 case atStart=>exact⟨(s.size:Int)-1,by omega,by omega,rfl,fun j hj hh=>by rw[bl_none s j (by omega)] at hh;cases hh⟩
 case round=>
  obtain⟨z,hz1,hz2,rfl,HZ⟩:=hrel
  by_cases hz:0≤z
  ·obtain⟨k,rfl⟩:=Int.eq_ofNat_of_zero_le hz
   have hlt:k<s.size:=by omega
   cases hc:(((s[k].toNat:Nat):Int)==((c.toNat:Nat):Int))
   ·have HC:=hid hc
    go_wp2
    have FZ:Hid (∀ j:Nat,((k:Int)-1)<j→(bl s)[j]?≠some c):=by
     intro j hj hh
     by_cases hjk:j=k
     ·subst hjk
      have:=HC.out
      rw[toNat_beq,bF] at this
      rw[bl_get? s j hlt] at hh
      exact this (Option.some.inj hh)
     ·exact HZ.out j (by omega) hh
    go_round
    case rel=>exact⟨(k:Int)-1,by omega,by omega,rfl,FZ⟩
    case measure=>simp[intOf]
   ·have HC:=hid hc
    go_wp2
    go_ret
    refine⟨ret_int ?_,rfl⟩
    have:=HC.out
    rw[toNat_beq,beq_iff_eq] at this
    rw[←HR.out]
    unfold lastI
    rw[lastL_some c (bl s) k (by rw[bl_get? s k hlt,this]) (fun j hj=>HZ.out j (by omega))]
  ·go_wp2
   go_ret
   refine⟨ret_int ?_,rfl⟩
   rw[←HR.out]
   unfold lastI
   rw[lastL_none c (bl s) (fun j=>HZ.out j (by omega))]
def head0 (c:UInt8):LU→Bool
 | a::_=>a==c
 | []=>false
theorem head0_yes {c:UInt8}{l:LU}(h:head0 c l=true):l=c::l.drop 1:=by
 cases l with
 | nil=>simp[head0] at h
 | cons a r=>simp[head0] at h;simp[h]
theorem head0_no {c:UInt8}{l:LU}(h:head0 c l=false)(t:LU):l≠c::t:=by
 intro e;subst e;simp[head0] at h
theorem head0_pos {c:UInt8}{s:BA}(h:head0 c (bl s)=true):0<s.size:=by
 have:=congrArg List.length (head0_yes h)
 rw[bl_length] at this;simp at this;omega
theorem r12_has (s:BA)(c:UInt8)(w:World)(hs:s.size≤9223372036854775807):
  Calls Tryz.prog 203 #[.string s,.int .u8 c.toNat] w fun e w'=>e=.returned (.bool (head0 c (bl s)))∧w=w':=by
 by_cases h0:0<s.size
 ·have hc:=bl_cons s h0
  have E:Hid (head0 c (bl s)=((s[0].toNat:Int)==(c.toNat:Int))):=by
   show _=_
   rw[hc]
   show(s[0]==c)=_
   rw[bI]
   simp only[beq_iff_eq]
   constructor
   ·intro h;rw[h]
   ·intro h;exact UInt8.toNat_inj.1 (by omega)
  clear hc
  go_enter Tryz.func203,Tryz.ntmps203
  go_wp2_with fail
  go_ret
  exact⟨by rw[E.out];rfl,rfl⟩
 ·have E:Hid (head0 c (bl s)=false):=by show _=_;rw[bl_nil s (by omega)];rfl
  go_enter Tryz.func203,Tryz.ntmps203
  go_wp2_with fail
  go_ret
  exact⟨by rw[E.out];rfl,rfl⟩
theorem r12_has_is (s:BA)(c:UInt8)(b:Bool)(w:World)(hs:s.size≤9223372036854775807)(h:Hid (head0 c (bl s)=b)):
  Calls Tryz.prog 203 #[.string s,.int .u8 c.toNat] w fun e w'=>e=.returned (.bool b)∧w=w':=by rw[←h.out];exact r12_has s c w hs
def wordCells:List Value:=(List.range 9).map (fun j=>.string (vWord j))
theorem r12_words (w:World):
  Calls Tryz.prog 205 #[] w fun e w'=>∃ t,e=.returned (.slice (some ⟨w.heap.size,0,none⟩) 9 9)∧w'=w.alloc (.cells wordCells.toArray t):=by
 go_enter Tryz.func205,Tryz.ntmps205
 go_wp2_with fail
 go_ret
 exact⟨_,rfl,rfl⟩
theorem r12_letters_is (s:BA)(n:Nat)(w:World)(hs:s.size≤9223372036854775807)(h:Hid (runN letB (bl s)=n)):
  Calls Tryz.prog 204 #[.string s] w fun e w'=>e=.returned (.int .i64 n)∧w=w':=by rw[←h.out];exact r12_letters s w hs
theorem run_small_let (l:LU)(h:wordIx (l.take (runN letB l))≠none):runN smlB l=runN letB l:=by
 obtain⟨k,hk⟩:=Option.ne_none_iff_exists'.1 h
 have hall:(l.take (runN letB l)).all smlB=true:=by
  have key:∀ x:LU,wordIx x=some k→x.all smlB=true:=by
   intro x hx
   have hm:x∈aWords:=by
    have g:∀ (L:List (LU))(j:Nat),ixOf L x=some j→x∈L:=by
     intro L
     induction L with
     | nil=>intro j hj;simp[ixOf] at hj
     | cons a r ih=>
      intro j hj
      unfold ixOf at hj
      split at hj
      ·rename_i e;simp[e]
      ·obtain⟨i,hi,_⟩:=Option.map_eq_some_iff.1 hj
       exact List.mem_cons_of_mem _ (ih i hi)
    exact g aWords k hx
   have ha:∀ y∈aWords,y.all smlB=true:=by decide
   exact ha x hm
  exact key _ hk
 revert hall
 clear h hk
 induction l with
 | nil=>intro _;rfl
 | cons a r ih=>
  intro hall
  by_cases hl:letB a=true
  ·have e1:runN letB (a::r)=runN letB r+1:=by simp[runN,hl]
   rw[e1,List.take_succ_cons,List.all_cons,Bool.and_eq_true] at hall
   have e2:runN smlB (a::r)=runN smlB r+1:=by simp[runN,hall.1]
   rw[e1,e2,ih hall.2]
  ·have hs:smlB a=false:=by
    cases h:smlB a
    ·rfl
    ·exact absurd (by simp[letB,h]) hl
   simp[runN,hl,hs]
theorem Blk.grown {wr w':World}{b c:Nat}{vs:List Value}(h:Blk wr c vs)(hg:wr.grownBy w' (some b))(hne:c≠b):Blk w' c vs:=by
 have hk:w'.heap[c]?=wr.heap[c]?:=hg.block c h.sz (by intro e;injection e with e;exact hne e)
 refine⟨Nat.lt_of_lt_of_le h.sz hg.size,fun j u hu=>?_,fun j hj=>?_⟩
 ·exact(World.cell?_of_block (a:=⟨c,j,none⟩) hk).trans (h.cell j u hu)
 ·exact(World.frozen?_of_block (a:=⟨c,j,none⟩) hk).trans (h.free j hj)
def fltV (f:BA)(a c:Int):Value:=.agg #[.string f,.int .i64 a,.int .i64 c]
theorem adep_faultOf (x y p:Int)(w:World)(hG:GlE w):
  Calls Tryz.prog 133 #[.iface 222 (.agg #[.int .i64 x,.int .i64 y]),.int .i64 p] w fun e w'=>(∃ a:Int,e=.returned (fltV ⟨#[]⟩ a y))∧Below w.heap.size w w':=by
 have HG:=hid hG;clear hG
 go_enter Tryz.func133,Tryz.ntmps133
 go_wp2_with fail
 let W1:=w.alloc (.cells #[.string ⟨#[]⟩,.int .i64 0,.int .i64 0] 114)
 let W2:=W1.alloc (.cells #[.string ⟨#[]⟩,.int .i64 p,.int .i64 3] 114)
 let W3:=W2.alloc (.cells #[.int .i64 0,.int .i64 0] 222)
 have A3:Blk W3 w.heap.size [.string ⟨#[]⟩,.int .i64 0,.int .i64 0]:=((Blk.new w _ _).alloc _).alloc _
 have F3:Blk W3 (w.heap.size+1) [.string ⟨#[]⟩,.int .i64 p,.int .i64 3]:=by have:=(Blk.new W1 [.string ⟨#[]⟩,.int .i64 p,.int .i64 3] 114).alloc (.cells #[.int .i64 0,.int .i64 0] 222);simpa [W1] using this
 have T3:Blk W3 (w.heap.size+1+1) [.int .i64 0,.int .i64 0]:=by have:=Blk.new W2 [.int .i64 0,.int .i64 0] 222;simpa [W2,W1] using this
 have B3:Below w.heap.size w W3:=((bR.alloc lr _).alloc (by simp) _).alloc (by simp;omega) _
 refine(as_wrong (w.heap.size+1+1) x y W3 (HG.out.below B3).2 T3).mono ?_;rintro e w1 ⟨rfl,t1,hg1⟩
 have KA:Hid (Blk w1 w.heap.size [.string ⟨#[]⟩,.int .i64 0,.int .i64 0]):=A3.grown hg1 (by omega)
 have KF:Hid (Blk w1 (w.heap.size+1) [.string ⟨#[]⟩,.int .i64 p,.int .i64 3]):=F3.grown hg1 (by omega)
 have KT:Hid (Blk w1 (w.heap.size+1+1) [.int .i64 x,.int .i64 y]):=t1
 have BB:Hid (Below w.heap.size w w1):=B3.grown hg1 B3.size (fun j hj=>by injection hj with hj;omega)
 clear t1 hg1 A3 F3 T3 B3
 clear W3 W2 W1
 have f1:=KF.out.cell 1 _ rfl
 have ff1:=KF.out.free 1 (by simp)
 have t0:=KT.out.cell 0 _ rfl
 go_wp2_with fail
 have hw1:=KA.out.sz
 have hw2:=KT.out.sz
 obtain⟨q,hq⟩:∃ q,wrap64 (p+x)=q:=⟨_,rfl⟩
 let V1:=(w1.setCell ⟨w.heap.size+1,1,none⟩ (.int .i64 (wrap64 (p+x)))).alloc (.cells #[.int .i64 0] 30)
 have A1:Blk V1 w.heap.size [.string ⟨#[]⟩,.int .i64 0,.int .i64 0]:=(KA.out.far (by omega) _).alloc _
 have F1:Blk V1 (w.heap.size+1) [.string ⟨#[]⟩,.int .i64 (wrap64 (p+x)),.int .i64 3]:=(KF.out.set 1 (by simp) _).alloc _
 have T1:Blk V1 w1.heap.size [.int .i64 0]:=by have:=Blk.new (w1.setCell ⟨w.heap.size+1,1,none⟩ (.int .i64 (wrap64 (p+x)))) [.int .i64 0] 30;simpa using this
 have B1:Below w.heap.size w V1:=(below_set BB.out (by omega) _).alloc (by simp;omega) _
 refine(as_errno w1.heap.size x y V1 (HG.out.below B1).2 T1).mono ?_;rintro e w2 ⟨rfl,t2,hg2⟩
 have LA:Hid (Blk w2 w.heap.size [.string ⟨#[]⟩,.int .i64 0,.int .i64 0]):=A1.grown hg2 (by omega)
 have LF:Hid (Blk w2 (w.heap.size+1) [.string ⟨#[]⟩,.int .i64 q,.int .i64 3]):=by rw[←hq];exact F1.grown hg2 (by omega)
 have LT:Hid (Blk w2 w1.heap.size [.int .i64 y]):=t2
 have CB:Hid (Below w.heap.size w w2):=B1.grown hg2 B1.size (fun j hj=>by injection hj with hj;omega)
 clear t2 hg2 A1 F1 T1 B1
 clear V1
 clear f1 ff1 t0
 have f0:=LF.out.cell 0 _ rfl
 have f1:=LF.out.cell 1 _ rfl
 have f2:=LF.out.cell 2 _ rfl
 have ff2:=LF.out.free 2 (by simp)
 have t0:=LT.out.cell 0 _ rfl
 have a0:=LA.out.cell 0 _ rfl
 have a1:=LA.out.cell 1 _ rfl
 have a2:=LA.out.cell 2 _ rfl
 have fa0:=LA.out.free 0 (by simp)
 have fa1:=LA.out.free 1 (by simp)
 have fa2:=LA.out.free 2 (by simp)
 go_wp2_with fail
 refine bodyPost_ret (v:=.agg #[.string ⟨#[]⟩,.int .i64 q,.int .i64 y]) (by simp[results,Tryz.results133,go_sem,a0,a1,a2]) rfl ⟨⟨q,rfl⟩,?_⟩
 exact below_set (below_set (below_set (below_set CB.out (Nat.le_succ _) _) lr _) lr _) lr _
end
end Go.Proofs.YtdfdllbebfoggaaGreatDoor
