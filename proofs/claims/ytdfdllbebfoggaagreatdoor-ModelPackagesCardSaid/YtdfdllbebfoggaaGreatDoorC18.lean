/- A part of the proof that ModelPackages holds. No condition. -/
import Derived.Test.YtdfdllbebfoggaaGreatDoorC07
import Derived.Test.YtdfdllbebfoggaaGreatDoorC09
import Derived.Test.YtdfdllbebfoggaaGreatDoorC17
set_option maxRecDepth 100000
set_option maxHeartbeats 20000000
set_option linter.unusedVariables false
set_option linter.unusedSimpArgs false
namespace Go.Proofs.YtdfdllbebfoggaaGreatDoor
section
open Go.RowKit
theorem ixOf_hit (x:List UInt8):∀ (l:List (List UInt8))(k:Nat),(∀ j,j<k→l[j]?≠some x)→l[k]?=some x→ixOf l x=some k
 | [],k,_,h=>by simp at h
 | a::r,0,_,h=>by simp at h;simp[ixOf,h]
 | a::r,k+1,hn,h=>by
  have ha:a≠x:=fun e=>hn 0 (by omega) (by simp[e])
  have:=ixOf_hit x r k (fun j hj=>by simpa using hn (j+1) (by omega)) (by simpa using h)
  simp[ixOf,ha,this]
theorem ixOf_miss (x:List UInt8):∀ (l:List (List UInt8)),(∀ j:Nat,l[j]?≠some x)→ixOf l x=none
 | [],_=>rfl
 | a::r,hn=>by
  have ha:a≠x:=fun e=>hn 0 (by simp[e])
  have:=ixOf_miss x r (fun j=>by simpa using hn (j+1))
  simp[ixOf,ha,this]
theorem aWords_at (j:Nat)(h:j<9):aWords[j]?=some (bl (vWord j)):=by
 rcases(by omega:j=0∨j=1∨j=2∨j=3∨j=4∨j=5∨j=6∨j=7∨j=8) with rfl | rfl | rfl | rfl | rfl | rfl | rfl | rfl | rfl<;>rfl
theorem wordIx_hit {s:ByteArray}{k:Nat}(hk:k<9)(hn:∀ j,j<k→¬ vWord j=s)(h:vWord k=s):wordIx (bl s)=some k:=
 ixOf_hit _ _ k (fun j hj=>by rw[aWords_at j (by omega)];intro e;injection e with e;exact hn j hj (bl_inj e)) (by rw[aWords_at k hk,h])
theorem wordIx_miss {s:ByteArray}(hn:∀ j,j<9→¬ vWord j=s):wordIx (bl s)=none:=
 ixOf_miss _ _ (fun j=>by
  by_cases hj:j<9
  ·rw[aWords_at j hj];intro e;injection e with e;exact hn j hj (bl_inj e)
  ·rw[List.getElem?_eq_none (by simp[aWords];omega)];simp)
def wIx (s:ByteArray):Int:=match wordIx (bl s) with | some i=>i | none=>-1
theorem idx9 (k:Nat)(hk:k<9)(x:Nat→ByteArray)(w:World):(Instr.index 204 (.agg #[.string (x 0),.string (x 1),.string (x 2),.string (x 3),.string (x 4),.string (x 5),.string (x 6),.string (x 7),.string (x 8)]) (.int .i64 k)).run Tryz.prog w=.ok (.string (x k)) w:=by
 rcases(by omega:k=0∨k=1∨k=2∨k=3∨k=4∨k=5∨k=6∨k=7∨k=8) with rfl | rfl | rfl | rfl | rfl | rfl | rfl | rfl | rfl<;>kernel_rfl
theorem version_wordAt (s:ByteArray)(w:World)(hG:Gl w):
  Calls Tryz.prog 122 #[.string s] w fun e w'=>e=.returned (.int .i64 (wIx s))∧w=w':=by
 have g0:=hG.vwd 0 (by omega)
 have g1:=hG.vwd 1 (by omega)
 have g2:=hG.vwd 2 (by omega)
 have g3:=hG.vwd 3 (by omega)
 have g4:=hG.vwd 4 (by omega)
 have g5:=hG.vwd 5 (by omega)
 have g6:=hG.vwd 6 (by omega)
 have g7:=hG.vwd 7 (by omega)
 have g8:=hG.vwd 8 (by omega)
 clear hG
 go_enter Tryz.func122,Tryz.ntmps122
 go_wp2_with fail
 clear g0 g1 g2 g3 g4 g5 g6 g7 g8
 go_loop [6] (fun i=>∃ k:Nat,k≤9∧i=.int .i64 k∧Hid (∀ j,j<k→¬ vWord j=s)) (fun i=>9-(intOf i).toNat)
 case atStart=>exact⟨0,by omega,rfl,hid (fun j hj=>by omega)⟩
 case round=>
  obtain⟨k,hk,rfl,HN⟩:=hrel
  by_cases hlt:k<9
  ·have hix:=fun W=>idx9 k hlt vWord W
   cases hE:((vWord k).toList==s.toList)
   ·have HNE:Hid (¬ vWord k=s):=by show ¬ _;rw[beq_bl] at hE;exact of_decide_eq_false hE
    go_wp2_with fail
    go_round
    case rel=>exact⟨k+1,by omega,by go_num,hid (fun j hj=>by
     by_cases e:j=k
     ·subst e;exact HNE.out
     ·exact HN.out j (by omega))⟩
    case measure=>simp[intOf];omega
   ·have HE:Hid (vWord k=s):=by show _=_;rw[beq_bl] at hE;exact of_decide_eq_true hE
    go_wp2_with fail
    go_ret
    exact⟨ret_int (by unfold wIx;rw[wordIx_hit hlt HN.out HE.out]),rfl⟩
  ·go_wp2_with fail
   go_ret
   exact⟨ret_int (by unfold wIx;rw[wordIx_miss (fun j hj=>HN.out j (by omega))]),rfl⟩
end
section
open Go.RowKit
def head0 (c:UInt8):List UInt8→Bool
 | a::_=>a==c
 | []=>false
theorem head0_yes {c:UInt8}{l:List UInt8}(h:head0 c l=true):l=c::l.drop 1:=by
 cases l with
 | nil=>simp[head0] at h
 | cons a r=>simp[head0] at h;simp[h]
theorem head0_no {c:UInt8}{l:List UInt8}(h:head0 c l=false)(t:List UInt8):l≠c::t:=by
 intro e;subst e;simp[head0] at h
theorem head0_pos {c:UInt8}{s:ByteArray}(h:head0 c (bl s)=true):0<s.size:=by
 have:=congrArg List.length (head0_yes h)
 rw[bl_length] at this;simp at this;omega
theorem r12_has (s:ByteArray)(c:UInt8)(w:World)(hs:s.size≤9223372036854775807):
  Calls Tryz.prog 203 #[.string s,.int .u8 c.toNat] w fun e w'=>e=.returned (.bool (head0 c (bl s)))∧w=w':=by
 by_cases h0:0<s.size
 ·have hc:=bl_cons s h0
  have E:Hid (head0 c (bl s)=((s[0].toNat:Int)==(c.toNat:Int))):=by
   show _=_
   rw[hc]
   show(s[0]==c)=_
   rw[Bool.eq_iff_iff]
   simp only[beq_iff_eq]
   constructor
   ·intro h;rw[h]
   ·intro h;exact UInt8.toNat_inj.1 (by omega)
  clear hc
  go_enter Tryz.func203,Tryz.ntmps203
  go_wp2_with fail
  go_ret
  exact⟨by rw[E.out];rfl,rfl⟩
 ·have E:Hid (head0 c (bl s)=false):=by show _=_;rw[bl_nil s (by omega)];rfl
  go_enter Tryz.func203,Tryz.ntmps203
  go_wp2_with fail
  go_ret
  exact⟨by rw[E.out];rfl,rfl⟩
theorem r12_has_is (s:ByteArray)(c:UInt8)(b:Bool)(w:World)(hs:s.size≤9223372036854775807)(h:Hid (head0 c (bl s)=b)):
  Calls Tryz.prog 203 #[.string s,.int .u8 c.toNat] w fun e w'=>e=.returned (.bool b)∧w=w':=by rw[←h.out];exact r12_has s c w hs
def wordCells:List Value:=(List.range 9).map (fun j=>.string (vWord j))
theorem r12_words (w:World):
  Calls Tryz.prog 205 #[] w fun e w'=>∃ t,e=.returned (.slice (some ⟨w.heap.size,0,none⟩) 9 9)∧w'=w.alloc (.cells wordCells.toArray t):=by
 go_enter Tryz.func205,Tryz.ntmps205
 go_wp2_with fail
 go_ret
 exact⟨_,rfl,rfl⟩
theorem r12_letters_is (s:ByteArray)(n:Nat)(w:World)(hs:s.size≤9223372036854775807)(h:Hid (runN letB (bl s)=n)):
  Calls Tryz.prog 204 #[.string s] w fun e w'=>e=.returned (.int .i64 n)∧w=w':=by rw[←h.out];exact r12_letters s w hs
theorem run_small_let (l:List UInt8)(h:wordIx (l.take (runN letB l))≠none):runN smlB l=runN letB l:=by
 obtain⟨k,hk⟩:=Option.ne_none_iff_exists'.1 h
 have hall:(l.take (runN letB l)).all smlB=true:=by
  have key:∀ x:List UInt8,wordIx x=some k→x.all smlB=true:=by
   intro x hx
   have hm:x∈aWords:=by
    have g:∀ (L:List (List UInt8))(j:Nat),ixOf L x=some j→x∈L:=by
     intro L
     induction L with
     | nil=>intro j hj;simp[ixOf] at hj
     | cons a r ih=>
      intro j hj
      unfold ixOf at hj
      split at hj
      ·rename_i e;simp[e]
      ·obtain⟨i,hi,_⟩:=Option.map_eq_some_iff.1 hj
       exact List.mem_cons_of_mem _ (ih i hi)
    exact g aWords k hx
   have ha:∀ y∈aWords,y.all smlB=true:=by decide
   exact ha x hm
  exact key _ hk
 revert hall
 clear h hk
 induction l with
 | nil=>intro _;rfl
 | cons a r ih=>
  intro hall
  by_cases hl:letB a=true
  ·have e1:runN letB (a::r)=runN letB r+1:=by simp[runN,hl]
   rw[e1,List.take_succ_cons,List.all_cons,Bool.and_eq_true] at hall
   have e2:runN smlB (a::r)=runN smlB r+1:=by simp[runN,hall.1]
   rw[e1,e2,ih hall.2]
  ·have hs:smlB a=false:=by
    cases h:smlB a
    ·rfl
    ·exact absurd (by simp[letB,h]) hl
   simp[runN,hl,hs]
end
section
open Go.RowKit Go.Extern.Stop Go.Stop Go.Extern
theorem as_wrong (b:Nat)(x y:Int)(w:World)(hG:w.cell? ⟨5,0,none⟩=some (.iface 301 (.agg #[.pointer (some ⟨9,174,none⟩)])))(hB:Blk w b [.int .i64 0,.int .i64 0]):
  Calls Tryz.prog 189 #[.iface 222 (.agg #[.int .i64 x,.int .i64 y]),.iface 226 (.pointer (some ⟨b,0,none⟩))] w fun e w'=>e=.returned (.bool true)∧Blk w' b [.int .i64 x,.int .i64 y]∧w.grownBy w' (some b):=by
 have e1:=@run_callFunc_extern Tryz.prog 240 _ (fun args=>ReflectliteValue.unpack (args.getD 0 (.tuple #[]))) Tryz.func240 (by kernel_rfl) (by kernel_rfl) (by kernel_rfl) (by kernel_rfl)
 have e2 := @run_callFunc_extern Tryz.prog 241 _ (ReflectliteValue.methodAny (ReflectliteValue.valueError "reflectlite.Value.Type" 0) (fun t _ _ _ => ReflectliteType.toType t)) Tryz.func241 (by kernel_rfl) (by kernel_rfl) (by kernel_rfl) (by kernel_rfl)
 have e3 := @run_callFunc_extern Tryz.prog 242 _ (ReflectliteValue.method (ReflectliteValue.valueError "reflectlite.Value.IsNil" 0) ReflectliteValue.isNil) Tryz.func242 (by kernel_rfl) (by kernel_rfl) (by kernel_rfl) (by kernel_rfl)
 have e4:=@run_callFunc_extern Tryz.prog 296 _ (ReflectliteType.abiMethod fun t=>do pure (.int .u8 (←Rtype.kind t))) Tryz.func296 (by kernel_rfl) (by kernel_rfl) (by kernel_rfl) (by kernel_rfl)
 have e5:=@run_callFunc_extern Tryz.prog 310 _ (ReflectliteType.method ReflectliteType.elem) Tryz.func310 (by kernel_rfl) (by kernel_rfl) (by kernel_rfl) (by kernel_rfl)
 have e6 := @run_callFunc_extern Tryz.prog 311 _ (ReflectliteType.relation "Implements" ReflectliteType.implements_) Tryz.func311 (by kernel_rfl) (by kernel_rfl) (by kernel_rfl) (by kernel_rfl)
 have e7:=@run_callFunc_extern Tryz.prog 272 _ ReflectliteType.typeOf Tryz.func272 (by kernel_rfl) (by kernel_rfl) (by kernel_rfl) (by kernel_rfl)
 have e8 := @run_callFunc_extern Tryz.prog 308 _ (ReflectliteType.relation "AssignableTo" ReflectliteType.assignableTo) Tryz.func308 (by kernel_rfl) (by kernel_rfl) (by kernel_rfl) (by kernel_rfl)
 have e9 := @run_callFunc_extern Tryz.prog 273 _ (ReflectliteValue.method (ReflectliteValue.valueError "reflectlite.Value.Elem" 0) ReflectliteValue.elem) Tryz.func273 (by kernel_rfl) (by kernel_rfl) (by kernel_rfl) (by kernel_rfl)
 have e10:=@run_callFunc_extern Tryz.prog 274 _ ReflectliteValue.set Tryz.func274 (by kernel_rfl) (by kernel_rfl) (by kernel_rfl) (by kernel_rfl)
 have m1:=rl_methodKind
 have m2:=rl_methodElem
 have m3:=rl_methodImplements
 have m4:=rl_methodAssignableTo
 have q1:=rl_valueOfPW
 have q2:=rl_valueOfW
 have q3:=rl_typePW
 have q4:=rl_kindPW
 have q5:=rl_kindW
 have q6:=rl_elemPW
 have q7:=rl_implementsW
 have q8:=rl_typeOfW
 have q9:=rl_assignableW
 have hg0:=World.block_lt_of_cell? _ _ hG
 have hg0:5<w.heap.size:=hg0
 have hb0:=hB.sz
 let W1:=w.alloc (.cells #[.pointer (some ⟨b,0,none⟩)] 226)
 let W2:=W1.alloc (.cells #[.pointer (some ⟨9,226,none⟩),.pointer (some ⟨w.heap.size,0,none⟩),.int .u64 150] 271)
 let W3:=W2.alloc (.cells #[.pointer (some ⟨9,226,none⟩),.pointer (some ⟨w.heap.size,0,none⟩),.int .u64 150] 271)
 let W4:=W3.alloc (.cells #[.int .i64 x,.int .i64 y] 222)
 have K1:Blk W1 w.heap.size [.pointer (some ⟨b,0,none⟩)]:=Blk.new w _ _
 have K2:Blk W2 w.heap.size [.pointer (some ⟨b,0,none⟩)]:=K1.alloc _
 have K3:Blk W3 w.heap.size [.pointer (some ⟨b,0,none⟩)]:=K2.alloc _
 have K4:Blk W4 (w.heap.size+1+1+1) [.int .i64 x,.int .i64 y]:=by have:=Blk.new W3 [.int .i64 x,.int .i64 y] 222;simpa [W3,W2,W1] using this
 have T4:Blk W4 b [.int .i64 0,.int .i64 0]:=(((hB.alloc _).alloc _).alloc _).alloc _
 have n8:=rl_isNilPW ⟨w.heap.size,0,none⟩ ⟨b,0,none⟩ W2 (K2.cell 0 _ rfl)
 have el:=rl_elemVPW ⟨w.heap.size,0,none⟩ ⟨b,0,none⟩ W3 (K3.cell 0 _ rfl)
 have st:=rl_setW b (w.heap.size+1+1+1) x y _ _ W4 (K4.cell 0 _ rfl) (K4.cell 1 _ rfl) (T4.cell 0 _ rfl) (T4.cell 1 _ rfl) (T4.free 0 (by simp)) (T4.free 1 (by simp))
 have hg2:W2.cell? ⟨5,0,none⟩=some (.iface 301 (.agg #[.pointer (some ⟨9,174,none⟩)])):=by
  show((w.alloc _).alloc _).cell? _=_
  rw[World.cell?_alloc_lt _ _ ⟨5,0,none⟩ (by simp;omega),World.cell?_alloc_lt _ _ ⟨5,0,none⟩ hg0];exact hG
 have FIN:Hid (Blk ((W4.setCell ⟨b,0,none⟩ (.int .i64 x)).setCell ⟨b,1,none⟩ (.int .i64 y)) b [.int .i64 x,.int .i64 y]):=(T4.set 0 (by simp) _).set 1 (by simp) _
 have GRW:Hid (w.grownBy ((W4.setCell ⟨b,0,none⟩ (.int .i64 x)).setCell ⟨b,1,none⟩ (.int .i64 y)) (some b)):=by
  have hb4:Below w.heap.size w W4:=((((Below.refl _ _).alloc lr _).alloc (by simp) _).alloc (by simp;omega) _).alloc (by simp;omega) _
  have g4:w.grownBy W4 (some b):=⟨hb4.os,hb4.tape,hb4.output,hb4.size,fun i hi _=>hb4.block i hi⟩
  exact only_setCell (only_setCell g4 (.inl rfl) _) (.inl rfl) _
 simp only[W4,W3,W2,W1] at n8 el st hg2 FIN GRW
 clear K1 K2 K3 K4 T4 hB
 clear W4 W3 W2 W1
 go_enter Tryz.func189,Tryz.ntmps189
 go_wp2
 refine wp_loop_rounds 1 ?_
 rw[rounds_succ]
 go_wp2
 go_ret
 exact⟨rfl,FIN.out,GRW.out⟩
end
section
open Go.ChangeShapes Go.WideShapes Go.Deep Go.RowKit
theorem et_named : Tryz.prog.globalNamed "errors.errorType" = some 5 := by kernel_rfl
theorem rt_cut : (Tryz.prog.cutTypes.find? (·.1 == "internal/reflectlite.rtype")).map (·.2) = some 301 := by kernel_rfl
theorem error_row:((List.range Tryz.prog.types.size).filter fun t=>Tryz.prog.rowNamed t [101,114,114,111,114])=[174]:=by kernel_rfl
theorem error_handle:typeHandle Tryz.prog 174=.pointer (some ⟨9,174,none⟩):=by kernel_rfl
theorem gle_of_laid {W:World}(h:laidMetH Tryz.prog laidAllL W)(hsh:W.ShapedOpen Tryz.prog):GlE W:=by
 refine⟨gl_of_laid h hsh,?_⟩
 have h' : laidMet Tryz.prog laidDataL W ∧ handlesMet Tryz.prog [("errors.errorType", Rows.laid_errors_errorType)] W := h
 obtain⟨name,u,ty,e1,e2,e3,e4,e5⟩:=h'.2 _ (List.mem_singleton.2 rfl)
 have en:name=[101,114,114,111,114]:=(Option.some.inj e1).symm
 subst en
 obtain rfl:=Option.some.inj (rt_cut.symm.trans e2)
 have hm:ty∈(List.range Tryz.prog.types.size).filter fun t=>Tryz.prog.rowNamed t [101,114,114,111,114]:=List.mem_filter.2 ⟨List.mem_range.2 e3,e4⟩
 rw[error_row] at hm
 obtain rfl:=List.mem_singleton.1 hm
 rw[error_handle] at e5
 simpa using World.var?_cell et_named e5 0
theorem pkg_cells:Tryz.prog.cellsOf 27=9:=by kernel_rfl
theorem open_pkg {H:Type}{enc:TypeId×Value→H}{w:World}{spare:Nat→Bool}{r:Reach}{base:Nat}{v:Value}{d:DataW H}{p:List MemPlace}(hv:Value.okWide Tryz.prog w r base 27 v)
  (h:DataW.Trod enc Tryz.prog w 0 spare true 27 v d p):∃ pk:PkL,v=pk.val∧pk.ok w∧pk.fits:=by
 obtain⟨cs,rfl,hcs⟩:=okWide_struct Tryz.underlying27 hv
 obtain⟨fuel,hf⟩:=h
 have hc9:cs.size=9:=by rw[hcs];exact pkg_cells
 have hf':DataW.trod enc Tryz.prog w 0 spare true fuel 27 cs.toList=some (d,p):=hf
 obtain⟨xs,n,_,_,_,hxl,hfd⟩:=DataW.trod_struct Tryz.underlying27 hf'
 have hx9:xs.length=9:=hxl
 have key:∀ (j:Nat)(t:TypeId),(hj:j<9)→DataW.trod enc Tryz.prog w 0 spare true n t ((cs.toList.drop j).take 1)=xs[j]?→∃ y,DataW.trod enc Tryz.prog w 0 spare true n t [(cs[j]?).getD default]=some y:=by
  intro j t hj h1
  have hjc:j<cs.size:=by omega
  rw[List.drop_eq_getElem_cons (by simpa using hjc),List.take_succ_cons,List.take_zero] at h1
  rw[Array.getElem?_eq_getElem hjc,Option.getD_some]
  refine⟨xs[j]'(by omega),?_⟩
  rw[List.getElem?_eq_getElem (by omega)] at h1
  simpa using h1
 obtain⟨pk,⟨h1,h2,_⟩,h3⟩:=open_pk (enc:=enc) (w:=w) (spare:=spare) n (fun j=>(cs[j]?).getD default) (fun j t ht=>by
  have hj:j<9:=by simpa using(List.getElem?_eq_some_iff.1 ht).1
  refine key j t hj ?_
  rcases(by omega:j=0∨j=1∨j=2∨j=3∨j=4∨j=5∨j=6∨j=7∨j=8) with rfl | rfl | rfl | rfl | rfl | rfl | rfl | rfl | rfl
  ·have ht:=Option.some.inj ht;subst ht;exact hfd 0 _ rfl
  ·have ht:=Option.some.inj ht;subst ht;exact hfd 1 _ rfl
  ·have ht:=Option.some.inj ht;subst ht;exact hfd 2 _ rfl
  ·have ht:=Option.some.inj ht;subst ht;exact hfd 3 _ rfl
  ·have ht:=Option.some.inj ht;subst ht;exact hfd 4 _ rfl
  ·have ht:=Option.some.inj ht;subst ht;exact hfd 5 _ rfl
  ·have ht:=Option.some.inj ht;subst ht;exact hfd 6 _ rfl
  ·have ht:=Option.some.inj ht;subst ht;exact hfd 7 _ rfl
  ·have ht:=Option.some.inj ht;subst ht;exact hfd 8 _ rfl)
 refine⟨pk,?_,h1,h2⟩
 have e:cs.toList=pk.cells:=by
  apply List.ext_getElem?
  intro j
  by_cases hj:j<9
  ·rw[h3 j hj,Array.getElem?_toList,Array.getElem?_eq_getElem (by omega),Option.getD_some]
  ·rw[List.getElem?_eq_none (by rw[Array.length_toList];omega),List.getElem?_eq_none (by have:=pk_len pk;omega)]
 have e2:cs=pk.cells.toArray:=by rw[←e]
 rw[e2];rfl
end
end Go.Proofs.YtdfdllbebfoggaaGreatDoor
