/- A part of the proof that ModelChecks holds. No condition. -/
import Derived.Test.YtdfdllbebfoggaaGreatDoorD01
set_option maxRecDepth 100000
set_option maxHeartbeats 20000000
set_option linter.unusedVariables false
set_option linter.unusedSimpArgs false
namespace Go.Proofs.YtdfdllbebfoggaaGreatDoor
section
open Go.RowKit
theorem bl_toList (s:BA):s.toList=bl s:=ByteArray.toList_eq s
theorem bl_isEmpty (s:BA):(bl s).isEmpty=decide (s.size=0):=by
 rw[bI,List.isEmpty_iff,←List.length_eq_zero_iff,bl_length];simp
theorem pos_not_zero (n:Nat):decide (0<n)=(!decide (n=0)&&true):=by
 cases n<;>simp
theorem ret_bool {a b:Bool}(h:a=b):Ending.returned (.bool a)=.returned (.bool b):=by rw[h]
theorem ret_int {k:IntKind}{a b:Int}(h:a=b):Ending.returned (.int k a)=.returned (.int k b):=by rw[h]
def fmtB (n:Int):Bool:=decide (n=1∨n=2∨n=3)
theorem model_isFormat (n:Int)(w:World):
  Calls Tryz.prog 29 #[.int .i64 n] w fun e w'=>e=.returned (.bool (fmtB n))∧w=w':=by
 go_enter Tryz.func29,Tryz.ntmps29
 go_wp2
 all_goals (go_ret;refine⟨ret_bool ?_,rfl⟩;rw[bI];simp_all [fmtB];try omega)
def wthB (least:Nat)(l:LU):Bool:=l.all fun c=>least≤c.toNat&&c.toNat≤126
def plainB (l:LU):Bool:=!l.isEmpty&&wthB 33 l
theorem wthB_next (least:Nat)(s:BA)(k:Nat)(h:k<s.size)(h0:wthB least ((bl s).take k)=true)(h1:least≤s[k].toNat)(h2:¬ s[k].toNat<least∧(s[k].toNat:Int)≤126):wthB least ((bl s).take (k+1))=true:=by
 unfold wthB at *;rw[bl_take_all s k h,h0];simp;omega
theorem wthB_bad (least:Nat)(s:BA)(k:Nat)(h:k<s.size)(h1:s[k].toNat<least∨126<(s[k].toNat:Int)):wthB least (bl s)=false:=by
 unfold wthB;apply bl_all_false s k h;simp;omega
theorem model_within (s:BA)(least:Nat)(w:World)(hs:s.size≤9223372036854775807):
  Calls Tryz.prog 41 #[.string s,.int .u8 least] w fun e w'=>e=.returned (.bool (wthB least (bl s)))∧w=w':=by
 go_enter Tryz.func41,Tryz.ntmps41
 go_wp2
 go_loop [8] (fun i=>∃ k:Nat,k≤s.size∧i=.int .i64 k∧Hid (wthB least ((bl s).take k)=true)) (fun i=>s.size-(intOf i).toNat)
 case atStart=>exact⟨0,z0,rfl,by simp[wthB,Hid]⟩
 case round=>
  obtain⟨k,hk,rfl,hw⟩:=hrel
  by_cases hlt:k<s.size
  ·by_cases h1:least≤s[k].toNat
   ·by_cases h2:(s[k].toNat:Int)≤126
    ·go_wp2
     go_round
     case rel=>exact⟨k+1,by omega,by go_num,wthB_next least s k hlt hw.out h1 ⟨by omega,h2⟩⟩
     case measure=>simp[intOf];omega
    ·go_wp2
     go_ret
     exact⟨ret_bool (by rw[wthB_bad least s k hlt (by omega)]),rfl⟩
   ·go_wp2
    go_ret
    exact⟨ret_bool (by rw[wthB_bad least s k hlt (by omega)]),rfl⟩
  ·go_wp2
   go_ret
   exact⟨ret_bool (by have:=hw.out;rw[bl_take_ge s k (by omega)] at this;rw[this]),rfl⟩
theorem model_Plain (s:BA)(w:World)(hs:s.size≤9223372036854775807):
  Calls Tryz.prog 16 #[.string s] w fun e w'=>e=.returned (.bool (plainB (bl s)))∧w=w':=by
 go_enter Tryz.func16,Tryz.ntmps16
 go_wp2_with (go_at_call 41;refine(model_within _ 33 _ hs).mono ?_;rintro e w' ⟨rfl,rfl⟩)
 all_goals (go_ret;refine⟨ret_bool ?_,rfl⟩;simp_all [plainB,bl_toList])
theorem ref_Plain (s:BA)(w:World)(hs:s.size≤9223372036854775807):
  Calls Tryz.prog 17 #[.string s] w fun e w'=>e=.returned (.bool (plainB (bl s)))∧w=w':=by
 go_enter Tryz.func17,Tryz.ntmps17
 go_wp2
 go_loop [3] (fun i=>∃ k:Nat,k≤s.size∧i=.int .i64 k∧Hid (wthB 33 ((bl s).take k)=true)) (fun i=>s.size-(intOf i).toNat)
 case atStart=>exact⟨0,z0,rfl,by simp[wthB,Hid]⟩
 case round=>
  obtain⟨k,hk,rfl,hw⟩:=hrel
  by_cases hlt:k<s.size
  ·by_cases h1:33≤s[k].toNat
   ·by_cases h2:(s[k].toNat:Int)≤126
    ·go_wp2
     go_round
     case rel=>exact⟨k+1,by omega,by go_num,wthB_next 33 s k hlt hw.out h1 ⟨by omega,h2⟩⟩
     case measure=>simp[intOf];omega
    ·go_wp2
     go_ret
     exact⟨ret_bool (by unfold plainB;rw[wthB_bad 33 s k hlt (by omega)];simp),rfl⟩
   ·go_wp2
    go_ret
    exact⟨ret_bool (by unfold plainB;rw[wthB_bad 33 s k hlt (by omega)];simp),rfl⟩
  ·go_wp2
   go_ret
   have:=hw.out
   rw[bl_take_ge s k (by omega)] at this
   refine⟨ret_bool ?_,rfl⟩
   unfold plainB
   rw[this,bl_isEmpty]
   exact pos_not_zero s.size
end
section
open Go.RowKit Go.Extern.Stop Go.Stop Go.Extern
theorem as_wrong (b:Nat)(x y:Int)(w:World)(hG:w.cell? ⟨5,0,none⟩=some (.iface 301 (.agg #[.pointer (some ⟨9,174,none⟩)])))(hB:Blk w b [.int .i64 0,.int .i64 0]):
  Calls Tryz.prog 189 #[.iface 222 (.agg #[.int .i64 x,.int .i64 y]),.iface 226 (.pointer (some ⟨b,0,none⟩))] w fun e w'=>e=.returned (.bool true)∧Blk w' b [.int .i64 x,.int .i64 y]∧w.grownBy w' (some b):=by
 have e1:=@run_callFunc_extern Tryz.prog 240 _ (fun args=>ReflectliteValue.unpack (args.getD 0 (.tuple #[]))) Tryz.func240 (by kernel_rfl) (by kernel_rfl) (by kernel_rfl) (by kernel_rfl)
 have e2 := @run_callFunc_extern Tryz.prog 241 _ (ReflectliteValue.methodAny (ReflectliteValue.valueError "reflectlite.Value.Type" 0) (fun t _ _ _ => ReflectliteType.toType t)) Tryz.func241 (by kernel_rfl) (by kernel_rfl) (by kernel_rfl) (by kernel_rfl)
 have e3 := @run_callFunc_extern Tryz.prog 242 _ (ReflectliteValue.method (ReflectliteValue.valueError "reflectlite.Value.IsNil" 0) ReflectliteValue.isNil) Tryz.func242 (by kernel_rfl) (by kernel_rfl) (by kernel_rfl) (by kernel_rfl)
 have e4:=@run_callFunc_extern Tryz.prog 296 _ (ReflectliteType.abiMethod fun t=>do pure (.int .u8 (←Rtype.kind t))) Tryz.func296 (by kernel_rfl) (by kernel_rfl) (by kernel_rfl) (by kernel_rfl)
 have e5:=@run_callFunc_extern Tryz.prog 310 _ (ReflectliteType.method ReflectliteType.elem) Tryz.func310 (by kernel_rfl) (by kernel_rfl) (by kernel_rfl) (by kernel_rfl)
 have e6 := @run_callFunc_extern Tryz.prog 311 _ (ReflectliteType.relation "Implements" ReflectliteType.implements_) Tryz.func311 (by kernel_rfl) (by kernel_rfl) (by kernel_rfl) (by kernel_rfl)
 have e7:=@run_callFunc_extern Tryz.prog 272 _ ReflectliteType.typeOf Tryz.func272 (by kernel_rfl) (by kernel_rfl) (by kernel_rfl) (by kernel_rfl)
 have e8 := @run_callFunc_extern Tryz.prog 308 _ (ReflectliteType.relation "AssignableTo" ReflectliteType.assignableTo) Tryz.func308 (by kernel_rfl) (by kernel_rfl) (by kernel_rfl) (by kernel_rfl)
 have e9 := @run_callFunc_extern Tryz.prog 273 _ (ReflectliteValue.method (ReflectliteValue.valueError "reflectlite.Value.Elem" 0) ReflectliteValue.elem) Tryz.func273 (by kernel_rfl) (by kernel_rfl) (by kernel_rfl) (by kernel_rfl)
 have e10:=@run_callFunc_extern Tryz.prog 274 _ ReflectliteValue.set Tryz.func274 (by kernel_rfl) (by kernel_rfl) (by kernel_rfl) (by kernel_rfl)
 have m1:=rl_methodKind
 have m2:=rl_methodElem
 have m3:=rl_methodImplements
 have m4:=rl_methodAssignableTo
 have q1:=rl_valueOfPW
 have q2:=rl_valueOfW
 have q3:=rl_typePW
 have q4:=rl_kindPW
 have q5:=rl_kindW
 have q6:=rl_elemPW
 have q7:=rl_implementsW
 have q8:=rl_typeOfW
 have q9:=rl_assignableW
 have hg0:=World.block_lt_of_cell? _ _ hG
 have hg0:5<w.heap.size:=hg0
 have hb0:=hB.sz
 let W1:=w.alloc (.cells #[.pointer (some ⟨b,0,none⟩)] 226)
 let W2:=W1.alloc (.cells #[.pointer (some ⟨9,226,none⟩),.pointer (some ⟨w.heap.size,0,none⟩),.int .u64 150] 271)
 let W3:=W2.alloc (.cells #[.pointer (some ⟨9,226,none⟩),.pointer (some ⟨w.heap.size,0,none⟩),.int .u64 150] 271)
 let W4:=W3.alloc (.cells #[.int .i64 x,.int .i64 y] 222)
 have K1:Blk W1 w.heap.size [.pointer (some ⟨b,0,none⟩)]:=Blk.new w _ _
 have K2:Blk W2 w.heap.size [.pointer (some ⟨b,0,none⟩)]:=K1.alloc _
 have K3:Blk W3 w.heap.size [.pointer (some ⟨b,0,none⟩)]:=K2.alloc _
 have K4:Blk W4 (w.heap.size+1+1+1) [.int .i64 x,.int .i64 y]:=by have:=Blk.new W3 [.int .i64 x,.int .i64 y] 222;simpa [W3,W2,W1] using this
 have T4:Blk W4 b [.int .i64 0,.int .i64 0]:=(((hB.alloc _).alloc _).alloc _).alloc _
 have n8:=rl_isNilPW ⟨w.heap.size,0,none⟩ ⟨b,0,none⟩ W2 (K2.cell 0 _ rfl)
 have el:=rl_elemVPW ⟨w.heap.size,0,none⟩ ⟨b,0,none⟩ W3 (K3.cell 0 _ rfl)
 have st:=rl_setW b (w.heap.size+1+1+1) x y _ _ W4 (K4.cell 0 _ rfl) (K4.cell 1 _ rfl) (T4.cell 0 _ rfl) (T4.cell 1 _ rfl) (T4.free 0 (by simp)) (T4.free 1 (by simp))
 have hg2:W2.cell? ⟨5,0,none⟩=some (.iface 301 (.agg #[.pointer (some ⟨9,174,none⟩)])):=by
  show((w.alloc _).alloc _).cell? _=_
  rw[World.cell?_alloc_lt _ _ ⟨5,0,none⟩ (by simp;omega),World.cell?_alloc_lt _ _ ⟨5,0,none⟩ hg0];exact hG
 have FIN:Hid (Blk ((W4.setCell ⟨b,0,none⟩ (.int .i64 x)).setCell ⟨b,1,none⟩ (.int .i64 y)) b [.int .i64 x,.int .i64 y]):=(T4.set 0 (by simp) _).set 1 (by simp) _
 have GRW:Hid (w.grownBy ((W4.setCell ⟨b,0,none⟩ (.int .i64 x)).setCell ⟨b,1,none⟩ (.int .i64 y)) (some b)):=by
  have hb4:Below w.heap.size w W4:=(((bR.alloc lr _).alloc (by simp) _).alloc (by simp;omega) _).alloc (by simp;omega) _
  have g4:w.grownBy W4 (some b):=⟨hb4.os,hb4.tape,hb4.output,hb4.size,fun i hi _=>hb4.block i hi⟩
  exact only_setCell (only_setCell g4 (.inl rfl) _) (.inl rfl) _
 simp only[W4,W3,W2,W1] at n8 el st hg2 FIN GRW
 clear K1 K2 K3 K4 T4 hB
 clear W4 W3 W2 W1
 go_enter Tryz.func189,Tryz.ntmps189
 go_wp2
 refine wp_loop_rounds 1 ?_
 rw[rounds_succ]
 go_wp2
 go_ret
 exact⟨rfl,FIN.out,GRW.out⟩
end
section
open Go.RowKit Go.Maps
def RV (v:Value):Option (DataW Value×List MemPlace):=some (.held v,[])
theorem held_inj {a b:Value}(h:(DataW.held a:DataW Value)=.held b):a=b:=by injection h
theorem strKeyed:Keyed Tryz.prog 9:=string_keyed Tryz.underlying9
def kl (s:BA):Lit:=.string s.data.toList
theorem kl_ne {s t:BA}(h:s≠t):kl s≠kl t:=by
 intro he;apply h;unfold kl at he;injection he with he;exact bl_inj he
def MapIs (w:World)(b n:Nat)(f:BA→Option Value):Prop:=
 ∃ D:DataW Value,w.ownsMap Tryz.prog 9 RV b n D∧∀ s:BA,s.size≤maxLen→(Maps.has D (kl s)=(f s).isSome∧∀ z v,f s=some v→D.atKey (kl s) z=.held v)
theorem MapIs.made (w:World):MapIs (w.alloc (.map #[] 0)) w.heap.size 0 (fun _=>none):=
 ⟨.map [],World.ownsMap_made _ _ _ _,fun s _=>⟨rfl,fun z v h=>by cases h⟩⟩
theorem MapIs.kept {w w':World}{b n:Nat}{f:BA→Option Value}{row:Option Nat}(h:MapIs w b n f)(hg:w.grownBy w' row)(hne:some b≠row):MapIs w' b n f:=by
 obtain⟨D,h1,h2⟩:=h
 exact⟨D,h1.kept hg hne,h2⟩
theorem MapIs.below {w w':World}{b n:Nat}{f:BA→Option Value}(h:MapIs w b n f)(hb:Below w.heap.size w w'):MapIs w' b n f:=by
 obtain⟨D,h1,h2⟩:=h
 exact⟨D,h1.kept (row:=none) ⟨hb.os,hb.tape,hb.output,hb.size,fun i hi _=>hb.block i hi⟩ (by simp),h2⟩
theorem key_of (s:BA)(h:s.size≤maxLen):keyOf Tryz.prog 9 (.string s)=some (kl s):=Go.WideMaps.keyOf_string_mk Tryz.underlying9 h
theorem MapIs.look_ok {w:World}{b n:Nat}{f:BA→Option Value}(h:MapIs w b n f){t e:TypeId}(ht:Tryz.prog.underlying t=some (.map 9 e)){z:Value}(hz:∀ w,(zeroValue e).run Tryz.prog w=.ok z w)(s:BA)(hs:s.size≤maxLen):
  (Instr.lookup t (.map (some b)) (.string s) true).run Tryz.prog w=.ok (.tuple #[(f s).getD z,.bool (f s).isSome]) w:=by
 obtain⟨D,h1,h2⟩:=h
 obtain⟨v,ps,hrun,hv⟩:=h1.look_ok strKeyed ht (hz w) (show RV z=some (.held z,[]) from rfl) (key_of s hs)
 obtain⟨h3,h4⟩:=h2 s hs
 rw[hrun,h3]
 have:DataW.held v=D.atKey (kl s) (.held z):=congrArg Prod.fst (Option.some.inj hv)
 cases hf:f s with
 | none=>
  rw[hf] at h3
  rw[atKey_of_not_has (by simpa using h3)] at this
  rw[held_inj this];rfl
 | some u=>
  rw[h4 (.held z) u hf] at this
  rw[held_inj this];rfl
theorem MapIs.put {w:World}{b n:Nat}{f:BA→Option Value}(h:MapIs w b n f){t e:TypeId}(ht:Tryz.prog.underlying t=some (.map 9 e))(hn:n<maxLen)(s:BA)(hs:s.size≤maxLen)(v:Value):
  ∃ w',(Instr.mapUpdate t (.map (some b)) (.string s) v).run Tryz.prog w=.ok () w'∧MapIs w' b (n+1) (fun x=>if x=s then some v else f x)∧w.grownBy w' (some b):=by
 obtain⟨D,h1,h2⟩:=h
 obtain⟨w',hrun,hown,hg⟩:=h1.update strKeyed ht hn (key_of s hs) (show RV v=some (.held v,[]) from rfl)
 have hm:=(h1.tidy strKeyed).isMap
 refine⟨w',hrun,⟨_,hown,fun x hx=>?_⟩,hg⟩
 by_cases hxs:x=s
 ·subst hxs
  have hk:WideAt.IsKeyLit (kl x):=trivial
  simp only[if_pos]
  exact⟨by rw[has_put_same hm hk];rfl,fun z u hu=>by have hu:=Option.some.inj hu;subst hu;exact atKey_put_same hm hk _ _⟩
 ·simp only[if_neg hxs]
  obtain⟨h3,h4⟩:=h2 x hx
  exact⟨by rw[has_put_other (kl_ne hxs)];exact h3,fun z u hu=>by rw[atKey_put_other (kl_ne hxs)];exact h4 z u hu⟩
theorem MapIs.alloc {w:World}{b n:Nat}{f:BA→Option Value}(h:MapIs w b n f)(o:Obj):MapIs (w.alloc o) b n f:=h.kept (World.grownBy_alloc w o none) (by simp)
theorem ownsRow_ne {W:World}{base:Nat}{e t:TypeId}{size n b:Nat}{v:Value}{xs:List Value}{cs:Array Value}{fr:Nat×Nat}(h:W.ownsRow base e size v n xs)(hb:W.heap[b]?=some (.cells cs t fr))(hne:t≠e):some b≠v.ownBlock:=by
 intro he
 rcases h.2 with⟨rfl,_⟩ | ⟨g,cap,cur,rfl,_,hg,_⟩
 ·simp[Value.ownBlock] at he
 ·simp[Value.ownBlock] at he
  subst he
  rw[hb] at hg
  injection hg with hg
  injection hg with _ h2 _
  exact hne h2
end
section
open Go.RowKit
theorem rows_apart {W:World}{b1 b2:Nat}{e1 e2:TypeId}{s1 s2 n1 n2:Nat}{v1 v2:Value}{x1 x2:List Value}(h1:W.ownsRow b1 e1 s1 v1 n1 x1)(h2:W.ownsRow b2 e2 s2 v2 n2 x2)(hne:e1≠e2):v1.ownBlock=none∨v1.ownBlock≠v2.ownBlock:=by
 rcases h1.2 with⟨rfl,_⟩ | ⟨g,cap,cur,rfl,_,hg,_⟩
 ·exact .inl rfl
 ·exact .inr (ownsRow_ne h2 hg hne)
end
end Go.Proofs.YtdfdllbebfoggaaGreatDoor
