/- A part of the proof that ModelChecks holds. No condition. -/
import Derived.Test.YtdfdllbebfoggaaGreatDoorD01
set_option maxRecDepth 100000
set_option maxHeartbeats 20000000
set_option linter.unusedVariables false
set_option linter.unusedSimpArgs false
namespace Go.Proofs.YtdfdllbebfoggaaGreatDoor
section
open Go.RowKit Go.Extern.Stop Go.Stop Go.Extern
theorem rl_valueOfPE (t:Addr)(w:World):(ReflectliteValue.unpack (.iface 227 (.pointer (some t)))).run Tryz.prog w
  = .ok (.agg #[.pointer (some ⟨9,227,none⟩),.pointer (some ⟨w.heap.size,0,none⟩),.int .u64 150]) (w.alloc (.cells #[.pointer (some t)] 227)):=by kernel_rfl
theorem rl_typePE (a : Addr) (w : World) : (ReflectliteValue.methodAny (ReflectliteValue.valueError "reflectlite.Value.Type" 0) (fun t _ _ _ => ReflectliteType.toType t) #[.agg #[.pointer (some ⟨9, 227, none⟩), .pointer (some a), .int .u64 150]]).run Tryz.prog w
  = .ok (.iface 301 (.agg #[.pointer (some ⟨9,227,none⟩)])) w:=by kernel_rfl
theorem rl_kindPE (w:World):((ReflectliteType.abiMethod fun t=>(fun a:Nat=>Value.int IntKind.u8 (a:Int)) <$> Rtype.kind t) #[.pointer (some ⟨9,227,none⟩)]).run Tryz.prog w=.ok (.int .u8 22) w:=by kernel_rfl
theorem rl_elemPE (w:World):(ReflectliteType.method ReflectliteType.elem #[.agg #[.pointer (some ⟨9,227,none⟩)]]).run Tryz.prog w=.ok (.iface 301 (.agg #[.pointer (some ⟨9,30,none⟩)])) w:=by kernel_rfl
theorem rl_implementsE (w : World) : (ReflectliteType.relation "Implements" ReflectliteType.implements_ #[.agg #[.pointer (some ⟨9, 30, none⟩)], .iface 301 (.agg #[.pointer (some ⟨9, 174, none⟩)])]).run Tryz.prog w = .ok (.bool true) w := by kernel_rfl
theorem rl_typeOfE (v:Value)(w:World):(ReflectliteType.typeOf #[.iface 30 v]).run Tryz.prog w=.ok (.iface 301 (.agg #[.pointer (some ⟨9,30,none⟩)])) w:=by kernel_rfl
theorem rl_assignableE (w : World) : (ReflectliteType.relation "AssignableTo" ReflectliteType.assignableTo #[.agg #[.pointer (some ⟨9, 30, none⟩)], .iface 301 (.agg #[.pointer (some ⟨9, 30, none⟩)])]).run Tryz.prog w = .ok (.bool true) w := by kernel_rfl
theorem rl_partsPE (a:Addr)(w:World):(ReflectliteValue.parts (.agg #[.pointer (some ⟨9,227,none⟩),.pointer (some a),.int .u64 150])).run Tryz.prog w=.ok (some (227,a,150)) w:=by kernel_rfl
theorem rl_isNilPE (a p:Addr)(W:World)(ha:W.cell? a=some (.pointer (some p))):
  (ReflectliteValue.method (ReflectliteValue.valueError "reflectlite.Value.IsNil" 0) ReflectliteValue.isNil #[.agg #[.pointer (some ⟨9, 227, none⟩), .pointer (some a), .int .u64 150]]).run Tryz.prog W = .ok (.bool false) W := by
 rw[rlm]
 simp only[Sem.run_bind,rl_partsPE,Result.andThen]
 simp[ReflectliteValue.isNil,loadVar,isAgg,underlying,Tryz.underlying227,ha,Result.andThen]
theorem rl_elemOfPE (w:World):(Rtype.elem? 227).run Tryz.prog w=.ok (some 30) w:=by kernel_rfl
theorem rl_mkE (p:Addr)(w:World):(ReflectliteValue.mk 30 p ReflectliteValue.flagAddr).run Tryz.prog w=.ok (.agg #[.pointer (some ⟨9,30,none⟩),.pointer (some p),.int .u64 386]) w:=by kernel_rfl
theorem rl_elemVPE (a p:Addr)(W:World)(ha:W.cell? a=some (.pointer (some p))):
  (ReflectliteValue.method (ReflectliteValue.valueError "reflectlite.Value.Elem" 0) ReflectliteValue.elem #[.agg #[.pointer (some ⟨9, 227, none⟩), .pointer (some a), .int .u64 150]]).run Tryz.prog W
   = .ok (.agg #[.pointer (some ⟨9,30,none⟩),.pointer (some p),.int .u64 386]) W:=by
 rw[rlm]
 simp only[Sem.run_bind,rl_partsPE,Result.andThen]
 simp[ReflectliteValue.elem,loadVar,isAgg,underlying,Tryz.underlying227,ha,Result.andThen,rl_elemOfPE,rl_mkE]
theorem rl_partsEa (a:Addr)(w:World):(ReflectliteValue.parts (.agg #[.pointer (some ⟨9,30,none⟩),.pointer (some a),.int .u64 386])).run Tryz.prog w=.ok (some (30,a,386)) w:=by kernel_rfl
theorem rl_partsE (a:Addr)(w:World):(ReflectliteValue.parts (.agg #[.pointer (some ⟨9,30,none⟩),.pointer (some a),.int .u64 130])).run Tryz.prog w=.ok (some (30,a,130)) w:=by kernel_rfl
theorem rl_directE (w:World):(Rtype.directlyAssignable 30 30).run Tryz.prog w=.ok true w:=by kernel_rfl
theorem rl_kindE (w:World):((ReflectliteType.abiMethod fun t=>(fun a:Nat=>Value.int IntKind.u8 (a:Int)) <$> Rtype.kind t) #[.pointer (some ⟨9,30,none⟩)]).run Tryz.prog w=.ok (.int .u8 2) w:=by kernel_rfl
theorem rl_valueOfE (c:Int)(w:World):(ReflectliteValue.unpack (.iface 30 (.int .i64 c))).run Tryz.prog w
  = .ok (.agg #[.pointer (some ⟨9,30,none⟩),.pointer (some ⟨w.heap.size,0,none⟩),.int .u64 130]) (w.alloc (.cells #[.int .i64 c] 30)):=by kernel_rfl
theorem rl_assignableWE (w : World) : (ReflectliteType.relation "AssignableTo" ReflectliteType.assignableTo #[.agg #[.pointer (some ⟨9, 222, none⟩)], .iface 301 (.agg #[.pointer (some ⟨9, 30, none⟩)])]).run Tryz.prog w = .ok (.bool false) w := by kernel_rfl
theorem rl_methodUnwrap (n : Nat) (v : Value) (w : World) : (Go.method (n + 1) 222 v "Unwrap").run Tryz.prog w = .ok (303, v) w := by kernel_rfl
theorem rl_assertAs (v:Value)(w:World):(Instr.typeAssert (.iface 222 v) 174 306 true).run Tryz.prog w=.ok (.tuple #[.nilIface,.bool false]) w:=run_typeAssert_lacksB Tryz.underlying306 (by kernel_rfl) (by kernel_rfl) v _ w
theorem rl_assertUn (v:Value)(w:World):(Instr.typeAssert (.iface 222 v) 174 309 true).run Tryz.prog w=.ok (.tuple #[.iface 222 v,.bool true]) w:=by kernel_rfl
theorem rl_setE (b c:Nat)(y:Int)(o1:Value)(W:World)(hb0:W.cell? ⟨c,0,none⟩=some (.int .i64 y))(h0:W.cell? ⟨b,0,none⟩=some o1)(f0:W.frozen? ⟨b,0,none⟩=false):
  (ReflectliteValue.set #[.agg #[.pointer (some ⟨9,30,none⟩),.pointer (some ⟨b,0,none⟩),.int .u64 386],.agg #[.pointer (some ⟨9,30,none⟩),.pointer (some ⟨c,0,none⟩),.int .u64 130]]).run Tryz.prog W
   = .ok (.tuple #[]) (W.setCell ⟨b,0,none⟩ (.int .i64 y)):=by
 rw[rls]
 simp only[Sem.run_bind,rl_partsEa,rl_partsE,Result.andThen]
 simp[ReflectliteValue.flagAddr,loadVar,isAgg,underlying,Tryz.underlying30,hb0,Result.andThen,rl_directE,storeVar,Value.cells,storeCells,Addr.add]
 rw[run_store Tryz.prog W ⟨b,0,none⟩ _ _ (by rfl)]
 simp[h0,f0]
theorem as_errno (b:Nat)(x y:Int)(w:World)(hG:w.cell? ⟨5,0,none⟩=some (.iface 301 (.agg #[.pointer (some ⟨9,174,none⟩)])))(hB:Blk w b [.int .i64 0]):
  Calls Tryz.prog 189 #[.iface 222 (.agg #[.int .i64 x,.int .i64 y]),.iface 227 (.pointer (some ⟨b,0,none⟩))] w fun e w'=>e=.returned (.bool true)∧Blk w' b [.int .i64 y]∧w.grownBy w' (some b):=by
 have e1:=@run_callFunc_extern Tryz.prog 240 _ (fun args=>ReflectliteValue.unpack (args.getD 0 (.tuple #[]))) Tryz.func240 (by kernel_rfl) (by kernel_rfl) (by kernel_rfl) (by kernel_rfl)
 have e2 := @run_callFunc_extern Tryz.prog 241 _ (ReflectliteValue.methodAny (ReflectliteValue.valueError "reflectlite.Value.Type" 0) (fun t _ _ _ => ReflectliteType.toType t)) Tryz.func241 (by kernel_rfl) (by kernel_rfl) (by kernel_rfl) (by kernel_rfl)
 have e3 := @run_callFunc_extern Tryz.prog 242 _ (ReflectliteValue.method (ReflectliteValue.valueError "reflectlite.Value.IsNil" 0) ReflectliteValue.isNil) Tryz.func242 (by kernel_rfl) (by kernel_rfl) (by kernel_rfl) (by kernel_rfl)
 have e4:=@run_callFunc_extern Tryz.prog 296 _ (ReflectliteType.abiMethod fun t=>do pure (.int .u8 (←Rtype.kind t))) Tryz.func296 (by kernel_rfl) (by kernel_rfl) (by kernel_rfl) (by kernel_rfl)
 have e5:=@run_callFunc_extern Tryz.prog 310 _ (ReflectliteType.method ReflectliteType.elem) Tryz.func310 (by kernel_rfl) (by kernel_rfl) (by kernel_rfl) (by kernel_rfl)
 have e6 := @run_callFunc_extern Tryz.prog 311 _ (ReflectliteType.relation "Implements" ReflectliteType.implements_) Tryz.func311 (by kernel_rfl) (by kernel_rfl) (by kernel_rfl) (by kernel_rfl)
 have e7:=@run_callFunc_extern Tryz.prog 272 _ ReflectliteType.typeOf Tryz.func272 (by kernel_rfl) (by kernel_rfl) (by kernel_rfl) (by kernel_rfl)
 have e8 := @run_callFunc_extern Tryz.prog 308 _ (ReflectliteType.relation "AssignableTo" ReflectliteType.assignableTo) Tryz.func308 (by kernel_rfl) (by kernel_rfl) (by kernel_rfl) (by kernel_rfl)
 have e9 := @run_callFunc_extern Tryz.prog 273 _ (ReflectliteValue.method (ReflectliteValue.valueError "reflectlite.Value.Elem" 0) ReflectliteValue.elem) Tryz.func273 (by kernel_rfl) (by kernel_rfl) (by kernel_rfl) (by kernel_rfl)
 have e10:=@run_callFunc_extern Tryz.prog 274 _ ReflectliteValue.set Tryz.func274 (by kernel_rfl) (by kernel_rfl) (by kernel_rfl) (by kernel_rfl)
 have m1:=rl_methodKind
 have m2:=rl_methodElem
 have m3:=rl_methodImplements
 have m4:=rl_methodAssignableTo
 have m5:=rl_methodUnwrap
 have q1:=rl_valueOfPE
 have q2:=rl_valueOfE
 have q3:=rl_typePE
 have q4:=rl_kindPE
 have q5:=rl_kindE
 have q6:=rl_elemPE
 have q7:=rl_implementsE
 have q8:=rl_typeOfW
 have q9:=rl_assignableWE
 have q10:=rl_typeOfE
 have q11:=rl_assignableE
 have q12:=rl_assertAs
 have q13:=rl_assertUn
 have hg0:=World.block_lt_of_cell? _ _ hG
 have hg0:5<w.heap.size:=hg0
 have hb0:=hB.sz
 let W1:=w.alloc (.cells #[.pointer (some ⟨b,0,none⟩)] 227)
 let W2:=W1.alloc (.cells #[.pointer (some ⟨9,227,none⟩),.pointer (some ⟨w.heap.size,0,none⟩),.int .u64 150] 271)
 let W3:=W2.alloc (.cells #[.pointer (some ⟨9,227,none⟩),.pointer (some ⟨w.heap.size,0,none⟩),.int .u64 150] 271)
 let W4:=W3.alloc (.cells #[.int .i64 x,.int .i64 y] 222)
 let W5:=W4.alloc (.cells #[.int .i64 y] 30)
 have K1:Blk W1 w.heap.size [.pointer (some ⟨b,0,none⟩)]:=Blk.new w _ _
 have K2:Blk W2 w.heap.size [.pointer (some ⟨b,0,none⟩)]:=K1.alloc _
 have K3:Blk W4 w.heap.size [.pointer (some ⟨b,0,none⟩)]:=(K2.alloc _).alloc _
 have K5:Blk W5 (w.heap.size+1+1+1+1) [.int .i64 y]:=by have:=Blk.new W4 [.int .i64 y] 30;simpa [W4,W3,W2,W1] using this
 have T5:Blk W5 b [.int .i64 0]:=((((hB.alloc _).alloc _).alloc _).alloc _).alloc _
 have n8:=rl_isNilPE ⟨w.heap.size,0,none⟩ ⟨b,0,none⟩ W2 (K2.cell 0 _ rfl)
 have el:=rl_elemVPE ⟨w.heap.size,0,none⟩ ⟨b,0,none⟩ W4 (K3.cell 0 _ rfl)
 have st:=rl_setE b (w.heap.size+1+1+1+1) y _ W5 (K5.cell 0 _ rfl) (T5.cell 0 _ rfl) (T5.free 0 (by simp))
 have hg2:W2.cell? ⟨5,0,none⟩=some (.iface 301 (.agg #[.pointer (some ⟨9,174,none⟩)])):=by
  show((w.alloc _).alloc _).cell? _=_
  rw[World.cell?_alloc_lt _ _ ⟨5,0,none⟩ (by simp;omega),World.cell?_alloc_lt _ _ ⟨5,0,none⟩ hg0];exact hG
 have FIN:Hid (Blk (W5.setCell ⟨b,0,none⟩ (.int .i64 y)) b [.int .i64 y]):=T5.set 0 (by simp) _
 have GRW:Hid (w.grownBy (W5.setCell ⟨b,0,none⟩ (.int .i64 y)) (some b)):=by
  have hb5:Below w.heap.size w W5:=((((bR.alloc lr _).alloc (by simp) _).alloc (by simp;omega) _).alloc (by simp;omega) _).alloc (by simp;omega) _
  have g5:w.grownBy W5 (some b):=⟨hb5.os,hb5.tape,hb5.output,hb5.size,fun i hi _=>hb5.block i hi⟩
  exact only_setCell g5 (.inl rfl) _
 simp only[W5,W4,W3,W2,W1] at n8 el st hg2 FIN GRW
 clear K1 K2 K3 K5 T5 hB
 clear W5 W4 W3 W2 W1
 go_enter Tryz.func189,Tryz.ntmps189
 go_wp2
 refine wp_loop_rounds 2 ?_
 rw[rounds_succ]
 go_wp2
 rw[rounds_succ]
 go_wp2
 go_ret
 exact⟨rfl,FIN.out,GRW.out⟩
end
end Go.Proofs.YtdfdllbebfoggaaGreatDoor
