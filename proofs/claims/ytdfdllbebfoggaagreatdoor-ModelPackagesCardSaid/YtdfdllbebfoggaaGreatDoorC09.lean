/- A part of the proof that ModelPackages holds. No condition. -/
import Derived.LaidEql
import Derived.Lib.DecodeN
import Derived.Lib.IndexAny
import Derived.Lib.OthersKept
import Derived.RowKitTokens
import Derived.Shelf.Strings.SlTrimAscii
import Derived.Stop.Asserts
import Derived.WalkMore
import Derived.WalkSmall
import Derived.Test.YtdfdllbebfoggaaGreatDoorC02
import Derived.Test.YtdfdllbebfoggaaGreatDoorC03
import Derived.Test.YtdfdllbebfoggaaGreatDoorC05
set_option maxRecDepth 100000
set_option maxHeartbeats 20000000
set_option linter.unusedVariables false
set_option linter.unusedSimpArgs false
namespace Go.Proofs.YtdfdllbebfoggaaGreatDoor
section
open Go.RowKit
structure Pc where
 kind:Int
 text:List UInt8
 word:Int
def Pc.cells (x:Pc):List Value:=[.int .i64 x.kind,.string ⟨x.text.toArray⟩,.int .i64 x.word]
theorem pc_len (x:Pc):x.cells.length=3:=rfl
def aWords:List (List UInt8):=[[97,108,112,104,97],[98,101,116,97],[112,114,101],[114,99],[99,118,115],[115,118,110],[103,105,116],[104,103],[112]]
def ixOf:List (List UInt8)→List UInt8→Option Nat
 | [],_=>none
 | a::r,x=>if a=x then some 0 else (ixOf r x).map (· + 1)
def wordIx (l:List UInt8):Option Nat:=ixOf aWords l
def numsA:Nat→Int→List Pc→List UInt8→Option (List Pc×List UInt8)
 | 0,_,_,_=>none
 | k+1,kind,acc,l=>if runN digB l=0 then none else match l.drop (runN digB l) with
  | 46::r=>numsA k 6 (acc++[⟨kind,l.take (runN digB l),0⟩]) r
  | r=>some (acc++[⟨kind,l.take (runN digB l),0⟩],r)
def lettA (acc:List Pc)(l:List UInt8):List Pc×List UInt8:=match l with
 | c::r=>if smlB c=true then (acc++[⟨5,[c],0⟩],r) else (acc,l)
 | []=>(acc,[])
def sufsA:Nat→List Pc→List UInt8→Option (List Pc×List UInt8)
 | 0,_,_=>none
 | k+1,acc,l=>match l with
  | 95::r=>match wordIx (r.take (runN smlB r)) with
   | none=>none
   | some wd=>sufsA k (acc++[⟨if 4≤wd then 4 else 0,r.take (runN smlB r),wd⟩]++(if 0<runN digB (r.drop (runN smlB r)) then [⟨3,(r.drop (runN smlB r)).take (runN digB (r.drop (runN smlB r))),0⟩] else [])) ((r.drop (runN smlB r)).drop (runN digB (r.drop (runN smlB r))))
  | l=>some (acc,l)
def endA (l:List UInt8)(acc:List Pc)(r:List UInt8):Option (List Pc×List UInt8×List UInt8):=match r with
 | []=>some (acc++[⟨1,[],0⟩],l,[])
 | 45::114::t=>if numB t=true then some (acc++[⟨2,t,0⟩]++[⟨1,[],0⟩],l.take (l.length-r.length),t) else none
 | _=>none
def apkA (l:List UInt8):Option (List Pc×List UInt8×List UInt8):=match numsA (l.length+1) 7 [] l with
 | none=>none
 | some (a,r)=>match sufsA ((lettA a r).2.length+1) (lettA a r).1 (lettA a r).2 with
  | none=>none
  | some (b,t)=>endA l b t
structure PSt (w wr:World) (ps:List Pc) (r:ByteArray):Prop where
 lcell:∃ A c,wr.cell? ⟨w.heap.size,0,none⟩=some (.slice A ps.length c)∧wr.ownsRow (w.heap.size+2) 144 3 (.slice A ps.length c) ps.length (ps.flatMap Pc.cells)
 lfree:wr.frozen? ⟨w.heap.size,0,none⟩=false
 rcell:wr.cell? ⟨w.heap.size+1,0,none⟩=some (.string r)
 rfree:wr.frozen? ⟨w.heap.size+1,0,none⟩=false
 bel:Below w.heap.size w wr
 sz:w.heap.size+2≤wr.heap.size
theorem info_piece:(Tryz.prog.info? 144).map (fun i=>(i.zero,i.size,i.bytes))=some (some (.agg #[.int .i64 0,.string ⟨#[]⟩,.int .i64 0]),3,32):=by kernel_rfl
theorem reads_new3 (w:World)(t:TypeId)(x y z:Value):Reads (w.alloc (.cells #[x,y,z] t)).drew (w.heap.size+1) 3 (some ⟨w.heap.size,0,none⟩) 1 [x,y,z]:=by
 refine⟨rfl,fun _=>⟨_,rfl,by simp,fun j u hu=>?_⟩⟩
 match j,hu with
 | 0,hu=>simp at hu;subst hu;simp[Addr.add]
 | 1,hu=>simp at hu;subst hu;simp[Addr.add]
 | 2,hu=>simp at hu;subst hu;simp[Addr.add]
 | j+3,hu=>simp at hu
theorem PSt.setRest {w wr:World}{ps:List Pc}{r:ByteArray}(h:PSt w wr ps r)(t:ByteArray):PSt w (wr.setCell ⟨w.heap.size+1,0,none⟩ (.string t)) ps t:=by
 obtain⟨⟨A,c,h1,h2⟩,h3,h4,h5,h6,h7⟩:=h
 have hg:wr.grownBy (wr.setCell ⟨w.heap.size+1,0,none⟩ (.string t)) (some (w.heap.size+1)):=only_setCell (World.grownBy.refl wr (some (w.heap.size+1))) (.inl rfl) _
 refine⟨⟨A,c,hg.cell h1 (by simp),h2.kept hg ?_⟩,?_,?_,?_,h6.grown hg h6.size (fun j hj=>by injection hj with hj;omega),Nat.le_trans h7 hg.size⟩
 ·cases hq:(Value.slice A ps.length c).ownBlock with
  | none=>exact .inl rfl
  | some q=>right;intro he;injection he with he;have:=(h2.lt q hq).1;omega
 ·rw[World.frozen?_setCell];exact h3
 ·exact World.cell?_setCell_same' _ _ _ (by rw[h4];rfl)
 ·rw[World.frozen?_setCell];exact h5
theorem pieces_take (w:World)(kind:Int)(n:Nat)(ps:List Pc)(r:ByteArray)(wr:World)(hn:n≤r.size)(hr:r.size≤64)(hps:ps.length≤1000)(hP:PSt w wr ps r):
  Calls Tryz.prog 117 #[.int .i64 kind,.int .i64 n,.pointer (some ⟨w.heap.size,0,none⟩),.pointer (some ⟨w.heap.size+1,0,none⟩)] wr fun e w'=>e=.returned (.tuple #[])∧PSt w w' (ps++[⟨kind,(bl r).take n,0⟩]) (r.extract n r.size):=by
 obtain⟨i0,hi0,hz0,hz1,hz2⟩:=info_parts info_piece
 obtain⟨⟨A,c,h1,h2⟩,h3,h4,h5,h6,h7⟩:=hP
 have HO:=hid h2;have HB:=hid h6
 clear h2 h6
 have NL:Hid (some w.heap.size≠(Value.slice A ps.length c).ownBlock):=by intro he;have:=(HO.out.lt _ he.symm).1;omega
 have NR:Hid (some (w.heap.size+1)≠(Value.slice A ps.length c).ownBlock):=by intro he;have:=(HO.out.lt _ he.symm).1;omega
 have i1:(n:Int)≤(r.size:Int):=by omega
 have hl0:w.heap.size<wr.heap.size:=by omega
 have hl1:w.heap.size+1<wr.heap.size:=by omega
 go_enter Tryz.func117,Tryz.ntmps117
 go_wp2_with fail
 have hn3:¬ w.heap.size=wr.heap.size:=by omega
 have hn4:¬ w.heap.size+1=wr.heap.size:=by omega
 have CL:Hid ((wr.alloc (.cells #[.int .i64 kind,.string (r.extract 0 n),.int .i64 0] 144)).drew.cell? ⟨w.heap.size,0,none⟩=some (.slice A ps.length c)):=(World.cell?_alloc_lt wr _ ⟨w.heap.size,0,none⟩ hl0).trans h1
 have FL:Hid ((wr.alloc (.cells #[.int .i64 kind,.string (r.extract 0 n),.int .i64 0] 144)).drew.frozen? ⟨w.heap.size,0,none⟩=false):=(((Below.refl _ _).alloc lr _).frozen (p:=⟨w.heap.size,0,none⟩) hl0).trans h3
 have CR:Hid ((wr.alloc (.cells #[.int .i64 kind,.string (r.extract 0 n),.int .i64 0] 144)).drew.cell? ⟨w.heap.size+1,0,none⟩=some (.string r)):=(World.cell?_alloc_lt wr _ ⟨w.heap.size+1,0,none⟩ hl1).trans h4
 have FR:Hid ((wr.alloc (.cells #[.int .i64 kind,.string (r.extract 0 n),.int .i64 0] 144)).drew.frozen? ⟨w.heap.size+1,0,none⟩=false):=(((Below.refl _ _).alloc lr _).frozen (p:=⟨w.heap.size+1,0,none⟩) hl1).trans h5
 go_region_law
  ((refine step_append_any _ (by rfl) _ _ _ (by rfl) (w.heap.size+2) 144 i0 _ 3 32 Tryz.underlying110 hi0 hz0 hz1 hz2 rfl (by omega) (.slice A ps.length c) ps.length _ (by rfl) ((HO.out.alloc _).drew)
     (wr.heap.size+1) (some ⟨wr.heap.size,0,none⟩) 1 1 [.int .i64 kind,.string (r.extract 0 n),.int .i64 0] (by rfl) (reads_new3 wr _ _ _ _) (by simp[Value.oneCell']) (by unfold maxLen;omega) (by omega) (by simp;omega) ?_
    intro v1 w2 o2 g2 a2
    obtain⟨A1,c1,rfl⟩:=owns_form o2
    have cl2:w2.cell? ⟨w.heap.size,0,none⟩=some (.slice A ps.length c):=g2.cell CL.out NL.out
    have fl2:w2.frozen? ⟨w.heap.size,0,none⟩=false:=(World.frozen?_of_block (a:=⟨w.heap.size,0,none⟩) (g2.block w.heap.size (by simp;omega) NL.out)).trans FL.out
    have cr2:w2.cell? ⟨w.heap.size+1,0,none⟩=some (.string r):=g2.cell CR.out NR.out
    have fr2:w2.frozen? ⟨w.heap.size+1,0,none⟩=false:=(World.frozen?_of_block (a:=⟨w.heap.size+1,0,none⟩) (g2.block (w.heap.size+1) (by simp;omega) NR.out)).trans FR.out))
 all_goals
  go_wp2_with fail
  have P1:PSt w (w2.setCell ⟨w.heap.size,0,none⟩ (.slice A1 (ps.length+1) c1)) (ps++[⟨kind,(bl r).take n,0⟩]) r:=by
   have hg:w2.grownBy (w2.setCell ⟨w.heap.size,0,none⟩ (.slice A1 (ps.length+1) c1)) (some w.heap.size):=only_setCell (World.grownBy.refl w2 (some w.heap.size)) (.inl rfl) _
   have e1:(ps++[(⟨kind,(bl r).take n,0⟩:Pc)]).length=ps.length+1:=by simp
   have e2:(ps++[(⟨kind,(bl r).take n,0⟩:Pc)]).flatMap Pc.cells=ps.flatMap Pc.cells++[.int .i64 kind,.string (r.extract 0 n),.int .i64 0]:=by
    rw[List.flatMap_append]
    congr 1
    simp only[List.flatMap_cons,List.flatMap_nil,List.append_nil,Pc.cells]
    rw[show(⟨((bl r).take n).toArray⟩:ByteArray)=r.extract 0 n from by apply bl_inj;rw[bl_mk,bl_take]]
   have b2:Below w.heap.size w w2:=(below_drewN (HB.out.alloc HB.out.size _) 1).grown g2 (by simp;omega) (fun j hj=>by have:=(HO.out.lt j hj).1;omega)
   refine⟨⟨A1,c1,by rw[e1];exact World.cell?_setCell_same' _ _ _ (by rw[cl2];rfl),?_⟩,by rw[World.frozen?_setCell];exact fl2,hg.cell cr2 (by simp),by rw[World.frozen?_setCell];exact fr2,b2.grown hg b2.size (fun j hj=>by injection hj with hj;omega),?_⟩
   ·rw[e1,e2]
    refine o2.kept hg ?_
    cases hq:(Value.slice A1 (ps.length+1) c1).ownBlock with
    | none=>exact .inl rfl
    | some q=>right;intro he;injection he with he;have:=(o2.lt q hq).1;omega
   ·have z1:=g2.size;have z2:=hg.size;simp at z1;omega
  go_end0
  exact⟨rfl,P1.setRest _⟩
end
section
open Go.RowKit Go.Extern.Stop Go.Stop Go.Extern
theorem rl_valueOfPW (t:Addr)(w:World):(ReflectliteValue.unpack (.iface 226 (.pointer (some t)))).run Tryz.prog w
  = .ok (.agg #[.pointer (some ⟨9,226,none⟩),.pointer (some ⟨w.heap.size,0,none⟩),.int .u64 150]) (w.alloc (.cells #[.pointer (some t)] 226)):=by kernel_rfl
theorem rl_valueOfW (a c:Int)(w:World):(ReflectliteValue.unpack (.iface 222 (.agg #[.int .i64 a,.int .i64 c]))).run Tryz.prog w
  = .ok (.agg #[.pointer (some ⟨9,222,none⟩),.pointer (some ⟨w.heap.size,0,none⟩),.int .u64 153]) (w.alloc (.cells #[.int .i64 a,.int .i64 c] 222)):=by kernel_rfl
theorem rl_typePW (a : Addr) (w : World) : (ReflectliteValue.methodAny (ReflectliteValue.valueError "reflectlite.Value.Type" 0) (fun t _ _ _ => ReflectliteType.toType t) #[.agg #[.pointer (some ⟨9, 226, none⟩), .pointer (some a), .int .u64 150]]).run Tryz.prog w
  = .ok (.iface 301 (.agg #[.pointer (some ⟨9,226,none⟩)])) w:=by kernel_rfl
theorem rl_methodKind (n : Nat) (h : Value) (w : World) : (Go.method (n + 1) 301 (.agg #[h]) "Kind").run Tryz.prog w = .ok (296, h) w := by kernel_rfl
theorem rl_methodElem (n : Nat) (h : Value) (w : World) : (Go.method (n + 1) 301 (.agg #[h]) "Elem").run Tryz.prog w = .ok (310, .agg #[h]) w := by kernel_rfl
theorem rl_methodImplements (n : Nat) (h : Value) (w : World) : (Go.method (n + 1) 301 (.agg #[h]) "Implements").run Tryz.prog w = .ok (311, .agg #[h]) w := by kernel_rfl
theorem rl_methodAssignableTo (n : Nat) (h : Value) (w : World) : (Go.method (n + 1) 301 (.agg #[h]) "AssignableTo").run Tryz.prog w = .ok (308, .agg #[h]) w := by kernel_rfl
theorem rl_kindPW (w:World):((ReflectliteType.abiMethod fun t=>(fun a:Nat=>Value.int IntKind.u8 (a:Int)) <$> Rtype.kind t) #[.pointer (some ⟨9,226,none⟩)]).run Tryz.prog w=.ok (.int .u8 22) w:=by kernel_rfl
theorem rl_kindW (w:World):((ReflectliteType.abiMethod fun t=>(fun a:Nat=>Value.int IntKind.u8 (a:Int)) <$> Rtype.kind t) #[.pointer (some ⟨9,222,none⟩)]).run Tryz.prog w=.ok (.int .u8 25) w:=by kernel_rfl
theorem rl_elemPW (w:World):(ReflectliteType.method ReflectliteType.elem #[.agg #[.pointer (some ⟨9,226,none⟩)]]).run Tryz.prog w=.ok (.iface 301 (.agg #[.pointer (some ⟨9,222,none⟩)])) w:=by kernel_rfl
theorem rl_implementsW (w : World) : (ReflectliteType.relation "Implements" ReflectliteType.implements_ #[.agg #[.pointer (some ⟨9, 222, none⟩)], .iface 301 (.agg #[.pointer (some ⟨9, 174, none⟩)])]).run Tryz.prog w = .ok (.bool true) w := by kernel_rfl
theorem rl_typeOfW (v:Value)(w:World):(ReflectliteType.typeOf #[.iface 222 v]).run Tryz.prog w=.ok (.iface 301 (.agg #[.pointer (some ⟨9,222,none⟩)])) w:=by kernel_rfl
theorem rl_assignableW (w : World) : (ReflectliteType.relation "AssignableTo" ReflectliteType.assignableTo #[.agg #[.pointer (some ⟨9, 222, none⟩)], .iface 301 (.agg #[.pointer (some ⟨9, 222, none⟩)])]).run Tryz.prog w = .ok (.bool true) w := by kernel_rfl
theorem rlm (z:Sem Value)(f:TypeId→Addr→Nat→Nat→Sem Value)(v:Value):
  ReflectliteValue.method z f #[v]=(do match ←ReflectliteValue.parts v with | none=>z | some (t,a,fl)=>f t a fl (fl % 32)):=rfl
theorem rl_partsPW (a:Addr)(w:World):(ReflectliteValue.parts (.agg #[.pointer (some ⟨9,226,none⟩),.pointer (some a),.int .u64 150])).run Tryz.prog w=.ok (some (226,a,150)) w:=by kernel_rfl
theorem rl_isNilPW (a p:Addr)(W:World)(ha:W.cell? a=some (.pointer (some p))):
  (ReflectliteValue.method (ReflectliteValue.valueError "reflectlite.Value.IsNil" 0) ReflectliteValue.isNil #[.agg #[.pointer (some ⟨9, 226, none⟩), .pointer (some a), .int .u64 150]]).run Tryz.prog W = .ok (.bool false) W := by
 rw[rlm]
 simp only[Sem.run_bind,rl_partsPW,Result.andThen]
 simp[ReflectliteValue.isNil,loadVar,isAgg,underlying,Tryz.underlying226,ha,Result.andThen]
theorem rl_elemOfPW (w:World):(Rtype.elem? 226).run Tryz.prog w=.ok (some 222) w:=by kernel_rfl
theorem rl_mkW (p:Addr)(w:World):(ReflectliteValue.mk 222 p ReflectliteValue.flagAddr).run Tryz.prog w=.ok (.agg #[.pointer (some ⟨9,222,none⟩),.pointer (some p),.int .u64 409]) w:=by kernel_rfl
theorem rl_elemVPW (a p:Addr)(W:World)(ha:W.cell? a=some (.pointer (some p))):
  (ReflectliteValue.method (ReflectliteValue.valueError "reflectlite.Value.Elem" 0) ReflectliteValue.elem #[.agg #[.pointer (some ⟨9, 226, none⟩), .pointer (some a), .int .u64 150]]).run Tryz.prog W
   = .ok (.agg #[.pointer (some ⟨9,222,none⟩),.pointer (some p),.int .u64 409]) W:=by
 rw[rlm]
 simp only[Sem.run_bind,rl_partsPW,Result.andThen]
 simp[ReflectliteValue.elem,loadVar,isAgg,underlying,Tryz.underlying226,ha,Result.andThen,rl_elemOfPW,rl_mkW]
theorem rls (v x:Value):ReflectliteValue.set #[v,x]=(do
  let(some (dst,a,fl),some (src,b,_)):=(←ReflectliteValue.parts v,←ReflectliteValue.parts x)
   | unsupported (.noEntry "extern/(internal/reflectlite.Value).Set.zeroValue")
  if fl / ReflectliteValue.flagAddr % 2 == 0 then unsupported (.noEntry "extern/(internal/reflectlite.Value).Set.unaddressable")
  let val ←loadVar src b
  if ←Rtype.directlyAssignable dst src then storeVar dst a val
  else if ←Rtype.implements dst src then
   if (←Rtype.kind src)==20 then
    match val with
    | .nilIface => unsupported (.noEntry "extern/reflectlite: a nil value of one interface type handed on as a value of another")
    | _=>storeVar dst a val
   else storeVar dst a (.iface src val)
  else panicString ("reflectlite.Set: value of type " ++ (← Rtype.spelt src) ++ " is not assignable to type " ++ (← Rtype.spelt dst))
  pure (.tuple #[])):=rfl
theorem rl_partsWa (a:Addr)(w:World):(ReflectliteValue.parts (.agg #[.pointer (some ⟨9,222,none⟩),.pointer (some a),.int .u64 409])).run Tryz.prog w=.ok (some (222,a,409)) w:=by kernel_rfl
theorem rl_partsW (a:Addr)(w:World):(ReflectliteValue.parts (.agg #[.pointer (some ⟨9,222,none⟩),.pointer (some a),.int .u64 153])).run Tryz.prog w=.ok (some (222,a,153)) w:=by kernel_rfl
theorem rl_directW (w:World):(Rtype.directlyAssignable 222 222).run Tryz.prog w=.ok true w:=by kernel_rfl
theorem rl_setW (b c:Nat)(x y:Int)(o1 o2:Value)(W:World)(hb0:W.cell? ⟨c,0,none⟩=some (.int .i64 x))(hb1:W.cell? ⟨c,1,none⟩=some (.int .i64 y))(h0:W.cell? ⟨b,0,none⟩=some o1)(h1:W.cell? ⟨b,1,none⟩=some o2)(f0:W.frozen? ⟨b,0,none⟩=false)(f1:W.frozen? ⟨b,1,none⟩=false):
  (ReflectliteValue.set #[.agg #[.pointer (some ⟨9,222,none⟩),.pointer (some ⟨b,0,none⟩),.int .u64 409],.agg #[.pointer (some ⟨9,222,none⟩),.pointer (some ⟨c,0,none⟩),.int .u64 153]]).run Tryz.prog W
   = .ok (.tuple #[]) ((W.setCell ⟨b,0,none⟩ (.int .i64 x)).setCell ⟨b,1,none⟩ (.int .i64 y)):=by
 have hl:(loadCells ⟨c,0,none⟩ 2).run Tryz.prog W=.ok #[.int .i64 x,.int .i64 y] W:=by
  refine run_loadCells_list _ ⟨c,0,none⟩ [.int .i64 x,.int .i64 y] (fun j v hj=>?_)
  match j,hj with
  | 0,hj=>simp at hj;subst hj;simpa [Addr.add] using hb0
  | 1,hj=>simp at hj;subst hj;simpa [Addr.add] using hb1
  | j+2,hj=>simp at hj
 have h1':(W.setCell ⟨b,0,none⟩ (.int .i64 x)).cell? ⟨b,1,none⟩=some o2:=by
  rw[World.cell?_setCell_other (h:=by intro h;injection h with _ h;omega)];exact h1
 rw[rls]
 simp only[Sem.run_bind,rl_partsWa,rl_partsW,Result.andThen]
 simp[ReflectliteValue.flagAddr,loadVar,isAgg,underlying,Tryz.underlying222,hl,Result.andThen,rl_directW,storeVar,Value.cells,storeCells,Addr.add]
 rw[run_store Tryz.prog W ⟨b,0,none⟩ _ _ (by rfl)]
 simp only[h0,f0,Bool.false_eq_true,if_false]
 rw[run_store Tryz.prog _ ⟨b,1,none⟩ _ _ (by rfl)]
 simp[h1',f1]
def GlE (w:World):Prop:=Gl w∧w.cell? ⟨5,0,none⟩=some (.iface 301 (.agg #[.pointer (some ⟨9,174,none⟩)]))
theorem GlE.below {w w':World}(h:GlE w)(hb:Below w.heap.size w w'):GlE w':=⟨h.1.below hb,(hb.cell (World.block_lt_of_cell? _ _ h.2)).trans h.2⟩
end
end Go.Proofs.YtdfdllbebfoggaaGreatDoor
