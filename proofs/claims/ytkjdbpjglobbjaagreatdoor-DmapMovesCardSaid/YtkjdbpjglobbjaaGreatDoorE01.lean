/- A part of the proof of a law on dependencies in three formats. No condition. -/
import Derived.Deep.Fields
import Derived.Deep.Slices
import Derived.Test.YtkjdbpjglobbjaaGreatDoorE00
set_option maxRecDepth 100000
set_option maxHeartbeats 20000000
set_option linter.unusedVariables false
set_option linter.unusedSimpArgs false
namespace Go.Proofs.YtkjdbpjglobbjaaGreatDoor
section
open Go.RowKit
theorem ai (s:BA):s.toList=bl s:=ByteArray.toList_eq s
theorem aL (s:BA):(bl s).isEmpty=decide (s.size=0):=by
 rw[bI,List.isEmpty_iff,←List.length_eq_zero_iff,af];simp
theorem am {a b:Bool}(h:a=b):Ending.returned (.bool a)=.returned (.bool b):=by rw[h]
theorem az {k:IntKind}{a b:Int}(h:a=b):Ending.returned (.int k a)=.returned (.int k b):=by rw[h]
end
def aD (c:UInt8):Bool:=decide (48≤c.toNat∧c.toNat≤57)
def be (c:UInt8):Bool:=decide (97≤c.toNat∧c.toNat≤122)
def zw (c:UInt8):Bool:=decide (65≤c.toNat∧c.toNat≤90)
def cD (c:UInt8):Bool:=be c||zw c
def gU (c:UInt8):Bool:=be c||aD c
def kZ:LU→Bool
 | []=>false
 | c::_=>gU c
def il (others l:LU):Bool:=(l.all fun c=>gU c||others.contains c)&&kZ l
def bo (l:LU):Bool:=decide (2≤l.length)&&decide (l.length≤64)&&il [43,46,45] l
def eD (l:LU):Bool:=decide (l.length≤32)&&il [45] l
theorem dZ (s:BA)(h:0<s.size):bl s=s[0]::(bl s).tail:=by
 have h2:0<(bl s).length:=by rw[af];exact h
 rw[←gL s 0 h,←List.drop_one,←List.drop_eq_getElem_cons h2,List.drop_zero]
theorem bj (s:BA)(h:s.size=0):bl s=[]:=by
 apply List.eq_nil_of_length_eq_zero;rw[af];exact h
theorem ni (s:BA)(h:0<s.size):kZ (bl s)=gU s[0]:=by rw[dZ s h];rfl
theorem Ct (s:BA)(h:s.size=0):kZ (bl s)=false:=by rw[bj s h];rfl
theorem aX (s:BA)(k:Nat):bl (s.extract k s.size)=(bl s).drop k:=by
 rw[kv];apply tL;rw[List.length_drop,af];omega
theorem Cu (s:BA)(k:Nat)(h:k<s.size):kZ (bl (s.extract k s.size))=gU s[k]:=by
 rw[aX,List.drop_eq_getElem_cons (by rw[af];exact h),gL s k h];rfl
theorem pQ (o:LU)(s:BA)(k:Nat)(h:k<s.size)(h0:((bl s).take k).all (fun c=>gU c||o.contains c)=true)(h1:(gU s[k]||o.contains s[k])=true):
  ((bl s).take (k+1)).all (fun c=>gU c||o.contains c)=true:=by rw[di s k h,h0,h1];rfl
theorem Al (o:LU)(s:BA)(k:Nat)(h:k<s.size)(h1:gU s[k]=false)(h2:o.contains s[k]=false):il o (bl s)=false:=by
 unfold il;rw[jX s k h (by rw[h1,h2];rfl)];rfl
theorem vH (o:LU)(s:BA)(k:Nat)(h:¬ k<s.size)(h0:((bl s).take k).all (fun c=>gU c||o.contains c)=true):il o (bl s)=kZ (bl s):=by
 unfold il;rw[eP s k (by omega)] at h0;rw[h0];rfl
section
open Go.RowKit
theorem ah {w w1 w2:World}(h1:Below w.heap.size w w1)(h2:Below w1.heap.size w1 w2):Below w.heap.size w w2:=h1.trans (h2.mono h1.size)
theorem fZ (s t:BA):(s.toList==t.toList)=decide (s=t):=by
 rw[ai,ai,bI];simp;exact⟨dp,fun h=>by rw[h]⟩
theorem Rd.reads {w:World}{sz n:Nat}{A:Option Addr}{xs:List Value}(h:Rd w sz A n xs)(hsz:0<sz):jQ w w.heap.size sz A n xs:=by
 refine⟨h.1,fun hn=>?_⟩
 obtain⟨b,off,e,hc⟩:=h.2 hn
 have hl:0<xs.length:=by rw[h.1];exact Nat.mul_pos hn hsz
 have h0:=hc 0 _ (gG hl)
 refine⟨_,e,World.block_lt_of_cell? _ _ h0,fun j u hu=>?_⟩
 have:=hc j u hu
 unfold Addr.add
 split
 ·rename_i h;subst h;exact this
 ·exact this
theorem qV:(Tryz.prog.info? 9).map (fun i=>(i.zero,i.size,i.bytes))=some (some (.string ⟨#[]⟩),1,16):=by kernel_rfl
theorem ew {a w:World}{row:Option Nat}(h:a.grownBy w row)(n:Nat):a.grownBy (w.drewN n) row:=⟨h.os,h.tape,h.output,h.size,h.block⟩
theorem vK {a w:World}{row:Option Nat}(h:a.grownBy w row)(o:Obj):a.grownBy (w.alloc o) row:=
 ⟨h.os,h.tape,h.output,Nat.le_trans h.size (by simp),fun i hi hne=>(Below.heap_alloc w o i (Nat.lt_of_lt_of_le hi h.size)).trans (h.block i hi hne)⟩
theorem aU {a w:World}{g:Nat}(h:a.grownBy w (some g)){p:Addr}(hp:p.block=g∨a.heap.size≤p.block)(u:Value):a.grownBy (w.setCell p u) (some g):=
 ⟨h.os,h.tape,h.output,by simpa [World.setCell] using h.size,fun i hi hne=>(Below.heap_setCell w p u i (by
  rintro rfl
  rcases hp with hp | hp
  ·exact hne (by rw[hp])
  ·omega)).trans (h.block i hi hne)⟩
theorem ip {a w w':World}{row:Option Nat}(h:a.grownBy w row)(hb:Below w.heap.size w w'):a.grownBy w' row:=
 ⟨hb.os.trans h.os,hb.tape.trans h.tape,hb.output.trans h.output,Nat.le_trans h.size hb.size,fun i hi hn=>(hb.block i (Nat.lt_of_lt_of_le hi h.size)).trans (h.block i hi hn)⟩
theorem aR {w w':World}{base:Nat}{e:TypeId}{size n:Nat}{v:Value}{xs:List Value}(h:w.ownsRow base e size v n xs)(hb:Below w.heap.size w w'):w'.ownsRow base e size v n xs:=by
 refine⟨h.1,?_⟩
 rcases h.2 with h0 | ⟨g,cap,cur,hv,hg,hh,h1,h2,h3,h4⟩
 ·exact .inl h0
 ·exact .inr ⟨g,cap,cur,hv,hg,(hb.block g (Array.getElem?_eq_some_iff.1 hh).1).trans hh,h1,h2,h3,h4⟩
theorem aG {w:World}{base:Nat}{e:TypeId}{size n:Nat}{v:Value}{xs:List Value}(h:w.ownsRow base e size v n xs):∃ A c,v=.slice A n c:=by
 rcases h.2 with⟨rfl,rfl⟩ | ⟨g,cap,cur,hv,_⟩
 ·exact⟨none,0,rfl⟩
 ·exact⟨_,_,hv⟩
theorem cN {w:World}{base base':Nat}{e:TypeId}{size n:Nat}{v:Value}{xs:List Value}(h:w.ownsRow base e size v n xs)(hb:base'≤base):w.ownsRow base' e size v n xs:=by
 refine⟨h.1,?_⟩
 rcases h.2 with h0 | ⟨g,cap,cur,hv,hg,r⟩
 ·exact .inl h0
 ·exact .inr ⟨g,cap,cur,hv,Nat.le_trans hb hg,r⟩
theorem bA {w:World}{base:Nat}{e:TypeId}{size n c:Nat}{A:Option Addr}{xs:List Value}(h:w.ownsRow base e size (.slice A n c) n xs):Rd w size A n xs:=by
 refine⟨h.1,fun hn=>?_⟩
 obtain⟨g,cap,hv,_,hlt⟩:=h.form hn
 have hA:A=some ⟨g,0,none⟩:=by injection hv
 subst hA
 refine⟨g,0,rfl,fun j u hu=>?_⟩
 have:=h.cells (g:=g) rfl j u hu
 unfold Addr.add at this
 rw[Nat.zero_add]
 split at this
 ·rename_i h0;subst h0;exact this
 ·simpa using this
theorem dh {w w':World}{lo g:Nat}{e:TypeId}{size n:Nat}{v:Value}{xs:List Value}(h:w.ownsRow lo e size v n xs)(hlo:g<lo)(hg:w.grownBy w' (some g)):w'.ownsRow lo e size v n xs:=by
 refine h.kept hg ?_
 cases hb:v.ownBlock with
 | none=>exact .inl rfl
 | some k=>right;intro he;have:=(h.lt k hb).1;injection he with he;omega
theorem ap {a b c:World}{row:Option Nat}(h:a.grownBy b row)(k:b.grownBy c row):a.grownBy c row:=
 ⟨k.os.trans h.os,k.tape.trans h.tape,k.output.trans h.output,Nat.le_trans h.size k.size,fun i hi hn=>(k.block i (Nat.lt_of_lt_of_le hi h.size) hn).trans (h.block i hi hn)⟩
theorem gd {w a b:World}{g:Nat}(h:Below w.heap.size w a)(k:a.grownBy b (some g))(hg:w.heap.size≤g):Below w.heap.size w b:=
 h.grown k h.size (fun j hj=>by injection hj with hj;omega)
theorem EC (l:List BA):(l.map bl).map (fun p=>(⟨p.toArray⟩:BA))=l:=by
 rw[List.map_map];conv=>rhs;rw[←List.map_id l]
 apply List.map_congr_left;intro a _;apply dp;simp[bl]
theorem Ar (w:World)(s:BA):jQ (w.alloc (.cells #[.string s] 9)) (w.heap.size+1) 1 (some ⟨w.heap.size,0,none⟩) 1 [.string s]:=by
 refine⟨rfl,fun _=>⟨_,rfl,by simp,fun j u hu=>?_⟩⟩
 cases j with
 | zero=>simp at hu;subst hu;simp[Addr.add]
 | succ j=>simp at hu
end
section
open Go.RowKit Go.Extern.Stop Go.Stop Go.Extern
theorem ON (b:Nat)(x y:Int)(w:World)(hG:w.cell? ⟨4,0,none⟩=some (.iface 272 (.agg #[.pointer (some ⟨13,157,none⟩)])))(hB:aF w b [.int .i64 0,.int .i64 0]):
  Calls Tryz.prog 135 #[.iface 200 (.agg #[.int .i64 x,.int .i64 y]),.iface 204 (.pointer (some ⟨b,0,none⟩))] w fun e w'=>e=.returned (.bool true)∧aF w' b [.int .i64 x,.int .i64 y]∧w.grownBy w' (some b):=by
 have e1:=@run_callFunc_extern Tryz.prog 177 _ (fun args=>ReflectliteValue.unpack (args.getD 0 (.tuple #[]))) Tryz.func177 (by kernel_rfl) (by kernel_rfl) (by kernel_rfl) (by kernel_rfl)
 have e2 := @run_callFunc_extern Tryz.prog 178 _ (ReflectliteValue.methodAny (ReflectliteValue.valueError "reflectlite.Value.Type" 0) (fun t _ _ _ => ReflectliteType.toType t)) Tryz.func178 (by kernel_rfl) (by kernel_rfl) (by kernel_rfl) (by kernel_rfl)
 have e3 := @run_callFunc_extern Tryz.prog 179 _ (ReflectliteValue.method (ReflectliteValue.valueError "reflectlite.Value.IsNil" 0) ReflectliteValue.isNil) Tryz.func179 (by kernel_rfl) (by kernel_rfl) (by kernel_rfl) (by kernel_rfl)
 have e4:=@run_callFunc_extern Tryz.prog 257 _ (ReflectliteType.abiMethod fun t=>do pure (.int .u8 (←Rtype.kind t))) Tryz.func257 (by kernel_rfl) (by kernel_rfl) (by kernel_rfl) (by kernel_rfl)
 have e5:=@run_callFunc_extern Tryz.prog 270 _ (ReflectliteType.method ReflectliteType.elem) Tryz.func270 (by kernel_rfl) (by kernel_rfl) (by kernel_rfl) (by kernel_rfl)
 have e6 := @run_callFunc_extern Tryz.prog 271 _ (ReflectliteType.relation "Implements" ReflectliteType.implements_) Tryz.func271 (by kernel_rfl) (by kernel_rfl) (by kernel_rfl) (by kernel_rfl)
 have e7:=@run_callFunc_extern Tryz.prog 213 _ ReflectliteType.typeOf Tryz.func213 (by kernel_rfl) (by kernel_rfl) (by kernel_rfl) (by kernel_rfl)
 have e8 := @run_callFunc_extern Tryz.prog 268 _ (ReflectliteType.relation "AssignableTo" ReflectliteType.assignableTo) Tryz.func268 (by kernel_rfl) (by kernel_rfl) (by kernel_rfl) (by kernel_rfl)
 have e9 := @run_callFunc_extern Tryz.prog 214 _ (ReflectliteValue.method (ReflectliteValue.valueError "reflectlite.Value.Elem" 0) ReflectliteValue.elem) Tryz.func214 (by kernel_rfl) (by kernel_rfl) (by kernel_rfl) (by kernel_rfl)
 have e10:=@run_callFunc_extern Tryz.prog 215 _ ReflectliteValue.set Tryz.func215 (by kernel_rfl) (by kernel_rfl) (by kernel_rfl) (by kernel_rfl)
 have m1:=pz
 have m2:=pB
 have m3:=jU
 have m4:=jf
 have q1:=Db
 have q2:=Fr
 have q3:=LS
 have q4:=LV
 have q5:=OM
 have q6:=LX
 have q7:=wK
 have q8:=wL
 have q9:=wM
 have hg0:=World.block_lt_of_cell? _ _ hG
 have hg0:4<w.heap.size:=hg0
 have hb0:=hB.sz
 let W1:=w.alloc (.cells #[.pointer (some ⟨b,0,none⟩)] 204)
 let W2:=W1.alloc (.cells #[.pointer (some ⟨13,204,none⟩),.pointer (some ⟨w.heap.size,0,none⟩),.int .u64 150] 240)
 let W3:=W2.alloc (.cells #[.pointer (some ⟨13,204,none⟩),.pointer (some ⟨w.heap.size,0,none⟩),.int .u64 150] 240)
 let W4:=W3.alloc (.cells #[.int .i64 x,.int .i64 y] 200)
 have K1:aF W1 w.heap.size [.pointer (some ⟨b,0,none⟩)]:=aF.new w _ _
 have K2:aF W2 w.heap.size [.pointer (some ⟨b,0,none⟩)]:=K1.alloc _
 have K3:aF W3 w.heap.size [.pointer (some ⟨b,0,none⟩)]:=K2.alloc _
 have K4:aF W4 (w.heap.size+1+1+1) [.int .i64 x,.int .i64 y]:=by have:=aF.new W3 [.int .i64 x,.int .i64 y] 200;simpa [W3,W2,W1] using this
 have T4:aF W4 b [.int .i64 0,.int .i64 0]:=(((hB.alloc _).alloc _).alloc _).alloc _
 have n8:=Io ⟨w.heap.size,0,none⟩ ⟨b,0,none⟩ W2 (K2.cell 0 _ rfl)
 have el:=Ip ⟨w.heap.size,0,none⟩ ⟨b,0,none⟩ W3 (K3.cell 0 _ rfl)
 have st:=Rx b (w.heap.size+1+1+1) x y _ _ W4 (K4.cell 0 _ rfl) (K4.cell 1 _ rfl) (T4.cell 0 _ rfl) (T4.cell 1 _ rfl) (T4.free 0 (by simp)) (T4.free 1 (by simp))
 have hg2:W2.cell? ⟨4,0,none⟩=some (.iface 272 (.agg #[.pointer (some ⟨13,157,none⟩)])):=by
  show((w.alloc _).alloc _).cell? _=_
  rw[World.cell?_alloc_lt _ _ ⟨4,0,none⟩ (by simp;omega),World.cell?_alloc_lt _ _ ⟨4,0,none⟩ hg0];exact hG
 have FIN:Hid (aF ((W4.setCell ⟨b,0,none⟩ (.int .i64 x)).setCell ⟨b,1,none⟩ (.int .i64 y)) b [.int .i64 x,.int .i64 y]):=(T4.set 0 (by simp) _).set 1 (by simp) _
 have GRW:Hid (w.grownBy ((W4.setCell ⟨b,0,none⟩ (.int .i64 x)).setCell ⟨b,1,none⟩ (.int .i64 y)) (some b)):=by
  have hb4:Below w.heap.size w W4:=(((bR.alloc lr _).alloc (by simp) _).alloc (by simp;omega) _).alloc (by simp;omega) _
  have g4:w.grownBy W4 (some b):=⟨hb4.os,hb4.tape,hb4.output,hb4.size,fun i hi _=>hb4.block i hi⟩
  exact aU (aU g4 (.inl rfl) _) (.inl rfl) _
 simp only[W4,W3,W2,W1] at n8 el st hg2 FIN GRW
 clear K1 K2 K3 K4 T4 hB
 clear W4 W3 W2 W1
 go_enter Tryz.func135,Tryz.ntmps135
 go_wp2
 refine wp_loop_rounds 1 ?_
 rw[rounds_succ]
 go_wp2
 go_ret
 exact⟨rfl,FIN.out,GRW.out⟩
theorem Dc (t:Addr)(w:World):(ReflectliteValue.unpack (.iface 205 (.pointer (some t)))).run Tryz.prog w
  = .ok (.agg #[.pointer (some ⟨13,205,none⟩),.pointer (some ⟨w.heap.size,0,none⟩),.int .u64 150]) (w.alloc (.cells #[.pointer (some t)] 205)):=by kernel_rfl
theorem LZ (a : Addr) (w : World) : (ReflectliteValue.methodAny (ReflectliteValue.valueError "reflectlite.Value.Type" 0) (fun t _ _ _ => ReflectliteType.toType t) #[.agg #[.pointer (some ⟨13, 205, none⟩), .pointer (some a), .int .u64 150]]).run Tryz.prog w
  = .ok (.iface 272 (.agg #[.pointer (some ⟨13,205,none⟩)])) w:=by kernel_rfl
theorem L3 (w:World):((ReflectliteType.abiMethod fun t=>(fun a:Nat=>Value.int IntKind.u8 (a:Int)) <$> Rtype.kind t) #[.pointer (some ⟨13,205,none⟩)]).run Tryz.prog w=.ok (.int .u8 22) w:=by kernel_rfl
theorem L4 (w:World):(ReflectliteType.method ReflectliteType.elem #[.agg #[.pointer (some ⟨13,205,none⟩)]]).run Tryz.prog w=.ok (.iface 272 (.agg #[.pointer (some ⟨13,26,none⟩)])) w:=by kernel_rfl
theorem wO (w : World) : (ReflectliteType.relation "Implements" ReflectliteType.implements_ #[.agg #[.pointer (some ⟨13, 26, none⟩)], .iface 272 (.agg #[.pointer (some ⟨13, 157, none⟩)])]).run Tryz.prog w = .ok (.bool true) w := by kernel_rfl
theorem Is (v:Value)(w:World):(ReflectliteType.typeOf #[.iface 26 v]).run Tryz.prog w=.ok (.iface 272 (.agg #[.pointer (some ⟨13,26,none⟩)])) w:=by kernel_rfl
theorem wP (w : World) : (ReflectliteType.relation "AssignableTo" ReflectliteType.assignableTo #[.agg #[.pointer (some ⟨13, 26, none⟩)], .iface 272 (.agg #[.pointer (some ⟨13, 26, none⟩)])]).run Tryz.prog w = .ok (.bool true) w := by kernel_rfl
theorem wQ (a:Addr)(w:World):(ReflectliteValue.parts (.agg #[.pointer (some ⟨13,205,none⟩),.pointer (some a),.int .u64 150])).run Tryz.prog w=.ok (some (205,a,150)) w:=by kernel_rfl
theorem It (a p:Addr)(W:World)(ha:W.cell? a=some (.pointer (some p))):
  (ReflectliteValue.method (ReflectliteValue.valueError "reflectlite.Value.IsNil" 0) ReflectliteValue.isNil #[.agg #[.pointer (some ⟨13, 205, none⟩), .pointer (some a), .int .u64 150]]).run Tryz.prog W = .ok (.bool false) W := by
 rw[UM]
 simp only[Sem.run_bind,wQ,Result.andThen]
 simp[ReflectliteValue.isNil,loadVar,isAgg,underlying,Tryz.underlying205,ha,Result.andThen]
theorem Ft (w:World):(Rtype.elem? 205).run Tryz.prog w=.ok (some 26) w:=by kernel_rfl
theorem Tz (p:Addr)(w:World):(ReflectliteValue.mk 26 p ReflectliteValue.flagAddr).run Tryz.prog w=.ok (.agg #[.pointer (some ⟨13,26,none⟩),.pointer (some p),.int .u64 386]) w:=by kernel_rfl
theorem Iu (a p:Addr)(W:World)(ha:W.cell? a=some (.pointer (some p))):
  (ReflectliteValue.method (ReflectliteValue.valueError "reflectlite.Value.Elem" 0) ReflectliteValue.elem #[.agg #[.pointer (some ⟨13, 205, none⟩), .pointer (some a), .int .u64 150]]).run Tryz.prog W
   = .ok (.agg #[.pointer (some ⟨13,26,none⟩),.pointer (some p),.int .u64 386]) W:=by
 rw[UM]
 simp only[Sem.run_bind,wQ,Result.andThen]
 simp[ReflectliteValue.elem,loadVar,isAgg,underlying,Tryz.underlying205,ha,Result.andThen,Ft,Tz]
theorem Iv (a:Addr)(w:World):(ReflectliteValue.parts (.agg #[.pointer (some ⟨13,26,none⟩),.pointer (some a),.int .u64 386])).run Tryz.prog w=.ok (some (26,a,386)) w:=by kernel_rfl
theorem L5 (a:Addr)(w:World):(ReflectliteValue.parts (.agg #[.pointer (some ⟨13,26,none⟩),.pointer (some a),.int .u64 130])).run Tryz.prog w=.ok (some (26,a,130)) w:=by kernel_rfl
theorem Iw (w:World):(Rtype.directlyAssignable 26 26).run Tryz.prog w=.ok true w:=by kernel_rfl
theorem OO (w:World):((ReflectliteType.abiMethod fun t=>(fun a:Nat=>Value.int IntKind.u8 (a:Int)) <$> Rtype.kind t) #[.pointer (some ⟨13,26,none⟩)]).run Tryz.prog w=.ok (.int .u8 2) w:=by kernel_rfl
theorem Fu (c:Int)(w:World):(ReflectliteValue.unpack (.iface 26 (.int .i64 c))).run Tryz.prog w
  = .ok (.agg #[.pointer (some ⟨13,26,none⟩),.pointer (some ⟨w.heap.size,0,none⟩),.int .u64 130]) (w.alloc (.cells #[.int .i64 c] 26)):=by kernel_rfl
theorem uS (w : World) : (ReflectliteType.relation "AssignableTo" ReflectliteType.assignableTo #[.agg #[.pointer (some ⟨13, 200, none⟩)], .iface 272 (.agg #[.pointer (some ⟨13, 26, none⟩)])]).run Tryz.prog w = .ok (.bool false) w := by kernel_rfl
theorem uT (n : Nat) (v : Value) (w : World) : (Go.method (n + 1) 200 v "Unwrap").run Tryz.prog w = .ok (263, v) w := by kernel_rfl
theorem Fv (v:Value)(w:World):(Instr.typeAssert (.iface 200 v) 157 277 true).run Tryz.prog w=.ok (.tuple #[.nilIface,.bool false]) w:=run_typeAssert_lacksB Tryz.underlying277 (by kernel_rfl) (by kernel_rfl) v _ w
theorem Fw (v:Value)(w:World):(Instr.typeAssert (.iface 200 v) 157 280 true).run Tryz.prog w=.ok (.tuple #[.iface 200 v,.bool true]) w:=by kernel_rfl
theorem Ry (b c:Nat)(y:Int)(o1:Value)(W:World)(hb0:W.cell? ⟨c,0,none⟩=some (.int .i64 y))(h0:W.cell? ⟨b,0,none⟩=some o1)(f0:W.frozen? ⟨b,0,none⟩=false):
  (ReflectliteValue.set #[.agg #[.pointer (some ⟨13,26,none⟩),.pointer (some ⟨b,0,none⟩),.int .u64 386],.agg #[.pointer (some ⟨13,26,none⟩),.pointer (some ⟨c,0,none⟩),.int .u64 130]]).run Tryz.prog W
   = .ok (.tuple #[]) (W.setCell ⟨b,0,none⟩ (.int .i64 y)):=by
 rw[UU]
 simp only[Sem.run_bind,Iv,L5,Result.andThen]
 simp[ReflectliteValue.flagAddr,loadVar,isAgg,underlying,Tryz.underlying26,hb0,Result.andThen,Iw,storeVar,Value.cells,storeCells,Addr.add]
 rw[run_store Tryz.prog W ⟨b,0,none⟩ _ _ (by rfl)]
 simp[h0,f0]
theorem OQ (b:Nat)(x y:Int)(w:World)(hG:w.cell? ⟨4,0,none⟩=some (.iface 272 (.agg #[.pointer (some ⟨13,157,none⟩)])))(hB:aF w b [.int .i64 0]):
  Calls Tryz.prog 135 #[.iface 200 (.agg #[.int .i64 x,.int .i64 y]),.iface 205 (.pointer (some ⟨b,0,none⟩))] w fun e w'=>e=.returned (.bool true)∧aF w' b [.int .i64 y]∧w.grownBy w' (some b):=by
 have e1:=@run_callFunc_extern Tryz.prog 177 _ (fun args=>ReflectliteValue.unpack (args.getD 0 (.tuple #[]))) Tryz.func177 (by kernel_rfl) (by kernel_rfl) (by kernel_rfl) (by kernel_rfl)
 have e2 := @run_callFunc_extern Tryz.prog 178 _ (ReflectliteValue.methodAny (ReflectliteValue.valueError "reflectlite.Value.Type" 0) (fun t _ _ _ => ReflectliteType.toType t)) Tryz.func178 (by kernel_rfl) (by kernel_rfl) (by kernel_rfl) (by kernel_rfl)
 have e3 := @run_callFunc_extern Tryz.prog 179 _ (ReflectliteValue.method (ReflectliteValue.valueError "reflectlite.Value.IsNil" 0) ReflectliteValue.isNil) Tryz.func179 (by kernel_rfl) (by kernel_rfl) (by kernel_rfl) (by kernel_rfl)
 have e4:=@run_callFunc_extern Tryz.prog 257 _ (ReflectliteType.abiMethod fun t=>do pure (.int .u8 (←Rtype.kind t))) Tryz.func257 (by kernel_rfl) (by kernel_rfl) (by kernel_rfl) (by kernel_rfl)
 have e5:=@run_callFunc_extern Tryz.prog 270 _ (ReflectliteType.method ReflectliteType.elem) Tryz.func270 (by kernel_rfl) (by kernel_rfl) (by kernel_rfl) (by kernel_rfl)
 have e6 := @run_callFunc_extern Tryz.prog 271 _ (ReflectliteType.relation "Implements" ReflectliteType.implements_) Tryz.func271 (by kernel_rfl) (by kernel_rfl) (by kernel_rfl) (by kernel_rfl)
 have e7:=@run_callFunc_extern Tryz.prog 213 _ ReflectliteType.typeOf Tryz.func213 (by kernel_rfl) (by kernel_rfl) (by kernel_rfl) (by kernel_rfl)
 have e8 := @run_callFunc_extern Tryz.prog 268 _ (ReflectliteType.relation "AssignableTo" ReflectliteType.assignableTo) Tryz.func268 (by kernel_rfl) (by kernel_rfl) (by kernel_rfl) (by kernel_rfl)
 have e9 := @run_callFunc_extern Tryz.prog 214 _ (ReflectliteValue.method (ReflectliteValue.valueError "reflectlite.Value.Elem" 0) ReflectliteValue.elem) Tryz.func214 (by kernel_rfl) (by kernel_rfl) (by kernel_rfl) (by kernel_rfl)
 have e10:=@run_callFunc_extern Tryz.prog 215 _ ReflectliteValue.set Tryz.func215 (by kernel_rfl) (by kernel_rfl) (by kernel_rfl) (by kernel_rfl)
 have m1:=pz
 have m2:=pB
 have m3:=jU
 have m4:=jf
 have m5:=uT
 have q1:=Dc
 have q2:=Fu
 have q3:=LZ
 have q4:=L3
 have q5:=OO
 have q6:=L4
 have q7:=wO
 have q8:=wL
 have q9:=uS
 have q10:=Is
 have q11:=wP
 have q12:=Fv
 have q13:=Fw
 have hg0:=World.block_lt_of_cell? _ _ hG
 have hg0:4<w.heap.size:=hg0
 have hb0:=hB.sz
 let W1:=w.alloc (.cells #[.pointer (some ⟨b,0,none⟩)] 205)
 let W2:=W1.alloc (.cells #[.pointer (some ⟨13,205,none⟩),.pointer (some ⟨w.heap.size,0,none⟩),.int .u64 150] 240)
 let W3:=W2.alloc (.cells #[.pointer (some ⟨13,205,none⟩),.pointer (some ⟨w.heap.size,0,none⟩),.int .u64 150] 240)
 let W4:=W3.alloc (.cells #[.int .i64 x,.int .i64 y] 200)
 let W5:=W4.alloc (.cells #[.int .i64 y] 26)
 have K1:aF W1 w.heap.size [.pointer (some ⟨b,0,none⟩)]:=aF.new w _ _
 have K2:aF W2 w.heap.size [.pointer (some ⟨b,0,none⟩)]:=K1.alloc _
 have K3:aF W4 w.heap.size [.pointer (some ⟨b,0,none⟩)]:=(K2.alloc _).alloc _
 have K5:aF W5 (w.heap.size+1+1+1+1) [.int .i64 y]:=by have:=aF.new W4 [.int .i64 y] 26;simpa [W4,W3,W2,W1] using this
 have T5:aF W5 b [.int .i64 0]:=((((hB.alloc _).alloc _).alloc _).alloc _).alloc _
 have n8:=It ⟨w.heap.size,0,none⟩ ⟨b,0,none⟩ W2 (K2.cell 0 _ rfl)
 have el:=Iu ⟨w.heap.size,0,none⟩ ⟨b,0,none⟩ W4 (K3.cell 0 _ rfl)
 have st:=Ry b (w.heap.size+1+1+1+1) y _ W5 (K5.cell 0 _ rfl) (T5.cell 0 _ rfl) (T5.free 0 (by simp))
 have hg2:W2.cell? ⟨4,0,none⟩=some (.iface 272 (.agg #[.pointer (some ⟨13,157,none⟩)])):=by
  show((w.alloc _).alloc _).cell? _=_
  rw[World.cell?_alloc_lt _ _ ⟨4,0,none⟩ (by simp;omega),World.cell?_alloc_lt _ _ ⟨4,0,none⟩ hg0];exact hG
 have FIN:Hid (aF (W5.setCell ⟨b,0,none⟩ (.int .i64 y)) b [.int .i64 y]):=T5.set 0 (by simp) _
 have GRW:Hid (w.grownBy (W5.setCell ⟨b,0,none⟩ (.int .i64 y)) (some b)):=by
  have hb5:Below w.heap.size w W5:=((((bR.alloc lr _).alloc (by simp) _).alloc (by simp;omega) _).alloc (by simp;omega) _).alloc (by simp;omega) _
  have g5:w.grownBy W5 (some b):=⟨hb5.os,hb5.tape,hb5.output,hb5.size,fun i hi _=>hb5.block i hi⟩
  exact aU g5 (.inl rfl) _
 simp only[W5,W4,W3,W2,W1] at n8 el st hg2 FIN GRW
 clear K1 K2 K3 K5 T5 hB
 clear W5 W4 W3 W2 W1
 go_enter Tryz.func135,Tryz.ntmps135
 go_wp2
 refine wp_loop_rounds 2 ?_
 rw[rounds_succ]
 go_wp2
 rw[rounds_succ]
 go_wp2
 go_ret
 exact⟨rfl,FIN.out,GRW.out⟩
end
section
open Go.RowKit
theorem aF.grown {wr w':World}{b c:Nat}{vs:List Value}(h:aF wr c vs)(hg:wr.grownBy w' (some b))(hne:c≠b):aF w' c vs:=by
 have hk:w'.heap[c]?=wr.heap[c]?:=hg.block c h.sz (by intro e;injection e with e;exact hne e)
 refine⟨Nat.lt_of_lt_of_le h.sz hg.size,fun j u hu=>?_,fun j hj=>?_⟩
 ·exact(World.cell?_of_block (a:=⟨c,j,none⟩) hk).trans (h.cell j u hu)
 ·exact(World.frozen?_of_block (a:=⟨c,j,none⟩) hk).trans (h.free j hj)
def gB (f:BA)(a c:Int):Value:=.agg #[.string f,.int .i64 a,.int .i64 c]
theorem Dd (x y p:Int)(w:World)(hG:NY w):
  Calls Tryz.prog 90 #[.iface 200 (.agg #[.int .i64 x,.int .i64 y]),.int .i64 p] w fun e w'=>(∃ a:Int,e=.returned (gB ⟨#[]⟩ a y))∧Below w.heap.size w w':=by
 have HG:=ae hG;clear hG
 go_enter Tryz.func90,Tryz.ntmps90
 go_wp2_with fail
 let W1:=w.alloc (.cells #[.string ⟨#[]⟩,.int .i64 0,.int .i64 0] 101)
 let W2:=W1.alloc (.cells #[.string ⟨#[]⟩,.int .i64 p,.int .i64 3] 101)
 let W3:=W2.alloc (.cells #[.int .i64 0,.int .i64 0] 200)
 have A3:aF W3 w.heap.size [.string ⟨#[]⟩,.int .i64 0,.int .i64 0]:=((aF.new w _ _).alloc _).alloc _
 have F3:aF W3 (w.heap.size+1) [.string ⟨#[]⟩,.int .i64 p,.int .i64 3]:=by have:=(aF.new W1 [.string ⟨#[]⟩,.int .i64 p,.int .i64 3] 101).alloc (.cells #[.int .i64 0,.int .i64 0] 200);simpa [W1] using this
 have T3:aF W3 (w.heap.size+1+1) [.int .i64 0,.int .i64 0]:=by have:=aF.new W2 [.int .i64 0,.int .i64 0] 200;simpa [W2,W1] using this
 have B3:Below w.heap.size w W3:=((bR.alloc lr _).alloc (by simp) _).alloc (by simp;omega) _
 refine(ON (w.heap.size+1+1) x y W3 (HG.out.below B3).2 T3).mono ?_;rintro e w1 ⟨rfl,t1,hg1⟩
 have KA:Hid (aF w1 w.heap.size [.string ⟨#[]⟩,.int .i64 0,.int .i64 0]):=A3.grown hg1 (by omega)
 have KF:Hid (aF w1 (w.heap.size+1) [.string ⟨#[]⟩,.int .i64 p,.int .i64 3]):=F3.grown hg1 (by omega)
 have KT:Hid (aF w1 (w.heap.size+1+1) [.int .i64 x,.int .i64 y]):=t1
 have BB:Hid (Below w.heap.size w w1):=B3.grown hg1 B3.size (fun j hj=>by injection hj with hj;omega)
 clear t1 hg1 A3 F3 T3 B3
 clear W3 W2 W1
 have f1:=KF.out.cell 1 _ rfl
 have ff1:=KF.out.free 1 (by simp)
 have t0:=KT.out.cell 0 _ rfl
 go_wp2_with fail
 have hw1:=KA.out.sz
 have hw2:=KT.out.sz
 obtain⟨q,hq⟩:∃ q,wrap64 (p+x)=q:=⟨_,rfl⟩
 let V1:=(w1.setCell ⟨w.heap.size+1,1,none⟩ (.int .i64 (wrap64 (p+x)))).alloc (.cells #[.int .i64 0] 26)
 have A1:aF V1 w.heap.size [.string ⟨#[]⟩,.int .i64 0,.int .i64 0]:=(KA.out.far (by omega) _).alloc _
 have F1:aF V1 (w.heap.size+1) [.string ⟨#[]⟩,.int .i64 (wrap64 (p+x)),.int .i64 3]:=(KF.out.set 1 (by simp) _).alloc _
 have T1:aF V1 w1.heap.size [.int .i64 0]:=by have:=aF.new (w1.setCell ⟨w.heap.size+1,1,none⟩ (.int .i64 (wrap64 (p+x)))) [.int .i64 0] 26;simpa using this
 have B1:Below w.heap.size w V1:=(aw BB.out (by omega) _).alloc (by simp;omega) _
 refine(OQ w1.heap.size x y V1 (HG.out.below B1).2 T1).mono ?_;rintro e w2 ⟨rfl,t2,hg2⟩
 have LA:Hid (aF w2 w.heap.size [.string ⟨#[]⟩,.int .i64 0,.int .i64 0]):=A1.grown hg2 (by omega)
 have LF:Hid (aF w2 (w.heap.size+1) [.string ⟨#[]⟩,.int .i64 q,.int .i64 3]):=by rw[←hq];exact F1.grown hg2 (by omega)
 have LT:Hid (aF w2 w1.heap.size [.int .i64 y]):=t2
 have CB:Hid (Below w.heap.size w w2):=B1.grown hg2 B1.size (fun j hj=>by injection hj with hj;omega)
 clear t2 hg2 A1 F1 T1 B1
 clear V1
 clear f1 ff1 t0
 have f0:=LF.out.cell 0 _ rfl
 have f1:=LF.out.cell 1 _ rfl
 have f2:=LF.out.cell 2 _ rfl
 have ff2:=LF.out.free 2 (by simp)
 have t0:=LT.out.cell 0 _ rfl
 have a0:=LA.out.cell 0 _ rfl
 have a1:=LA.out.cell 1 _ rfl
 have a2:=LA.out.cell 2 _ rfl
 have fa0:=LA.out.free 0 (by simp)
 have fa1:=LA.out.free 1 (by simp)
 have fa2:=LA.out.free 2 (by simp)
 go_wp2_with fail
 refine bodyPost_ret (v:=.agg #[.string ⟨#[]⟩,.int .i64 q,.int .i64 y]) (by simp[results,Tryz.results90,go_sem,a0,a1,a2]) rfl ⟨⟨q,rfl⟩,?_⟩
 exact aw (aw (aw (aw CB.out (Nat.le_succ _) _) lr _) lr _) lr _
end
section
open Go.ChangeShapes Go.WideShapes Go.Deep Go.RowKit
section
variable {H : Type} {enc : TypeId × Value → H} {P : Program} {w : World} {base : Nat} {spare : Nat → Bool} {held : Bool}
theorem so {t e:TypeId}{fs:Array Field}{fuel:Nat}{cs:List Value}{x:DataW H×List MemPlace}(ht:P.underlying t=some (.slice e))(he:P.underlying e=some (.struct fs))
  (hone:oneCellFields P fs=true)(hC:P.cellsOf e=fs.size)(h:DataW.trod enc P w base spare held fuel t cs=some x):
  (cs=[.slice none 0 0]∧x=(.nil,[])) ∨
  ∃ (a:Addr) (len cap m:Nat) (D:Nat→DataW H) (Pl:Nat→List MemPlace),cs=[.slice (some a) len cap]∧base≤a.block∧len≤cap∧cap≤maxLen∧m=(if spare a.block then cap else len) ∧
   x=(.slice ((List.range len).map D) ((List.range (m-len)).map fun j=>D (len+j)),MemPlace.row a (m*fs.size)++(List.range m).flatMap Pl) ∧
   ∀ i,i<m→∃ (ys:List (DataW H×List MemPlace)) (n:Nat),D i=.agg (ys.map (·.1))∧Pl i=ys.flatMap (·.2)∧ys.length=fs.size ∧
    ∀ (j:Nat)(f:Field),fs[j]?=some f→∃ (v:Value)(y:DataW H×List MemPlace),w.cell? (a.add (i*fs.size+j))=some v∧ys[j]?=some y∧DataW.trod enc P w base spare held n f.type [v]=some y:=by
 rcases open_slice ht h with h0 | ⟨a,len,cap,m,n,D,Pl,hcs,hb,hl,hm,hmm,hx,hi⟩
 ·exact .inl h0
 ·refine .inr ⟨a,len,cap,m,D,Pl,hcs,hb,hl,hm,hmm,by rw[hC] at hx;exact hx,fun i him=>?_⟩
  obtain⟨cs',hc,ht'⟩:=hi i him
  rw[hC] at hc
  obtain⟨ys,n',hn',hy,hlen,hyl,hf⟩:=DataW.trod_struct he ht'
  obtain⟨_,hcl,hat⟩:=World.cells?_some hc
  simp only[Prod.mk.injEq] at hy
  refine⟨ys,n',hy.1,hy.2,hyl,fun j f hj=>?_⟩
  obtain⟨ho,hk⟩:=hone_of hone j f hj
  have hjl:j<fs.size:=(Array.getElem?_eq_some_iff.1 hj).1
  have hcell:=hat j hjl
  have hv:cs'[j]?=some (cs'[j]'(by omega)):=gG (by omega)
  have h1:=hf j f hj
  rw[ho,hk] at h1
  have hone':(cs'.drop j).take 1=[cs'[j]'(by omega)]:=by
   rw[List.drop_eq_getElem_cons (by omega)]
   rfl
  rw[hone'] at h1
  have hys:ys[j]?=some (ys[j]'(by omega)):=gG (by omega)
  refine⟨_,_,?_,hys,h1.trans hys⟩
  rw[←Go.Deep.add_add,hcell,hv]
end
theorem DM {α:Type}{Q:Nat→α→Prop}:∀ n:Nat,(∀ i,i<n→∃ x,Q i x)→∃ l:List α,l.length=n∧∀ (i:Nat)(x:α),l[i]?=some x→Q i x
 | 0,_=>⟨[],rfl,fun i x h=>by simp at h⟩
 | n+1,h=>by
  obtain⟨l,hl,hq⟩:=DM n (fun i hi=>h i (by omega))
  obtain⟨x,hx⟩:=h n (by omega)
  refine⟨l++[x],by simp[hl],fun i y hy=>?_⟩
  by_cases hi:i<l.length
  ·rw[List.getElem?_append_left hi] at hy;exact hq i y hy
  ·rw[List.getElem?_append_right (by omega)] at hy
   have:i=n:=by have:=(gS hy).1;simp at this;omega
   subst this;rw[hl,Nat.sub_self] at hy;simp at hy;subst hy;exact hx
theorem JM {α:Type}{f:α→List Value}{sz:Nat}(hf:∀ x,(f x).length=sz)(hsz:0<sz)(l:List α)(j:Nat)(u:Value)(h:(l.flatMap f)[j]?=some u):∃ (i k:Nat)(x:α),l[i]?=some x∧k<sz∧j=i*sz+k∧(f x)[k]?=some u:=by
 have hj:j<l.length*sz:=by rw[←ld hf];exact(gS h).1
 have hi:j / sz<l.length:=Nat.div_lt_of_lt_mul (by rw[Nat.mul_comm];exact hj)
 have hk:j % sz<sz:=Nat.mod_lt _ hsz
 have e:j=j / sz*sz+j % sz:=by rw[Nat.mul_comm];exact(Nat.div_add_mod j sz).symm
 refine⟨j / sz,j % sz,l[j / sz],gG hi,hk,e,?_⟩
 rw[←vo hf l (j / sz) (j % sz) _ (gG hi) hk,←e,h]
theorem tJ {w:World}{a:Addr}{n:Nat}{v:Value}(h:w.cell? (a.add n)=some v):a.add n=⟨a.block,a.off+n,none⟩:=by
 unfold Addr.add at *
 split at h
 ·rename_i h0;subst h0
  simp only[if_pos]
  cases a with | mk b o s=>
   unfold World.cell? at h
   split at h
   ·split at h
    ·cases h
    ·rename_i hs;simp at hs;simp[hs]
   ·cases h
 ·rename_i h0;rw[if_neg h0]
section
variable {H : Type} {enc : TypeId × Value → H} {w : World} {spare : Nat → Bool}
theorem tK {T E:TypeId}{fs:Array Field}(hT:Tryz.prog.underlying T=some (.slice E))(hE:Tryz.prog.underlying E=some (.struct fs))(hone:oneCellFields Tryz.prog fs=true)(hC:Tryz.prog.cellsOf E=fs.size)(hpos:0<fs.size)
  {α:Type}(f:α→List Value)(Pr:α→Prop)(hf:∀ x,(f x).length=fs.size)
  (hel:∀ (n:Nat)(vs:Nat→Value),(∀ (j:Nat)(fd:Field),fs[j]?=some fd→∃ y,DataW.trod enc Tryz.prog w 0 spare true n fd.type [vs j]=some y)→∃ x:α,Pr x∧∀ j,j<fs.size→(f x)[j]?=some (vs j))
  {fuel:Nat}{v:Value}{d:DataW H×List MemPlace}(h:DataW.trod enc Tryz.prog w 0 spare true fuel T [v]=some d):
  ∃ (A:Option Addr) (c:Nat) (l:List α),v=.slice A l.length c∧Rd w fs.size A l.length (l.flatMap f)∧(∀ x∈l,Pr x)∧l.length≤9223372036854775807∧l.length≤c:=by
 rcases so hT hE hone hC h with⟨hcs,_⟩ | ⟨a,len,cap,m,D,Pl,hcs,_,hl,hm,hmm,_,hi⟩
 ·injection hcs with hcs _
  exact⟨none,0,[],hcs,Rd.nil _ _ _,fun x hx=>by simp at hx,z0,z0⟩
 ·injection hcs with hcs _
  have hlen:len≤m:=by rw[hmm];split<;>omega
  have key:∀ i,i<len→∃ x:α,Pr x∧∀ j u,(f x)[j]?=some u→w.cell? ⟨a.block,a.off+(i*fs.size+j),none⟩=some u:=by
   intro i hi'
   obtain⟨ys,n,_,_,hyl,hj⟩:=hi i (by omega)
   have hv:∀ j,∃ v,(∀ fd,fs[j]?=some fd→w.cell? (a.add (i*fs.size+j))=some v∧∃ y,DataW.trod enc Tryz.prog w 0 spare true n fd.type [v]=some y):=by
    intro j
    cases hfd:fs[j]? with
    | none=>exact⟨default,fun fd h=>by cases h⟩
    | some fd=>
     obtain⟨v,y,h1,_,h3⟩:=hj j fd hfd
     exact⟨v,fun fd' h=>by injection h with h;subst h;exact⟨h1,y,h3⟩⟩
   have hvs:∃ vs:Nat→Value,∀ j fd,fs[j]?=some fd→w.cell? (a.add (i*fs.size+j))=some (vs j)∧∃ y,DataW.trod enc Tryz.prog w 0 spare true n fd.type [vs j]=some y:=
    ⟨fun j=>Classical.choose (hv j),fun j fd h=>Classical.choose_spec (hv j) fd h⟩
   obtain⟨vs,hvs⟩:=hvs
   obtain⟨x,hx,hc⟩:=hel n vs (fun j fd h=>(hvs j fd h).2)
   refine⟨x,hx,fun j u hu=>?_⟩
   have hjs:j<fs.size:=by rw[←hf x];exact(gS hu).1
   have h1:=hc j hjs
   rw[hu] at h1
   have h1:=Option.some.inj h1
   subst h1
   have h2:=(hvs j _ (Array.getElem?_eq_getElem hjs)).1
   rw[tJ h2] at h2
   exact h2
  obtain⟨l,hll,hlq⟩:=DM len key
  refine⟨some a,cap,l,by rw[hll];exact hcs,⟨ld hf l,fun hn=>?_⟩,fun x hx=>?_,by rw[hll];unfold maxLen at hm;omega,by rw[hll];exact hl⟩
  ·obtain⟨x0,hx0⟩:∃ x,l[0]?=some x:=⟨_,gG hn⟩
   obtain⟨u0,hu0⟩:∃ u,(f x0)[0]?=some u:=⟨_,gG (by rw[hf];exact hpos)⟩
   refine⟨a.block,a.off,?_,fun j u hu=>?_⟩
   ·obtain⟨ys,n,_,_,_,hj⟩:=hi 0 (by omega)
    obtain⟨v0,y0,h1,_,_⟩:=hj 0 _ (Array.getElem?_eq_getElem hpos)
    have h2:=tJ h1
    simp only[Nat.zero_mul,Nat.zero_add,Addr.add,if_pos,Nat.add_zero] at h2
    rw[←h2]
   ·obtain⟨i,k,x,hx,hk,rfl,hu'⟩:=JM hf hpos l j u hu
    exact(hlq i x hx).2 k u hu'
  ·obtain⟨i,hi',rfl⟩:=List.getElem_of_mem hx
   exact(hlq i _ (gG hi')).1
end
end
section
open Go.ChangeShapes Go.WideShapes Go.Deep Go.RowKit
section
variable {H : Type} {enc : TypeId × Value → H} {w : World} {spare : Nat → Bool}
def yM (x:aA):Prop:=x.nm.size≤9223372036854775807∧x.ver.size≤9223372036854775807∧(Lit.int .i64 x.op).wf=true
theorem sq {n:Nat}{v:Value}{y:DataW H×List MemPlace}(h:DataW.trod enc Tryz.prog w 0 spare true n 9 [v]=some y):∃ s:BA,v=.string s∧s.size≤9223372036854775807:=by
 obtain⟨s,hs,_,hz⟩:=DataW.trod_string Tryz.underlying9 h
 injection hs with hs _
 exact⟨s,hs,by unfold maxLen at hz;omega⟩
theorem Qx {n:Nat}{v:Value}{y:DataW H×List MemPlace}(h:DataW.trod enc Tryz.prog w 0 spare true n 3 [v]=some y):∃ z:Int,v=.int .i64 z∧(Lit.int .i64 z).wf=true:=by
 obtain⟨z,hz,_,hw⟩:=DataW.trod_int Tryz.underlying3 h
 injection hz with hz _
 exact⟨z,hz,hw⟩
theorem yN {fuel:Nat}{v:Value}{d:DataW H×List MemPlace}(h:DataW.trod enc Tryz.prog w 0 spare true fuel 31 [v]=some d):
  ∃ (A:Option Addr) (c:Nat) (l:List aA),v=.slice A l.length c∧Rd w 3 A l.length (l.flatMap aA.cells)∧(∀ x∈l,yM x)∧l.length≤9223372036854775807∧l.length≤c:=by
 refine tK Tryz.underlying31 Tryz.underlying53 (by kernel_rfl) (by kernel_rfl) (by decide) aA.cells yM (fun _=>rfl) (fun n vs hv=>?_) h
 obtain⟨y0,h0⟩:=hv 0 _ rfl
 obtain⟨y1,h1⟩:=hv 1 _ rfl
 obtain⟨y2,h2⟩:=hv 2 _ rfl
 obtain⟨s0,e0,z0⟩:=sq h0
 obtain⟨s1,e1,z1⟩:=Qx h1
 obtain⟨s2,e2,z2⟩:=sq h2
 refine⟨⟨s0,s1,s2⟩,⟨z0,z2,z1⟩,fun j hj=>?_⟩
 have hj':j<3:=hj
 rcases(by omega:j=0∨j=1∨j=2) with rfl | rfl | rfl
 ·rw[e0];rfl
 ·rw[e1];rfl
 ·rw[e2];rfl
end
end
end Go.Proofs.YtkjdbpjglobbjaaGreatDoor
