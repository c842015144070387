/- A part of the proof. -/
import Derived.BigRegion
import Derived.ChangeSame
import Derived.Deep.RegionHeld3
import Derived.LaidEqlPtr
import Derived.Laws.Bits64b
import Derived.Laws.BytesArg
import Derived.Laws.CopyOwn
import Derived.Laws.IdiomCopy
import Derived.Laws.IdiomStrings
import Derived.Laws.StructEq
import Derived.MapKept
import Derived.Sort.KeysCollected
import Derived.StillTailTactics
import Derived.Test.YtaohgmcbpafdeaaGreatDoorA02
import Derived.Test.YtaohgmcbpafdeaaGreatDoorA03
import Derived.Test.YtaohgmcbpafdeaaGreatDoorA04
set_option maxRecDepth 100000
set_option maxHeartbeats 20000000
set_option linter.unusedVariables false
set_option linter.unusedSimpArgs false
namespace Go.Proofs.YtaohgmcbpafdeaaGreatDoor
abbrev cl:Type:=BA×Int
section
open Go.RowKit
theorem bz {a w:World}{row:Option Nat}(h:a.grownBy w row)(n:Nat):a.grownBy (w.drewN n) row:=⟨h.os,h.tape,h.output,h.size,h.block⟩
theorem kb {a w:World}{row:Option Nat}(h:a.grownBy w row)(o:Obj):a.grownBy (w.alloc o) row:=
 ⟨h.os,h.tape,h.output,Nat.le_trans h.size (by simp),fun i hi hne=>(Below.heap_alloc w o i (Nat.lt_of_lt_of_le hi h.size)).trans (h.block i hi hne)⟩
theorem aY {a w:World}{g:Nat}(h:a.grownBy w (some g)){p:Addr}(hp:p.block=g∨a.heap.size≤p.block)(u:Value):a.grownBy (w.setCell p u) (some g):=
 ⟨h.os,h.tape,h.output,by simpa [World.setCell] using h.size,fun i hi hne=>(Below.heap_setCell w p u i (by
  rintro rfl
  rcases hp with hp | hp
  ·exact hne (by rw[hp])
  ·omega)).trans (h.block i hi hne)⟩
theorem cJ {a w w':World}{row:Option Nat}(h:a.grownBy w row)(hb:Below w.heap.size w w'):a.grownBy w' row:=
 ⟨hb.os.trans h.os,hb.tape.trans h.tape,hb.output.trans h.output,Nat.le_trans h.size hb.size,fun i hi hn=>(hb.block i (Nat.lt_of_lt_of_le hi h.size)).trans (h.block i hi hn)⟩
theorem cR {w w':World}{base:Nat}{e:TypeId}{size n:Nat}{v:Value}{xs:LV}(h:w.ownsRow base e size v n xs)(hb:Below w.heap.size w w'):w'.ownsRow base e size v n xs:=by
 refine⟨h.1,?_⟩
 rcases h.2 with h0 | ⟨g,cap,cur,hv,hg,hh,h1,h2,h3,h4⟩
 ·exact .inl h0
 ·exact .inr ⟨g,cap,cur,hv,hg,(hb.block g (Array.getElem?_eq_some_iff.1 hh).1).trans hh,h1,h2,h3,h4⟩
theorem aP {w:World}{base:Nat}{e:TypeId}{size n:Nat}{v:Value}{xs:LV}(h:w.ownsRow base e size v n xs):∃ A c,v=.slice A n c:=by
 rcases h.2 with⟨rfl,rfl⟩ | ⟨g,cap,cur,hv,_⟩
 ·exact⟨none,0,rfl⟩
 ·exact⟨_,_,hv⟩
theorem dV {w:World}{base base':Nat}{e:TypeId}{size n:Nat}{v:Value}{xs:LV}(h:w.ownsRow base e size v n xs)(hb:base'≤base):w.ownsRow base' e size v n xs:=by
 refine⟨h.1,?_⟩
 rcases h.2 with h0 | ⟨g,cap,cur,hv,hg,r⟩
 ·exact .inl h0
 ·exact .inr ⟨g,cap,cur,hv,Nat.le_trans hb hg,r⟩
theorem cH {w:World}{base:Nat}{e:TypeId}{size n c:Nat}{A:OA}{xs:LV}(h:w.ownsRow base e size (.slice A n c) n xs):Rd w size A n xs:=by
 refine⟨h.1,fun hn=>?_⟩
 obtain⟨g,cap,hv,_,hlt⟩:=h.form hn
 have hA:A=some ⟨g,0,none⟩:=by injection hv
 subst hA
 refine⟨g,0,rfl,fun j u hu=>?_⟩
 have:=h.cells (g:=g) rfl j u hu
 unfold Addr.add at this
 rw[Nat.zero_add]
 split at this
 ·rename_i h0;subst h0;exact this
 ·simpa using this
theorem bN {w w':World}{lo g:Nat}{e:TypeId}{size n:Nat}{v:Value}{xs:LV}(h:w.ownsRow lo e size v n xs)(hlo:g<lo)(hg:w.grownBy w' (some g)):w'.ownsRow lo e size v n xs:=by
 refine h.kept hg ?_
 cases hb:v.ownBlock with
 | none=>exact .inl rfl
 | some k=>right;intro he;have:=(h.lt k hb).1;injection he with he;omega
theorem ai {a b c:World}{row:Option Nat}(h:a.grownBy b row)(k:b.grownBy c row):a.grownBy c row:=
 ⟨k.os.trans h.os,k.tape.trans h.tape,k.output.trans h.output,Nat.le_trans h.size k.size,fun i hi hn=>(k.block i (Nat.lt_of_lt_of_le hi h.size) hn).trans (h.block i hi hn)⟩
theorem eD {w a b:World}{g:Nat}(h:Below w.heap.size w a)(k:a.grownBy b (some g))(hg:w.heap.size≤g):Below w.heap.size w b:=
 h.grown k h.size (fun j hj=>by injection hj with hj;omega)
theorem In {T E:TypeId}{sz:Nat}(hT:Tryz.prog.underlying T=some (.slice (Tryz.prog.elem T)))(hE:Tryz.prog.elem T=E)(hs:∀ w,(sizeOf E).run Tryz.prog w=.ok sz w)
  {A:OA}{n c k:Nat}(hk:k≤c)(w:World):(Instr.slice T (.slice A n c) none (some (.int .i64 k)) none).run Tryz.prog w=.ok (.slice A k c) w:=by
 have hb:(Instr.sliceBounds true n c none (some (.int .i64 k)) none).run Tryz.prog w=.ok (0,k,c) w:=by
  simp[Instr.sliceBounds,run_sliceBound (k:=.i64) (i:=(k:Int)) (y:=c) (h0:=by omega) (h1:=by omega)]
 simp only[Instr.slice,Sem.run_bind,run_underlying hT,Result.andThen_ok,hb,hE,hs,Sem.run_pure]
 cases A<;>simp[Addr.add]
theorem EO {w:World}{base:Nat}{e:TypeId}{size n c:Nat}{A:OA}{xs:LV}(h:w.ownsRow base e size (.slice A n c) n xs)(hn:0<n):
  ∃ g,A=some ⟨g,0,none⟩∧base≤g∧g<w.heap.size∧(∀ j,j<n*size→∃ v,w.cell? ⟨g,j,none⟩=some v)∧∀ j,w.frozen? ⟨g,j,none⟩=false:=by
 obtain⟨g,cap,hv,hb,hlt⟩:=h.form hn
 obtain⟨rfl,rfl⟩:A=some ⟨g,0,none⟩∧c=cap:=by injection hv with h1 _ h2;exact⟨h1,h2⟩
 refine⟨g,rfl,hb,hlt,fun j hj=>?_,fun j=>h.frozenAt j⟩
 have hl:j<xs.length:=by rw[h.1];exact hj
 exact⟨xs[j],by rw[h.cellAt j hj,gG hl]⟩
structure uD (p:Prop):Prop where
 out:¬ p
theorem dB (a b:UInt8):(((a.toNat:Nat):Int)==((b.toNat:Nat):Int))=(a==b):=by
 rw[bI];simp[←UInt8.toNat_inj];omega
def ay (c:UInt8):LU→Bool
 | a::_=>a==c
 | []=>false
theorem vC {c:UInt8}{l:LU}(h:ay c l=true):l=c::l.drop 1:=by
 cases l with
 | nil=>simp[ay] at h
 | cons a r=>simp[ay] at h;simp[h]
end
section
open Go.RowKit Go.Extern.Stop Go.Stop Go.Extern
theorem xv (t:Addr)(w:World):(ReflectliteValue.unpack (.iface 279 (.pointer (some t)))).run Tryz.prog w
  = .ok (.agg #[.pointer (some ⟨12,279,none⟩),.pointer (some ⟨w.heap.size,0,none⟩),.int .u64 150]) (w.alloc (.cells #[.pointer (some t)] 279)):=by kernel_rfl
theorem FJ (a : Addr) (w : World) : (ReflectliteValue.methodAny (ReflectliteValue.valueError "reflectlite.Value.Type" 0) (fun t _ _ _ => ReflectliteType.toType t) #[.agg #[.pointer (some ⟨12, 279, none⟩), .pointer (some a), .int .u64 150]]).run Tryz.prog w
  = .ok (.iface 327 (.agg #[.pointer (some ⟨12,279,none⟩)])) w:=by kernel_rfl
theorem FK (w:World):((ReflectliteType.abiMethod fun t=>(fun a:Nat=>Value.int IntKind.u8 (a:Int)) <$> Rtype.kind t) #[.pointer (some ⟨12,279,none⟩)]).run Tryz.prog w=.ok (.int .u8 22) w:=by kernel_rfl
theorem FO (w:World):(ReflectliteType.method ReflectliteType.elem #[.agg #[.pointer (some ⟨12,279,none⟩)]]).run Tryz.prog w=.ok (.iface 327 (.agg #[.pointer (some ⟨12,28,none⟩)])) w:=by kernel_rfl
theorem sP (w : World) : (ReflectliteType.relation "Implements" ReflectliteType.implements_ #[.agg #[.pointer (some ⟨12, 28, none⟩)], .iface 327 (.agg #[.pointer (some ⟨12, 237, none⟩)])]).run Tryz.prog w = .ok (.bool true) w := by kernel_rfl
theorem BY (v:Value)(w:World):(ReflectliteType.typeOf #[.iface 28 v]).run Tryz.prog w=.ok (.iface 327 (.agg #[.pointer (some ⟨12,28,none⟩)])) w:=by kernel_rfl
theorem sQ (w : World) : (ReflectliteType.relation "AssignableTo" ReflectliteType.assignableTo #[.agg #[.pointer (some ⟨12, 28, none⟩)], .iface 327 (.agg #[.pointer (some ⟨12, 28, none⟩)])]).run Tryz.prog w = .ok (.bool true) w := by kernel_rfl
theorem sR (a:Addr)(w:World):(ReflectliteValue.parts (.agg #[.pointer (some ⟨12,279,none⟩),.pointer (some a),.int .u64 150])).run Tryz.prog w=.ok (some (279,a,150)) w:=by kernel_rfl
theorem BZ (a p:Addr)(W:World)(ha:W.cell? a=some (.pointer (some p))):
  (ReflectliteValue.method (ReflectliteValue.valueError "reflectlite.Value.IsNil" 0) ReflectliteValue.isNil #[.agg #[.pointer (some ⟨12, 279, none⟩), .pointer (some a), .int .u64 150]]).run Tryz.prog W = .ok (.bool false) W := by
 rw[OY]
 simp only[Sem.run_bind,sR,Result.andThen]
 simp[ReflectliteValue.isNil,loadVar,isAgg,underlying,Tryz.underlying279,ha,Result.andThen]
theorem zr (w:World):(Rtype.elem? 279).run Tryz.prog w=.ok (some 28) w:=by kernel_rfl
theorem Nf (p:Addr)(w:World):(ReflectliteValue.mk 28 p ReflectliteValue.flagAddr).run Tryz.prog w=.ok (.agg #[.pointer (some ⟨12,28,none⟩),.pointer (some p),.int .u64 386]) w:=by kernel_rfl
theorem Ca (a p:Addr)(W:World)(ha:W.cell? a=some (.pointer (some p))):
  (ReflectliteValue.method (ReflectliteValue.valueError "reflectlite.Value.Elem" 0) ReflectliteValue.elem #[.agg #[.pointer (some ⟨12, 279, none⟩), .pointer (some a), .int .u64 150]]).run Tryz.prog W
   = .ok (.agg #[.pointer (some ⟨12,28,none⟩),.pointer (some p),.int .u64 386]) W:=by
 rw[OY]
 simp only[Sem.run_bind,sR,Result.andThen]
 simp[ReflectliteValue.elem,loadVar,isAgg,underlying,Tryz.underlying279,ha,Result.andThen,zr,Nf]
theorem Cb (a:Addr)(w:World):(ReflectliteValue.parts (.agg #[.pointer (some ⟨12,28,none⟩),.pointer (some a),.int .u64 386])).run Tryz.prog w=.ok (some (28,a,386)) w:=by kernel_rfl
theorem FQ (a:Addr)(w:World):(ReflectliteValue.parts (.agg #[.pointer (some ⟨12,28,none⟩),.pointer (some a),.int .u64 130])).run Tryz.prog w=.ok (some (28,a,130)) w:=by kernel_rfl
theorem Cc (w:World):(Rtype.directlyAssignable 28 28).run Tryz.prog w=.ok true w:=by kernel_rfl
theorem Jb (w:World):((ReflectliteType.abiMethod fun t=>(fun a:Nat=>Value.int IntKind.u8 (a:Int)) <$> Rtype.kind t) #[.pointer (some ⟨12,28,none⟩)]).run Tryz.prog w=.ok (.int .u8 2) w:=by kernel_rfl
theorem zt (c:Int)(w:World):(ReflectliteValue.unpack (.iface 28 (.int .i64 c))).run Tryz.prog w
  = .ok (.agg #[.pointer (some ⟨12,28,none⟩),.pointer (some ⟨w.heap.size,0,none⟩),.int .u64 130]) (w.alloc (.cells #[.int .i64 c] 28)):=by kernel_rfl
theorem qD (w : World) : (ReflectliteType.relation "AssignableTo" ReflectliteType.assignableTo #[.agg #[.pointer (some ⟨12, 274, none⟩)], .iface 327 (.agg #[.pointer (some ⟨12, 28, none⟩)])]).run Tryz.prog w = .ok (.bool false) w := by kernel_rfl
theorem qE (n : Nat) (v : Value) (w : World) : (Go.method (n + 1) 274 v "Unwrap").run Tryz.prog w = .ok (275, v) w := by kernel_rfl
theorem zu (v:Value)(w:World):(Instr.typeAssert (.iface 274 v) 237 332 true).run Tryz.prog w=.ok (.tuple #[.nilIface,.bool false]) w:=run_typeAssert_lacksB Tryz.underlying332 (by kernel_rfl) (by kernel_rfl) v _ w
theorem zv (v:Value)(w:World):(Instr.typeAssert (.iface 274 v) 237 335 true).run Tryz.prog w=.ok (.tuple #[.iface 274 v,.bool true]) w:=by kernel_rfl
theorem LD (b c:Nat)(y:Int)(o1:Value)(W:World)(hb0:W.cell? ⟨c,0,none⟩=some (.int .i64 y))(h0:W.cell? ⟨b,0,none⟩=some o1)(f0:W.frozen? ⟨b,0,none⟩=false):
  (ReflectliteValue.set #[.agg #[.pointer (some ⟨12,28,none⟩),.pointer (some ⟨b,0,none⟩),.int .u64 386],.agg #[.pointer (some ⟨12,28,none⟩),.pointer (some ⟨c,0,none⟩),.int .u64 130]]).run Tryz.prog W
   = .ok (.tuple #[]) (W.setCell ⟨b,0,none⟩ (.int .i64 y)):=by
 rw[Pk]
 simp only[Sem.run_bind,Cb,FQ,Result.andThen]
 simp[ReflectliteValue.flagAddr,loadVar,isAgg,underlying,Tryz.underlying28,hb0,Result.andThen,Cc,storeVar,Value.cells,storeCells,Addr.add]
 rw[run_store Tryz.prog W ⟨b,0,none⟩ _ _ (by rfl)]
 simp[h0,f0]
theorem Jc (b:Nat)(x y:Int)(w:World)(hG:w.cell? ⟨8,0,none⟩=some (.iface 327 (.agg #[.pointer (some ⟨12,237,none⟩)])))(hB:ax w b [.int .i64 0]):
  Calls Tryz.prog 202 #[.iface 274 (.agg #[.int .i64 x,.int .i64 y]),.iface 279 (.pointer (some ⟨b,0,none⟩))] w fun e w'=>e=.returned (.bool true)∧ax w' b [.int .i64 y]∧w.grownBy w' (some b):=by
 have e1:=@run_callFunc_extern Tryz.prog 230 _ (fun args=>ReflectliteValue.unpack (args.getD 0 (.tuple #[]))) Tryz.func230 (by kernel_rfl) (by kernel_rfl) (by kernel_rfl) (by kernel_rfl)
 have e2 := @run_callFunc_extern Tryz.prog 231 _ (ReflectliteValue.methodAny (ReflectliteValue.valueError "reflectlite.Value.Type" 0) (fun t _ _ _ => ReflectliteType.toType t)) Tryz.func231 (by kernel_rfl) (by kernel_rfl) (by kernel_rfl) (by kernel_rfl)
 have e3 := @run_callFunc_extern Tryz.prog 232 _ (ReflectliteValue.method (ReflectliteValue.valueError "reflectlite.Value.IsNil" 0) ReflectliteValue.isNil) Tryz.func232 (by kernel_rfl) (by kernel_rfl) (by kernel_rfl) (by kernel_rfl)
 have e4:=@run_callFunc_extern Tryz.prog 268 _ (ReflectliteType.abiMethod fun t=>do pure (.int .u8 (←Rtype.kind t))) Tryz.func268 (by kernel_rfl) (by kernel_rfl) (by kernel_rfl) (by kernel_rfl)
 have e5:=@run_callFunc_extern Tryz.prog 282 _ (ReflectliteType.method ReflectliteType.elem) Tryz.func282 (by kernel_rfl) (by kernel_rfl) (by kernel_rfl) (by kernel_rfl)
 have e6 := @run_callFunc_extern Tryz.prog 283 _ (ReflectliteType.relation "Implements" ReflectliteType.implements_) Tryz.func283 (by kernel_rfl) (by kernel_rfl) (by kernel_rfl) (by kernel_rfl)
 have e7:=@run_callFunc_extern Tryz.prog 249 _ ReflectliteType.typeOf Tryz.func249 (by kernel_rfl) (by kernel_rfl) (by kernel_rfl) (by kernel_rfl)
 have e8 := @run_callFunc_extern Tryz.prog 280 _ (ReflectliteType.relation "AssignableTo" ReflectliteType.assignableTo) Tryz.func280 (by kernel_rfl) (by kernel_rfl) (by kernel_rfl) (by kernel_rfl)
 have e9 := @run_callFunc_extern Tryz.prog 250 _ (ReflectliteValue.method (ReflectliteValue.valueError "reflectlite.Value.Elem" 0) ReflectliteValue.elem) Tryz.func250 (by kernel_rfl) (by kernel_rfl) (by kernel_rfl) (by kernel_rfl)
 have e10:=@run_callFunc_extern Tryz.prog 251 _ ReflectliteValue.set Tryz.func251 (by kernel_rfl) (by kernel_rfl) (by kernel_rfl) (by kernel_rfl)
 have m1:=mC
 have m2:=mD
 have m3:=il
 have m4:=gi
 have m5:=qE
 have q1:=xv
 have q2:=zt
 have q3:=FJ
 have q4:=FK
 have q5:=Jb
 have q6:=FO
 have q7:=sP
 have q8:=sM
 have q9:=qD
 have q10:=BY
 have q11:=sQ
 have q12:=zu
 have q13:=zv
 have hg0:=World.block_lt_of_cell? _ _ hG
 have hg0:8<w.heap.size:=hg0
 have hb0:=hB.sz
 let W1:=w.alloc (.cells #[.pointer (some ⟨b,0,none⟩)] 279)
 let W2:=W1.alloc (.cells #[.pointer (some ⟨12,279,none⟩),.pointer (some ⟨w.heap.size,0,none⟩),.int .u64 150] 303)
 let W3:=W2.alloc (.cells #[.pointer (some ⟨12,279,none⟩),.pointer (some ⟨w.heap.size,0,none⟩),.int .u64 150] 303)
 let W4:=W3.alloc (.cells #[.int .i64 x,.int .i64 y] 274)
 let W5:=W4.alloc (.cells #[.int .i64 y] 28)
 have K1:ax W1 w.heap.size [.pointer (some ⟨b,0,none⟩)]:=ax.new w _ _
 have K2:ax W2 w.heap.size [.pointer (some ⟨b,0,none⟩)]:=K1.alloc _
 have K3:ax W4 w.heap.size [.pointer (some ⟨b,0,none⟩)]:=(K2.alloc _).alloc _
 have K5:ax W5 (w.heap.size+1+1+1+1) [.int .i64 y]:=by have:=ax.new W4 [.int .i64 y] 28;simpa [W4,W3,W2,W1] using this
 have T5:ax W5 b [.int .i64 0]:=((((hB.alloc _).alloc _).alloc _).alloc _).alloc _
 have n8:=BZ ⟨w.heap.size,0,none⟩ ⟨b,0,none⟩ W2 (K2.cell 0 _ rfl)
 have el:=Ca ⟨w.heap.size,0,none⟩ ⟨b,0,none⟩ W4 (K3.cell 0 _ rfl)
 have st:=LD b (w.heap.size+1+1+1+1) y _ W5 (K5.cell 0 _ rfl) (T5.cell 0 _ rfl) (T5.free 0 (by simp))
 have hg2:W2.cell? ⟨8,0,none⟩=some (.iface 327 (.agg #[.pointer (some ⟨12,237,none⟩)])):=by
  show((w.alloc _).alloc _).cell? _=_
  rw[World.cell?_alloc_lt _ _ ⟨8,0,none⟩ (by simp;omega),World.cell?_alloc_lt _ _ ⟨8,0,none⟩ hg0];exact hG
 have FIN:Hid (ax (W5.setCell ⟨b,0,none⟩ (.int .i64 y)) b [.int .i64 y]):=T5.set 0 (by simp) _
 have GRW:Hid (w.grownBy (W5.setCell ⟨b,0,none⟩ (.int .i64 y)) (some b)):=by
  have hb5:Below w.heap.size w W5:=((((bR.alloc lr _).alloc (by simp) _).alloc (by simp;omega) _).alloc (by simp;omega) _).alloc (by simp;omega) _
  have g5:w.grownBy W5 (some b):=⟨hb5.os,hb5.tape,hb5.output,hb5.size,fun i hi _=>hb5.block i hi⟩
  exact aY g5 (.inl rfl) _
 simp only[W5,W4,W3,W2,W1] at n8 el st hg2 FIN GRW
 clear K1 K2 K3 K5 T5 hB
 clear W5 W4 W3 W2 W1
 go_enter Tryz.func202,Tryz.ntmps202
 go_wp2
 refine wp_loop_rounds 2 ?_
 rw[rounds_succ]
 go_wp2
 rw[rounds_succ]
 go_wp2
 go_ret
 exact⟨rfl,FIN.out,GRW.out⟩
end
section
open Go.RowKit
def lst (n k:Nat):Array Bool:=Array.ofFn (n:=n) fun i=>decide (i.val<k)
theorem Ko (n:Nat):Array.replicate n false=lst n 0:=by
 unfold lst
 apply Array.ext
 ·simp
 ·intro i h1 h2;simp
theorem rp (n k:Nat):(lst n k).setIfInBounds k true=lst n (k+1):=by
 unfold lst
 apply Array.ext
 ·simp
 ·intro i h1 h2
  rw[Array.getElem_setIfInBounds (by simpa using h2)]
  split
  ·rename_i h;simp[←h]
  ·rename_i h
   simp only[Array.getElem_ofFn]
   congr 1
   simp only[eq_iff_iff]
   omega
def Dt (O:Array Oper)(k:Nat):Bool:=Region.free .any O (lst O.size k) k&&(Region.ready .any O (lst O.size k)).contains k
theorem fC {O ops:Array Oper}(hO:O=ops){k:Nat}{o:Oper}(h:ops[k]?=some o):O[k]?=some o:=hO ▸ h
section
variable {P : Program} {O : Array Oper} {R : Act → World → Prop} {S : World → Prop} {n k f j : Nat} {o og : Oper} {v : Value} {t : Array Value} {df : List Deferred} {w : World}
theorem OJ {id:Nat}{Q:Exit→Act→World→Prop}{a:Act}(h:∀ O',O'=O→Code.wp P (.region id O' true) Q a w):Code.wp P (.region id O true) Q a w:=h O rfl
theorem NG (hok:∀ k,k<n→Dt O k=true)(hns:Region.noSelect O=true)(hk:k<n)(ho:O[k]?=some o)(hd:o.dst=some j)(hy:YieldsIf P O S o v ⟨t,df⟩)(hS:S w)
  (h:wpAnyH P .any O (Exit.then R fun _ _ _=>False) S f (lst O.size (k+1)) ⟨t.setIfInBounds j v,df⟩ w):
  wpAnyH P .any O (Exit.then R fun _ _ _=>False) S (f+1) (lst O.size k) ⟨t,df⟩ w:=by
 have h0:=hok k hk
 unfold Dt at h0
 rw[Bool.and_eq_true] at h0
 refine wpAnyH_take (i:=k) (oi:=o) (v:=v) ho hns h0.1 h0.2 (fun _ _ _ h=>h) hy hS ?_
 rw[rp,hd]
 exact h
theorem eV (hok:∀ k,k<n→Dt O k=true)(hns:Region.noSelect O=true)(ho:O[k]?=some o)
  (h:wpAnyH P .any O (Exit.then R fun _ _ _=>False) S f (lst O.size (k+1)) ⟨t.setIfInBounds j v,df⟩ w)
  (hk:k<n:=by decide)(hd:o.dst=some j:=by rfl)(hg:o.guard=none:=by rfl)(hS:S w:=by assumption)
  (he:∀ w,S w→(execOp (Act.eval ⟨t,df⟩) o).run P w=.ok (.value v) w:=by(intro w' hSw;(try dsimp only at hSw);go_simp;try (with_reducible rfl))):
  wpAnyH P .any O (Exit.then R fun _ _ _=>False) S (f+1) (lst O.size k) ⟨t,df⟩ w:=
 NG hok hns hk ho hd (.inl ⟨by unfold Region.wanted;rw[hg],he⟩) hS h
theorem Kp {id:Nat}{a:Act}(hm:P.follows .mixedOrders=true)(hS:S w.drew)
  (h:S w.drew→wpAnyH P .any O (Exit.then R fun _ _ _=>False) S O.size (lst O.size 0) a w.drew):(Code.region id O true).wp P (Exit.then R fun _ _ _=>False) a w:=by
 refine wp_region_held_drew hm hS fun h0=>?_
 rw[Ko]
 exact h h0
theorem MO (Pst:World→Prop)(hr:Region.ready .any O (lst O.size k)=[k])(ho:O[k]?=some o)(hd:o.dst=some j)(hw:Region.wanted o (yielded O t)=true)(hS':∀ w',Pst w'→S w')
  (he:∀ K:Act→World→Prop,(∀ w',Pst w'→K ⟨t.setIfInBounds j v,df⟩ w')→Oper.wp P o ⟨t,df⟩ w K (Exit.then R fun _ _ _=>False))
  (h:∀ w',Pst w'→S w'→wpAnyH P .any O (Exit.then R fun _ _ _=>False) S f (lst O.size (k+1)) ⟨t.setIfInBounds j v,df⟩ w'):
  wpAnyH P .any O (Exit.then R fun _ _ _=>False) S (f+1) (lst O.size k) ⟨t,df⟩ w:=by
 refine wpAnyH_ready hr (by simp) (AllReadyH.cons ho (fun K hK=>?_) AllReadyH.nil)
 rw[if_pos hw]
 refine he K fun w' hp=>hK.out _ _ (hS' w' hp) fun _=>?_
 rw[rp]
 exact h w' hp (hS' w' hp)
theorem OK {L L':Array Bool}(hns:Region.noSelect O=true)(hf:Region.free .any O L k=true)(hc:(Region.ready .any O L).contains k=true)(hL:L.setIfInBounds k true=L')(ho:O[k]?=some o)
  (h:wpAnyH P .any O (Exit.then R fun _ _ _=>False) S f L' ⟨t.setIfInBounds j v,df⟩ w)
  (hd:o.dst=some j:=by rfl)(hg:o.guard=none:=by rfl)(hS:S w:=by assumption)
  (he:∀ w,S w→(execOp (Act.eval ⟨t,df⟩) o).run P w=.ok (.value v) w:=by(intro w' hSw;(try dsimp only at hSw);go_simp;try (with_reducible rfl))):
  wpAnyH P .any O (Exit.then R fun _ _ _=>False) S (f+1) L ⟨t,df⟩ w:=by
 refine wpAnyH_take (i:=k) (oi:=o) (v:=v) ho hns hf hc (fun _ _ _ h=>h) (.inl ⟨by unfold Region.wanted;rw[hg],he⟩) hS ?_
 rw[hd,hL]
 exact h
theorem NH {L L':Array Bool}{w':World}(hr:Region.ready .any O L=[k])(hL:L.setIfInBounds k true=L')(ho:O[k]?=some o)(hd:o.dst=none)(hw:Region.wanted o (yielded O t)=true)(hS':S w')
  (he:∀ K:Act→World→Prop,K ⟨t,df⟩ w'→Oper.wp P o ⟨t,df⟩ w K (Exit.then R fun _ _ _=>False))
  (h:S w'→wpAnyH P .any O (Exit.then R fun _ _ _=>False) S f L' ⟨t,df⟩ w'):
  wpAnyH P .any O (Exit.then R fun _ _ _=>False) S (f+1) L ⟨t,df⟩ w:=by
 refine wpAnyH_ready hr (by simp) (AllReadyH.cons ho (fun K hK=>?_) AllReadyH.nil)
 rw[if_pos hw]
 refine he K (hK.out _ _ hS' fun _=>?_)
 rw[hL]
 exact h hS'
theorem OO {id:Nat}{Q:Exit→Act→World→Prop}{a:Act}(h:Code.wp P (.region id O true) (Exit.then (fun a w=>Q .normal a w) fun _ _ _=>False) a w):Code.wp P (.region id O true) Q a w:=
 Code.wp_mono (fun e a w h=>by cases e<;>first | exact h | exact h.elim) h
theorem MP {a:Act}(hr:Region.ready .any O (lst O.size k)=[])(h:R a w):wpAnyH P .any O (Exit.then R fun _ _ _=>False) S f (lst O.size k) a w:=wpAnyH_done hr h f
end
end
section
open Go.RowKit Go.WideShapes Go.ChangeShapes
section
variable {H : Type} {enc : TypeId × Value → H} {P : Program}
theorem vn {f:Func}{s:ChangeSpec}{apart fresh handsOn again:Bool}{W W':World}{args:Array Value}{v:Value}{ds gs:List (DataW H)}{before pa pv:List MemPlace}
  (hW:DataW.Whole enc P f.params.toList s.vars apart W args.toList ds gs before)
  (hres:∀ (b:Nat)(sp:Nat→Bool)(hd:Bool),DataW.TrodAll enc P W' b sp hd f.resultTypes.toList (v.resultList f.resultTypes.size) (s.fn H (ds++gs)).results [])
  (hargs:∀ sp:Nat→Bool,(∀ p∈before,sp p.block=true)→DataW.TrodAll enc P W' 0 sp true f.params.toList args.toList (s.fn H (ds++gs)).args pa)
  (hvars:∀ sp:Nat→Bool,(∀ p∈before,sp p.block=true)→DataW.TrodVars enc P W' sp s.vars (s.fn H (ds++gs)).vars pv)
  (hps:before=pa++pv)(hb:Below W.heap.size W W')
  (hok:∀ (j:Nat)(t:TypeId)(r:Value),f.resultTypes[j]?=some t→(v.resultList f.resultTypes.size)[j]?=some r→Value.okWide P W' .any 0 t r):
  s.post enc P f apart fresh handsOn again W args v W':=by
 have hlt:∀ p∈before,p.block<W.heap.size:=fun p hp=>hW.lt p hp
 have hold:∀ p∈before,(fun b=>decide (b<W.heap.size)) p.block=true:=fun p hp=>by simpa using hlt p hp
 refine⟨ds,gs,before,[],pa,pv,hW,hres _ _ _,hargs _ hold,hvars _ hold,World.keptBut_mono (fun p hp=>⟨hp,?_⟩) (hb.frame (·∈before)),fun _=>?_⟩
 ·rw[hps,List.mem_append] at hp
  exact Or.inr hp
 ·obtain⟨_,_,_,_,_,hz,hn⟩:=hW
  refine⟨hok,_,_,([]++pa)++pv,⟨[]++pa,pv,trodAll_append (hargs _ (fun _ _=>rfl)) (hres _ _ _),hvars _ (fun _ _=>rfl),rfl,?_,?_⟩,?_⟩
  ·intro b off hp
   have hin:MemPlace.cell b off∈before:=by rw[hps];simpa using hp
   rw[hb.frozen (hlt _ hin)]
   exact hz b off hin
  ·intro ha
   have:=hn ha
   rw[hps] at this
   simpa using this
  ·intro p hp _
   rw[hps]
   simpa using hp
end
end
end Go.Proofs.YtaohgmcbpafdeaaGreatDoor
