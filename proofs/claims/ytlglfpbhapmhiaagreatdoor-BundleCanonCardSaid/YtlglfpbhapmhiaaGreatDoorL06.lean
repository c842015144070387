/- A part of the proof. -/
import Derived.Test.YtlglfpbhapmhiaaGreatDoorCards
import Derived.Test.YtlglfpbhapmhiaaGreatDoorTie
import Derived.BigRegion
import Derived.ChangeAlike
import Derived.ChangeSame
import Derived.Deep.DeepHandedRow
import Derived.Deep.DeepWitnessRowRef
import Derived.Deep.Fields
import Derived.Deep.RegionHeld3
import Derived.Deep.RegionLaw
import Derived.Deep.Slices
import Derived.LaidEql
import Derived.LaidEqlPtr
import Derived.LaidHandle
import Derived.Laws.Bits64b
import Derived.Laws.BytesArg
import Derived.Laws.CopyOwn
import Derived.Laws.IdiomCopy
import Derived.Laws.IdiomStrings
import Derived.Laws.StructEq
import Derived.Lay
import Derived.Lib.DecodeN
import Derived.Lib.IndexAny
import Derived.Lib.IndexMore
import Derived.Lib.LaidTab
import Derived.Lib.LastIndexByte
import Derived.Lib.OthersKept
import Derived.Lib.SplitLaws
import Derived.MapKept
import Derived.Maps.Own
import Derived.Maps.OwnOps
import Derived.Maps.OwnSet
import Derived.OpenShut
import Derived.RowKitTokens
import Derived.Shelf.LaysM
import Derived.Shelf.Slices.Equal
import Derived.Shelf.Slices.Turned
import Derived.Shelf.Small.Bits
import Derived.Shelf.Small.Strs
import Derived.Shelf.Small.Utf8
import Derived.Shelf.Small.Wraps
import Derived.Shelf.Strconv.Itoa0
import Derived.Shelf.Strings.AsciiSet
import Derived.Shelf.Strings.Builder1
import Derived.Shelf.Strings.Builder2
import Derived.Shelf.Strings.BuilderF
import Derived.Shelf.Strings.Count
import Derived.Shelf.Strings.Cut
import Derived.Shelf.Strings.IndexAny
import Derived.Shelf.Strings.IndexAnyAll
import Derived.Shelf.Strings.LastIndex
import Derived.Shelf.Strings.OnBuilder
import Derived.Shelf.Strings.Prefix
import Derived.Shelf.Strings.Runes
import Derived.Shelf.Strings.Search1
import Derived.Shelf.Strings.Search2
import Derived.Shelf.Strings.Search3
import Derived.Shelf.Strings.SlTrimAscii
import Derived.Shelf.Strings.Split
import Derived.Shelf.Strings.SplitShaped
import Derived.Shelf.Strings.Trim
import Derived.Shelf.Unicode.Decode
import Derived.Sort.KeysCollected
import Derived.StillTailTactics
import Derived.Stop.Asserts
import Derived.StringKeys
import Derived.WalkMore
import Derived.WalkSmall
import Derived.Test.YtlglfpbhapmhiaaGreatDoorL01
import Derived.Test.YtlglfpbhapmhiaaGreatDoorL02
import Derived.Test.YtlglfpbhapmhiaaGreatDoorL05
set_option maxRecDepth 100000
set_option maxHeartbeats 20000000
set_option linter.unusedVariables false
set_option linter.unusedSimpArgs false
namespace Go.Proofs.YtlglfpbhapmhiaaGreatDoor
variable{a:Act}{L L':Array Bool}{fs:Array Field}{O:Array Oper}{f:BA->Option Value}{Q:Exit->Act->World->Prop}{vs:LV}{b c d fuel g id j k n sz:Nat}{A:OA}{o:Oper}{E T e t:TypeId}{v z:Value}{W w w' wr:World}
section
open Go.RowKit
def nv (x:BitVec 32):Int:=(x.toNat:Int)
theorem RU (x:BitVec 32):0<=nv x:=by unfold nv;omega
theorem RX (x:BitVec 32):nv x<=4294967295:=by have:=x.isLt;unfold nv;omega
theorem jS (x:BitVec 32):BitVec.ofInt 32 (nv x)=x:=by
 unfold nv;rw[BitVec.ofInt_natCast,BitVec.ofNat_toNat,BitVec.setWidth_eq]
theorem tj (x:BitVec 32):IntKind.u32.wrap (x.toNat:Int)=nv x:=IntWalk.u32_in _ ⟨RU x,RX x⟩
theorem tJ (x y:BitVec 32):bits .and .u32 (nv x) (nv y)=nv (x &&& y):=by
 show IntKind.u32.wrap ((BitVec.ofInt 32 (nv x) &&& BitVec.ofInt 32 (nv y)).toNat:Int)=_;rw[jS,jS,tj]
theorem AP (x y:BitVec 32):bits .or .u32 (nv x) (nv y)=nv (x ||| y):=by
 show IntKind.u32.wrap ((BitVec.ofInt 32 (nv x) ||| BitVec.ofInt 32 (nv y)).toNat:Int)=_;rw[jS,jS,tj]
theorem ze (x y:BitVec 32):bits .xor .u32 (nv x) (nv y)=nv (x ^^^ y):=by
 show IntKind.u32.wrap ((BitVec.ofInt 32 (nv x) ^^^ BitVec.ofInt 32 (nv y)).toNat:Int)=_;rw[jS,jS,tj]
theorem zf (x:BitVec 32):bits .xor .u32 4294967295 (nv x)=nv (~~~x):=by
 show IntKind.u32.wrap ((BitVec.ofInt 32 (4294967295:Int) ^^^ BitVec.ofInt 32 (nv x)).toNat:Int)=_;rw[jS,show BitVec.ofInt 32 (4294967295:Int)=BitVec.allOnes 32 from rfl,BitVec.allOnes_xor,tj]
theorem qF (x y:BitVec 32):(nv x+nv y) % 4294967296=nv (x+y):=by
 unfold nv;rw[BitVec.toNat_add];omega
theorem fS (x y:BitVec 32):IntKind.u32.wrap (nv x+nv y)=nv (x+y):=by rw[IntKind.wrap_u32,qF]
theorem Qu (x:BitVec 32)(k:Nat):nv x*2 ^ k % 4294967296=nv (x <<< k):=by
 unfold nv;rw[BitVec.toNat_shiftLeft,Nat.shiftLeft_eq];simp
theorem Lf (x:BitVec 32)(k:Nat):nv x / 2 ^ k=nv (x >>> k):=by
 unfold nv;rw[BitVec.toNat_ushiftRight,Nat.shiftRight_eq_div_pow];simp
def rl (k:Nat)(x:BitVec 32):BitVec 32:=(x <<< k) ||| (x >>> (32-k))
def rr (k:Nat)(x:BitVec 32):BitVec 32:=rl (32-k) x
theorem iF (x y:BitVec 32):∃ z,IntKind.u32.wrap (nv x+nv y)=nv z/\(nv x+nv y) % 4294967296=nv z/\Hid (z=x+y):=⟨_,fS _ _,qF _ _,rfl⟩
theorem oe (x y:BitVec 32):∃ z,bits .and .u32 (nv x) (nv y)=nv z/\Hid (z=x &&& y):=⟨_,tJ _ _,rfl⟩
theorem Qv (x y:BitVec 32):∃ z,bits .or .u32 (nv x) (nv y)=nv z/\Hid (z=x ||| y):=⟨_,AP _ _,rfl⟩
theorem it (x y:BitVec 32):∃ z,bits .xor .u32 (nv x) (nv y)=nv z/\Hid (z=x ^^^ y):=⟨_,ze _ _,rfl⟩
theorem Qe (x:BitVec 32):∃ z,bits .xor .u32 (if IntKind.u32.signed=true then -1 else IntKind.u32.max) (nv x)=nv z/\Hid (z = ~~~x):=⟨_,zf _,rfl⟩
theorem RY:∀ k:Nat,k<32->bits .and .u64 (k:Int) 31=(k:Int):=by decide
theorem dS (x:BitVec 32)(k:Nat)(hk:k<32)(hk0:0<k)(w:World):Calls Tryz.prog 189 #[.int .u32 (nv x),.int .i64 (k:Int)] w fun e w'=>e=.returned (.int .u32 (nv (rl k x)))/\w'=w:=by
 have hs:=Qu x k;have hr:=Lf x (32-k);have ha:=RY k hk;have ho:=AP (x <<< k) (x >>> (32-k));rw[show x <<< k ||| x >>> (32-k)=rl k x from rfl] at ho;have e32:IntKind.u64.wrap (32-(k:Int))=32-(k:Int):=IntWalk.u64_in _ (by omega);go_in;go_wp2;go_ret;exact⟨rfl,rfl⟩
theorem bC (x:BitVec 32)(k:Nat)(hk:k<32)(hk0:0<k)(w:World):Calls Tryz.prog 190 #[.int .u32 (nv x),.int .i64 (k:Int)] w fun e w'=>e=.returned (.int .u32 (nv (rr k x)))/\w'=w:=by
 go_in;go_wp2_with fail;rw[show(32:Int)-(k:Int)=((32-k:Nat):Int) by omega];refine(dS x (32-k) (by omega) (by omega) w).mono ?_;rintro e w' ⟨rfl,rfl⟩;go_wp2;go_ret;exact⟨rfl,rfl⟩
structure ax (wr:World) (b:Nat) (vs:LV):Prop where
 sz:b<wr.heap.size
 cell:∀ (j:Nat)(u:Value),vs[j]?=some u->wr.cell? ⟨b,j,none⟩=some u
 free:∀ j:Nat,j<vs.length->wr.frozen? ⟨b,j,none⟩=false
theorem ax.new (w:World)(vs:LV)(t:TypeId):ax (w.alloc (.cells vs.toArray t)) w.heap.size vs:=
 ⟨by simp,fun j u hu=>by simp[hu],fun j _=>by simp⟩
theorem ax.below (h:ax wr b vs)(hb:Below wr.heap.size wr w'):ax w' b vs:=
 ⟨Nat.lt_of_lt_of_le h.sz hb.size,fun j u hu=>(hb.cell (p:=⟨b,j,none⟩) h.sz).trans (h.cell j u hu),fun j hj=>(hb.frozen (p:=⟨b,j,none⟩) h.sz).trans (h.free j hj)⟩
theorem ax.belowN (h:ax wr b vs)(hb:Below n wr w')(hn:b<n):ax w' b vs:=
 ⟨Nat.lt_of_lt_of_le h.sz hb.size,fun j u hu=>(hb.cell (p:=⟨b,j,none⟩) hn).trans (h.cell j u hu),fun j hj=>(hb.frozen (p:=⟨b,j,none⟩) hn).trans (h.free j hj)⟩
theorem ax.alloc (h:ax wr b vs)(o:Obj):ax (wr.alloc o) b vs:=h.below (bR.alloc lr o)
theorem ax.drewN (h:ax wr b vs)(k:Nat):ax (wr.drewN k) b vs:=h.below ⟨rfl,rfl,rfl,lr,fun _ _=>rfl⟩
theorem ax.drew (h:ax wr b vs):ax wr.drew b vs:=h.below ⟨rfl,rfl,rfl,lr,fun _ _=>rfl⟩
theorem ax.set (h:ax wr b vs)(j:Nat)(hj:j<vs.length)(v:Value):ax (wr.setCell ⟨b,j,none⟩ v) b (vs.set j v):=by
 refine⟨by simpa using h.sz,fun i u hu=>?_,fun i hi=>by rw[World.frozen?_setCell];exact h.free i (by simpa using hi)⟩;by_cases e:j=i
 ·subst e;rw[List.getElem?_set_self hj] at hu;injection hu with hu;subst hu;exact World.cell?_setCell_same' _ _ _ (by rw[h.cell j vs[j] (gG hj)];rfl)
 ·rw[List.getElem?_set_ne e] at hu;rw[World.cell?_setCell_other (h:=by intro h;injection h with _ h;exact e h)];exact h.cell i u hu
theorem ax.far (h:ax wr b vs)(hne:c≠b)(v:Value):ax (wr.setCell ⟨c,j,none⟩ v) b vs:=
 ⟨by simpa using h.sz,fun i u hu=>by rw[World.cell?_setCell_other (h:=by intro h;injection h with h;exact hne h)];exact h.cell i u hu,fun i hi=>by rw[World.frozen?_setCell];exact h.free i hi⟩
theorem ai {a:World}(h:Below n a wr)(hc:n<=c)(v:Value):Below n a (wr.setCell ⟨c,j,none⟩ v):=h.setCell (p:=⟨c,j,none⟩) hc v
end
section
open Go.RowKit Go.Maps
def RV (v:Value):Option (DataW Value×List MemPlace):=some (.held v,[])
theorem pH {a b:Value}(h:(DataW.held a:DataW Value)=.held b):a=b:=by injection h
theorem pI:Keyed Tryz.prog 9:=string_keyed Tryz.underlying9
def kl (s:BA):Lit:=.string s.data.toList
theorem Qh {s t:BA}(h:s≠t):kl s≠kl t:=by
 intro he;apply h;unfold kl at he;injection he with he;exact dC he
def bm (w:World)(b n:Nat)(f:BA->Option Value):Prop:=
 ∃ D:DataW Value,w.ownsMap Tryz.prog 9 RV b n D/\∀ s:BA,s.size<=maxLen->(Maps.has D (kl s)=(f s).isSome/\∀ z v,f s=some v->D.atKey (kl s) z=.held v)
theorem bm.made (w:World):bm (w.alloc (.map #[] 0)) w.heap.size 0 (fun _=>none):=
 ⟨.map [],World.ownsMap_made _ _ _ _,fun s _=>⟨rfl,fun z v h=>by cases h⟩⟩
theorem bm.kept {row:Option Nat}(h:bm w b n f)(hg:w.grownBy w' row)(hne:some b≠row):bm w' b n f:=by
 obtain⟨D,h1,h2⟩:=h;exact⟨D,h1.kept hg hne,h2⟩
theorem bm.below (h:bm w b n f)(hb:Below w.heap.size w w'):bm w' b n f:=by
 obtain⟨D,h1,h2⟩:=h;exact⟨D,h1.kept (row:=none) ⟨hb.os,hb.tape,hb.output,hb.size,fun i hi _=>hb.block i hi⟩ (by simp),h2⟩
theorem bm.lt (h:bm w b n f):b<w.heap.size:=by
 obtain⟨D,h1,_⟩:=h;exact h1.lt
theorem Ed (s:BA)(h:s.size<=maxLen):keyOf Tryz.prog 9 (.string s)=some (kl s):=Go.WideMaps.keyOf_string_mk Tryz.underlying9 h
theorem bm.look_ok (h:bm w b n f)(ht:Tryz.prog.underlying t=some (.map 9 e))(hz:∀ w,(zeroValue e).run Tryz.prog w=.ok z w)(s:BA)(hs:s.size<=maxLen):
  (Instr.lookup t (.map (some b)) (.string s) true).run Tryz.prog w=.ok (.tuple #[(f s).getD z,.bool (f s).isSome]) w:=by
 obtain⟨D,h1,h2⟩:=h;obtain⟨v,ps,hrun,hv⟩:=h1.look_ok pI ht (hz w) (show RV z=some (.held z,[]) from rfl) (Ed s hs);obtain⟨h3,h4⟩:=h2 s hs;rw[hrun,h3];have:DataW.held v=D.atKey (kl s) (.held z):=congrArg Prod.fst (Option.some.inj hv);cases hf:f s with
 | none=>
  rw[hf] at h3;rw[atKey_of_not_has (by simpa using h3)] at this;rw[pH this];rfl
 | some u=>
  rw[h4 (.held z) u hf] at this;rw[pH this];rfl
theorem bm.look (h:bm w b n f)(ht:Tryz.prog.underlying t=some (.map 9 e))(hz:∀ w,(zeroValue e).run Tryz.prog w=.ok z w)(s:BA)(hs:s.size<=maxLen):
  (Instr.lookup t (.map (some b)) (.string s) false).run Tryz.prog w=.ok ((f s).getD z) w:=by
 obtain⟨D,h1,h2⟩:=h;obtain⟨v,ps,hrun,hv⟩:=h1.lookup pI ht (hz w) (show RV z=some (.held z,[]) from rfl) (Ed s hs);obtain⟨h3,h4⟩:=h2 s hs;rw[hrun];have:DataW.held v=D.atKey (kl s) (.held z):=congrArg Prod.fst (Option.some.inj hv);cases hf:f s with
 | none=>
  rw[hf] at h3;rw[atKey_of_not_has (by simpa using h3)] at this;rw[pH this];rfl
 | some u=>
  rw[h4 (.held z) u hf] at this;rw[pH this];rfl
theorem bm.put (h:bm w b n f)(ht:Tryz.prog.underlying t=some (.map 9 e))(hn:n<maxLen)(s:BA)(hs:s.size<=maxLen)(v:Value):
  ∃ w',(Instr.mapUpdate t (.map (some b)) (.string s) v).run Tryz.prog w=.ok () w'/\bm w' b (n+1) (fun x=>if x=s then some v else f x)/\w.grownBy w' (some b):=by
 obtain⟨D,h1,h2⟩:=h;obtain⟨w',hrun,hown,hg⟩:=h1.update pI ht hn (Ed s hs) (show RV v=some (.held v,[]) from rfl);have hm:=(h1.tidy pI).isMap;refine⟨w',hrun,⟨_,hown,fun x hx=>?_⟩,hg⟩;by_cases hxs:x=s
 ·subst hxs;have hk:WideAt.IsKeyLit (kl x):=trivial;simp only[if_pos];exact⟨by rw[has_put_same hm hk];rfl,fun z u hu=>by have hu:=Option.some.inj hu;subst hu;exact atKey_put_same hm hk _ _⟩
 ·simp only[if_neg hxs];obtain⟨h3,h4⟩:=h2 x hx;exact⟨by rw[has_put_other (Qh hxs)];exact h3,fun z u hu=>by rw[atKey_put_other (Qh hxs)];exact h4 z u hu⟩
end
section
open Go.RowKit
theorem eA (a b:UInt8):(((a.toNat:Nat):Int)==((b.toNat:Nat):Int))=(a==b):=by
 rw[bI];simp[<-UInt8.toNat_inj];omega
def aA (c:UInt8):LU->Bool
 | a::_=>a==c
 | []=>false
theorem xR {c:UInt8}{l:LU}(h:aA c l=true):l=c::l.drop 1:=by
 cases l with
 | nil=>simp[aA] at h
 | cons a r=>simp[aA] at h;simp[h]
end
section
open Go.RowKit Go.Extern.Stop Go.Stop Go.Extern
theorem zK (t:Addr)(w:World):(ReflectliteValue.unpack (.iface 268 (.pointer (some t)))).run Tryz.prog w
  = .ok (.agg #[.pointer (some ⟨12,268,none⟩),.pointer (some ⟨w.heap.size,0,none⟩),.int .u64 150]) (w.alloc (.cells #[.pointer (some t)] 268)):=by kernel_rfl
theorem BG (a c:Int)(w:World):(ReflectliteValue.unpack (.iface 264 (.agg #[.int .i64 a,.int .i64 c]))).run Tryz.prog w
  = .ok (.agg #[.pointer (some ⟨12,264,none⟩),.pointer (some ⟨w.heap.size,0,none⟩),.int .u64 153]) (w.alloc (.cells #[.int .i64 a,.int .i64 c] 264)):=by kernel_rfl
theorem IX (a : Addr) (w : World) : (ReflectliteValue.methodAny (ReflectliteValue.valueError "reflectlite.Value.Type" 0) (fun t _ _ _ => ReflectliteType.toType t) #[.agg #[.pointer (some ⟨12, 268, none⟩), .pointer (some a), .int .u64 150]]).run Tryz.prog w
  = .ok (.iface 317 (.agg #[.pointer (some ⟨12,268,none⟩)])) w:=by kernel_rfl
theorem oB (n : Nat) (h : Value) (w : World) : (Go.method (n + 1) 317 (.agg #[h]) "Kind").run Tryz.prog w = .ok (285, h) w := by kernel_rfl
theorem oC (n : Nat) (h : Value) (w : World) : (Go.method (n + 1) 317 (.agg #[h]) "Elem").run Tryz.prog w = .ok (299, .agg #[h]) w := by kernel_rfl
theorem jD (n : Nat) (h : Value) (w : World) : (Go.method (n + 1) 317 (.agg #[h]) "Implements").run Tryz.prog w = .ok (300, .agg #[h]) w := by kernel_rfl
theorem iz (n : Nat) (h : Value) (w : World) : (Go.method (n + 1) 317 (.agg #[h]) "AssignableTo").run Tryz.prog w = .ok (297, .agg #[h]) w := by kernel_rfl
theorem IY (w:World):((ReflectliteType.abiMethod fun t=>(fun a:Nat=>Value.int IntKind.u8 (a:Int)) <$> Rtype.kind t) #[.pointer (some ⟨12,268,none⟩)]).run Tryz.prog w=.ok (.int .u8 22) w:=by kernel_rfl
theorem LZ (w:World):((ReflectliteType.abiMethod fun t=>(fun a:Nat=>Value.int IntKind.u8 (a:Int)) <$> Rtype.kind t) #[.pointer (some ⟨12,264,none⟩)]).run Tryz.prog w=.ok (.int .u8 25) w:=by kernel_rfl
theorem IZ (w:World):(ReflectliteType.method ReflectliteType.elem #[.agg #[.pointer (some ⟨12,268,none⟩)]]).run Tryz.prog w=.ok (.iface 317 (.agg #[.pointer (some ⟨12,264,none⟩)])) w:=by kernel_rfl
theorem uE (w : World) : (ReflectliteType.relation "Implements" ReflectliteType.implements_ #[.agg #[.pointer (some ⟨12, 264, none⟩)], .iface 317 (.agg #[.pointer (some ⟨12, 228, none⟩)])]).run Tryz.prog w = .ok (.bool true) w := by kernel_rfl
theorem uF (v:Value)(w:World):(ReflectliteType.typeOf #[.iface 264 v]).run Tryz.prog w=.ok (.iface 317 (.agg #[.pointer (some ⟨12,264,none⟩)])) w:=by kernel_rfl
theorem uG (w : World) : (ReflectliteType.relation "AssignableTo" ReflectliteType.assignableTo #[.agg #[.pointer (some ⟨12, 264, none⟩)], .iface 317 (.agg #[.pointer (some ⟨12, 264, none⟩)])]).run Tryz.prog w = .ok (.bool true) w := by kernel_rfl
theorem Sv (z:Sem Value)(f:TypeId->Addr->Nat->Nat->Sem Value)(v:Value):
  ReflectliteValue.method z f #[v]=(do match <-ReflectliteValue.parts v with | none=>z | some (t,a,fl)=>f t a fl (fl % 32)):=rfl
theorem uH (a:Addr)(w:World):(ReflectliteValue.parts (.agg #[.pointer (some ⟨12,268,none⟩),.pointer (some a),.int .u64 150])).run Tryz.prog w=.ok (some (268,a,150)) w:=by kernel_rfl
theorem Eu (a p:Addr)(W:World)(ha:W.cell? a=some (.pointer (some p))):
  (ReflectliteValue.method (ReflectliteValue.valueError "reflectlite.Value.IsNil" 0) ReflectliteValue.isNil #[.agg #[.pointer (some ⟨12, 268, none⟩), .pointer (some a), .int .u64 150]]).run Tryz.prog W = .ok (.bool false) W := by
 rw[Sv];simp only[Sem.run_bind,uH,Result.andThen];simp[ReflectliteValue.isNil,loadVar,isAgg,underlying,Tryz.underlying268,ha,Result.andThen]
theorem BH (w:World):(Rtype.elem? 268).run Tryz.prog w=.ok (some 264) w:=by kernel_rfl
theorem QP (p:Addr)(w:World):(ReflectliteValue.mk 264 p ReflectliteValue.flagAddr).run Tryz.prog w=.ok (.agg #[.pointer (some ⟨12,264,none⟩),.pointer (some p),.int .u64 409]) w:=by kernel_rfl
theorem Ev (a p:Addr)(W:World)(ha:W.cell? a=some (.pointer (some p))):
  (ReflectliteValue.method (ReflectliteValue.valueError "reflectlite.Value.Elem" 0) ReflectliteValue.elem #[.agg #[.pointer (some ⟨12, 268, none⟩), .pointer (some a), .int .u64 150]]).run Tryz.prog W
   = .ok (.agg #[.pointer (some ⟨12,264,none⟩),.pointer (some p),.int .u64 409]) W:=by
 rw[Sv];simp only[Sem.run_bind,uH,Result.andThen];simp[ReflectliteValue.elem,loadVar,isAgg,underlying,Tryz.underlying268,ha,Result.andThen,BH,QP]
theorem SF (v x:Value):ReflectliteValue.set #[v,x]=(do
  let(some (dst,a,fl),some (src,b,_)):=(<-ReflectliteValue.parts v,<-ReflectliteValue.parts x)
   | unsupported (.noEntry "extern/(internal/reflectlite.Value).Set.zeroValue")
  if fl / ReflectliteValue.flagAddr % 2 == 0 then unsupported (.noEntry "extern/(internal/reflectlite.Value).Set.unaddressable")
  let val <-loadVar src b
  if <-Rtype.directlyAssignable dst src then storeVar dst a val
  else if <-Rtype.implements dst src then
   if (<-Rtype.kind src)==20 then
    match val with
    | .nilIface => unsupported (.noEntry "extern/reflectlite: a nil value of one interface type handed on as a value of another")
    | _=>storeVar dst a val
   else storeVar dst a (.iface src val)
  else panicString ("reflectlite.Set: value of type " ++ (<- Rtype.spelt src) ++ " is not assignable to type " ++ (<- Rtype.spelt dst))
  pure (.tuple #[])):=rfl
theorem Ew (a:Addr)(w:World):(ReflectliteValue.parts (.agg #[.pointer (some ⟨12,264,none⟩),.pointer (some a),.int .u64 409])).run Tryz.prog w=.ok (some (264,a,409)) w:=by kernel_rfl
theorem I0 (a:Addr)(w:World):(ReflectliteValue.parts (.agg #[.pointer (some ⟨12,264,none⟩),.pointer (some a),.int .u64 153])).run Tryz.prog w=.ok (some (264,a,153)) w:=by kernel_rfl
theorem Ex (w:World):(Rtype.directlyAssignable 264 264).run Tryz.prog w=.ok true w:=by kernel_rfl
theorem OS (b c:Nat)(x y:Int)(o1 o2:Value)(W:World)(hb0:W.cell? ⟨c,0,none⟩=some (.int .i64 x))(hb1:W.cell? ⟨c,1,none⟩=some (.int .i64 y))(h0:W.cell? ⟨b,0,none⟩=some o1)(h1:W.cell? ⟨b,1,none⟩=some o2)(f0:W.frozen? ⟨b,0,none⟩=false)(f1:W.frozen? ⟨b,1,none⟩=false):
  (ReflectliteValue.set #[.agg #[.pointer (some ⟨12,264,none⟩),.pointer (some ⟨b,0,none⟩),.int .u64 409],.agg #[.pointer (some ⟨12,264,none⟩),.pointer (some ⟨c,0,none⟩),.int .u64 153]]).run Tryz.prog W
   = .ok (.tuple #[]) ((W.setCell ⟨b,0,none⟩ (.int .i64 x)).setCell ⟨b,1,none⟩ (.int .i64 y)):=by
 have hl:(loadCells ⟨c,0,none⟩ 2).run Tryz.prog W=.ok #[.int .i64 x,.int .i64 y] W:=by
  refine run_loadCells_list _ ⟨c,0,none⟩ [.int .i64 x,.int .i64 y] (fun j v hj=>?_)
  match j,hj with
  | 0,hj=>simp at hj;subst hj;simpa [Addr.add] using hb0
  | 1,hj=>simp at hj;subst hj;simpa [Addr.add] using hb1
  | j+2,hj=>simp at hj
 have h1':(W.setCell ⟨b,0,none⟩ (.int .i64 x)).cell? ⟨b,1,none⟩=some o2:=by
  rw[World.cell?_setCell_other (h:=by intro h;injection h with _ h;omega)];exact h1
 rw[SF];simp only[Sem.run_bind,Ew,I0,Result.andThen];simp[ReflectliteValue.flagAddr,loadVar,isAgg,underlying,Tryz.underlying264,hl,Result.andThen,Ex,storeVar,Value.cells,storeCells,Addr.add];rw[run_store Tryz.prog W ⟨b,0,none⟩ _ _ (by rfl)];simp only[h0,f0,Bool.false_eq_true,if_false];rw[run_store Tryz.prog _ ⟨b,1,none⟩ _ _ (by rfl)];simp[h1',f1]
def zL (w:World):Prop:=Gl w/\w.cell? ⟨8,0,none⟩=some (.iface 317 (.agg #[.pointer (some ⟨12,228,none⟩)]))
theorem zL.below (h:zL w)(hb:Below w.heap.size w w'):zL w':=⟨h.1.below hb,(hb.cell (World.block_lt_of_cell? _ _ h.2)).trans h.2⟩
theorem zM (t:Addr)(w:World):(ReflectliteValue.unpack (.iface 269 (.pointer (some t)))).run Tryz.prog w
  = .ok (.agg #[.pointer (some ⟨12,269,none⟩),.pointer (some ⟨w.heap.size,0,none⟩),.int .u64 150]) (w.alloc (.cells #[.pointer (some t)] 269)):=by kernel_rfl
theorem I8 (a : Addr) (w : World) : (ReflectliteValue.methodAny (ReflectliteValue.valueError "reflectlite.Value.Type" 0) (fun t _ _ _ => ReflectliteType.toType t) #[.agg #[.pointer (some ⟨12, 269, none⟩), .pointer (some a), .int .u64 150]]).run Tryz.prog w
  = .ok (.iface 317 (.agg #[.pointer (some ⟨12,269,none⟩)])) w:=by kernel_rfl
theorem I9 (w:World):((ReflectliteType.abiMethod fun t=>(fun a:Nat=>Value.int IntKind.u8 (a:Int)) <$> Rtype.kind t) #[.pointer (some ⟨12,269,none⟩)]).run Tryz.prog w=.ok (.int .u8 22) w:=by kernel_rfl
theorem Ja (w:World):(ReflectliteType.method ReflectliteType.elem #[.agg #[.pointer (some ⟨12,269,none⟩)]]).run Tryz.prog w=.ok (.iface 317 (.agg #[.pointer (some ⟨12,36,none⟩)])) w:=by kernel_rfl
theorem uI (w : World) : (ReflectliteType.relation "Implements" ReflectliteType.implements_ #[.agg #[.pointer (some ⟨12, 36, none⟩)], .iface 317 (.agg #[.pointer (some ⟨12, 228, none⟩)])]).run Tryz.prog w = .ok (.bool true) w := by kernel_rfl
theorem Ey (v:Value)(w:World):(ReflectliteType.typeOf #[.iface 36 v]).run Tryz.prog w=.ok (.iface 317 (.agg #[.pointer (some ⟨12,36,none⟩)])) w:=by kernel_rfl
theorem uJ (w : World) : (ReflectliteType.relation "AssignableTo" ReflectliteType.assignableTo #[.agg #[.pointer (some ⟨12, 36, none⟩)], .iface 317 (.agg #[.pointer (some ⟨12, 36, none⟩)])]).run Tryz.prog w = .ok (.bool true) w := by kernel_rfl
theorem uK (a:Addr)(w:World):(ReflectliteValue.parts (.agg #[.pointer (some ⟨12,269,none⟩),.pointer (some a),.int .u64 150])).run Tryz.prog w=.ok (some (269,a,150)) w:=by kernel_rfl
theorem Ez (a p:Addr)(W:World)(ha:W.cell? a=some (.pointer (some p))):
  (ReflectliteValue.method (ReflectliteValue.valueError "reflectlite.Value.IsNil" 0) ReflectliteValue.isNil #[.agg #[.pointer (some ⟨12, 269, none⟩), .pointer (some a), .int .u64 150]]).run Tryz.prog W = .ok (.bool false) W := by
 rw[Sv];simp only[Sem.run_bind,uK,Result.andThen];simp[ReflectliteValue.isNil,loadVar,isAgg,underlying,Tryz.underlying269,ha,Result.andThen]
theorem BJ (w:World):(Rtype.elem? 269).run Tryz.prog w=.ok (some 36) w:=by kernel_rfl
theorem QR (p:Addr)(w:World):(ReflectliteValue.mk 36 p ReflectliteValue.flagAddr).run Tryz.prog w=.ok (.agg #[.pointer (some ⟨12,36,none⟩),.pointer (some p),.int .u64 386]) w:=by kernel_rfl
theorem EC (a p:Addr)(W:World)(ha:W.cell? a=some (.pointer (some p))):
  (ReflectliteValue.method (ReflectliteValue.valueError "reflectlite.Value.Elem" 0) ReflectliteValue.elem #[.agg #[.pointer (some ⟨12, 269, none⟩), .pointer (some a), .int .u64 150]]).run Tryz.prog W
   = .ok (.agg #[.pointer (some ⟨12,36,none⟩),.pointer (some p),.int .u64 386]) W:=by
 rw[Sv];simp only[Sem.run_bind,uK,Result.andThen];simp[ReflectliteValue.elem,loadVar,isAgg,underlying,Tryz.underlying269,ha,Result.andThen,BJ,QR]
theorem ED (a:Addr)(w:World):(ReflectliteValue.parts (.agg #[.pointer (some ⟨12,36,none⟩),.pointer (some a),.int .u64 386])).run Tryz.prog w=.ok (some (36,a,386)) w:=by kernel_rfl
theorem Jb (a:Addr)(w:World):(ReflectliteValue.parts (.agg #[.pointer (some ⟨12,36,none⟩),.pointer (some a),.int .u64 130])).run Tryz.prog w=.ok (some (36,a,130)) w:=by kernel_rfl
theorem EF (w:World):(Rtype.directlyAssignable 36 36).run Tryz.prog w=.ok true w:=by kernel_rfl
theorem Ma (w:World):((ReflectliteType.abiMethod fun t=>(fun a:Nat=>Value.int IntKind.u8 (a:Int)) <$> Rtype.kind t) #[.pointer (some ⟨12,36,none⟩)]).run Tryz.prog w=.ok (.int .u8 2) w:=by kernel_rfl
theorem BK (c:Int)(w:World):(ReflectliteValue.unpack (.iface 36 (.int .i64 c))).run Tryz.prog w
  = .ok (.agg #[.pointer (some ⟨12,36,none⟩),.pointer (some ⟨w.heap.size,0,none⟩),.int .u64 130]) (w.alloc (.cells #[.int .i64 c] 36)):=by kernel_rfl
theorem sN (w : World) : (ReflectliteType.relation "AssignableTo" ReflectliteType.assignableTo #[.agg #[.pointer (some ⟨12, 264, none⟩)], .iface 317 (.agg #[.pointer (some ⟨12, 36, none⟩)])]).run Tryz.prog w = .ok (.bool false) w := by kernel_rfl
theorem sO (n : Nat) (v : Value) (w : World) : (Go.method (n + 1) 264 v "Unwrap").run Tryz.prog w = .ok (292, v) w := by kernel_rfl
theorem BM (v:Value)(w:World):(Instr.typeAssert (.iface 264 v) 228 322 true).run Tryz.prog w=.ok (.tuple #[.nilIface,.bool false]) w:=run_typeAssert_lacksB Tryz.underlying322 (by kernel_rfl) (by kernel_rfl) v _ w
theorem BN (v:Value)(w:World):(Instr.typeAssert (.iface 264 v) 228 325 true).run Tryz.prog w=.ok (.tuple #[.iface 264 v,.bool true]) w:=by kernel_rfl
theorem OT (b c:Nat)(y:Int)(o1:Value)(W:World)(hb0:W.cell? ⟨c,0,none⟩=some (.int .i64 y))(h0:W.cell? ⟨b,0,none⟩=some o1)(f0:W.frozen? ⟨b,0,none⟩=false):
  (ReflectliteValue.set #[.agg #[.pointer (some ⟨12,36,none⟩),.pointer (some ⟨b,0,none⟩),.int .u64 386],.agg #[.pointer (some ⟨12,36,none⟩),.pointer (some ⟨c,0,none⟩),.int .u64 130]]).run Tryz.prog W
   = .ok (.tuple #[]) (W.setCell ⟨b,0,none⟩ (.int .i64 y)):=by
 rw[SF];simp only[Sem.run_bind,ED,Jb,Result.andThen];simp[ReflectliteValue.flagAddr,loadVar,isAgg,underlying,Tryz.underlying36,hb0,Result.andThen,EF,storeVar,Value.cells,storeCells,Addr.add];rw[run_store Tryz.prog W ⟨b,0,none⟩ _ _ (by rfl)];simp[h0,f0]
theorem Mb (b:Nat)(x y:Int)(w:World)(hG:w.cell? ⟨8,0,none⟩=some (.iface 317 (.agg #[.pointer (some ⟨12,228,none⟩)])))(hB:ax w b [.int .i64 0]):Calls Tryz.prog 219 #[.iface 264 (.agg #[.int .i64 x,.int .i64 y]),.iface 269 (.pointer (some ⟨b,0,none⟩))] w fun e w'=>e=.returned (.bool true)/\ax w' b [.int .i64 y]/\w.grownBy w' (some b):=by
 have e1:=@run_callFunc_extern Tryz.prog 247 _ (fun args=>ReflectliteValue.unpack (args.getD 0 (.tuple #[]))) Tryz.func247 (by kernel_rfl) (by kernel_rfl) (by kernel_rfl) (by kernel_rfl);have e2 := @run_callFunc_extern Tryz.prog 248 _ (ReflectliteValue.methodAny (ReflectliteValue.valueError "reflectlite.Value.Type" 0) (fun t _ _ _ => ReflectliteType.toType t)) Tryz.func248 (by kernel_rfl) (by kernel_rfl) (by kernel_rfl) (by kernel_rfl);have e3 := @run_callFunc_extern Tryz.prog 249 _ (ReflectliteValue.method (ReflectliteValue.valueError "reflectlite.Value.IsNil" 0) ReflectliteValue.isNil) Tryz.func249 (by kernel_rfl) (by kernel_rfl) (by kernel_rfl) (by kernel_rfl);have e4:=@run_callFunc_extern Tryz.prog 285 _ (ReflectliteType.abiMethod fun t=>do pure (.int .u8 (<-Rtype.kind t))) Tryz.func285 (by kernel_rfl) (by kernel_rfl) (by kernel_rfl) (by kernel_rfl);have e5:=@run_callFunc_extern Tryz.prog 299 _ (ReflectliteType.method ReflectliteType.elem) Tryz.func299 (by kernel_rfl) (by kernel_rfl) (by kernel_rfl) (by kernel_rfl);have e6 := @run_callFunc_extern Tryz.prog 300 _ (ReflectliteType.relation "Implements" ReflectliteType.implements_) Tryz.func300 (by kernel_rfl) (by kernel_rfl) (by kernel_rfl) (by kernel_rfl);have e7:=@run_callFunc_extern Tryz.prog 266 _ ReflectliteType.typeOf Tryz.func266 (by kernel_rfl) (by kernel_rfl) (by kernel_rfl) (by kernel_rfl);have e8 := @run_callFunc_extern Tryz.prog 297 _ (ReflectliteType.relation "AssignableTo" ReflectliteType.assignableTo) Tryz.func297 (by kernel_rfl) (by kernel_rfl) (by kernel_rfl) (by kernel_rfl);have e9 := @run_callFunc_extern Tryz.prog 267 _ (ReflectliteValue.method (ReflectliteValue.valueError "reflectlite.Value.Elem" 0) ReflectliteValue.elem) Tryz.func267 (by kernel_rfl) (by kernel_rfl) (by kernel_rfl) (by kernel_rfl);have e10:=@run_callFunc_extern Tryz.prog 268 _ ReflectliteValue.set Tryz.func268 (by kernel_rfl) (by kernel_rfl) (by kernel_rfl) (by kernel_rfl);have m1:=oB;have m2:=oC;have m3:=jD;have m4:=iz;have m5:=sO;have q1:=zM;have q2:=BK;have q3:=I8;have q4:=I9;have q5:=Ma;have q6:=Ja;have q7:=uI;have q8:=uF;have q9:=sN;have q10:=Ey;have q11:=uJ;have q12:=BM;have q13:=BN;have hg0:=World.block_lt_of_cell? _ _ hG;have hg0:8<w.heap.size:=hg0;have hb0:=hB.sz
 let W1:=w.alloc (.cells #[.pointer (some ⟨b,0,none⟩)] 269)
 let W2:=W1.alloc (.cells #[.pointer (some ⟨12,269,none⟩),.pointer (some ⟨w.heap.size,0,none⟩),.int .u64 150] 293)
 let W3:=W2.alloc (.cells #[.pointer (some ⟨12,269,none⟩),.pointer (some ⟨w.heap.size,0,none⟩),.int .u64 150] 293)
 let W4:=W3.alloc (.cells #[.int .i64 x,.int .i64 y] 264)
 let W5:=W4.alloc (.cells #[.int .i64 y] 36)
 have K1:ax W1 w.heap.size [.pointer (some ⟨b,0,none⟩)]:=ax.new w _ _;have K2:ax W2 w.heap.size [.pointer (some ⟨b,0,none⟩)]:=K1.alloc _;have K3:ax W4 w.heap.size [.pointer (some ⟨b,0,none⟩)]:=(K2.alloc _).alloc _;have K5:ax W5 (w.heap.size+1+1+1+1) [.int .i64 y]:=by have:=ax.new W4 [.int .i64 y] 36;simpa [W4,W3,W2,W1] using this
 have T5:ax W5 b [.int .i64 0]:=((((hB.alloc _).alloc _).alloc _).alloc _).alloc _;have n8:=Ez ⟨w.heap.size,0,none⟩ ⟨b,0,none⟩ W2 (K2.cell 0 _ rfl);have el:=EC ⟨w.heap.size,0,none⟩ ⟨b,0,none⟩ W4 (K3.cell 0 _ rfl);have st:=OT b (w.heap.size+1+1+1+1) y _ W5 (K5.cell 0 _ rfl) (T5.cell 0 _ rfl) (T5.free 0 (by simp));have hg2:W2.cell? ⟨8,0,none⟩=some (.iface 317 (.agg #[.pointer (some ⟨12,228,none⟩)])):=by
  show((w.alloc _).alloc _).cell? _=_;rw[World.cell?_alloc_lt _ _ ⟨8,0,none⟩ (by simp;omega),World.cell?_alloc_lt _ _ ⟨8,0,none⟩ hg0];exact hG
 have FIN:Hid (ax (W5.setCell ⟨b,0,none⟩ (.int .i64 y)) b [.int .i64 y]):=T5.set 0 (by simp) _;have GRW:Hid (w.grownBy (W5.setCell ⟨b,0,none⟩ (.int .i64 y)) (some b)):=by
  have hb5:Below w.heap.size w W5:=((((bR.alloc lr _).alloc (by simp) _).alloc (by simp;omega) _).alloc (by simp;omega) _).alloc (by simp;omega) _;have g5:w.grownBy W5 (some b):=⟨hb5.os,hb5.tape,hb5.output,hb5.size,fun i hi _=>hb5.block i hi⟩
  exact ap g5 (.inl rfl) _
 simp only[W5,W4,W3,W2,W1] at n8 el st hg2 FIN GRW;clear K1 K2 K3 K5 T5 hB;clear W5 W4 W3 W2 W1;go_in;go_wp2;refine wp_loop_rounds 2 ?_;rw[rounds_succ];go_wp2;rw[rounds_succ];go_wp2;go_ret;exact⟨rfl,FIN.out,GRW.out⟩
end
theorem uM (a:LU):¬ a<a:=List.lt_irrefl a
theorem Hc {a b c:LU}(h:a<b)(k:b<c):a<c:=List.lt_trans h k
theorem qW {a b:LU}(h:¬ a<b)(hne:a≠b):b<a:=by
 have h1:b<=a:=h;by_cases hb:b<a
 ·exact hb
 ·exact absurd (List.le_antisymm (show a<=b from hb) h1) hne
section
open Go.RowKit
open Classical
def kn (l:List av):List BA:=l.map (·.path)
end
section
open Go.RowKit Go.Maps
theorem bm.alloc (h:bm w b n f)(o:Obj):bm (w.alloc o) b n f:=h.kept (World.grownBy_alloc w o none) (by simp)
theorem EZ {base:Nat}{size:Nat}{xs:LV}{cs:Array Value}{fr:Nat×Nat}(h:W.ownsRow base e size v n xs)(hb:W.heap[b]?=some (.cells cs t fr))(hne:t≠e):some b≠v.ownBlock:=by
 intro he;rcases h.2 with⟨rfl,_⟩ | ⟨g,cap,cur,rfl,_,hg,_⟩
 ·simp[Value.ownBlock] at he
 ·simp[Value.ownBlock] at he;subst he;rw[hb] at hg;injection hg with hg;injection hg with _ h2 _;exact hne h2
end
section
open Go.RowKit
theorem BR (hT:Tryz.prog.underlying T=some (.slice (Tryz.prog.elem T)))(hE:Tryz.prog.elem T=E)(hs:∀ w,(sizeOf E).run Tryz.prog w=.ok sz w)
  (hk:k<=c)(w:World):(Instr.slice T (.slice A n c) none (some (.int .i64 k)) none).run Tryz.prog w=.ok (.slice A k c) w:=by
 have hb:(Instr.sliceBounds true n c none (some (.int .i64 k)) none).run Tryz.prog w=.ok (0,k,c) w:=by
  simp[Instr.sliceBounds,run_sliceBound (k:=.i64) (i:=(k:Int)) (y:=c) (h0:=by omega) (h1:=by omega)]
 simp only[Instr.slice,Sem.run_bind,run_underlying hT,Result.andThen_ok,hb,hE,hs,Sem.run_pure];cases A<;>simp[Addr.add]
theorem E9 (hT:Tryz.prog.underlying T=some (.slice (Tryz.prog.elem T)))(hE:Tryz.prog.elem T=E)(hs:∀ w,(sizeOf E).run Tryz.prog w=.ok sz w)
  (hk:k<=n)(w:World):(Instr.slice T (.slice A n c) (some (.int .i64 k)) none none).run Tryz.prog w=.ok (.slice (if c=k then A else A.map (·.add (k*sz))) (n-k) (c-k)) w:=by
 have hb:(Instr.sliceBounds true n c (some (.int .i64 k)) none none).run Tryz.prog w=.ok (k,n,c) w:=by
  simp[Instr.sliceBounds,run_sliceBound (k:=.i64) (i:=(k:Int)) (y:=n) (h0:=by omega) (h1:=by omega)]
 simp only[Instr.slice,Sem.run_bind,run_underlying hT,Result.andThen_ok,hb,hE,hs,Sem.run_pure]
theorem Fa {b1 b2:Nat}{e1 e2:TypeId}{s1 s2 n1 n2:Nat}{v1 v2:Value}{x1 x2:LV}(h1:W.ownsRow b1 e1 s1 v1 n1 x1)(h2:W.ownsRow b2 e2 s2 v2 n2 x2)(hne:e1≠e2):v1.ownBlock=none\/v1.ownBlock≠v2.ownBlock:=by
 rcases h1.2 with⟨rfl,_⟩ | ⟨g,cap,cur,rfl,_,hg,_⟩
 ·exact .inl rfl
 ·exact .inr (EZ h2 hg hne)
end
section
open Go.RowKit Go.Maps
def Rg (x y:av):Bool:=(x.kind==y.kind)&&((x.mode==y.mode)&&((x.owner.toList==y.owner.toList)&&((x.group.toList==y.group.toList)&&(x.link.toList==y.link.toList))))
def Sl (fs:List av)(s:BA):Option av:=fs.find? fun y=>decide (y.path=s)
def Sm (q:bK)(x:av):Bool:=match Sl q.files x.path with
 | none=>false
 | some y=>!Rg y x
def conf (pre:List bK)(x:av):Bool:=pre.any fun q=>Sm q x
end
section
open Go.RowKit
def kE (n k:Nat):Array Bool:=Array.ofFn (n:=n) fun i=>decide (i.val<k)
theorem NK (n:Nat):Array.replicate n false=kE n 0:=by
 unfold kE;apply Array.ext
 ·simp
 ·intro i h1 h2;simp
theorem Hy (n k:Nat):(kE n k).setIfInBounds k true=kE n (k+1):=by
 unfold kE;apply Array.ext
 ·simp
 ·intro i h1 h2;rw[Array.getElem_setIfInBounds (by simpa using h2)];split
  ·rename_i h;simp[<-h]
  ·rename_i h;simp only[Array.getElem_ofFn];congr 1;simp only[eq_iff_iff];omega
def pn (O:Array Oper)(k:Nat):Bool:=Region.free .any O (kE O.size k) k&&(Region.ready .any O (kE O.size k)).contains k
def gd (t:Array Value)(d:Nat)(b:Bool):Bool:=match t[d]? with | some (.bool c)=>c==b | _=>false
theorem gP {t:Array Value}{og:Oper}{b:Bool}(hg:o.guard=some (g,b))(hpg:O[g]?=some og)(hdg:og.dst=some d):
  Region.wanted o (yielded O t)=gd t d b:=by
 unfold Region.wanted;rw[hg];show(yielded O t g==some b)=_;unfold yielded gd;rw[hpg];show((match (og.dst).bind (t[·]?) with | some (.bool b)=>some b | _=>none)==some b)=_;rw[hdg];show((match t[d]? with | some (.bool b)=>some b | _=>none)==some b)=_;cases h:t[d]? with
 | none=>rfl
 | some x=>cases x<;>rfl
theorem az {ops:Array Oper}(hO:O=ops)(h:ops[k]?=some o):O[k]?=some o:=hO ▸ h
section
variable {P : Program} {O : Array Oper} {R : Act -> World -> Prop} {S : World -> Prop} {n k f j : Nat} {o og : Oper} {v : Value} {t : Array Value} {df : List Deferred} {w : World}
theorem Ky (h:∀ O',O'=O->Code.wp P (.region id O' true) Q a w):Code.wp P (.region id O true) Q a w:=h O rfl
theorem Gw (hok:∀ k,k<n->pn O k=true)(hns:Region.noSelect O=true)(hk:k<n)(ho:O[k]?=some o)(hd:o.dst=some j)(hy:YieldsIf P O S o v ⟨t,df⟩)(hS:S w)
  (h:wpAnyH P .any O (Exit.then R fun _ _ _=>False) S f (kE O.size (k+1)) ⟨t.setIfInBounds j v,df⟩ w):
  wpAnyH P .any O (Exit.then R fun _ _ _=>False) S (f+1) (kE O.size k) ⟨t,df⟩ w:=by
 have h0:=hok k hk;unfold pn at h0;rw[Bool.and_eq_true] at h0;refine wpAnyH_take (i:=k) (oi:=o) (v:=v) ho hns h0.1 h0.2 (fun _ _ _ h=>h) hy hS ?_;rw[Hy,hd];exact h
theorem aH (hok:∀ k,k<n->pn O k=true)(hns:Region.noSelect O=true)(ho:O[k]?=some o)
  (h:wpAnyH P .any O (Exit.then R fun _ _ _=>False) S f (kE O.size (k+1)) ⟨t.setIfInBounds j v,df⟩ w)
  (hk:k<n:=by decide)(hd:o.dst=some j:=by rfl)(hg:o.guard=none:=by rfl)(hS:S w:=by assumption)
  (he:∀ w,S w->(execOp (Act.eval ⟨t,df⟩) o).run P w=.ok (.value v) w:=by(intro w' hSw;(try dsimp only at hSw);go_simp;try (with_reducible rfl))):
  wpAnyH P .any O (Exit.then R fun _ _ _=>False) S (f+1) (kE O.size k) ⟨t,df⟩ w:=
 Gw hok hns hk ho hd (.inl ⟨by unfold Region.wanted;rw[hg],he⟩) hS h
theorem aD {b:Bool}(hok:∀ k,k<n->pn O k=true)(hns:Region.noSelect O=true)(ho:O[k]?=some o)(hpg:O[g]?=some og)
  (h:wpAnyH P .any O (Exit.then R fun _ _ _=>False) S f (kE O.size (k+1)) ⟨t.setIfInBounds j v,df⟩ w)
  (hk:k<n:=by decide)(hd:o.dst=some j:=by rfl)(hg:o.guard=some (g,b):=by rfl)(hdg:og.dst=some d:=by rfl)(hgd:gd t d b=true:=by kernel_rfl)(hS:S w:=by assumption)
  (he:∀ w,S w->(execOp (Act.eval ⟨t,df⟩) o).run P w=.ok (.value v) w:=by(intro w' hSw;(try dsimp only at hSw);go_simp;try (with_reducible rfl))):
  wpAnyH P .any O (Exit.then R fun _ _ _=>False) S (f+1) (kE O.size k) ⟨t,df⟩ w:=
 Gw hok hns hk ho hd (.inl ⟨by rw[gP hg hpg hdg];exact hgd,he⟩) hS h
theorem aC {b:Bool}(hok:∀ k,k<n->pn O k=true)(hns:Region.noSelect O=true)(ho:O[k]?=some o)(hpg:O[g]?=some og)
  (h:wpAnyH P .any O (Exit.then R fun _ _ _=>False) S f (kE O.size (k+1)) ⟨t.setIfInBounds j undef,df⟩ w)
  (hk:k<n:=by decide)(hd:o.dst=some j:=by rfl)(hg:o.guard=some (g,b):=by rfl)(hdg:og.dst=some d:=by rfl)(hgd:gd t d b=false:=by kernel_rfl)(hS:S w:=by assumption):
  wpAnyH P .any O (Exit.then R fun _ _ _=>False) S (f+1) (kE O.size k) ⟨t,df⟩ w:=
 Gw hok hns hk ho hd (.inr ⟨by rw[gP hg hpg hdg];exact hgd,rfl⟩) hS h
theorem rB (hm:P.follows .mixedOrders=true)(hS:S w.drew)
  (h:S w.drew->wpAnyH P .any O (Exit.then R fun _ _ _=>False) S O.size (kE O.size 0) a w.drew):(Code.region id O true).wp P (Exit.then R fun _ _ _=>False) a w:=by
 refine wp_region_held_drew hm hS fun h0=>?_;rw[NK];exact h h0
theorem wi (Pst:World->Prop)(hr:Region.ready .any O (kE O.size k)=[k])(ho:O[k]?=some o)(hd:o.dst=some j)(hw:Region.wanted o (yielded O t)=true)(hS':∀ w',Pst w'->S w')
  (he:∀ K:Act->World->Prop,(∀ w',Pst w'->K ⟨t.setIfInBounds j v,df⟩ w')->Oper.wp P o ⟨t,df⟩ w K (Exit.then R fun _ _ _=>False))
  (h:∀ w',Pst w'->S w'->wpAnyH P .any O (Exit.then R fun _ _ _=>False) S f (kE O.size (k+1)) ⟨t.setIfInBounds j v,df⟩ w'):
  wpAnyH P .any O (Exit.then R fun _ _ _=>False) S (f+1) (kE O.size k) ⟨t,df⟩ w:=by
 refine wpAnyH_ready hr (by simp) (AllReadyH.cons ho (fun K hK=>?_) AllReadyH.nil);rw[if_pos hw];refine he K fun w' hp=>hK.out _ _ (hS' w' hp) fun _=>?_;rw[Hy];exact h w' hp (hS' w' hp)
theorem PI (n k:Nat):((kE n k).setIfInBounds (k+1) true).setIfInBounds k true=kE n (k+2):=by
 unfold kE;apply Array.ext
 ·simp
 ·intro i h1 h2;rw[Array.getElem_setIfInBounds (by simpa using h2)];split
  ·rename_i h;simp[<-h]
  ·rename_i h;rw[Array.getElem_setIfInBounds (by simpa using h2)];split
   ·rename_i h';simp[<-h']
   ·rename_i h';simp only[Array.getElem_ofFn];congr 1;simp only[eq_iff_iff];omega
theorem PJ {b:Bool}(hns:Region.noSelect O=true)(hf:Region.free .any O (kE O.size k) (k+1)=true)(hc:(Region.ready .any O (kE O.size k)).contains (k+1)=true)(ho:O[k+1]?=some o)(hpg:O[g]?=some og)
  (h:wpAnyH P .any O (Exit.then R fun _ _ _=>False) S f ((kE O.size k).setIfInBounds (k+1) true) ⟨t.setIfInBounds j v,df⟩ w)
  (hd:o.dst=some j:=by rfl)(hg:o.guard=some (g,b):=by rfl)(hdg:og.dst=some d:=by rfl)(hgd:gd t d b=true:=by kernel_rfl)(hS:S w:=by assumption)
  (he:∀ w,S w->(execOp (Act.eval ⟨t,df⟩) o).run P w=.ok (.value v) w:=by(intro w' hSw;(try dsimp only at hSw);go_simp;try (with_reducible rfl))):
  wpAnyH P .any O (Exit.then R fun _ _ _=>False) S (f+1) (kE O.size k) ⟨t,df⟩ w:=by
 refine wpAnyH_take (i:=k+1) (oi:=o) (v:=v) ho hns hf hc (fun _ _ _ h=>h) (.inl ⟨by rw[gP hg hpg hdg];exact hgd,he⟩) hS ?_;rw[hd];exact h
theorem Ry (Pst:World->Prop)(hr:Region.ready .any O ((kE O.size k).setIfInBounds (k+1) true)=[k])(ho:O[k]?=some o)(hd:o.dst=some j)(hw:Region.wanted o (yielded O t)=true)(hS':∀ w',Pst w'->S w')
  (he:∀ K:Act->World->Prop,(∀ w',Pst w'->K ⟨t.setIfInBounds j v,df⟩ w')->Oper.wp P o ⟨t,df⟩ w K (Exit.then R fun _ _ _=>False))
  (h:∀ w',Pst w'->S w'->wpAnyH P .any O (Exit.then R fun _ _ _=>False) S f (kE O.size (k+2)) ⟨t.setIfInBounds j v,df⟩ w'):
  wpAnyH P .any O (Exit.then R fun _ _ _=>False) S (f+1) ((kE O.size k).setIfInBounds (k+1) true) ⟨t,df⟩ w:=by
 refine wpAnyH_ready hr (by simp) (AllReadyH.cons ho (fun K hK=>?_) AllReadyH.nil);rw[if_pos hw];refine he K fun w' hp=>hK.out _ _ (hS' w' hp) fun _=>?_;rw[PI];exact h w' hp (hS' w' hp)
theorem Dt (hns:Region.noSelect O=true)(hf:Region.free .any O L k=true)(hc:(Region.ready .any O L).contains k=true)(hL:L.setIfInBounds k true=L')(ho:O[k]?=some o)
  (h:wpAnyH P .any O (Exit.then R fun _ _ _=>False) S f L' ⟨t.setIfInBounds j v,df⟩ w)
  (hd:o.dst=some j:=by rfl)(hg:o.guard=none:=by rfl)(hS:S w:=by assumption)
  (he:∀ w,S w->(execOp (Act.eval ⟨t,df⟩) o).run P w=.ok (.value v) w:=by(intro w' hSw;(try dsimp only at hSw);go_simp;try (with_reducible rfl))):
  wpAnyH P .any O (Exit.then R fun _ _ _=>False) S (f+1) L ⟨t,df⟩ w:=by
 refine wpAnyH_take (i:=k) (oi:=o) (v:=v) ho hns hf hc (fun _ _ _ h=>h) (.inl ⟨by unfold Region.wanted;rw[hg],he⟩) hS ?_;rw[hd,hL];exact h
theorem Qs (Pst:World->Prop)(hr:Region.ready .any O L=[k])(hL:L.setIfInBounds k true=L')(ho:O[k]?=some o)(hd:o.dst=some j)(hw:Region.wanted o (yielded O t)=true)(hS':∀ w',Pst w'->S w')
  (he:∀ K:Act->World->Prop,(∀ w',Pst w'->K ⟨t.setIfInBounds j v,df⟩ w')->Oper.wp P o ⟨t,df⟩ w K (Exit.then R fun _ _ _=>False))
  (h:∀ w',Pst w'->S w'->wpAnyH P .any O (Exit.then R fun _ _ _=>False) S f L' ⟨t.setIfInBounds j v,df⟩ w'):
  wpAnyH P .any O (Exit.then R fun _ _ _=>False) S (f+1) L ⟨t,df⟩ w:=by
 refine wpAnyH_ready hr (by simp) (AllReadyH.cons ho (fun K hK=>?_) AllReadyH.nil);rw[if_pos hw];refine he K fun w' hp=>hK.out _ _ (hS' w' hp) fun _=>?_;rw[hL];exact h w' hp (hS' w' hp)
theorem Kz (h:Code.wp P (.region id O true) (Exit.then (fun a w=>Q .normal a w) fun _ _ _=>False) a w):Code.wp P (.region id O true) Q a w:=
 Code.wp_mono (fun e a w h=>by cases e<;>first | exact h | exact h.elim) h
theorem lS (hr:Region.ready .any O (kE O.size k)=[])(h:R a w):wpAnyH P .any O (Exit.then R fun _ _ _=>False) S f (kE O.size k) a w:=wpAnyH_done hr h f
end
end
section
open Go.ChangeShapes Go.WideShapes Go.ChangeAt Go.RowKit
theorem own:ownKnob Tryz.prog.godebug=none:=by kernel_rfl
def nB:List (String×DataW Unit):=Rows.bundleCanonRow.laid
def jQ : List (String × DataW Unit) := [("drayage/api.Md5Table", Rows.laid_drayage_api_Md5Table), ("drayage/api.ShaTable", Rows.laid_drayage_api_ShaTable), ("unicode/utf8.acceptRanges", Rows.laid_unicode_utf8_acceptRanges), ("drayage/digest.turns", Rows.laid_drayage_digest_turns), ("drayage/version.words", Rows.laid_drayage_version_words), ("drayage/adep.signs", Rows.laid_drayage_adep_signs), ("drayage/ddep.signs", Rows.laid_drayage_ddep_signs), ("drayage/rdep.signs", Rows.laid_drayage_rdep_signs), ("drayage/rdep.words", Rows.laid_drayage_rdep_words), ("unicode/utf8.first", Rows.laid_unicode_utf8_first)]
theorem qB (h:laidMetH Tryz.prog nB W):laidMet Tryz.prog jQ W:=h.1
noncomputable def gQ (os:Os):World:=
 ({ World.holding Tryz.prog os ⟨#[],#[],[]⟩ with heap:=(World.holding Tryz.prog os ⟨#[],#[],[]⟩).heap.modify 8 fun
   | .cells _ t frozen=>.cells #[.iface 317 (.agg #[typeHandle Tryz.prog 228])] t frozen
   | o=>o }:World).layVars Tryz.prog jQ
theorem AG (os:Os):(gQ os).os=os:=World.layVars_os _ _ _
theorem N8 (os:Os)(args:Array Value):laidMet Tryz.prog jQ ((gQ os).forCall (fun _ _=>0) ⟨#[],args,[]⟩).memory:=by
 have h:laidMet Tryz.prog jQ (gQ os):=by
  refine laidMet_layVars (w0:={ World.holding Tryz.prog os ⟨#[],#[],[]⟩ with heap:=(World.holding Tryz.prog os ⟨#[],#[],[]⟩).heap.modify 8 fun
   | .cells _ t frozen=>.cells #[.iface 317 (.agg #[typeHandle Tryz.prog 228])] t frozen
   | o=>o }) (jQ.map (·.1)) [] ?_ ?_ ?_ ?_
  ·rfl
  ·kernel_rfl
  ·kernel_rfl
  ·exact LaidIn.none
 exact h.of_heap (by simp[World.memory,World.forCall,Input.heap])
theorem Oa (os:Os)(args:Array Value):laidMetH Tryz.prog nB ((gQ os).forCall (fun _ _=>0) ⟨#[],args,[]⟩).memory:=
 laidMetH_of_parts (N8 os args) (by kernel_rfl)
theorem Ob (os:Os)(args:Array Value):((gQ os).forCall (fun _ _=>0) ⟨#[],args,[]⟩).variablesRefB Tryz.prog=true:=by kernel_rfl
theorem Oc (os:Os)(args:Array Value):(((gQ os).forCall (fun _ _=>0) ⟨#[],args,[]⟩).heap.toList.drop Tryz.prog.globals.size).take ((begin Tryz.prog (fun _ _=>0) default).world.heap.size-Tryz.prog.globals.size) =
   (begin Tryz.prog (fun _ _=>0) default).world.heap.toList.drop Tryz.prog.globals.size:=by kernel_rfl
end
section
open Go.RowKit Go.WideShapes Go.ChangeShapes
section
variable {H : Type} {enc : TypeId × Value -> H} {P : Program}
theorem xG {f:Func}{s:ChangeSpec}{apart fresh handsOn again:Bool}{W':World}{args:Array Value}{ds gs:List (DataW H)}{before pa pv:List MemPlace}
  (hW:DataW.Whole enc P f.params.toList s.vars apart W args.toList ds gs before)
  (hres:∀ (b:Nat)(sp:Nat->Bool)(hd:Bool),DataW.TrodAll enc P W' b sp hd f.resultTypes.toList (v.resultList f.resultTypes.size) (s.fn H (ds++gs)).results [])
  (hargs:∀ sp:Nat->Bool,(∀ p∈before,sp p.block=true)->DataW.TrodAll enc P W' 0 sp true f.params.toList args.toList (s.fn H (ds++gs)).args pa)
  (hvars:∀ sp:Nat->Bool,(∀ p∈before,sp p.block=true)->DataW.TrodVars enc P W' sp s.vars (s.fn H (ds++gs)).vars pv)
  (hps:before=pa++pv)(hb:Below W.heap.size W W')
  (hok:∀ (j:Nat)(t:TypeId)(r:Value),f.resultTypes[j]?=some t->(v.resultList f.resultTypes.size)[j]?=some r->Value.okWide P W' .any 0 t r):
  s.post enc P f apart fresh handsOn again W args v W':=by
 have hlt:∀ p∈before,p.block<W.heap.size:=fun p hp=>hW.lt p hp;have hold:∀ p∈before,(fun b=>decide (b<W.heap.size)) p.block=true:=fun p hp=>by simpa using hlt p hp
 refine⟨ds,gs,before,[],pa,pv,hW,hres _ _ _,hargs _ hold,hvars _ hold,World.keptBut_mono (fun p hp=>⟨hp,?_⟩) (hb.frame (·∈before)),fun _=>?_⟩
 ·rw[hps,List.mem_append] at hp;exact Or.inr hp
 ·obtain⟨_,_,_,_,_,hz,hn⟩:=hW;refine⟨hok,_,_,([]++pa)++pv,⟨[]++pa,pv,trodAll_append (hargs _ (fun _ _=>rfl)) (hres _ _ _),hvars _ (fun _ _=>rfl),rfl,?_,?_⟩,?_⟩
  ·intro b off hp;have hin:MemPlace.cell b off∈before:=by rw[hps];simpa using hp
   rw[hb.frozen (hlt _ hin)];exact hz b off hin
  ·intro ha;have:=hn ha;rw[hps] at this;simpa using this
  ·intro p hp _;rw[hps];simpa using hp
end
end
section
open Go.ChangeShapes Go.WideShapes Go.Deep Go.RowKit
section
variable {H : Type} {enc : TypeId × Value -> H} {P : Program} {w : World} {base : Nat} {spare : Nat -> Bool} {held : Bool}
theorem qC {cs:LV}{x:DataW H×List MemPlace}(ht:P.underlying t=some (.slice e))(he:P.underlying e=some (.struct fs))
  (hone:oneCellFields P fs=true)(hC:P.cellsOf e=fs.size)(h:DataW.trod enc P w base spare held fuel t cs=some x):
  (cs=[.slice none 0 0]/\x=(.nil,[])) \/
  ∃ (a:Addr) (len cap m:Nat) (D:Nat->DataW H) (Pl:Nat->List MemPlace),cs=[.slice (some a) len cap]/\base<=a.block/\len<=cap/\cap<=maxLen/\m=(if spare a.block then cap else len) /\
   x=(.slice ((List.range len).map D) ((List.range (m-len)).map fun j=>D (len+j)),MemPlace.row a (m*fs.size)++(List.range m).flatMap Pl) /\
   ∀ i,i<m->∃ (ys:List (DataW H×List MemPlace)) (n:Nat),D i=.agg (ys.map (·.1))/\Pl i=ys.flatMap (·.2)/\ys.length=fs.size /\
    ∀ (j:Nat)(f:Field),fs[j]?=some f->∃ (v:Value)(y:DataW H×List MemPlace),w.cell? (a.add (i*fs.size+j))=some v/\ys[j]?=some y/\DataW.trod enc P w base spare held n f.type [v]=some y:=by
 rcases open_slice ht h with h0 | ⟨a,len,cap,m,n,D,Pl,hcs,hb,hl,hm,hmm,hx,hi⟩
 ·exact .inl h0
 ·refine .inr ⟨a,len,cap,m,D,Pl,hcs,hb,hl,hm,hmm,by rw[hC] at hx;exact hx,fun i him=>?_⟩;obtain⟨cs',hc,ht'⟩:=hi i him;rw[hC] at hc;obtain⟨ys,n',hn',hy,hlen,hyl,hf⟩:=DataW.trod_struct he ht';obtain⟨_,hcl,hat⟩:=World.cells?_some hc;simp only[Prod.mk.injEq] at hy;refine⟨ys,n',hy.1,hy.2,hyl,fun j f hj=>?_⟩;obtain⟨ho,hk⟩:=hone_of hone j f hj;have hjl:j<fs.size:=(Array.getElem?_eq_some_iff.1 hj).1;have hcell:=hat j hjl;have hv:cs'[j]?=some (cs'[j]'(by omega)):=gG (by omega);have h1:=hf j f hj;rw[ho,hk] at h1;have hone':(cs'.drop j).take 1=[cs'[j]'(by omega)]:=by
   rw[List.drop_eq_getElem_cons (by omega)];rfl
  rw[hone'] at h1;have hys:ys[j]?=some (ys[j]'(by omega)):=gG (by omega);refine⟨_,_,?_,hys,h1.trans hys⟩;rw[<-Go.Deep.add_add,hcell,hv]
end
theorem tF {α:Type}{Q:Nat->α->Prop}:∀ n:Nat,(∀ i,i<n->∃ x,Q i x)->∃ l:List α,l.length=n/\∀ (i:Nat)(x:α),l[i]?=some x->Q i x
 | 0,_=>⟨[],rfl,fun i x h=>by simp at h⟩
 | n+1,h=>by
  obtain⟨l,hl,hq⟩:=tF n (fun i hi=>h i (by omega));obtain⟨x,hx⟩:=h n (by omega);refine⟨l++[x],by simp[hl],fun i y hy=>?_⟩;by_cases hi:i<l.length
  ·rw[List.getElem?_append_left hi] at hy;exact hq i y hy
  ·rw[List.getElem?_append_right (by omega)] at hy;have:i=n:=by have:=(gS hy).1;simp at this;omega
   subst this;rw[hl,Nat.sub_self] at hy;simp at hy;subst hy;exact hx
theorem GK {α:Type}{f:α->LV}(hf:∀ x,(f x).length=sz)(hsz:0<sz)(l:List α)(j:Nat)(u:Value)(h:(l.flatMap f)[j]?=some u):∃ (i k:Nat)(x:α),l[i]?=some x/\k<sz/\j=i*sz+k/\(f x)[k]?=some u:=by
 have hj:j<l.length*sz:=by rw[<-dw hf];exact(gS h).1
 have hi:j / sz<l.length:=Nat.div_lt_of_lt_mul (by rw[Nat.mul_comm];exact hj);have hk:j % sz<sz:=Nat.mod_lt _ hsz;have e:j=j / sz*sz+j % sz:=by rw[Nat.mul_comm];exact(Nat.div_add_mod j sz).symm
 refine⟨j / sz,j % sz,l[j / sz],gG hi,hk,e,?_⟩;rw[<-ft hf l (j / sz) (j % sz) _ (gG hi) hk,<-e,h]
theorem nX {a:Addr}(h:w.cell? (a.add n)=some v):a.add n=⟨a.block,a.off+n,none⟩:=by
 unfold Addr.add at *;split at h
 ·rename_i h0;subst h0;simp only[if_pos];cases a with | mk b o s=>
   unfold World.cell? at h;split at h
   ·split at h
    ·cases h
    ·rename_i hs;simp at hs;simp[hs]
   ·cases h
 ·rename_i h0;rw[if_neg h0]
section
variable {H : Type} {enc : TypeId × Value -> H} {w : World} {spare : Nat -> Bool}
theorem nY (hT:Tryz.prog.underlying T=some (.slice E))(hE:Tryz.prog.underlying E=some (.struct fs))(hone:oneCellFields Tryz.prog fs=true)(hC:Tryz.prog.cellsOf E=fs.size)(hpos:0<fs.size)
  {α:Type}(f:α->LV)(Pr:α->Prop)(hf:∀ x,(f x).length=fs.size)
  (hel:∀ (n:Nat)(vs:Nat->Value),(∀ (j:Nat)(fd:Field),fs[j]?=some fd->∃ y,DataW.trod enc Tryz.prog w 0 spare true n fd.type [vs j]=some y)->∃ x:α,Pr x/\∀ j,j<fs.size->(f x)[j]?=some (vs j))
  {d:DataW H×List MemPlace}(h:DataW.trod enc Tryz.prog w 0 spare true fuel T [v]=some d):
  ∃ (A:OA) (c:Nat) (l:List α),v=.slice A l.length c/\Rd w fs.size A l.length (l.flatMap f)/\(∀ x∈l,Pr x)/\l.length<=9223372036854775807/\l.length<=c:=by
 rcases qC hT hE hone hC h with⟨hcs,_⟩ | ⟨a,len,cap,m,D,Pl,hcs,_,hl,hm,hmm,_,hi⟩
 ·injection hcs with hcs _;exact⟨none,0,[],hcs,Rd.nil _ _ _,fun x hx=>by simp at hx,z0,z0⟩
 ·injection hcs with hcs _;have hlen:len<=m:=by rw[hmm];split<;>omega
  have key:∀ i,i<len->∃ x:α,Pr x/\∀ j u,(f x)[j]?=some u->w.cell? ⟨a.block,a.off+(i*fs.size+j),none⟩=some u:=by
   intro i hi';obtain⟨ys,n,_,_,hyl,hj⟩:=hi i (by omega);have hv:∀ j,∃ v,(∀ fd,fs[j]?=some fd->w.cell? (a.add (i*fs.size+j))=some v/\∃ y,DataW.trod enc Tryz.prog w 0 spare true n fd.type [v]=some y):=by
    intro j;cases hfd:fs[j]? with
    | none=>exact⟨default,fun fd h=>by cases h⟩
    | some fd=>
     obtain⟨v,y,h1,_,h3⟩:=hj j fd hfd;exact⟨v,fun fd' h=>by injection h with h;subst h;exact⟨h1,y,h3⟩⟩
   have hvs:∃ vs:Nat->Value,∀ j fd,fs[j]?=some fd->w.cell? (a.add (i*fs.size+j))=some (vs j)/\∃ y,DataW.trod enc Tryz.prog w 0 spare true n fd.type [vs j]=some y:=
    ⟨fun j=>Classical.choose (hv j),fun j fd h=>Classical.choose_spec (hv j) fd h⟩
   obtain⟨vs,hvs⟩:=hvs;obtain⟨x,hx,hc⟩:=hel n vs (fun j fd h=>(hvs j fd h).2);refine⟨x,hx,fun j u hu=>?_⟩;have hjs:j<fs.size:=by rw[<-hf x];exact(gS hu).1
   have h1:=hc j hjs;rw[hu] at h1;have h1:=Option.some.inj h1;subst h1;have h2:=(hvs j _ (Array.getElem?_eq_getElem hjs)).1;rw[nX h2] at h2;exact h2
  obtain⟨l,hll,hlq⟩:=tF len key;refine⟨some a,cap,l,by rw[hll];exact hcs,⟨dw hf l,fun hn=>?_⟩,fun x hx=>?_,by rw[hll];unfold maxLen at hm;omega,by rw[hll];exact hl⟩
  ·obtain⟨x0,hx0⟩:∃ x,l[0]?=some x:=⟨_,gG hn⟩
   obtain⟨u0,hu0⟩:∃ u,(f x0)[0]?=some u:=⟨_,gG (by rw[hf];exact hpos)⟩
   refine⟨a.block,a.off,?_,fun j u hu=>?_⟩
   ·obtain⟨ys,n,_,_,_,hj⟩:=hi 0 (by omega);obtain⟨v0,y0,h1,_,_⟩:=hj 0 _ (Array.getElem?_eq_getElem hpos);have h2:=nX h1;simp only[Nat.zero_mul,Nat.zero_add,Addr.add,if_pos,Nat.add_zero] at h2;rw[<-h2]
   ·obtain⟨i,k,x,hx,hk,rfl,hu'⟩:=GK hf hpos l j u hu;exact(hlq i x hx).2 k u hu'
  ·obtain⟨i,hi',rfl⟩:=List.getElem_of_mem hx;exact(hlq i _ (gG hi')).1
theorem rG (hT:Tryz.prog.underlying T=some (.slice E))(hE:Tryz.prog.underlying E=some .string)(hC:Tryz.prog.cellsOf E=1)
  {d:DataW H×List MemPlace}(h:DataW.trod enc Tryz.prog w 0 spare true fuel T [v]=some d):
  ∃ (A:OA) (c:Nat) (l:List BA),v=.slice A l.length c/\Rd w 1 A l.length (ay l)/\(∀ x∈l,x.size<=9223372036854775807)/\l.length<=9223372036854775807/\l.length<=c:=by
 rcases open_slice hT h with⟨hcs,_⟩ | ⟨a,len,cap,m,n,D,Pl,hcs,_,hl,hm,hmm,_,hi⟩
 ·injection hcs with hcs _;exact⟨none,0,[],hcs,Rd.nil _ _ _,fun x hx=>by simp at hx,z0,z0⟩
 ·injection hcs with hcs _;have hlen:len<=m:=by rw[hmm];split<;>omega
  have key:∀ i,i<len->∃ x:BA,x.size<=9223372036854775807/\w.cell? ⟨a.block,a.off+i,none⟩=some (.string x)/\a.add i=⟨a.block,a.off+i,none⟩:=by
   intro i hi';obtain⟨cs',hc,ht'⟩:=hi i (by omega);rw[hC] at hc;obtain⟨_,hcl,hat⟩:=World.cells?_some hc;obtain⟨s,hs,_,hsz⟩:=DataW.trod_string hE ht';have h0:=hat 0 (by omega);rw[hs,Nat.mul_one] at h0;have h1:w.cell? (a.add i)=some (.string s):=by
    have e:(a.add i).add 0=a.add i:=by simp[Addr.add]
    rw[e] at h0;simpa using h0
   have h2:=nX h1;refine⟨s,by unfold maxLen at hsz;omega,by rw[<-h2];exact h1,h2⟩
  obtain⟨l,hll,hlq⟩:=tF len key;refine⟨some a,cap,l,by rw[hll];exact hcs,⟨by simp[ay],fun hn=>?_⟩,fun x hx=>?_,by rw[hll];unfold maxLen at hm;omega,by rw[hll];exact hl⟩
  ·refine⟨a.block,a.off,?_,fun j u hu=>?_⟩
   ·have h2:=(hlq 0 _ (gG hn)).2.2;simp only[Addr.add,if_pos,Nat.add_zero] at h2;rw[<-h2]
   ·simp only[ay,List.getElem?_map,Option.map_eq_some_iff] at hu;obtain⟨x,hx,rfl⟩:=hu;exact(hlq j x hx).2.1
  ·obtain⟨i,hi',rfl⟩:=List.getElem_of_mem hx;exact(hlq i _ (gG hi')).1
end
end
section
open Go.ChangeShapes Go.WideShapes Go.Deep Go.RowKit
section
variable {H : Type} {enc : TypeId × Value -> H} {w : World} {spare : Nat -> Bool}
def Og (x:cS):Prop:=x.nm.size<=9223372036854775807/\x.ver.size<=9223372036854775807/\(Lit.int .i64 x.op).wf=true
def Oh (x:av):Prop:=x.path.size<=9223372036854775807/\x.owner.size<=9223372036854775807/\x.group.size<=9223372036854775807/\x.link.size<=9223372036854775807/\x.sum.size<=9223372036854775807/\(Lit.int .i64 x.kind).wf=true/\(Lit.int .i64 x.mode).wf=true
def DH (x:aT):Prop:=x.body.size<=9223372036854775807/\(Lit.int .i64 x.phase).wf=true
theorem dq {y:DataW H×List MemPlace}(h:DataW.trod enc Tryz.prog w 0 spare true n 9 [v]=some y):∃ s:BA,v=.string s/\s.size<=9223372036854775807:=by
 obtain⟨s,hs,_,hz⟩:=DataW.trod_string Tryz.underlying9 h;injection hs with hs _;exact⟨s,hs,by unfold maxLen at hz;omega⟩
theorem ip {y:DataW H×List MemPlace}(h:DataW.trod enc Tryz.prog w 0 spare true n 3 [v]=some y):∃ z:Int,v=.int .i64 z/\(Lit.int .i64 z).wf=true:=by
 obtain⟨z,hz,_,hw⟩:=DataW.trod_int Tryz.underlying3 h;injection hz with hz _;exact⟨z,hz,hw⟩
theorem KX {y:DataW H×List MemPlace}(h:DataW.trod enc Tryz.prog w 0 spare true n 4 [v]=some y):∃ z:Bool,v=.bool z:=by
 obtain⟨z,hz,_⟩:=DataW.trod_bool Tryz.underlying4 h;injection hz with hz _;exact⟨z,hz⟩
theorem GM {d:DataW H×List MemPlace}(h:DataW.trod enc Tryz.prog w 0 spare true fuel 23 [v]=some d):
  ∃ (A:OA) (c:Nat) (l:List cS),v=.slice A l.length c/\Rd w 3 A l.length (l.flatMap cS.cells)/\(∀ x∈l,Og x)/\l.length<=9223372036854775807/\l.length<=c:=by
 refine nY Tryz.underlying23 Tryz.underlying81 (by kernel_rfl) (by kernel_rfl) (by decide) cS.cells Og (fun _=>rfl) (fun n vs hv=>?_) h;obtain⟨y0,h0⟩:=hv 0 _ rfl;obtain⟨y1,h1⟩:=hv 1 _ rfl;obtain⟨y2,h2⟩:=hv 2 _ rfl;obtain⟨s0,e0,z0⟩:=dq h0;obtain⟨s1,e1,z1⟩:=ip h1;obtain⟨s2,e2,z2⟩:=dq h2;refine⟨⟨s0,s1,s2⟩,⟨z0,z2,z1⟩,fun j hj=>?_⟩;have hj':j<3:=hj;rcases(by omega:j=0\/j=1\/j=2) with rfl | rfl | rfl
 ·rw[e0];rfl
 ·rw[e1];rfl
 ·rw[e2];rfl
theorem GN {d:DataW H×List MemPlace}(h:DataW.trod enc Tryz.prog w 0 spare true fuel 24 [v]=some d):
  ∃ (A:OA) (c:Nat) (l:List av),v=.slice A l.length c/\Rd w 8 A l.length (l.flatMap av.cells)/\(∀ x∈l,Oh x)/\l.length<=9223372036854775807/\l.length<=c:=by
 refine nY Tryz.underlying24 Tryz.underlying56 (by kernel_rfl) (by kernel_rfl) (by decide) av.cells Oh (fun _=>rfl) (fun n vs hv=>?_) h;obtain⟨y0,h0⟩:=hv 0 _ rfl;obtain⟨y1,h1⟩:=hv 1 _ rfl;obtain⟨y2,h2⟩:=hv 2 _ rfl;obtain⟨y3,h3⟩:=hv 3 _ rfl;obtain⟨y4,h4⟩:=hv 4 _ rfl;obtain⟨y5,h5⟩:=hv 5 _ rfl;obtain⟨y6,h6⟩:=hv 6 _ rfl;obtain⟨y7,h7⟩:=hv 7 _ rfl;obtain⟨s0,e0,z0⟩:=dq h0;obtain⟨s1,e1,z1⟩:=ip h1;obtain⟨s2,e2,z2⟩:=ip h2;obtain⟨s3,e3,z3⟩:=dq h3;obtain⟨s4,e4,z4⟩:=dq h4;obtain⟨s5,e5,z5⟩:=dq h5;obtain⟨s6,e6,z6⟩:=dq h6;obtain⟨s7,e7⟩:=KX h7;refine⟨⟨s0,s1,s2,s3,s4,s5,s6,s7⟩,⟨z0,z3,z4,z5,z6,z1,z2⟩,fun j hj=>?_⟩;have hj':j<8:=hj;rcases(by omega:j=0\/j=1\/j=2\/j=3\/j=4\/j=5\/j=6\/j=7) with rfl | rfl | rfl | rfl | rfl | rfl | rfl | rfl
 ·rw[e0];rfl
 ·rw[e1];rfl
 ·rw[e2];rfl
 ·rw[e3];rfl
 ·rw[e4];rfl
 ·rw[e5];rfl
 ·rw[e6];rfl
 ·rw[e7];rfl
theorem AI {d:DataW H×List MemPlace}(h:DataW.trod enc Tryz.prog w 0 spare true fuel 25 [v]=some d):
  ∃ (A:OA) (c:Nat) (l:List aT),v=.slice A l.length c/\Rd w 2 A l.length (l.flatMap aT.cells)/\(∀ x∈l,DH x)/\l.length<=9223372036854775807/\l.length<=c:=by
 refine nY Tryz.underlying25 Tryz.underlying44 (by kernel_rfl) (by kernel_rfl) (by decide) aT.cells DH (fun _=>rfl) (fun n vs hv=>?_) h;obtain⟨y0,h0⟩:=hv 0 _ rfl;obtain⟨y1,h1⟩:=hv 1 _ rfl;obtain⟨s0,e0,z0⟩:=ip h0;obtain⟨s1,e1,z1⟩:=dq h1;refine⟨⟨s0,s1⟩,⟨z1,z0⟩,fun j hj=>?_⟩;have hj':j<2:=hj;rcases(by omega:j=0\/j=1) with rfl | rfl
 ·rw[e0];rfl
 ·rw[e1];rfl
theorem Qd (n:Nat)(vs:Nat->Value)
  (hv:∀ (j:Nat)(t:TypeId),[(9:TypeId),9,9,9,22,22,23,24,25][j]?=some t->∃ y,DataW.trod enc Tryz.prog w 0 spare true n t [vs j]=some y):
  ∃ p:bK,(p.ok w/\p.fits/\p.files.length<=p.fc/\p.needs.length<=p.nc/\p.bars.length<=p.bc/\p.gives.length<=p.gc/\p.scripts.length<=p.sc)/\∀ j,j<9->p.cells[j]?=some (vs j):=by
 obtain⟨y0,h0⟩:=hv 0 _ rfl;obtain⟨y1,h1⟩:=hv 1 _ rfl;obtain⟨y2,h2⟩:=hv 2 _ rfl;obtain⟨y3,h3⟩:=hv 3 _ rfl;obtain⟨y4,h4⟩:=hv 4 _ rfl;obtain⟨y5,h5⟩:=hv 5 _ rfl;obtain⟨y6,h6⟩:=hv 6 _ rfl;obtain⟨y7,h7⟩:=hv 7 _ rfl;obtain⟨y8,h8⟩:=hv 8 _ rfl;obtain⟨s0,e0,z0⟩:=dq h0;obtain⟨s1,e1,z1⟩:=dq h1;obtain⟨s2,e2,z2⟩:=dq h2;obtain⟨s3,e3,z3⟩:=dq h3;obtain⟨a4,c4,l4,e4,r4,x4,n4,k4⟩:=rG Tryz.underlying22 Tryz.underlying9 (by kernel_rfl) h4;obtain⟨a5,c5,l5,e5,r5,x5,n5,k5⟩:=rG Tryz.underlying22 Tryz.underlying9 (by kernel_rfl) h5;obtain⟨a6,c6,l6,e6,r6,x6,n6,k6⟩:=GM h6;obtain⟨a7,c7,l7,e7,r7,x7,n7,k7⟩:=GN h7;obtain⟨a8,c8,l8,e8,r8,x8,n8,k8⟩:=AI h8;refine⟨⟨s0,s1,s2,s3,a4,c4,l4,a5,c5,l5,a6,c6,l6,a7,c7,l7,a8,c8,l8⟩,⟨⟨r4,r5,r6,r7,r8⟩,⟨z0,z1,z2,z3,n4,n5,n6,n7,n8,x4,x5,x6,x7,x8⟩,k7,k4,k5,k6,k8⟩,fun j hj=>?_⟩;rcases(by omega:j=0\/j=1\/j=2\/j=3\/j=4\/j=5\/j=6\/j=7\/j=8) with rfl | rfl | rfl | rfl | rfl | rfl | rfl | rfl | rfl
 ·rw[e0];rfl
 ·rw[e1];rfl
 ·rw[e2];rfl
 ·rw[e3];rfl
 ·rw[e4];rfl
 ·rw[e5];rfl
 ·rw[e6];rfl
 ·rw[e7];rfl
 ·rw[e8];rfl
end
end
end Go.Proofs.YtlglfpbhapmhiaaGreatDoor
