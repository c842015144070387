/- A part of the proof. -/
import Derived.Test.YtaohgmcbpafdeaaGreatDoorProg
import Derived.BigQuiet
import Derived.ChangeAlike
import Derived.Deep.AppendLies
import Derived.Deep.CutBlock
import Derived.Deep.DeepCutAuto
import Derived.Deep.Draws
import Derived.Deep.LoopGhost
import Derived.Deep.QuietTactic
import Derived.Deep.RegionLaw
import Derived.Ground.SlgfProg
import Derived.Ground.SlgmProg
import Derived.IntWalk
import Derived.LaidEql
import Derived.Laws.OwnMore
import Derived.Lib.DecodeN
import Derived.Lib.IndexAny
import Derived.Lib.IndexMore
import Derived.Lib.LastIndexByte
import Derived.Lib.OthersKept
import Derived.Lib.SplitLaws
import Derived.Maps.AppendAt
import Derived.Maps.Own
import Derived.Maps.OwnOps
import Derived.Maps.OwnSet
import Derived.OwnWalk
import Derived.ProofKit
import Derived.RegionTactic
import Derived.RowKitTokens
import Derived.Shelf.LaysM
import Derived.Shelf.Slices.Turned
import Derived.Shelf.SlicesE.IndexFunc
import Derived.Shelf.Small.Bits
import Derived.Shelf.Small.Strs
import Derived.Shelf.Small.Utf8
import Derived.Shelf.Small.Wraps
import Derived.Shelf.Sort.Plain
import Derived.Shelf.SortM.SortNone
import Derived.Shelf.Strconv.Itoa0
import Derived.Shelf.Strings.AsciiSet
import Derived.Shelf.Strings.Builder1
import Derived.Shelf.Strings.Builder2
import Derived.Shelf.Strings.Count
import Derived.Shelf.Strings.Cut
import Derived.Shelf.Strings.IndexAny
import Derived.Shelf.Strings.IndexAnyAll
import Derived.Shelf.Strings.LastIndex
import Derived.Shelf.Strings.OnBuilder
import Derived.Shelf.Strings.Prefix
import Derived.Shelf.Strings.Runes
import Derived.Shelf.Strings.Search1
import Derived.Shelf.Strings.Search2
import Derived.Shelf.Strings.Search3
import Derived.Shelf.Strings.Shaped
import Derived.Shelf.Strings.SlTrimAscii
import Derived.Shelf.Strings.Split
import Derived.Shelf.Strings.SplitShaped
import Derived.Shelf.Strings.Trim
import Derived.Shelf.Unicode.DecodeSlow
import Derived.Stop.Asserts
import Derived.StringKeys
import Derived.WalkKit
import Derived.WalkLawsBesides
import Derived.WalkMore
import Derived.WalkSmall
import Derived.WalkSpells
import Derived.Test.YtaohgmcbpafdeaaGreatDoorA01
set_option maxRecDepth 100000
set_option maxHeartbeats 20000000
set_option linter.unusedVariables false
set_option linter.unusedSimpArgs false
namespace Go.Proofs.YtaohgmcbpafdeaaGreatDoor
section
open Go.RowKit Go.Maps
def RV (v:Value):Option (DataW Value×List MemPlace):=some (.held v,[])
theorem nC {a b:Value}(h:(DataW.held a:DataW Value)=.held b):a=b:=by injection h
theorem kH:Keyed Tryz.prog 9:=string_keyed Tryz.underlying9
def kl (s:BA):Lit:=.string s.data.toList
theorem Mu {s t:BA}(h:s≠t):kl s≠kl t:=by
 intro he;apply h;unfold kl at he;injection he with he;exact dY he
def aX (w:World)(b n:Nat)(f:BA→Option Value):Prop:=
 ∃ D:DataW Value,w.ownsMap Tryz.prog 9 RV b n D∧∀ s:BA,s.size≤maxLen→(Maps.has D (kl s)=(f s).isSome∧∀ z v,f s=some v→D.atKey (kl s) z=.held v)
theorem aX.made (w:World):aX (w.alloc (.map #[] 0)) w.heap.size 0 (fun _=>none):=
 ⟨.map [],World.ownsMap_made _ _ _ _,fun s _=>⟨rfl,fun z v h=>by cases h⟩⟩
theorem aX.kept {w w':World}{b n:Nat}{f:BA→Option Value}{row:Option Nat}(h:aX w b n f)(hg:w.grownBy w' row)(hne:some b≠row):aX w' b n f:=by
 obtain⟨D,h1,h2⟩:=h
 exact⟨D,h1.kept hg hne,h2⟩
theorem aX.below {w w':World}{b n:Nat}{f:BA→Option Value}(h:aX w b n f)(hb:Below w.heap.size w w'):aX w' b n f:=by
 obtain⟨D,h1,h2⟩:=h
 exact⟨D,h1.kept (row:=none) ⟨hb.os,hb.tape,hb.output,hb.size,fun i hi _=>hb.block i hi⟩ (by simp),h2⟩
theorem aX.lt {w:World}{b n:Nat}{f:BA→Option Value}(h:aX w b n f):b<w.heap.size:=by
 obtain⟨D,h1,_⟩:=h;exact h1.lt
theorem Be (s:BA)(h:s.size≤maxLen):keyOf Tryz.prog 9 (.string s)=some (kl s):=Go.WideMaps.keyOf_string_mk Tryz.underlying9 h
theorem aX.look_ok {w:World}{b n:Nat}{f:BA→Option Value}(h:aX w b n f){t e:TypeId}(ht:Tryz.prog.underlying t=some (.map 9 e)){z:Value}(hz:∀ w,(zeroValue e).run Tryz.prog w=.ok z w)(s:BA)(hs:s.size≤maxLen):
  (Instr.lookup t (.map (some b)) (.string s) true).run Tryz.prog w=.ok (.tuple #[(f s).getD z,.bool (f s).isSome]) w:=by
 obtain⟨D,h1,h2⟩:=h
 obtain⟨v,ps,hrun,hv⟩:=h1.look_ok kH ht (hz w) (show RV z=some (.held z,[]) from rfl) (Be s hs)
 obtain⟨h3,h4⟩:=h2 s hs
 rw[hrun,h3]
 have:DataW.held v=D.atKey (kl s) (.held z):=congrArg Prod.fst (Option.some.inj hv)
 cases hf:f s with
 | none=>
  rw[hf] at h3
  rw[atKey_of_not_has (by simpa using h3)] at this
  rw[nC this];rfl
 | some u=>
  rw[h4 (.held z) u hf] at this
  rw[nC this];rfl
theorem aX.look {w:World}{b n:Nat}{f:BA→Option Value}(h:aX w b n f){t e:TypeId}(ht:Tryz.prog.underlying t=some (.map 9 e)){z:Value}(hz:∀ w,(zeroValue e).run Tryz.prog w=.ok z w)(s:BA)(hs:s.size≤maxLen):
  (Instr.lookup t (.map (some b)) (.string s) false).run Tryz.prog w=.ok ((f s).getD z) w:=by
 obtain⟨D,h1,h2⟩:=h
 obtain⟨v,ps,hrun,hv⟩:=h1.lookup kH ht (hz w) (show RV z=some (.held z,[]) from rfl) (Be s hs)
 obtain⟨h3,h4⟩:=h2 s hs
 rw[hrun]
 have:DataW.held v=D.atKey (kl s) (.held z):=congrArg Prod.fst (Option.some.inj hv)
 cases hf:f s with
 | none=>
  rw[hf] at h3
  rw[atKey_of_not_has (by simpa using h3)] at this
  rw[nC this];rfl
 | some u=>
  rw[h4 (.held z) u hf] at this
  rw[nC this];rfl
theorem aX.put {w:World}{b n:Nat}{f:BA→Option Value}(h:aX w b n f){t e:TypeId}(ht:Tryz.prog.underlying t=some (.map 9 e))(hn:n<maxLen)(s:BA)(hs:s.size≤maxLen)(v:Value):
  ∃ w',(Instr.mapUpdate t (.map (some b)) (.string s) v).run Tryz.prog w=.ok () w'∧aX w' b (n+1) (fun x=>if x=s then some v else f x)∧w.grownBy w' (some b):=by
 obtain⟨D,h1,h2⟩:=h
 obtain⟨w',hrun,hown,hg⟩:=h1.update kH ht hn (Be s hs) (show RV v=some (.held v,[]) from rfl)
 have hm:=(h1.tidy kH).isMap
 refine⟨w',hrun,⟨_,hown,fun x hx=>?_⟩,hg⟩
 by_cases hxs:x=s
 ·subst hxs
  have hk:WideAt.IsKeyLit (kl x):=trivial
  simp only[if_pos]
  exact⟨by rw[has_put_same hm hk];rfl,fun z u hu=>by have hu:=Option.some.inj hu;subst hu;exact atKey_put_same hm hk _ _⟩
 ·simp only[if_neg hxs]
  obtain⟨h3,h4⟩:=h2 x hx
  exact⟨by rw[has_put_other (Mu hxs)];exact h3,fun z u hu=>by rw[atKey_put_other (Mu hxs)];exact h4 z u hu⟩
end
theorem ke (a:LU):¬ a<a:=List.lt_irrefl a
theorem Ij {a b c:LU}(h:a<b)(k:b<c):a<c:=List.lt_trans h k
theorem lK {a b:LU}(h:¬ a<b)(hne:a≠b):b<a:=by
 have h1:b≤a:=h
 by_cases hb:b<a
 ·exact hb
 ·exact absurd (List.le_antisymm (show a≤b from hb) h1) hne
def kC (ps:List (BA×BA))(s:BA):List BA:=(ps.filter (fun p=>decide (p.1=s))).map (·.2)
theorem yv (ps:List (BA×BA))(s t nm:BA):kC (ps++[(t,nm)]) s=if t=s then kC ps s++[nm] else kC ps s:=by
 unfold kC
 by_cases h:t=s<;>simp[h]
theorem Ik {ps:List (BA×BA)}{s:BA}(h:s ∉ ps.map (·.1)):kC ps s=[]:=by
 unfold kC
 rw[List.map_eq_nil_iff,List.filter_eq_nil_iff]
 intro p hp he
 exact h (List.mem_map.2 ⟨p,hp,by simpa using he⟩)
theorem Il {ps:List (BA×BA)}{s:BA}(h:s∈ps.map (·.1)):kC ps s≠[]:=by
 obtain⟨p,hp,rfl⟩:=List.mem_map.1 h
 unfold kC
 intro h0
 rw[List.map_eq_nil_iff,List.filter_eq_nil_iff] at h0
 exact h0 p hp (by simp)
theorem Bf (ps:List (BA×BA))(s:BA):(kC ps s).length≤ps.length:=by
 unfold kC;rw[List.length_map];exact List.length_filter_le _ _
structure Oi (ps:List (BA×BA)) (out:List (BA×List BA)):Prop where
 sorted:(out.map (·.1)).Pairwise (fun s t=>bl s<bl t)
 mem:∀ s,s∈out.map (·.1)↔s∈ps.map (·.1)
 names:∀ x∈out,x.2=kC ps x.1
theorem iG:∀ (l m:List (LU)),l.Nodup→(∀ s∈l,s∈m)→l.length≤m.length
 | [],_,_,_=>z0
 | a::l,m,hn,h=>by
  rw[List.nodup_cons] at hn
  have ha:=h a (by simp)
  have:=iG l (m.erase a) hn.2 fun s hs=>(List.mem_erase_of_ne (fun (he:s=a)=>hn.1 (by rw[←he];exact hs))).2 (h s (List.mem_cons_of_mem _ hs))
  rw[List.length_erase_of_mem ha] at this
  have hm:0<m.length:=List.length_pos_of_mem ha
  simp only[List.length_cons];omega
theorem Oi.length_le {ps:List (BA×BA)}{a:List (BA×List BA)}(h:Oi ps a):a.length≤ps.length:=by
 have hnd:(a.map fun x=>bl x.1).Nodup:=by
  have h0:=h.sorted
  rw[List.pairwise_map] at h0
  exact List.pairwise_map.2 (h0.imp fun {x y} hxy he=>by rw[he] at hxy;exact ke _ hxy)
 have:=iG _ (ps.map fun x=>bl x.1) hnd (fun s hs=>by
  obtain⟨x,hx,rfl⟩:=List.mem_map.1 hs
  obtain⟨y,hy,hxy⟩:=List.mem_map.1 ((h.mem x.1).1 (List.mem_map.2 ⟨x,hx,rfl⟩))
  exact List.mem_map.2 ⟨y,hy,by rw[hxy]⟩)
 simpa using this
section
open Go.RowKit
def mi:Nat→BA
 | 0=>⟨#[97,108,112,104,97]⟩
 | 1=>⟨#[98,101,116,97]⟩
 | 2=>⟨#[112,114,101]⟩
 | 3=>⟨#[114,99]⟩
 | 4=>⟨#[99,118,115]⟩
 | 5=>⟨#[115,118,110]⟩
 | 6=>⟨#[103,105,116]⟩
 | 7=>⟨#[104,103]⟩
 | _=>⟨#[112]⟩
def yz:Nat→BA
 | 0=>⟨#[]⟩
 | 1=>⟨#[60,60]⟩
 | 2=>⟨#[60,61]⟩
 | 3=>⟨#[61]⟩
 | 4=>⟨#[62,61]⟩
 | _=>⟨#[62,62]⟩
def nI:Nat→BA
 | 0=>⟨#[]⟩
 | 1=>⟨#[60]⟩
 | 2=>⟨#[60,61]⟩
 | 3=>⟨#[61]⟩
 | 4=>⟨#[62,61]⟩
 | _=>⟨#[62]⟩
def nJ:Nat→BA
 | 0=>⟨#[]⟩
 | 1=>⟨#[60]⟩
 | 2=>⟨#[60,61]⟩
 | 3=>⟨#[61]⟩
 | 4=>⟨#[62,61]⟩
 | 5=>⟨#[62]⟩
 | _=>⟨#[126]⟩
def vo:Nat→BA
 | 0=>⟨#[97,110,100]⟩
 | 1=>⟨#[111,114]⟩
 | 2=>⟨#[105,102]⟩
 | 3=>⟨#[117,110,108,101,115,115]⟩
 | 4=>⟨#[119,105,116,104]⟩
 | _=>⟨#[119,105,116,104,111,117,116]⟩
structure Gl (w:World):Prop where
 ml:∃ m:Int,w.cell? ⟨0,0,none⟩=some (.int .i64 m)
 vwd:∀ i,i<9→w.cell? ⟨5,i,none⟩=some (.string (mi i))
 dsg:∀ i,i<6→w.cell? ⟨6,i,none⟩=some (.string (yz i))
 rsg:∀ i,i<6→w.cell? ⟨7,i,none⟩=some (.string (nI i))
 rwd:∀ i,i<6→w.cell? ⟨9,i,none⟩=some (.string (vo i))
 asg:∀ i,i<7→w.cell? ⟨1,i,none⟩=some (.string (nJ i))
theorem Gl.keep {w w':World}(h:Gl w)(hk:∀ p:Addr,p.block<w.heap.size→w'.cell? p=w.cell? p):Gl w':=by
 obtain⟨⟨m,hm⟩,h1,h2,h3,h4,h5⟩:=h
 refine⟨⟨m,?_⟩,fun i hi=>?_,fun i hi=>?_,fun i hi=>?_,fun i hi=>?_,fun i hi=>?_⟩
 ·exact(hk _ (World.block_lt_of_cell? _ _ hm)).trans hm
 ·exact(hk _ (World.block_lt_of_cell? _ _ (h1 i hi))).trans (h1 i hi)
 ·exact(hk _ (World.block_lt_of_cell? _ _ (h2 i hi))).trans (h2 i hi)
 ·exact(hk _ (World.block_lt_of_cell? _ _ (h3 i hi))).trans (h3 i hi)
 ·exact(hk _ (World.block_lt_of_cell? _ _ (h4 i hi))).trans (h4 i hi)
 ·exact(hk _ (World.block_lt_of_cell? _ _ (h5 i hi))).trans (h5 i hi)
theorem Gl.below {w w':World}(h:Gl w)(hb:Below w.heap.size w w'):Gl w':=h.keep fun _ hp=>hb.cell hp
theorem Gl.alloc {w:World}(h:Gl w)(o:Obj):Gl (w.alloc o):=h.below (bR.alloc lr o)
theorem an {B:Nat}{a w:World}(h:Below B a w)(n:Nat):Below B a (w.drewN n):=⟨h.os,h.tape,h.output,h.size,h.block⟩
end
section
open Go.RowKit Go.Extern.Stop Go.Stop Go.Extern
theorem xu (t:Addr)(w:World):(ReflectliteValue.unpack (.iface 278 (.pointer (some t)))).run Tryz.prog w
  = .ok (.agg #[.pointer (some ⟨12,278,none⟩),.pointer (some ⟨w.heap.size,0,none⟩),.int .u64 150]) (w.alloc (.cells #[.pointer (some t)] 278)):=by kernel_rfl
theorem zp (a c:Int)(w:World):(ReflectliteValue.unpack (.iface 274 (.agg #[.int .i64 a,.int .i64 c]))).run Tryz.prog w
  = .ok (.agg #[.pointer (some ⟨12,274,none⟩),.pointer (some ⟨w.heap.size,0,none⟩),.int .u64 153]) (w.alloc (.cells #[.int .i64 a,.int .i64 c] 274)):=by kernel_rfl
theorem FD (a : Addr) (w : World) : (ReflectliteValue.methodAny (ReflectliteValue.valueError "reflectlite.Value.Type" 0) (fun t _ _ _ => ReflectliteType.toType t) #[.agg #[.pointer (some ⟨12, 278, none⟩), .pointer (some a), .int .u64 150]]).run Tryz.prog w
  = .ok (.iface 327 (.agg #[.pointer (some ⟨12,278,none⟩)])) w:=by kernel_rfl
theorem mC (n : Nat) (h : Value) (w : World) : (Go.method (n + 1) 327 (.agg #[h]) "Kind").run Tryz.prog w = .ok (268, h) w := by kernel_rfl
theorem mD (n : Nat) (h : Value) (w : World) : (Go.method (n + 1) 327 (.agg #[h]) "Elem").run Tryz.prog w = .ok (282, .agg #[h]) w := by kernel_rfl
theorem il (n : Nat) (h : Value) (w : World) : (Go.method (n + 1) 327 (.agg #[h]) "Implements").run Tryz.prog w = .ok (283, .agg #[h]) w := by kernel_rfl
theorem gi (n : Nat) (h : Value) (w : World) : (Go.method (n + 1) 327 (.agg #[h]) "AssignableTo").run Tryz.prog w = .ok (280, .agg #[h]) w := by kernel_rfl
theorem FF (w:World):((ReflectliteType.abiMethod fun t=>(fun a:Nat=>Value.int IntKind.u8 (a:Int)) <$> Rtype.kind t) #[.pointer (some ⟨12,278,none⟩)]).run Tryz.prog w=.ok (.int .u8 22) w:=by kernel_rfl
theorem I9 (w:World):((ReflectliteType.abiMethod fun t=>(fun a:Nat=>Value.int IntKind.u8 (a:Int)) <$> Rtype.kind t) #[.pointer (some ⟨12,274,none⟩)]).run Tryz.prog w=.ok (.int .u8 25) w:=by kernel_rfl
theorem FG (w:World):(ReflectliteType.method ReflectliteType.elem #[.agg #[.pointer (some ⟨12,278,none⟩)]]).run Tryz.prog w=.ok (.iface 327 (.agg #[.pointer (some ⟨12,274,none⟩)])) w:=by kernel_rfl
theorem sL (w : World) : (ReflectliteType.relation "Implements" ReflectliteType.implements_ #[.agg #[.pointer (some ⟨12, 274, none⟩)], .iface 327 (.agg #[.pointer (some ⟨12, 237, none⟩)])]).run Tryz.prog w = .ok (.bool true) w := by kernel_rfl
theorem sM (v:Value)(w:World):(ReflectliteType.typeOf #[.iface 274 v]).run Tryz.prog w=.ok (.iface 327 (.agg #[.pointer (some ⟨12,274,none⟩)])) w:=by kernel_rfl
theorem sN (w : World) : (ReflectliteType.relation "AssignableTo" ReflectliteType.assignableTo #[.agg #[.pointer (some ⟨12, 274, none⟩)], .iface 327 (.agg #[.pointer (some ⟨12, 274, none⟩)])]).run Tryz.prog w = .ok (.bool true) w := by kernel_rfl
theorem OY (z:Sem Value)(f:TypeId→Addr→Nat→Nat→Sem Value)(v:Value):
  ReflectliteValue.method z f #[v]=(do match ←ReflectliteValue.parts v with | none=>z | some (t,a,fl)=>f t a fl (fl % 32)):=rfl
theorem sO (a:Addr)(w:World):(ReflectliteValue.parts (.agg #[.pointer (some ⟨12,278,none⟩),.pointer (some a),.int .u64 150])).run Tryz.prog w=.ok (some (278,a,150)) w:=by kernel_rfl
theorem BO (a p:Addr)(W:World)(ha:W.cell? a=some (.pointer (some p))):
  (ReflectliteValue.method (ReflectliteValue.valueError "reflectlite.Value.IsNil" 0) ReflectliteValue.isNil #[.agg #[.pointer (some ⟨12, 278, none⟩), .pointer (some a), .int .u64 150]]).run Tryz.prog W = .ok (.bool false) W := by
 rw[OY]
 simp only[Sem.run_bind,sO,Result.andThen]
 simp[ReflectliteValue.isNil,loadVar,isAgg,underlying,Tryz.underlying278,ha,Result.andThen]
theorem zq (w:World):(Rtype.elem? 278).run Tryz.prog w=.ok (some 274) w:=by kernel_rfl
theorem Nd (p:Addr)(w:World):(ReflectliteValue.mk 274 p ReflectliteValue.flagAddr).run Tryz.prog w=.ok (.agg #[.pointer (some ⟨12,274,none⟩),.pointer (some p),.int .u64 409]) w:=by kernel_rfl
theorem BQ (a p:Addr)(W:World)(ha:W.cell? a=some (.pointer (some p))):
  (ReflectliteValue.method (ReflectliteValue.valueError "reflectlite.Value.Elem" 0) ReflectliteValue.elem #[.agg #[.pointer (some ⟨12, 278, none⟩), .pointer (some a), .int .u64 150]]).run Tryz.prog W
   = .ok (.agg #[.pointer (some ⟨12,274,none⟩),.pointer (some p),.int .u64 409]) W:=by
 rw[OY]
 simp only[Sem.run_bind,sO,Result.andThen]
 simp[ReflectliteValue.elem,loadVar,isAgg,underlying,Tryz.underlying278,ha,Result.andThen,zq,Nd]
theorem Pk (v x:Value):ReflectliteValue.set #[v,x]=(do
  let(some (dst,a,fl),some (src,b,_)):=(←ReflectliteValue.parts v,←ReflectliteValue.parts x)
   | unsupported (.noEntry "extern/(internal/reflectlite.Value).Set.zeroValue")
  if fl / ReflectliteValue.flagAddr % 2 == 0 then unsupported (.noEntry "extern/(internal/reflectlite.Value).Set.unaddressable")
  let val ←loadVar src b
  if ←Rtype.directlyAssignable dst src then storeVar dst a val
  else if ←Rtype.implements dst src then
   if (←Rtype.kind src)==20 then
    match val with
    | .nilIface => unsupported (.noEntry "extern/reflectlite: a nil value of one interface type handed on as a value of another")
    | _=>storeVar dst a val
   else storeVar dst a (.iface src val)
  else panicString ("reflectlite.Set: value of type " ++ (← Rtype.spelt src) ++ " is not assignable to type " ++ (← Rtype.spelt dst))
  pure (.tuple #[])):=rfl
theorem BR (a:Addr)(w:World):(ReflectliteValue.parts (.agg #[.pointer (some ⟨12,274,none⟩),.pointer (some a),.int .u64 409])).run Tryz.prog w=.ok (some (274,a,409)) w:=by kernel_rfl
theorem FH (a:Addr)(w:World):(ReflectliteValue.parts (.agg #[.pointer (some ⟨12,274,none⟩),.pointer (some a),.int .u64 153])).run Tryz.prog w=.ok (some (274,a,153)) w:=by kernel_rfl
theorem BU (w:World):(Rtype.directlyAssignable 274 274).run Tryz.prog w=.ok true w:=by kernel_rfl
theorem LC (b c:Nat)(x y:Int)(o1 o2:Value)(W:World)(hb0:W.cell? ⟨c,0,none⟩=some (.int .i64 x))(hb1:W.cell? ⟨c,1,none⟩=some (.int .i64 y))(h0:W.cell? ⟨b,0,none⟩=some o1)(h1:W.cell? ⟨b,1,none⟩=some o2)(f0:W.frozen? ⟨b,0,none⟩=false)(f1:W.frozen? ⟨b,1,none⟩=false):
  (ReflectliteValue.set #[.agg #[.pointer (some ⟨12,274,none⟩),.pointer (some ⟨b,0,none⟩),.int .u64 409],.agg #[.pointer (some ⟨12,274,none⟩),.pointer (some ⟨c,0,none⟩),.int .u64 153]]).run Tryz.prog W
   = .ok (.tuple #[]) ((W.setCell ⟨b,0,none⟩ (.int .i64 x)).setCell ⟨b,1,none⟩ (.int .i64 y)):=by
 have hl:(loadCells ⟨c,0,none⟩ 2).run Tryz.prog W=.ok #[.int .i64 x,.int .i64 y] W:=by
  refine run_loadCells_list _ ⟨c,0,none⟩ [.int .i64 x,.int .i64 y] (fun j v hj=>?_)
  match j,hj with
  | 0,hj=>simp at hj;subst hj;simpa [Addr.add] using hb0
  | 1,hj=>simp at hj;subst hj;simpa [Addr.add] using hb1
  | j+2,hj=>simp at hj
 have h1':(W.setCell ⟨b,0,none⟩ (.int .i64 x)).cell? ⟨b,1,none⟩=some o2:=by
  rw[World.cell?_setCell_other (h:=by intro h;injection h with _ h;omega)];exact h1
 rw[Pk]
 simp only[Sem.run_bind,BR,FH,Result.andThen]
 simp[ReflectliteValue.flagAddr,loadVar,isAgg,underlying,Tryz.underlying274,hl,Result.andThen,BU,storeVar,Value.cells,storeCells,Addr.add]
 rw[run_store Tryz.prog W ⟨b,0,none⟩ _ _ (by rfl)]
 simp only[h0,f0,Bool.false_eq_true,if_false]
 rw[run_store Tryz.prog _ ⟨b,1,none⟩ _ _ (by rfl)]
 simp[h1',f1]
def BV (w:World):Prop:=Gl w∧w.cell? ⟨8,0,none⟩=some (.iface 327 (.agg #[.pointer (some ⟨12,237,none⟩)]))
theorem BV.below {w w':World}(h:BV w)(hb:Below w.heap.size w w'):BV w':=⟨h.1.below hb,(hb.cell (World.block_lt_of_cell? _ _ h.2)).trans h.2⟩
end
end Go.Proofs.YtaohgmcbpafdeaaGreatDoor
