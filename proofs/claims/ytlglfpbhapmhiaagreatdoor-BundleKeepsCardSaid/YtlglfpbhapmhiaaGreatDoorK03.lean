/- A part of the proof. -/
import Derived.Test.YtlglfpbhapmhiaaGreatDoorCards
import Derived.Test.YtlglfpbhapmhiaaGreatDoorProg
import Derived.Test.YtlglfpbhapmhiaaGreatDoorTie
import Derived.BigQuiet
import Derived.BigRegion
import Derived.ChangeAlike
import Derived.ChangeSame
import Derived.Deep.AppendLies
import Derived.Deep.CutBlock
import Derived.Deep.DeepCutAuto
import Derived.Deep.DeepHandedRow
import Derived.Deep.DeepWitnessRowRef
import Derived.Deep.Draws
import Derived.Deep.LoopGhost
import Derived.Deep.QuietTactic
import Derived.Deep.RegionLaw
import Derived.IntWalk
import Derived.LaidEql
import Derived.LaidHandle
import Derived.Laws.OwnMore
import Derived.Lay
import Derived.Lib.DecodeN
import Derived.Lib.IndexAny
import Derived.Lib.IndexMore
import Derived.Lib.LaidTab
import Derived.Lib.LastIndexByte
import Derived.Lib.OthersKept
import Derived.Lib.SplitLaws
import Derived.Maps.AppendAt
import Derived.Maps.Own
import Derived.Maps.OwnOps
import Derived.Maps.OwnSet
import Derived.OpenShut
import Derived.OwnWalk
import Derived.ProofKit
import Derived.RegionTactic
import Derived.RowKitTokens
import Derived.Shelf.LaysM
import Derived.Shelf.Slices.Equal
import Derived.Shelf.Slices.Turned
import Derived.Shelf.Small.Bits
import Derived.Shelf.Small.Strs
import Derived.Shelf.Small.Utf8
import Derived.Shelf.Small.Wraps
import Derived.Shelf.Strconv.Itoa0
import Derived.Shelf.Strings.AsciiSet
import Derived.Shelf.Strings.Builder1
import Derived.Shelf.Strings.Builder2
import Derived.Shelf.Strings.BuilderF
import Derived.Shelf.Strings.Count
import Derived.Shelf.Strings.Cut
import Derived.Shelf.Strings.IndexAny
import Derived.Shelf.Strings.IndexAnyAll
import Derived.Shelf.Strings.LastIndex
import Derived.Shelf.Strings.OnBuilder
import Derived.Shelf.Strings.Prefix
import Derived.Shelf.Strings.Runes
import Derived.Shelf.Strings.Search1
import Derived.Shelf.Strings.Search2
import Derived.Shelf.Strings.Search3
import Derived.Shelf.Strings.Shaped
import Derived.Shelf.Strings.SlTrimAscii
import Derived.Shelf.Strings.Split
import Derived.Shelf.Strings.SplitShaped
import Derived.Shelf.Strings.Trim
import Derived.Shelf.Unicode.Decode
import Derived.Shelf.Unicode.DecodeSlow
import Derived.Sort.KeysCollected
import Derived.StillTailTactics
import Derived.Stop.Asserts
import Derived.StringKeys
import Derived.WalkKit
import Derived.WalkLawsBesides
import Derived.WalkMore
import Derived.WalkSmall
import Derived.WalkSpells
import Derived.Test.YtlglfpbhapmhiaaGreatDoorK00
set_option maxRecDepth 100000
set_option maxHeartbeats 20000000
set_option linter.unusedVariables false
set_option linter.unusedSimpArgs false
namespace Go.Proofs.YtlglfpbhapmhiaaGreatDoor
section
open Go.RowKit
def nv (x:BitVec 32):Int:=(x.toNat:Int)
theorem Mk (x:BitVec 32):0≤nv x:=by unfold nv;omega
theorem Ml (x:BitVec 32):nv x≤4294967295:=by have:=x.isLt;unfold nv;omega
theorem iE (x:BitVec 32):BitVec.ofInt 32 (nv x)=x:=by
 unfold nv
 rw[BitVec.ofInt_natCast,BitVec.ofNat_toNat,BitVec.setWidth_eq]
theorem qp (x:BitVec 32):IntKind.u32.wrap (x.toNat:Int)=nv x:=IntWalk.u32_in _ ⟨Mk x,Ml x⟩
theorem qF (x y:BitVec 32):bits .and .u32 (nv x) (nv y)=nv (x &&& y):=by
 show IntKind.u32.wrap ((BitVec.ofInt 32 (nv x) &&& BitVec.ofInt 32 (nv y)).toNat:Int)=_
 rw[iE,iE,qp]
theorem xp (x y:BitVec 32):bits .or .u32 (nv x) (nv y)=nv (x ||| y):=by
 show IntKind.u32.wrap ((BitVec.ofInt 32 (nv x) ||| BitVec.ofInt 32 (nv y)).toNat:Int)=_
 rw[iE,iE,qp]
theorem vE (x y:BitVec 32):bits .xor .u32 (nv x) (nv y)=nv (x ^^^ y):=by
 show IntKind.u32.wrap ((BitVec.ofInt 32 (nv x) ^^^ BitVec.ofInt 32 (nv y)).toNat:Int)=_
 rw[iE,iE,qp]
theorem vF (x:BitVec 32):bits .xor .u32 4294967295 (nv x)=nv (~~~x):=by
 show IntKind.u32.wrap ((BitVec.ofInt 32 (4294967295:Int) ^^^ BitVec.ofInt 32 (nv x)).toNat:Int)=_
 rw[iE,show BitVec.ofInt 32 (4294967295:Int)=BitVec.allOnes 32 from rfl,BitVec.allOnes_xor,qp]
theorem oz (x y:BitVec 32):(nv x+nv y) % 4294967296=nv (x+y):=by
 unfold nv
 rw[BitVec.toNat_add]
 omega
theorem eI (x y:BitVec 32):IntKind.u32.wrap (nv x+nv y)=nv (x+y):=by rw[IntKind.wrap_u32,oz]
theorem KU (x:BitVec 32)(k:Nat):nv x*2 ^ k % 4294967296=nv (x <<< k):=by
 unfold nv
 rw[BitVec.toNat_shiftLeft,Nat.shiftLeft_eq]
 simp
theorem FZ (x:BitVec 32)(k:Nat):nv x / 2 ^ k=nv (x >>> k):=by
 unfold nv
 rw[BitVec.toNat_ushiftRight,Nat.shiftRight_eq_div_pow]
 simp
def rl (k:Nat)(x:BitVec 32):BitVec 32:=(x <<< k) ||| (x >>> (32-k))
def rr (k:Nat)(x:BitVec 32):BitVec 32:=rl (32-k) x
theorem gn (x y:BitVec 32):∃ z,IntKind.u32.wrap (nv x+nv y)=nv z∧(nv x+nv y) % 4294967296=nv z∧Hid (z=x+y):=⟨_,eI _ _,oz _ _,rfl⟩
theorem lW (x y:BitVec 32):∃ z,bits .and .u32 (nv x) (nv y)=nv z∧Hid (z=x &&& y):=⟨_,qF _ _,rfl⟩
theorem KW (x y:BitVec 32):∃ z,bits .or .u32 (nv x) (nv y)=nv z∧Hid (z=x ||| y):=⟨_,xp _ _,rfl⟩
theorem gg (x y:BitVec 32):∃ z,bits .xor .u32 (nv x) (nv y)=nv z∧Hid (z=x ^^^ y):=⟨_,vE _ _,rfl⟩
theorem Ku (x:BitVec 32):∃ z,bits .xor .u32 (if IntKind.u32.signed=true then -1 else IntKind.u32.max) (nv x)=nv z∧Hid (z= ~~~x):=⟨_,vF _,rfl⟩
theorem Mm:∀ k:Nat,k<32→bits .and .u64 (k:Int) 31=(k:Int):=by decide
theorem cW (x:BitVec 32)(k:Nat)(hk:k<32)(hk0:0<k)(w:World):
  Calls Tryz.prog 189 #[.int .u32 (nv x),.int .i64 (k:Int)] w fun e w'=>e=.returned (.int .u32 (nv (rl k x)))∧w'=w:=by
 have hs:=KU x k
 have hr:=FZ x (32-k)
 have ha:=Mm k hk
 have ho:=xp (x <<< k) (x >>> (32-k))
 rw[show x <<< k ||| x >>> (32-k)=rl k x from rfl] at ho
 have e32:IntKind.u64.wrap (32-(k:Int))=32-(k:Int):=IntWalk.u64_in _ (by omega)
 go_enter Tryz.func189,Tryz.ntmps189
 go_wp2_with fail
 go_ret
 exact⟨rfl,rfl⟩
theorem bi (x:BitVec 32)(k:Nat)(hk:k<32)(hk0:0<k)(w:World):
  Calls Tryz.prog 190 #[.int .u32 (nv x),.int .i64 (k:Int)] w fun e w'=>e=.returned (.int .u32 (nv (rr k x)))∧w'=w:=by
 go_enter Tryz.func190,Tryz.ntmps190
 go_wp2_with fail
 rw[show(32:Int)-(k:Int)=((32-k:Nat):Int) by omega]
 refine(cW x (32-k) (by omega) (by omega) w).mono ?_;rintro e w' ⟨rfl,rfl⟩
 go_wp2_with fail
 go_ret
 exact⟨rfl,rfl⟩
def Rd (w:World)(sz:Nat)(A:OA)(n:Nat)(xs:LV):Prop:=
 xs.length=n*sz∧(0<n→∃ b off,A=some ⟨b,off,none⟩∧∀ (j:Nat)(u:Value),xs[j]?=some u→w.cell? ⟨b,off+j,none⟩=some u)
theorem Rd.nil (w:World)(sz:Nat)(A:OA):Rd w sz A 0 []:=⟨by simp,fun h=>absurd h (by omega)⟩
theorem Rd.keep {w w':World}{sz n:Nat}{A:OA}{xs:LV}(h:Rd w sz A n xs)(hk:∀ p:Addr,p.block<w.heap.size→w'.cell? p=w.cell? p):Rd w' sz A n xs:=
 ⟨h.1,fun hn=>by
  obtain⟨b,off,e,hc⟩:=h.2 hn
  exact⟨b,off,e,fun j u hu=>(hk _ (World.block_lt_of_cell? _ _ (hc j u hu))).trans (hc j u hu)⟩⟩
theorem Rd.below {w w':World}{sz n:Nat}{A:OA}{xs:LV}(h:Rd w sz A n xs)(hb:Below w.heap.size w w'):Rd w' sz A n xs:=h.keep fun _ hp=>hb.cell hp
theorem Rd.drew {w:World}{sz n:Nat}{A:OA}{xs:LV}(h:Rd w sz A n xs):Rd w.drew sz A n xs:=h
structure cM where
 nm:BA
 op:Int
 ver:BA
structure ax where
 path:BA
 kind:Int
 mode:Int
 owner:BA
 group:BA
 link:BA
 sum:BA
 conf:Bool
structure aT where
 phase:Int
 body:BA
structure bN where
 nm:BA
 ver:BA
 ar:BA
 sm:BA
 na:OA
 nc:Nat
 needs:List BA
 ba:OA
 bc:Nat
 bars:List BA
 ga:OA
 gc:Nat
 gives:List cM
 fa:OA
 fc:Nat
 files:List ax
 sa:OA
 sc:Nat
 scripts:List aT
def cM.cells (x:cM):LV:=[.string x.nm,.int .i64 x.op,.string x.ver]
def ax.cells (x:ax):LV:=[.string x.path,.int .i64 x.kind,.int .i64 x.mode,.string x.owner,.string x.group,.string x.link,.string x.sum,.bool x.conf]
def aT.cells (x:aT):LV:=[.int .i64 x.phase,.string x.body]
def az (l:List BA):LV:=l.map .string
def bN.cells (p:bN):LV:=[.string p.nm,.string p.ver,.string p.ar,.string p.sm,.slice p.na p.needs.length p.nc,.slice p.ba p.bars.length p.bc,.slice p.ga p.gives.length p.gc,.slice p.fa p.files.length p.fc,.slice p.sa p.scripts.length p.sc]
def bN.val (p:bN):Value:=.agg #[.string p.nm,.string p.ver,.string p.ar,.string p.sm,.slice p.na p.needs.length p.nc,.slice p.ba p.bars.length p.bc,.slice p.ga p.gives.length p.gc,.slice p.fa p.files.length p.fc,.slice p.sa p.scripts.length p.sc]
structure bN.ok (p:bN) (w:World):Prop where
 needs:Rd w 1 p.na p.needs.length (az p.needs)
 bars:Rd w 1 p.ba p.bars.length (az p.bars)
 gives:Rd w 3 p.ga p.gives.length (p.gives.flatMap cM.cells)
 files:Rd w 8 p.fa p.files.length (p.files.flatMap ax.cells)
 scripts:Rd w 2 p.sa p.scripts.length (p.scripts.flatMap aT.cells)
theorem bN.ok.below {p:bN}{w w':World}(h:p.ok w)(hb:Below w.heap.size w w'):p.ok w':=⟨h.1.below hb,h.2.below hb,h.3.below hb,h.4.below hb,h.5.below hb⟩
structure bN.fits (p:bN):Prop where
 nm:p.nm.size≤9223372036854775807
 ver:p.ver.size≤9223372036854775807
 ar:p.ar.size≤9223372036854775807
 sm:p.sm.size≤9223372036854775807
 needs:p.needs.length≤9223372036854775807
 bars:p.bars.length≤9223372036854775807
 gives:p.gives.length≤9223372036854775807
 files:p.files.length≤9223372036854775807
 scripts:p.scripts.length≤9223372036854775807
 needs_:∀ s∈p.needs,s.size≤9223372036854775807
 bars_:∀ s∈p.bars,s.size≤9223372036854775807
 gives_:∀ x∈p.gives,x.nm.size≤9223372036854775807∧x.ver.size≤9223372036854775807∧(Lit.int .i64 x.op).wf=true
 files_:∀ x∈p.files,x.path.size≤9223372036854775807∧x.owner.size≤9223372036854775807∧x.group.size≤9223372036854775807∧x.link.size≤9223372036854775807∧x.sum.size≤9223372036854775807∧(Lit.int .i64 x.kind).wf=true∧(Lit.int .i64 x.mode).wf=true
 scripts_:∀ x∈p.scripts,x.body.size≤9223372036854775807∧(Lit.int .i64 x.phase).wf=true
structure Mp (w:World) (A:OA) (l:List bN):Prop where
 row:Rd w 9 A l.length (l.flatMap bN.cells)
 all:∀ p∈l,p.ok w
theorem ei {α:Type}{f:α→LV}{sz:Nat}(hf:∀ x,(f x).length=sz):∀ (l:List α)(i j:Nat)(x:α),l[i]?=some x→j<sz→(l.flatMap f)[i*sz+j]?=(f x)[j]?
 | [],i,j,x,h,_=>by simp at h
 | a::r,0,j,x,h,hj=>by
  simp at h;subst h
  rw[List.flatMap_cons,List.getElem?_append_left (by rw[hf];omega)];simp
 | a::r,i+1,j,x,h,hj=>by
  have h':r[i]?=some x:=by simpa using h
  rw[List.flatMap_cons,List.getElem?_append_right (by rw[hf,Nat.add_mul];omega),hf,←ei hf r i j x h' hj]
  congr 1;rw[Nat.add_mul];omega
theorem cX {α:Type}{f:α→LV}{sz:Nat}(hf:∀ x,(f x).length=sz):∀ (l:List α),(l.flatMap f).length=l.length*sz
 | []=>by simp
 | a::r=>by rw[List.flatMap_cons,List.length_append,hf,cX hf r,List.length_cons,Nat.add_mul];omega
theorem ng (x:cM):x.cells.length=3:=rfl
theorem gL (x:ax):x.cells.length=8:=rfl
theorem gp (x:aT):x.cells.length=2:=rfl
theorem iF (x:bN):x.cells.length=9:=rfl
theorem Rd.elem {α:Type}{f:α→LV}{sz:Nat}(hf:∀ x,(f x).length=sz){w:World}{A:OA}{l:List α}(h:Rd w sz A l.length (l.flatMap f))(i:Nat)(x:α)(hi:l[i]?=some x):
  ∃ b off,A=some ⟨b,off,none⟩∧∀ (j:Nat)(u:Value),(f x)[j]?=some u→w.cell? ⟨b,off+i*sz+j,none⟩=some u:=by
 have hlt:i<l.length:=(gS hi).1
 obtain⟨b,off,e,hc⟩:=h.2 (by omega)
 refine⟨b,off,e,fun j u hu=>?_⟩
 have hj:j<sz:=by rw[←hf x];exact(gS hu).1
 rw[Nat.add_assoc]
 exact hc _ u (by rw[ei hf l i j x hi hj,hu])
theorem Rd.str {w:World}{A:OA}{l:List BA}(h:Rd w 1 A l.length (az l))(i:Nat)(x:BA)(hi:l[i]?=some x):
  ∃ b off,A=some ⟨b,off,none⟩∧w.cell? ⟨b,off+i,none⟩=some (.string x):=by
 have hlt:i<l.length:=(gS hi).1
 obtain⟨b,off,e,hc⟩:=h.2 (by omega)
 exact⟨b,off,e,hc i _ (by simp[az,hi])⟩
def lZ:Nat→BA
 | 0=>⟨#[97,108,112,104,97]⟩
 | 1=>⟨#[98,101,116,97]⟩
 | 2=>⟨#[112,114,101]⟩
 | 3=>⟨#[114,99]⟩
 | 4=>⟨#[99,118,115]⟩
 | 5=>⟨#[115,118,110]⟩
 | 6=>⟨#[103,105,116]⟩
 | 7=>⟨#[104,103]⟩
 | _=>⟨#[112]⟩
def xy:Nat→BA
 | 0=>⟨#[]⟩
 | 1=>⟨#[60,60]⟩
 | 2=>⟨#[60,61]⟩
 | 3=>⟨#[61]⟩
 | 4=>⟨#[62,61]⟩
 | _=>⟨#[62,62]⟩
def ni:Nat→BA
 | 0=>⟨#[]⟩
 | 1=>⟨#[60]⟩
 | 2=>⟨#[60,61]⟩
 | 3=>⟨#[61]⟩
 | 4=>⟨#[62,61]⟩
 | _=>⟨#[62]⟩
def nj:Nat→BA
 | 0=>⟨#[]⟩
 | 1=>⟨#[60]⟩
 | 2=>⟨#[60,61]⟩
 | 3=>⟨#[61]⟩
 | 4=>⟨#[62,61]⟩
 | 5=>⟨#[62]⟩
 | _=>⟨#[126]⟩
def ux:Nat→BA
 | 0=>⟨#[97,110,100]⟩
 | 1=>⟨#[111,114]⟩
 | 2=>⟨#[105,102]⟩
 | 3=>⟨#[117,110,108,101,115,115]⟩
 | 4=>⟨#[119,105,116,104]⟩
 | _=>⟨#[119,105,116,104,111,117,116]⟩
structure Gl (w:World):Prop where
 ml:∃ m:Int,w.cell? ⟨0,0,none⟩=some (.int .i64 m)
 vwd:∀ i,i<9→w.cell? ⟨5,i,none⟩=some (.string (lZ i))
 dsg:∀ i,i<6→w.cell? ⟨6,i,none⟩=some (.string (xy i))
 rsg:∀ i,i<6→w.cell? ⟨7,i,none⟩=some (.string (ni i))
 rwd:∀ i,i<6→w.cell? ⟨9,i,none⟩=some (.string (ux i))
 asg:∀ i,i<7→w.cell? ⟨1,i,none⟩=some (.string (nj i))
theorem Gl.keep {w w':World}(h:Gl w)(hk:∀ p:Addr,p.block<w.heap.size→w'.cell? p=w.cell? p):Gl w':=by
 obtain⟨⟨m,hm⟩,h1,h2,h3,h4,h5⟩:=h
 refine⟨⟨m,?_⟩,fun i hi=>?_,fun i hi=>?_,fun i hi=>?_,fun i hi=>?_,fun i hi=>?_⟩
 ·exact(hk _ (World.block_lt_of_cell? _ _ hm)).trans hm
 ·exact(hk _ (World.block_lt_of_cell? _ _ (h1 i hi))).trans (h1 i hi)
 ·exact(hk _ (World.block_lt_of_cell? _ _ (h2 i hi))).trans (h2 i hi)
 ·exact(hk _ (World.block_lt_of_cell? _ _ (h3 i hi))).trans (h3 i hi)
 ·exact(hk _ (World.block_lt_of_cell? _ _ (h4 i hi))).trans (h4 i hi)
 ·exact(hk _ (World.block_lt_of_cell? _ _ (h5 i hi))).trans (h5 i hi)
theorem Gl.below {w w':World}(h:Gl w)(hb:Below w.heap.size w w'):Gl w':=h.keep fun _ hp=>hb.cell hp
theorem Gl.alloc {w:World}(h:Gl w)(o:Obj):Gl (w.alloc o):=h.below (bR.alloc lr o)
theorem aq {B:Nat}{a w:World}(h:Below B a w)(n:Nat):Below B a (w.drewN n):=⟨h.os,h.tape,h.output,h.size,h.block⟩
theorem bO {a w:World}{row:Option Nat}(h:a.grownBy w row)(n:Nat):a.grownBy (w.drewN n) row:=⟨h.os,h.tape,h.output,h.size,h.block⟩
theorem dG {a w:World}{row:Option Nat}(h:a.grownBy w row)(o:Obj):a.grownBy (w.alloc o) row:=
 ⟨h.os,h.tape,h.output,Nat.le_trans h.size (by simp),fun i hi hne=>(Below.heap_alloc w o i (Nat.lt_of_lt_of_le hi h.size)).trans (h.block i hi hne)⟩
theorem an {a w:World}{g:Nat}(h:a.grownBy w (some g)){p:Addr}(hp:p.block=g∨a.heap.size≤p.block)(u:Value):a.grownBy (w.setCell p u) (some g):=
 ⟨h.os,h.tape,h.output,by simpa [World.setCell] using h.size,fun i hi hne=>(Below.heap_setCell w p u i (by
  rintro rfl
  rcases hp with hp | hp
  ·exact hne (by rw[hp])
  ·omega)).trans (h.block i hi hne)⟩
theorem bh {a w w':World}{row:Option Nat}(h:a.grownBy w row)(hb:Below w.heap.size w w'):a.grownBy w' row:=
 ⟨hb.os.trans h.os,hb.tape.trans h.tape,hb.output.trans h.output,Nat.le_trans h.size hb.size,fun i hi hn=>(hb.block i (Nat.lt_of_lt_of_le hi h.size)).trans (h.block i hi hn)⟩
theorem aD {w w':World}{base:Nat}{e:TypeId}{size n:Nat}{v:Value}{xs:LV}(h:w.ownsRow base e size v n xs)(hb:Below w.heap.size w w'):w'.ownsRow base e size v n xs:=by
 refine⟨h.1,?_⟩
 rcases h.2 with h0 | ⟨g,cap,cur,hv,hg,hh,h1,h2,h3,h4⟩
 ·exact .inl h0
 ·exact .inr ⟨g,cap,cur,hv,hg,(hb.block g (Array.getElem?_eq_some_iff.1 hh).1).trans hh,h1,h2,h3,h4⟩
theorem aL {w:World}{base:Nat}{e:TypeId}{size n:Nat}{v:Value}{xs:LV}(h:w.ownsRow base e size v n xs):∃ A c,v=.slice A n c:=by
 rcases h.2 with⟨rfl,rfl⟩ | ⟨g,cap,cur,hv,_⟩
 ·exact⟨none,0,rfl⟩
 ·exact⟨_,_,hv⟩
theorem aN {w:World}{base base':Nat}{e:TypeId}{size n:Nat}{v:Value}{xs:LV}(h:w.ownsRow base e size v n xs)(hb:base'≤base):w.ownsRow base' e size v n xs:=by
 refine⟨h.1,?_⟩
 rcases h.2 with h0 | ⟨g,cap,cur,hv,hg,r⟩
 ·exact .inl h0
 ·exact .inr ⟨g,cap,cur,hv,Nat.le_trans hb hg,r⟩
theorem cP {w:World}{base:Nat}{e:TypeId}{size n c:Nat}{A:OA}{xs:LV}(h:w.ownsRow base e size (.slice A n c) n xs):Rd w size A n xs:=by
 refine⟨h.1,fun hn=>?_⟩
 obtain⟨g,cap,hv,_,hlt⟩:=h.form hn
 have hA:A=some ⟨g,0,none⟩:=by injection hv
 subst hA
 refine⟨g,0,rfl,fun j u hu=>?_⟩
 have:=h.cells (g:=g) rfl j u hu
 unfold Addr.add at this
 rw[Nat.zero_add]
 split at this
 ·rename_i h0;subst h0;exact this
 ·simpa using this
structure fP (q:bN) (w:World) (lo:Nat):Prop where
 needs:w.ownsRow lo 9 1 (.slice q.na q.needs.length q.nc) q.needs.length (az q.needs)
 bars:w.ownsRow lo 9 1 (.slice q.ba q.bars.length q.bc) q.bars.length (az q.bars)
 gives:w.ownsRow lo 81 3 (.slice q.ga q.gives.length q.gc) q.gives.length (q.gives.flatMap cM.cells)
 files:w.ownsRow lo 56 8 (.slice q.fa q.files.length q.fc) q.files.length (q.files.flatMap ax.cells)
 scripts:w.ownsRow lo 44 2 (.slice q.sa q.scripts.length q.sc) q.scripts.length (q.scripts.flatMap aT.cells)
theorem aJ {w w':World}{lo g:Nat}{e:TypeId}{size n:Nat}{v:Value}{xs:LV}(h:w.ownsRow lo e size v n xs)(hlo:g<lo)(hg:w.grownBy w' (some g)):w'.ownsRow lo e size v n xs:=by
 refine h.kept hg ?_
 cases hb:v.ownBlock with
 | none=>exact .inl rfl
 | some k=>right;intro he;have:=(h.lt k hb).1;injection he with he;omega
theorem fP.kept {q:bN}{w w':World}{lo g:Nat}(h:fP q w lo)(hlo:g<lo)(hg:w.grownBy w' (some g)):fP q w' lo:=
 ⟨aJ h.1 hlo hg,aJ h.2 hlo hg,aJ h.3 hlo hg,aJ h.4 hlo hg,aJ h.5 hlo hg⟩
theorem fP.below {q:bN}{w w':World}{lo:Nat}(h:fP q w lo)(hb:Below w.heap.size w w'):fP q w' lo:=
 ⟨aD h.1 hb,aD h.2 hb,aD h.3 hb,aD h.4 hb,aD h.5 hb⟩
structure bN.alike (p q:bN):Prop where
 nm:p.nm=q.nm
 ver:p.ver=q.ver
 ar:p.ar=q.ar
 sm:p.sm=q.sm
 needs:p.needs=q.needs
 bars:p.bars=q.bars
 gives:p.gives=q.gives
 files:p.files=q.files
 scripts:p.scripts=q.scripts
def Gi (p q:bN):Prop:=(∀ g g',(Value.slice p.ga p.gives.length p.gc).ownBlock=some g→(Value.slice q.ga q.gives.length q.gc).ownBlock=some g'→g<g')∧(∀ g g',(Value.slice p.fa p.files.length p.fc).ownBlock=some g→(Value.slice q.fa q.files.length q.fc).ownBlock=some g'→g<g')
structure Mq (w:World) (lo g0:Nat) (v:Value) (l:List bN):Prop where
 row:w.ownsRow lo 27 9 v l.length (l.flatMap bN.cells)
 blk:0<l.length→v.ownBlock=some g0
 all:∀ q∈l,fP q w (g0+1)
 far:l.Pairwise Gi
theorem KZ (qs r:List bN)(p:bN)(k j:Nat)(u:Value)(hk:qs.length=k)(hj:j<9):((qs++p::r).flatMap bN.cells).set (k*9+j) u=qs.flatMap bN.cells++(p.cells.set j u++r.flatMap bN.cells):=by
 have hl:(qs.flatMap bN.cells).length=k*9:=by rw[cX iF,hk]
 rw[List.flatMap_append,List.flatMap_cons,List.set_append_right _ _ (by omega),hl,show k*9+j-k*9=j from by omega,List.set_append_left _ _ (by rw[iF];omega)]
theorem aj {a b c:World}{row:Option Nat}(h:a.grownBy b row)(k:b.grownBy c row):a.grownBy c row:=
 ⟨k.os.trans h.os,k.tape.trans h.tape,k.output.trans h.output,Nat.le_trans h.size k.size,fun i hi hn=>(k.block i (Nat.lt_of_lt_of_le hi h.size) hn).trans (h.block i hi hn)⟩
theorem cY {w a b:World}{g:Nat}(h:Below w.heap.size w a)(k:a.grownBy b (some g))(hg:w.heap.size≤g):Below w.heap.size w b:=
 h.grown k h.size (fun j hj=>by injection hj with hj;omega)
theorem vM {p:bN}{w a b:World}{g:Nat}(hp:p.ok w)(h:Below w.heap.size w a)(k:a.grownBy b (some g))(hg:w.heap.size≤g):Hid (p.ok b):=hp.below (cY h k hg)
theorem La (qs r:List bN)(p:bN)(k:Nat)(hk:qs.length=k)  : ((qs++p::r).flatMap bN.cells)[k*9+4]?=some (.slice p.na p.needs.length p.nc):=by
 exact ei iF (qs++p::r) k 4 p (by rw[List.getElem?_append_right (by omega)];simp[hk]) (by omega)
theorem Lb (qs r:List bN)(p:bN)(k:Nat)(hk:qs.length=k)(u0:Value):(((qs++p::r).flatMap bN.cells).set (k*9+4) u0)[k*9+5]?=some (.slice p.ba p.bars.length p.bc):=by
 rw[List.getElem?_set_ne (by omega)]
 exact ei iF (qs++p::r) k 5 p (by rw[List.getElem?_append_right (by omega)];simp[hk]) (by omega)
theorem Lc (qs r:List bN)(p:bN)(k:Nat)(hk:qs.length=k)(u0:Value)(u1:Value):((((qs++p::r).flatMap bN.cells).set (k*9+4) u0).set (k*9+5) u1)[k*9+6]?=some (.slice p.ga p.gives.length p.gc):=by
 rw[List.getElem?_set_ne (by omega)]
 rw[List.getElem?_set_ne (by omega)]
 exact ei iF (qs++p::r) k 6 p (by rw[List.getElem?_append_right (by omega)];simp[hk]) (by omega)
theorem Ld (qs r:List bN)(p:bN)(k:Nat)(hk:qs.length=k)(u0:Value)(u1:Value)(u2:Value):(((((qs++p::r).flatMap bN.cells).set (k*9+4) u0).set (k*9+5) u1).set (k*9+6) u2)[k*9+7]?=some (.slice p.fa p.files.length p.fc):=by
 rw[List.getElem?_set_ne (by omega)]
 rw[List.getElem?_set_ne (by omega)]
 rw[List.getElem?_set_ne (by omega)]
 exact ei iF (qs++p::r) k 7 p (by rw[List.getElem?_append_right (by omega)];simp[hk]) (by omega)
theorem Le (qs r:List bN)(p:bN)(k:Nat)(hk:qs.length=k)(u0:Value)(u1:Value)(u2:Value)(u3:Value):((((((qs++p::r).flatMap bN.cells).set (k*9+4) u0).set (k*9+5) u1).set (k*9+6) u2).set (k*9+7) u3)[k*9+8]?=some (.slice p.sa p.scripts.length p.sc):=by
 rw[List.getElem?_set_ne (by omega)]
 rw[List.getElem?_set_ne (by omega)]
 rw[List.getElem?_set_ne (by omega)]
 rw[List.getElem?_set_ne (by omega)]
 exact ei iF (qs++p::r) k 8 p (by rw[List.getElem?_append_right (by omega)];simp[hk]) (by omega)
theorem qq (a b c:LV)(k j:Nat)(u:Value)(ha:a.length=k*9)(hj:j<b.length):(a++(b++c)).set (k*9+j) u=a++(b.set j u++c):=by
 rw[List.set_append_right _ _ (by omega),ha,show k*9+j-k*9=j from by omega,List.set_append_left _ _ hj]
theorem Gj (qs r:List bN)(p:bN)(k:Nat)(hk:qs.length=k)(a1 a2 a3 a4 a5:OA)(c1 c2 c3 c4 c5:Nat):
  ((((((qs++p::r).flatMap bN.cells).set (k*9+4) (.slice a1 p.needs.length c1)).set (k*9+5) (.slice a2 p.bars.length c2)).set (k*9+6) (.slice a3 p.gives.length c3)).set (k*9+7) (.slice a4 p.files.length c4)).set (k*9+8) (.slice a5 p.scripts.length c5) =
    ((qs++[({ p with na:=a1,nc:=c1,ba:=a2,bc:=c2,ga:=a3,gc:=c3,fa:=a4,fc:=c4,sa:=a5,sc:=c5 }:bN)])++r).flatMap bN.cells:=by
 have hl:(qs.flatMap bN.cells).length=k*9:=by rw[cX iF,hk]
 rw[KZ qs r p k 4 _ hk (by omega),qq _ _ _ k 5 _ hl (by simp[bN.cells]),qq _ _ _ k 6 _ hl (by simp[bN.cells]),qq _ _ _ k 7 _ hl (by simp[bN.cells]),qq _ _ _ k 8 _ hl (by simp[bN.cells])]
 rw[List.append_assoc,List.flatMap_append,List.singleton_append,List.flatMap_cons]
 rfl
theorem zO {l qs:List bN}{k:Nat}{p q:bN}(hk:qs.length=k)(h:∀ (i:Nat)(p q:bN),l[i]?=some p→qs[i]?=some q→p.alike q)(hp:l[k]?=some p)(ha:p.alike q):
  ∀ (i:Nat)(x y:bN),l[i]?=some x→(qs++[q])[i]?=some y→x.alike y:=by
 intro i x y hx hy
 by_cases hi:i<qs.length
 ·rw[List.getElem?_append_left hi] at hy;exact h i x y hx hy
 ·rw[List.getElem?_append_right (by omega)] at hy
  have hik:i=k:=by
   have:=(gS hy).1
   simp at this;omega
  subst hik
  rw[hk,Nat.sub_self] at hy
  simp at hy
  rw[hp] at hx;injection hx with hx
  subst hx hy;exact ha
structure av (wr:World) (b:Nat) (vs:LV):Prop where
 sz:b<wr.heap.size
 cell:∀ (j:Nat)(u:Value),vs[j]?=some u→wr.cell? ⟨b,j,none⟩=some u
 free:∀ j:Nat,j<vs.length→wr.frozen? ⟨b,j,none⟩=false
theorem av.new (w:World)(vs:LV)(t:TypeId):av (w.alloc (.cells vs.toArray t)) w.heap.size vs:=
 ⟨by simp,fun j u hu=>by simp[hu],fun j _=>by simp⟩
theorem av.below {wr w':World}{b:Nat}{vs:LV}(h:av wr b vs)(hb:Below wr.heap.size wr w'):av w' b vs:=
 ⟨Nat.lt_of_lt_of_le h.sz hb.size,fun j u hu=>(hb.cell (p:=⟨b,j,none⟩) h.sz).trans (h.cell j u hu),fun j hj=>(hb.frozen (p:=⟨b,j,none⟩) h.sz).trans (h.free j hj)⟩
theorem av.belowN {wr w':World}{b n:Nat}{vs:LV}(h:av wr b vs)(hb:Below n wr w')(hn:b<n):av w' b vs:=
 ⟨Nat.lt_of_lt_of_le h.sz hb.size,fun j u hu=>(hb.cell (p:=⟨b,j,none⟩) hn).trans (h.cell j u hu),fun j hj=>(hb.frozen (p:=⟨b,j,none⟩) hn).trans (h.free j hj)⟩
theorem av.alloc {wr:World}{b:Nat}{vs:LV}(h:av wr b vs)(o:Obj):av (wr.alloc o) b vs:=h.below (bR.alloc lr o)
theorem av.drewN {wr:World}{b:Nat}{vs:LV}(h:av wr b vs)(k:Nat):av (wr.drewN k) b vs:=h.below ⟨rfl,rfl,rfl,lr,fun _ _=>rfl⟩
theorem av.drew {wr:World}{b:Nat}{vs:LV}(h:av wr b vs):av wr.drew b vs:=h.below ⟨rfl,rfl,rfl,lr,fun _ _=>rfl⟩
theorem av.set {wr:World}{b:Nat}{vs:LV}(h:av wr b vs)(j:Nat)(hj:j<vs.length)(v:Value):av (wr.setCell ⟨b,j,none⟩ v) b (vs.set j v):=by
 refine⟨by simpa using h.sz,fun i u hu=>?_,fun i hi=>by rw[World.frozen?_setCell];exact h.free i (by simpa using hi)⟩
 by_cases e:j=i
 ·subst e
  rw[List.getElem?_set_self hj] at hu
  injection hu with hu;subst hu
  exact World.cell?_setCell_same' _ _ _ (by rw[h.cell j vs[j] (gG hj)];rfl)
 ·rw[List.getElem?_set_ne e] at hu
  rw[World.cell?_setCell_other (h:=by intro h;injection h with _ h;exact e h)]
  exact h.cell i u hu
theorem av.far {wr:World}{b c j:Nat}{vs:LV}(h:av wr b vs)(hne:c≠b)(v:Value):av (wr.setCell ⟨c,j,none⟩ v) b vs:=
 ⟨by simpa using h.sz,fun i u hu=>by rw[World.cell?_setCell_other (h:=by intro h;injection h with h;exact hne h)];exact h.cell i u hu,fun i hi=>by rw[World.frozen?_setCell];exact h.free i hi⟩
theorem ag {n c j:Nat}{a wr:World}(h:Below n a wr)(hc:n≤c)(v:Value):Below n a (wr.setCell ⟨c,j,none⟩ v):=h.setCell (p:=⟨c,j,none⟩) hc v
theorem dx (a b:UInt8):(((a.toNat:Nat):Int)==((b.toNat:Nat):Int))=(a==b):=by
 rw[bI];simp[←UInt8.toNat_inj];omega
def ay (c:UInt8):LU→Bool
 | a::_=>a==c
 | []=>false
theorem uE {c:UInt8}{l:LU}(h:ay c l=true):l=c::l.drop 1:=by
 cases l with
 | nil=>simp[ay] at h
 | cons a r=>simp[ay] at h;simp[h]
end
section
open Go.RowKit Go.Extern.Stop Go.Stop Go.Extern
theorem wm (t:Addr)(w:World):(ReflectliteValue.unpack (.iface 268 (.pointer (some t)))).run Tryz.prog w
  = .ok (.agg #[.pointer (some ⟨12,268,none⟩),.pointer (some ⟨w.heap.size,0,none⟩),.int .u64 150]) (w.alloc (.cells #[.pointer (some t)] 268)):=by kernel_rfl
theorem ym (a c:Int)(w:World):(ReflectliteValue.unpack (.iface 264 (.agg #[.int .i64 a,.int .i64 c]))).run Tryz.prog w
  = .ok (.agg #[.pointer (some ⟨12,264,none⟩),.pointer (some ⟨w.heap.size,0,none⟩),.int .u64 153]) (w.alloc (.cells #[.int .i64 a,.int .i64 c] 264)):=by kernel_rfl
theorem DI (a : Addr) (w : World) : (ReflectliteValue.methodAny (ReflectliteValue.valueError "reflectlite.Value.Type" 0) (fun t _ _ _ => ReflectliteType.toType t) #[.agg #[.pointer (some ⟨12, 268, none⟩), .pointer (some a), .int .u64 150]]).run Tryz.prog w
  = .ok (.iface 317 (.agg #[.pointer (some ⟨12,268,none⟩)])) w:=by kernel_rfl
theorem mq (n : Nat) (h : Value) (w : World) : (Go.method (n + 1) 317 (.agg #[h]) "Kind").run Tryz.prog w = .ok (285, h) w := by kernel_rfl
theorem mr (n : Nat) (h : Value) (w : World) : (Go.method (n + 1) 317 (.agg #[h]) "Elem").run Tryz.prog w = .ok (299, .agg #[h]) w := by kernel_rfl
theorem iq (n : Nat) (h : Value) (w : World) : (Go.method (n + 1) 317 (.agg #[h]) "Implements").run Tryz.prog w = .ok (300, .agg #[h]) w := by kernel_rfl
theorem gm (n : Nat) (h : Value) (w : World) : (Go.method (n + 1) 317 (.agg #[h]) "AssignableTo").run Tryz.prog w = .ok (297, .agg #[h]) w := by kernel_rfl
theorem DJ (w:World):((ReflectliteType.abiMethod fun t=>(fun a:Nat=>Value.int IntKind.u8 (a:Int)) <$> Rtype.kind t) #[.pointer (some ⟨12,268,none⟩)]).run Tryz.prog w=.ok (.int .u8 22) w:=by kernel_rfl
theorem GS (w:World):((ReflectliteType.abiMethod fun t=>(fun a:Nat=>Value.int IntKind.u8 (a:Int)) <$> Rtype.kind t) #[.pointer (some ⟨12,264,none⟩)]).run Tryz.prog w=.ok (.int .u8 25) w:=by kernel_rfl
theorem DK (w:World):(ReflectliteType.method ReflectliteType.elem #[.agg #[.pointer (some ⟨12,268,none⟩)]]).run Tryz.prog w=.ok (.iface 317 (.agg #[.pointer (some ⟨12,264,none⟩)])) w:=by kernel_rfl
theorem rF (w : World) : (ReflectliteType.relation "Implements" ReflectliteType.implements_ #[.agg #[.pointer (some ⟨12, 264, none⟩)], .iface 317 (.agg #[.pointer (some ⟨12, 228, none⟩)])]).run Tryz.prog w = .ok (.bool true) w := by kernel_rfl
theorem rG (v:Value)(w:World):(ReflectliteType.typeOf #[.iface 264 v]).run Tryz.prog w=.ok (.iface 317 (.agg #[.pointer (some ⟨12,264,none⟩)])) w:=by kernel_rfl
theorem rH (w : World) : (ReflectliteType.relation "AssignableTo" ReflectliteType.assignableTo #[.agg #[.pointer (some ⟨12, 264, none⟩)], .iface 317 (.agg #[.pointer (some ⟨12, 264, none⟩)])]).run Tryz.prog w = .ok (.bool true) w := by kernel_rfl
theorem MT (z:Sem Value)(f:TypeId→Addr→Nat→Nat→Sem Value)(v:Value):
  ReflectliteValue.method z f #[v]=(do match ←ReflectliteValue.parts v with | none=>z | some (t,a,fl)=>f t a fl (fl % 32)):=rfl
theorem rI (a:Addr)(w:World):(ReflectliteValue.parts (.agg #[.pointer (some ⟨12,268,none⟩),.pointer (some a),.int .u64 150])).run Tryz.prog w=.ok (some (268,a,150)) w:=by kernel_rfl
theorem Am (a p:Addr)(W:World)(ha:W.cell? a=some (.pointer (some p))):
  (ReflectliteValue.method (ReflectliteValue.valueError "reflectlite.Value.IsNil" 0) ReflectliteValue.isNil #[.agg #[.pointer (some ⟨12, 268, none⟩), .pointer (some a), .int .u64 150]]).run Tryz.prog W = .ok (.bool false) W := by
 rw[MT]
 simp only[Sem.run_bind,rI,Result.andThen]
 simp[ReflectliteValue.isNil,loadVar,isAgg,underlying,Tryz.underlying268,ha,Result.andThen]
theorem yn (w:World):(Rtype.elem? 268).run Tryz.prog w=.ok (some 264) w:=by kernel_rfl
theorem Ln (p:Addr)(w:World):(ReflectliteValue.mk 264 p ReflectliteValue.flagAddr).run Tryz.prog w=.ok (.agg #[.pointer (some ⟨12,264,none⟩),.pointer (some p),.int .u64 409]) w:=by kernel_rfl
theorem An (a p:Addr)(W:World)(ha:W.cell? a=some (.pointer (some p))):
  (ReflectliteValue.method (ReflectliteValue.valueError "reflectlite.Value.Elem" 0) ReflectliteValue.elem #[.agg #[.pointer (some ⟨12, 268, none⟩), .pointer (some a), .int .u64 150]]).run Tryz.prog W
   = .ok (.agg #[.pointer (some ⟨12,264,none⟩),.pointer (some p),.int .u64 409]) W:=by
 rw[MT]
 simp only[Sem.run_bind,rI,Result.andThen]
 simp[ReflectliteValue.elem,loadVar,isAgg,underlying,Tryz.underlying268,ha,Result.andThen,yn,Ln]
theorem M6 (v x:Value):ReflectliteValue.set #[v,x]=(do
  let(some (dst,a,fl),some (src,b,_)):=(←ReflectliteValue.parts v,←ReflectliteValue.parts x)
   | unsupported (.noEntry "extern/(internal/reflectlite.Value).Set.zeroValue")
  if fl / ReflectliteValue.flagAddr % 2 == 0 then unsupported (.noEntry "extern/(internal/reflectlite.Value).Set.unaddressable")
  let val ←loadVar src b
  if ←Rtype.directlyAssignable dst src then storeVar dst a val
  else if ←Rtype.implements dst src then
   if (←Rtype.kind src)==20 then
    match val with
    | .nilIface => unsupported (.noEntry "extern/reflectlite: a nil value of one interface type handed on as a value of another")
    | _=>storeVar dst a val
   else storeVar dst a (.iface src val)
  else panicString ("reflectlite.Set: value of type " ++ (← Rtype.spelt src) ++ " is not assignable to type " ++ (← Rtype.spelt dst))
  pure (.tuple #[])):=rfl
theorem Aq (a:Addr)(w:World):(ReflectliteValue.parts (.agg #[.pointer (some ⟨12,264,none⟩),.pointer (some a),.int .u64 409])).run Tryz.prog w=.ok (some (264,a,409)) w:=by kernel_rfl
theorem DL (a:Addr)(w:World):(ReflectliteValue.parts (.agg #[.pointer (some ⟨12,264,none⟩),.pointer (some a),.int .u64 153])).run Tryz.prog w=.ok (some (264,a,153)) w:=by kernel_rfl
theorem Ar (w:World):(Rtype.directlyAssignable 264 264).run Tryz.prog w=.ok true w:=by kernel_rfl
theorem JC (b c:Nat)(x y:Int)(o1 o2:Value)(W:World)(hb0:W.cell? ⟨c,0,none⟩=some (.int .i64 x))(hb1:W.cell? ⟨c,1,none⟩=some (.int .i64 y))(h0:W.cell? ⟨b,0,none⟩=some o1)(h1:W.cell? ⟨b,1,none⟩=some o2)(f0:W.frozen? ⟨b,0,none⟩=false)(f1:W.frozen? ⟨b,1,none⟩=false):
  (ReflectliteValue.set #[.agg #[.pointer (some ⟨12,264,none⟩),.pointer (some ⟨b,0,none⟩),.int .u64 409],.agg #[.pointer (some ⟨12,264,none⟩),.pointer (some ⟨c,0,none⟩),.int .u64 153]]).run Tryz.prog W
   = .ok (.tuple #[]) ((W.setCell ⟨b,0,none⟩ (.int .i64 x)).setCell ⟨b,1,none⟩ (.int .i64 y)):=by
 have hl:(loadCells ⟨c,0,none⟩ 2).run Tryz.prog W=.ok #[.int .i64 x,.int .i64 y] W:=by
  refine run_loadCells_list _ ⟨c,0,none⟩ [.int .i64 x,.int .i64 y] (fun j v hj=>?_)
  match j,hj with
  | 0,hj=>simp at hj;subst hj;simpa [Addr.add] using hb0
  | 1,hj=>simp at hj;subst hj;simpa [Addr.add] using hb1
  | j+2,hj=>simp at hj
 have h1':(W.setCell ⟨b,0,none⟩ (.int .i64 x)).cell? ⟨b,1,none⟩=some o2:=by
  rw[World.cell?_setCell_other (h:=by intro h;injection h with _ h;omega)];exact h1
 rw[M6]
 simp only[Sem.run_bind,Aq,DL,Result.andThen]
 simp[ReflectliteValue.flagAddr,loadVar,isAgg,underlying,Tryz.underlying264,hl,Result.andThen,Ar,storeVar,Value.cells,storeCells,Addr.add]
 rw[run_store Tryz.prog W ⟨b,0,none⟩ _ _ (by rfl)]
 simp only[h0,f0,Bool.false_eq_true,if_false]
 rw[run_store Tryz.prog _ ⟨b,1,none⟩ _ _ (by rfl)]
 simp[h1',f1]
def wn (w:World):Prop:=Gl w∧w.cell? ⟨8,0,none⟩=some (.iface 317 (.agg #[.pointer (some ⟨12,228,none⟩)]))
theorem wn.below {w w':World}(h:wn w)(hb:Below w.heap.size w w'):wn w':=⟨h.1.below hb,(hb.cell (World.block_lt_of_cell? _ _ h.2)).trans h.2⟩
theorem GU (b:Nat)(x y:Int)(w:World)(hG:w.cell? ⟨8,0,none⟩=some (.iface 317 (.agg #[.pointer (some ⟨12,228,none⟩)])))(hB:av w b [.int .i64 0,.int .i64 0]):
  Calls Tryz.prog 219 #[.iface 264 (.agg #[.int .i64 x,.int .i64 y]),.iface 268 (.pointer (some ⟨b,0,none⟩))] w fun e w'=>e=.returned (.bool true)∧av w' b [.int .i64 x,.int .i64 y]∧w.grownBy w' (some b):=by
 have e1:=@run_callFunc_extern Tryz.prog 247 _ (fun args=>ReflectliteValue.unpack (args.getD 0 (.tuple #[]))) Tryz.func247 (by kernel_rfl) (by kernel_rfl) (by kernel_rfl) (by kernel_rfl)
 have e2 := @run_callFunc_extern Tryz.prog 248 _ (ReflectliteValue.methodAny (ReflectliteValue.valueError "reflectlite.Value.Type" 0) (fun t _ _ _ => ReflectliteType.toType t)) Tryz.func248 (by kernel_rfl) (by kernel_rfl) (by kernel_rfl) (by kernel_rfl)
 have e3 := @run_callFunc_extern Tryz.prog 249 _ (ReflectliteValue.method (ReflectliteValue.valueError "reflectlite.Value.IsNil" 0) ReflectliteValue.isNil) Tryz.func249 (by kernel_rfl) (by kernel_rfl) (by kernel_rfl) (by kernel_rfl)
 have e4:=@run_callFunc_extern Tryz.prog 285 _ (ReflectliteType.abiMethod fun t=>do pure (.int .u8 (←Rtype.kind t))) Tryz.func285 (by kernel_rfl) (by kernel_rfl) (by kernel_rfl) (by kernel_rfl)
 have e5:=@run_callFunc_extern Tryz.prog 299 _ (ReflectliteType.method ReflectliteType.elem) Tryz.func299 (by kernel_rfl) (by kernel_rfl) (by kernel_rfl) (by kernel_rfl)
 have e6 := @run_callFunc_extern Tryz.prog 300 _ (ReflectliteType.relation "Implements" ReflectliteType.implements_) Tryz.func300 (by kernel_rfl) (by kernel_rfl) (by kernel_rfl) (by kernel_rfl)
 have e7:=@run_callFunc_extern Tryz.prog 266 _ ReflectliteType.typeOf Tryz.func266 (by kernel_rfl) (by kernel_rfl) (by kernel_rfl) (by kernel_rfl)
 have e8 := @run_callFunc_extern Tryz.prog 297 _ (ReflectliteType.relation "AssignableTo" ReflectliteType.assignableTo) Tryz.func297 (by kernel_rfl) (by kernel_rfl) (by kernel_rfl) (by kernel_rfl)
 have e9 := @run_callFunc_extern Tryz.prog 267 _ (ReflectliteValue.method (ReflectliteValue.valueError "reflectlite.Value.Elem" 0) ReflectliteValue.elem) Tryz.func267 (by kernel_rfl) (by kernel_rfl) (by kernel_rfl) (by kernel_rfl)
 have e10:=@run_callFunc_extern Tryz.prog 268 _ ReflectliteValue.set Tryz.func268 (by kernel_rfl) (by kernel_rfl) (by kernel_rfl) (by kernel_rfl)
 have m1:=mq
 have m2:=mr
 have m3:=iq
 have m4:=gm
 have q1:=wm
 have q2:=ym
 have q3:=DI
 have q4:=DJ
 have q5:=GS
 have q6:=DK
 have q7:=rF
 have q8:=rG
 have q9:=rH
 have hg0:=World.block_lt_of_cell? _ _ hG
 have hg0:8<w.heap.size:=hg0
 have hb0:=hB.sz
 let W1:=w.alloc (.cells #[.pointer (some ⟨b,0,none⟩)] 268)
 let W2:=W1.alloc (.cells #[.pointer (some ⟨12,268,none⟩),.pointer (some ⟨w.heap.size,0,none⟩),.int .u64 150] 293)
 let W3:=W2.alloc (.cells #[.pointer (some ⟨12,268,none⟩),.pointer (some ⟨w.heap.size,0,none⟩),.int .u64 150] 293)
 let W4:=W3.alloc (.cells #[.int .i64 x,.int .i64 y] 264)
 have K1:av W1 w.heap.size [.pointer (some ⟨b,0,none⟩)]:=av.new w _ _
 have K2:av W2 w.heap.size [.pointer (some ⟨b,0,none⟩)]:=K1.alloc _
 have K3:av W3 w.heap.size [.pointer (some ⟨b,0,none⟩)]:=K2.alloc _
 have K4:av W4 (w.heap.size+1+1+1) [.int .i64 x,.int .i64 y]:=by have:=av.new W3 [.int .i64 x,.int .i64 y] 264;simpa [W3,W2,W1] using this
 have T4:av W4 b [.int .i64 0,.int .i64 0]:=(((hB.alloc _).alloc _).alloc _).alloc _
 have n8:=Am ⟨w.heap.size,0,none⟩ ⟨b,0,none⟩ W2 (K2.cell 0 _ rfl)
 have el:=An ⟨w.heap.size,0,none⟩ ⟨b,0,none⟩ W3 (K3.cell 0 _ rfl)
 have st:=JC b (w.heap.size+1+1+1) x y _ _ W4 (K4.cell 0 _ rfl) (K4.cell 1 _ rfl) (T4.cell 0 _ rfl) (T4.cell 1 _ rfl) (T4.free 0 (by simp)) (T4.free 1 (by simp))
 have hg2:W2.cell? ⟨8,0,none⟩=some (.iface 317 (.agg #[.pointer (some ⟨12,228,none⟩)])):=by
  show((w.alloc _).alloc _).cell? _=_
  rw[World.cell?_alloc_lt _ _ ⟨8,0,none⟩ (by simp;omega),World.cell?_alloc_lt _ _ ⟨8,0,none⟩ hg0];exact hG
 have FIN:Hid (av ((W4.setCell ⟨b,0,none⟩ (.int .i64 x)).setCell ⟨b,1,none⟩ (.int .i64 y)) b [.int .i64 x,.int .i64 y]):=(T4.set 0 (by simp) _).set 1 (by simp) _
 have GRW:Hid (w.grownBy ((W4.setCell ⟨b,0,none⟩ (.int .i64 x)).setCell ⟨b,1,none⟩ (.int .i64 y)) (some b)):=by
  have hb4:Below w.heap.size w W4:=(((bR.alloc lr _).alloc (by simp) _).alloc (by simp;omega) _).alloc (by simp;omega) _
  have g4:w.grownBy W4 (some b):=⟨hb4.os,hb4.tape,hb4.output,hb4.size,fun i hi _=>hb4.block i hi⟩
  exact an (an g4 (.inl rfl) _) (.inl rfl) _
 simp only[W4,W3,W2,W1] at n8 el st hg2 FIN GRW
 clear K1 K2 K3 K4 T4 hB
 clear W4 W3 W2 W1
 go_enter Tryz.func219,Tryz.ntmps219
 go_wp2
 refine wp_loop_rounds 1 ?_
 rw[rounds_succ]
 go_wp2
 go_ret
 exact⟨rfl,FIN.out,GRW.out⟩
theorem wq (t:Addr)(w:World):(ReflectliteValue.unpack (.iface 269 (.pointer (some t)))).run Tryz.prog w
  = .ok (.agg #[.pointer (some ⟨12,269,none⟩),.pointer (some ⟨w.heap.size,0,none⟩),.int .u64 150]) (w.alloc (.cells #[.pointer (some t)] 269)):=by kernel_rfl
theorem DM (a : Addr) (w : World) : (ReflectliteValue.methodAny (ReflectliteValue.valueError "reflectlite.Value.Type" 0) (fun t _ _ _ => ReflectliteType.toType t) #[.agg #[.pointer (some ⟨12, 269, none⟩), .pointer (some a), .int .u64 150]]).run Tryz.prog w
  = .ok (.iface 317 (.agg #[.pointer (some ⟨12,269,none⟩)])) w:=by kernel_rfl
theorem DN (w:World):((ReflectliteType.abiMethod fun t=>(fun a:Nat=>Value.int IntKind.u8 (a:Int)) <$> Rtype.kind t) #[.pointer (some ⟨12,269,none⟩)]).run Tryz.prog w=.ok (.int .u8 22) w:=by kernel_rfl
theorem DP (w:World):(ReflectliteType.method ReflectliteType.elem #[.agg #[.pointer (some ⟨12,269,none⟩)]]).run Tryz.prog w=.ok (.iface 317 (.agg #[.pointer (some ⟨12,36,none⟩)])) w:=by kernel_rfl
theorem rJ (w : World) : (ReflectliteType.relation "Implements" ReflectliteType.implements_ #[.agg #[.pointer (some ⟨12, 36, none⟩)], .iface 317 (.agg #[.pointer (some ⟨12, 228, none⟩)])]).run Tryz.prog w = .ok (.bool true) w := by kernel_rfl
theorem As (v:Value)(w:World):(ReflectliteType.typeOf #[.iface 36 v]).run Tryz.prog w=.ok (.iface 317 (.agg #[.pointer (some ⟨12,36,none⟩)])) w:=by kernel_rfl
theorem rK (w : World) : (ReflectliteType.relation "AssignableTo" ReflectliteType.assignableTo #[.agg #[.pointer (some ⟨12, 36, none⟩)], .iface 317 (.agg #[.pointer (some ⟨12, 36, none⟩)])]).run Tryz.prog w = .ok (.bool true) w := by kernel_rfl
theorem rL (a:Addr)(w:World):(ReflectliteValue.parts (.agg #[.pointer (some ⟨12,269,none⟩),.pointer (some a),.int .u64 150])).run Tryz.prog w=.ok (some (269,a,150)) w:=by kernel_rfl
theorem At (a p:Addr)(W:World)(ha:W.cell? a=some (.pointer (some p))):
  (ReflectliteValue.method (ReflectliteValue.valueError "reflectlite.Value.IsNil" 0) ReflectliteValue.isNil #[.agg #[.pointer (some ⟨12, 269, none⟩), .pointer (some a), .int .u64 150]]).run Tryz.prog W = .ok (.bool false) W := by
 rw[MT]
 simp only[Sem.run_bind,rL,Result.andThen]
 simp[ReflectliteValue.isNil,loadVar,isAgg,underlying,Tryz.underlying269,ha,Result.andThen]
theorem yo (w:World):(Rtype.elem? 269).run Tryz.prog w=.ok (some 36) w:=by kernel_rfl
theorem Lo (p:Addr)(w:World):(ReflectliteValue.mk 36 p ReflectliteValue.flagAddr).run Tryz.prog w=.ok (.agg #[.pointer (some ⟨12,36,none⟩),.pointer (some p),.int .u64 386]) w:=by kernel_rfl
theorem Au (a p:Addr)(W:World)(ha:W.cell? a=some (.pointer (some p))):
  (ReflectliteValue.method (ReflectliteValue.valueError "reflectlite.Value.Elem" 0) ReflectliteValue.elem #[.agg #[.pointer (some ⟨12, 269, none⟩), .pointer (some a), .int .u64 150]]).run Tryz.prog W
   = .ok (.agg #[.pointer (some ⟨12,36,none⟩),.pointer (some p),.int .u64 386]) W:=by
 rw[MT]
 simp only[Sem.run_bind,rL,Result.andThen]
 simp[ReflectliteValue.elem,loadVar,isAgg,underlying,Tryz.underlying269,ha,Result.andThen,yo,Lo]
theorem Av (a:Addr)(w:World):(ReflectliteValue.parts (.agg #[.pointer (some ⟨12,36,none⟩),.pointer (some a),.int .u64 386])).run Tryz.prog w=.ok (some (36,a,386)) w:=by kernel_rfl
theorem DQ (a:Addr)(w:World):(ReflectliteValue.parts (.agg #[.pointer (some ⟨12,36,none⟩),.pointer (some a),.int .u64 130])).run Tryz.prog w=.ok (some (36,a,130)) w:=by kernel_rfl
theorem Aw (w:World):(Rtype.directlyAssignable 36 36).run Tryz.prog w=.ok true w:=by kernel_rfl
theorem GV (w:World):((ReflectliteType.abiMethod fun t=>(fun a:Nat=>Value.int IntKind.u8 (a:Int)) <$> Rtype.kind t) #[.pointer (some ⟨12,36,none⟩)]).run Tryz.prog w=.ok (.int .u8 2) w:=by kernel_rfl
theorem yp (c:Int)(w:World):(ReflectliteValue.unpack (.iface 36 (.int .i64 c))).run Tryz.prog w
  = .ok (.agg #[.pointer (some ⟨12,36,none⟩),.pointer (some ⟨w.heap.size,0,none⟩),.int .u64 130]) (w.alloc (.cells #[.int .i64 c] 36)):=by kernel_rfl
theorem pW (w : World) : (ReflectliteType.relation "AssignableTo" ReflectliteType.assignableTo #[.agg #[.pointer (some ⟨12, 264, none⟩)], .iface 317 (.agg #[.pointer (some ⟨12, 36, none⟩)])]).run Tryz.prog w = .ok (.bool false) w := by kernel_rfl
theorem pX (n : Nat) (v : Value) (w : World) : (Go.method (n + 1) 264 v "Unwrap").run Tryz.prog w = .ok (292, v) w := by kernel_rfl
theorem yq (v:Value)(w:World):(Instr.typeAssert (.iface 264 v) 228 322 true).run Tryz.prog w=.ok (.tuple #[.nilIface,.bool false]) w:=run_typeAssert_lacksB Tryz.underlying322 (by kernel_rfl) (by kernel_rfl) v _ w
theorem yr (v:Value)(w:World):(Instr.typeAssert (.iface 264 v) 228 325 true).run Tryz.prog w=.ok (.tuple #[.iface 264 v,.bool true]) w:=by kernel_rfl
theorem JD (b c:Nat)(y:Int)(o1:Value)(W:World)(hb0:W.cell? ⟨c,0,none⟩=some (.int .i64 y))(h0:W.cell? ⟨b,0,none⟩=some o1)(f0:W.frozen? ⟨b,0,none⟩=false):
  (ReflectliteValue.set #[.agg #[.pointer (some ⟨12,36,none⟩),.pointer (some ⟨b,0,none⟩),.int .u64 386],.agg #[.pointer (some ⟨12,36,none⟩),.pointer (some ⟨c,0,none⟩),.int .u64 130]]).run Tryz.prog W
   = .ok (.tuple #[]) (W.setCell ⟨b,0,none⟩ (.int .i64 y)):=by
 rw[M6]
 simp only[Sem.run_bind,Av,DQ,Result.andThen]
 simp[ReflectliteValue.flagAddr,loadVar,isAgg,underlying,Tryz.underlying36,hb0,Result.andThen,Aw,storeVar,Value.cells,storeCells,Addr.add]
 rw[run_store Tryz.prog W ⟨b,0,none⟩ _ _ (by rfl)]
 simp[h0,f0]
theorem GW (b:Nat)(x y:Int)(w:World)(hG:w.cell? ⟨8,0,none⟩=some (.iface 317 (.agg #[.pointer (some ⟨12,228,none⟩)])))(hB:av w b [.int .i64 0]):
  Calls Tryz.prog 219 #[.iface 264 (.agg #[.int .i64 x,.int .i64 y]),.iface 269 (.pointer (some ⟨b,0,none⟩))] w fun e w'=>e=.returned (.bool true)∧av w' b [.int .i64 y]∧w.grownBy w' (some b):=by
 have e1:=@run_callFunc_extern Tryz.prog 247 _ (fun args=>ReflectliteValue.unpack (args.getD 0 (.tuple #[]))) Tryz.func247 (by kernel_rfl) (by kernel_rfl) (by kernel_rfl) (by kernel_rfl)
 have e2 := @run_callFunc_extern Tryz.prog 248 _ (ReflectliteValue.methodAny (ReflectliteValue.valueError "reflectlite.Value.Type" 0) (fun t _ _ _ => ReflectliteType.toType t)) Tryz.func248 (by kernel_rfl) (by kernel_rfl) (by kernel_rfl) (by kernel_rfl)
 have e3 := @run_callFunc_extern Tryz.prog 249 _ (ReflectliteValue.method (ReflectliteValue.valueError "reflectlite.Value.IsNil" 0) ReflectliteValue.isNil) Tryz.func249 (by kernel_rfl) (by kernel_rfl) (by kernel_rfl) (by kernel_rfl)
 have e4:=@run_callFunc_extern Tryz.prog 285 _ (ReflectliteType.abiMethod fun t=>do pure (.int .u8 (←Rtype.kind t))) Tryz.func285 (by kernel_rfl) (by kernel_rfl) (by kernel_rfl) (by kernel_rfl)
 have e5:=@run_callFunc_extern Tryz.prog 299 _ (ReflectliteType.method ReflectliteType.elem) Tryz.func299 (by kernel_rfl) (by kernel_rfl) (by kernel_rfl) (by kernel_rfl)
 have e6 := @run_callFunc_extern Tryz.prog 300 _ (ReflectliteType.relation "Implements" ReflectliteType.implements_) Tryz.func300 (by kernel_rfl) (by kernel_rfl) (by kernel_rfl) (by kernel_rfl)
 have e7:=@run_callFunc_extern Tryz.prog 266 _ ReflectliteType.typeOf Tryz.func266 (by kernel_rfl) (by kernel_rfl) (by kernel_rfl) (by kernel_rfl)
 have e8 := @run_callFunc_extern Tryz.prog 297 _ (ReflectliteType.relation "AssignableTo" ReflectliteType.assignableTo) Tryz.func297 (by kernel_rfl) (by kernel_rfl) (by kernel_rfl) (by kernel_rfl)
 have e9 := @run_callFunc_extern Tryz.prog 267 _ (ReflectliteValue.method (ReflectliteValue.valueError "reflectlite.Value.Elem" 0) ReflectliteValue.elem) Tryz.func267 (by kernel_rfl) (by kernel_rfl) (by kernel_rfl) (by kernel_rfl)
 have e10:=@run_callFunc_extern Tryz.prog 268 _ ReflectliteValue.set Tryz.func268 (by kernel_rfl) (by kernel_rfl) (by kernel_rfl) (by kernel_rfl)
 have m1:=mq
 have m2:=mr
 have m3:=iq
 have m4:=gm
 have m5:=pX
 have q1:=wq
 have q2:=yp
 have q3:=DM
 have q4:=DN
 have q5:=GV
 have q6:=DP
 have q7:=rJ
 have q8:=rG
 have q9:=pW
 have q10:=As
 have q11:=rK
 have q12:=yq
 have q13:=yr
 have hg0:=World.block_lt_of_cell? _ _ hG
 have hg0:8<w.heap.size:=hg0
 have hb0:=hB.sz
 let W1:=w.alloc (.cells #[.pointer (some ⟨b,0,none⟩)] 269)
 let W2:=W1.alloc (.cells #[.pointer (some ⟨12,269,none⟩),.pointer (some ⟨w.heap.size,0,none⟩),.int .u64 150] 293)
 let W3:=W2.alloc (.cells #[.pointer (some ⟨12,269,none⟩),.pointer (some ⟨w.heap.size,0,none⟩),.int .u64 150] 293)
 let W4:=W3.alloc (.cells #[.int .i64 x,.int .i64 y] 264)
 let W5:=W4.alloc (.cells #[.int .i64 y] 36)
 have K1:av W1 w.heap.size [.pointer (some ⟨b,0,none⟩)]:=av.new w _ _
 have K2:av W2 w.heap.size [.pointer (some ⟨b,0,none⟩)]:=K1.alloc _
 have K3:av W4 w.heap.size [.pointer (some ⟨b,0,none⟩)]:=(K2.alloc _).alloc _
 have K5:av W5 (w.heap.size+1+1+1+1) [.int .i64 y]:=by have:=av.new W4 [.int .i64 y] 36;simpa [W4,W3,W2,W1] using this
 have T5:av W5 b [.int .i64 0]:=((((hB.alloc _).alloc _).alloc _).alloc _).alloc _
 have n8:=At ⟨w.heap.size,0,none⟩ ⟨b,0,none⟩ W2 (K2.cell 0 _ rfl)
 have el:=Au ⟨w.heap.size,0,none⟩ ⟨b,0,none⟩ W4 (K3.cell 0 _ rfl)
 have st:=JD b (w.heap.size+1+1+1+1) y _ W5 (K5.cell 0 _ rfl) (T5.cell 0 _ rfl) (T5.free 0 (by simp))
 have hg2:W2.cell? ⟨8,0,none⟩=some (.iface 317 (.agg #[.pointer (some ⟨12,228,none⟩)])):=by
  show((w.alloc _).alloc _).cell? _=_
  rw[World.cell?_alloc_lt _ _ ⟨8,0,none⟩ (by simp;omega),World.cell?_alloc_lt _ _ ⟨8,0,none⟩ hg0];exact hG
 have FIN:Hid (av (W5.setCell ⟨b,0,none⟩ (.int .i64 y)) b [.int .i64 y]):=T5.set 0 (by simp) _
 have GRW:Hid (w.grownBy (W5.setCell ⟨b,0,none⟩ (.int .i64 y)) (some b)):=by
  have hb5:Below w.heap.size w W5:=((((bR.alloc lr _).alloc (by simp) _).alloc (by simp;omega) _).alloc (by simp;omega) _).alloc (by simp;omega) _
  have g5:w.grownBy W5 (some b):=⟨hb5.os,hb5.tape,hb5.output,hb5.size,fun i hi _=>hb5.block i hi⟩
  exact an g5 (.inl rfl) _
 simp only[W5,W4,W3,W2,W1] at n8 el st hg2 FIN GRW
 clear K1 K2 K3 K5 T5 hB
 clear W5 W4 W3 W2 W1
 go_enter Tryz.func219,Tryz.ntmps219
 go_wp2
 refine wp_loop_rounds 2 ?_
 rw[rounds_succ]
 go_wp2
 rw[rounds_succ]
 go_wp2
 go_ret
 exact⟨rfl,FIN.out,GRW.out⟩
end
section
open Go.RowKit
theorem av.grown {wr w':World}{b c:Nat}{vs:LV}(h:av wr c vs)(hg:wr.grownBy w' (some b))(hne:c≠b):av w' c vs:=by
 have hk:w'.heap[c]?=wr.heap[c]?:=hg.block c h.sz (by intro e;injection e with e;exact hne e)
 refine⟨Nat.lt_of_lt_of_le h.sz hg.size,fun j u hu=>?_,fun j hj=>?_⟩
 ·exact(World.cell?_of_block (a:=⟨c,j,none⟩) hk).trans (h.cell j u hu)
 ·exact(World.frozen?_of_block (a:=⟨c,j,none⟩) hk).trans (h.free j hj)
def ed (f:BA)(a c:Int):Value:=.agg #[.string f,.int .i64 a,.int .i64 c]
theorem wt (x y p:Int)(w:World)(hG:wn w):
  Calls Tryz.prog 181 #[.iface 264 (.agg #[.int .i64 x,.int .i64 y]),.int .i64 p] w fun e w'=>(∃ a:Int,e=.returned (ed ⟨#[]⟩ a y))∧Below w.heap.size w w':=by
 have HG:=ae hG;clear hG
 go_enter Tryz.func181,Tryz.ntmps181
 go_wp2_with fail
 let W1:=w.alloc (.cells #[.string ⟨#[]⟩,.int .i64 0,.int .i64 0] 163)
 let W2:=W1.alloc (.cells #[.string ⟨#[]⟩,.int .i64 p,.int .i64 3] 163)
 let W3:=W2.alloc (.cells #[.int .i64 0,.int .i64 0] 264)
 have A3:av W3 w.heap.size [.string ⟨#[]⟩,.int .i64 0,.int .i64 0]:=((av.new w _ _).alloc _).alloc _
 have F3:av W3 (w.heap.size+1) [.string ⟨#[]⟩,.int .i64 p,.int .i64 3]:=by have:=(av.new W1 [.string ⟨#[]⟩,.int .i64 p,.int .i64 3] 163).alloc (.cells #[.int .i64 0,.int .i64 0] 264);simpa [W1] using this
 have T3:av W3 (w.heap.size+1+1) [.int .i64 0,.int .i64 0]:=by have:=av.new W2 [.int .i64 0,.int .i64 0] 264;simpa [W2,W1] using this
 have B3:Below w.heap.size w W3:=((bR.alloc lr _).alloc (by simp) _).alloc (by simp;omega) _
 refine(GU (w.heap.size+1+1) x y W3 (HG.out.below B3).2 T3).mono ?_;rintro e w1 ⟨rfl,t1,hg1⟩
 have KA:Hid (av w1 w.heap.size [.string ⟨#[]⟩,.int .i64 0,.int .i64 0]):=A3.grown hg1 (by omega)
 have KF:Hid (av w1 (w.heap.size+1) [.string ⟨#[]⟩,.int .i64 p,.int .i64 3]):=F3.grown hg1 (by omega)
 have KT:Hid (av w1 (w.heap.size+1+1) [.int .i64 x,.int .i64 y]):=t1
 have BB:Hid (Below w.heap.size w w1):=B3.grown hg1 B3.size (fun j hj=>by injection hj with hj;omega)
 clear t1 hg1 A3 F3 T3 B3
 clear W3 W2 W1
 have f1:=KF.out.cell 1 _ rfl
 have ff1:=KF.out.free 1 (by simp)
 have t0:=KT.out.cell 0 _ rfl
 go_wp2_with fail
 have hw1:=KA.out.sz
 have hw2:=KT.out.sz
 obtain⟨q,hq⟩:∃ q,wrap64 (p+x)=q:=⟨_,rfl⟩
 let V1:=(w1.setCell ⟨w.heap.size+1,1,none⟩ (.int .i64 (wrap64 (p+x)))).alloc (.cells #[.int .i64 0] 36)
 have A1:av V1 w.heap.size [.string ⟨#[]⟩,.int .i64 0,.int .i64 0]:=(KA.out.far (by omega) _).alloc _
 have F1:av V1 (w.heap.size+1) [.string ⟨#[]⟩,.int .i64 (wrap64 (p+x)),.int .i64 3]:=(KF.out.set 1 (by simp) _).alloc _
 have T1:av V1 w1.heap.size [.int .i64 0]:=by have:=av.new (w1.setCell ⟨w.heap.size+1,1,none⟩ (.int .i64 (wrap64 (p+x)))) [.int .i64 0] 36;simpa using this
 have B1:Below w.heap.size w V1:=(ag BB.out (by omega) _).alloc (by simp;omega) _
 refine(GW w1.heap.size x y V1 (HG.out.below B1).2 T1).mono ?_;rintro e w2 ⟨rfl,t2,hg2⟩
 have LA:Hid (av w2 w.heap.size [.string ⟨#[]⟩,.int .i64 0,.int .i64 0]):=A1.grown hg2 (by omega)
 have LF:Hid (av w2 (w.heap.size+1) [.string ⟨#[]⟩,.int .i64 q,.int .i64 3]):=by rw[←hq];exact F1.grown hg2 (by omega)
 have LT:Hid (av w2 w1.heap.size [.int .i64 y]):=t2
 have CB:Hid (Below w.heap.size w w2):=B1.grown hg2 B1.size (fun j hj=>by injection hj with hj;omega)
 clear t2 hg2 A1 F1 T1 B1
 clear V1
 clear f1 ff1 t0
 have f0:=LF.out.cell 0 _ rfl
 have f1:=LF.out.cell 1 _ rfl
 have f2:=LF.out.cell 2 _ rfl
 have ff2:=LF.out.free 2 (by simp)
 have t0:=LT.out.cell 0 _ rfl
 have a0:=LA.out.cell 0 _ rfl
 have a1:=LA.out.cell 1 _ rfl
 have a2:=LA.out.cell 2 _ rfl
 have fa0:=LA.out.free 0 (by simp)
 have fa1:=LA.out.free 1 (by simp)
 have fa2:=LA.out.free 2 (by simp)
 go_wp2_with fail
 refine bodyPost_ret (v:=.agg #[.string ⟨#[]⟩,.int .i64 q,.int .i64 y]) (by simp[results,Tryz.results181,go_sem,a0,a1,a2]) rfl ⟨⟨q,rfl⟩,?_⟩
 exact ag (ag (ag (ag CB.out (Nat.le_succ _) _) lr _) lr _) lr _
end
theorem rN (a:LU):¬ a<a:=List.lt_irrefl a
theorem Cq {a b c:LU}(h:a<b)(k:b<c):a<c:=List.lt_trans h k
theorem oQ {a b:LU}(h:¬ a<b)(hne:a≠b):b<a:=by
 have h1:b≤a:=h
 by_cases hb:b<a
 ·exact hb
 ·exact absurd (List.le_antisymm (show a≤b from hb) h1) hne
section
open Go.RowKit
theorem dj:∀ (x y:LU),Op.bytesLess x y=decide (x<y)
 | [],[]=>by simp[Op.bytesLess]
 | _::_,[]=>by simp[Op.bytesLess]
 | [],_::_=>by simp[Op.bytesLess]
 | a::x,b::y=>by
  rw[Op.bytesLess,dj x y,bI]
  simp[List.cons_lt_cons_iff]
end
section
open Go.ChangeShapes Go.WideShapes Go.ChangeAt Go.RowKit
theorem own:ownKnob Tryz.prog.godebug=none:=by kernel_rfl
def lA:List (String×DataW Unit):=Rows.bundleKeepsRow.laid
def iB : List (String × DataW Unit) := [("drayage/api.Md5Table", Rows.laid_drayage_api_Md5Table), ("drayage/api.ShaTable", Rows.laid_drayage_api_ShaTable), ("unicode/utf8.acceptRanges", Rows.laid_unicode_utf8_acceptRanges), ("drayage/digest.turns", Rows.laid_drayage_digest_turns), ("drayage/version.words", Rows.laid_drayage_version_words), ("drayage/adep.signs", Rows.laid_drayage_adep_signs), ("drayage/ddep.signs", Rows.laid_drayage_ddep_signs), ("drayage/rdep.signs", Rows.laid_drayage_rdep_signs), ("drayage/rdep.words", Rows.laid_drayage_rdep_words), ("unicode/utf8.first", Rows.laid_unicode_utf8_first)]
theorem ou {W:World}(h:laidMetH Tryz.prog lA W):laidMet Tryz.prog iB W:=h.1
noncomputable def fG (os:Os):World:=
 ({ World.holding Tryz.prog os ⟨#[],#[],[]⟩ with heap:=(World.holding Tryz.prog os ⟨#[],#[],[]⟩).heap.modify 8 fun
   | .cells _ t frozen=>.cells #[.iface 317 (.agg #[typeHandle Tryz.prog 228])] t frozen
   | o=>o }:World).layVars Tryz.prog iB
theorem xc (os:Os):(fG os).os=os:=World.layVars_os _ _ _
theorem IY (os:Os)(args:Array Value):laidMet Tryz.prog iB ((fG os).forCall (fun _ _=>0) ⟨#[],args,[]⟩).memory:=by
 have h:laidMet Tryz.prog iB (fG os):=by
  refine laidMet_layVars (w0:={ World.holding Tryz.prog os ⟨#[],#[],[]⟩ with heap:=(World.holding Tryz.prog os ⟨#[],#[],[]⟩).heap.modify 8 fun
   | .cells _ t frozen=>.cells #[.iface 317 (.agg #[typeHandle Tryz.prog 228])] t frozen
   | o=>o }) (iB.map (·.1)) [] ?_ ?_ ?_ ?_
  ·rfl
  ·kernel_rfl
  ·kernel_rfl
  ·exact LaidIn.none
 exact h.of_heap (by simp[World.memory,World.forCall,Input.heap])
theorem IZ (os:Os)(args:Array Value):laidMetH Tryz.prog lA ((fG os).forCall (fun _ _=>0) ⟨#[],args,[]⟩).memory:=
 laidMetH_of_parts (IY os args) (by kernel_rfl)
theorem I0 (os:Os)(args:Array Value):((fG os).forCall (fun _ _=>0) ⟨#[],args,[]⟩).variablesRefB Tryz.prog=true:=by kernel_rfl
theorem I8 (os:Os)(args:Array Value):(((fG os).forCall (fun _ _=>0) ⟨#[],args,[]⟩).heap.toList.drop Tryz.prog.globals.size).take ((begin Tryz.prog (fun _ _=>0) default).world.heap.size-Tryz.prog.globals.size) =
   (begin Tryz.prog (fun _ _=>0) default).world.heap.toList.drop Tryz.prog.globals.size:=by kernel_rfl
end
section
open Go.RowKit Go.WideShapes Go.ChangeShapes
section
variable {H : Type} {enc : TypeId × Value → H} {P : Program}
theorem us {f:Func}{s:ChangeSpec}{apart fresh handsOn again:Bool}{W W':World}{args:Array Value}{v:Value}{ds gs:List (DataW H)}{before pa pv:List MemPlace}
  (hW:DataW.Whole enc P f.params.toList s.vars apart W args.toList ds gs before)
  (hres:∀ (b:Nat)(sp:Nat→Bool)(hd:Bool),DataW.TrodAll enc P W' b sp hd f.resultTypes.toList (v.resultList f.resultTypes.size) (s.fn H (ds++gs)).results [])
  (hargs:∀ sp:Nat→Bool,(∀ p∈before,sp p.block=true)→DataW.TrodAll enc P W' 0 sp true f.params.toList args.toList (s.fn H (ds++gs)).args pa)
  (hvars:∀ sp:Nat→Bool,(∀ p∈before,sp p.block=true)→DataW.TrodVars enc P W' sp s.vars (s.fn H (ds++gs)).vars pv)
  (hps:before=pa++pv)(hb:Below W.heap.size W W')
  (hok:∀ (j:Nat)(t:TypeId)(r:Value),f.resultTypes[j]?=some t→(v.resultList f.resultTypes.size)[j]?=some r→Value.okWide P W' .any 0 t r):
  s.post enc P f apart fresh handsOn again W args v W':=by
 have hlt:∀ p∈before,p.block<W.heap.size:=fun p hp=>hW.lt p hp
 have hold:∀ p∈before,(fun b=>decide (b<W.heap.size)) p.block=true:=fun p hp=>by simpa using hlt p hp
 refine⟨ds,gs,before,[],pa,pv,hW,hres _ _ _,hargs _ hold,hvars _ hold,World.keptBut_mono (fun p hp=>⟨hp,?_⟩) (hb.frame (·∈before)),fun _=>?_⟩
 ·rw[hps,List.mem_append] at hp
  exact Or.inr hp
 ·obtain⟨_,_,_,_,_,hz,hn⟩:=hW
  refine⟨hok,_,_,([]++pa)++pv,⟨[]++pa,pv,trodAll_append (hargs _ (fun _ _=>rfl)) (hres _ _ _),hvars _ (fun _ _=>rfl),rfl,?_,?_⟩,?_⟩
  ·intro b off hp
   have hin:MemPlace.cell b off∈before:=by rw[hps];simpa using hp
   rw[hb.frozen (hlt _ hin)]
   exact hz b off hin
  ·intro ha
   have:=hn ha
   rw[hps] at this
   simpa using this
  ·intro p hp _
   rw[hps]
   simpa using hp
end
end
end Go.Proofs.YtlglfpbhapmhiaaGreatDoor
