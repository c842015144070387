/- A part of the proof. -/
import Derived.Test.YtkmjcombhjombaaGreatDoorCards
import Derived.Test.YtkmjcombhjombaaGreatDoorProg
import Derived.Test.YtkmjcombhjombaaGreatDoorTie
import Derived.Below
import Derived.BigQuiet
import Derived.BigRegion
import Derived.ChangeAlike
import Derived.ChangeSame
import Derived.Deep.AppendLies
import Derived.Deep.CutBlock
import Derived.Deep.DeepCutAuto
import Derived.Deep.DeepHandedRow
import Derived.Deep.DeepWitnessRowRef
import Derived.Deep.Draws
import Derived.Deep.LoopGhost
import Derived.Deep.QuietTactic
import Derived.Deep.RegionHeld3
import Derived.Deep.RegionLaw
import Derived.IntWalk
import Derived.LaidEql
import Derived.LaidEqlPtr
import Derived.LaidHandle
import Derived.Laws.CopyOwn
import Derived.Laws.Externs
import Derived.Laws.IdiomCopy
import Derived.Laws.IdiomStrings
import Derived.Laws.OwnMore
import Derived.Laws.StructEq
import Derived.Lay
import Derived.Lib.AppendZeros
import Derived.Lib.DecodeN
import Derived.Lib.Hide
import Derived.Lib.IndexAny
import Derived.Lib.IndexMore
import Derived.Lib.ItoaNum
import Derived.Lib.LaidTab
import Derived.Lib.LastIndexByte
import Derived.Lib.OthersKept
import Derived.Lib.SliceRun
import Derived.Lib.SplitLaws
import Derived.MapKept
import Derived.Maps.AppendAt
import Derived.Maps.Own
import Derived.Maps.OwnOps
import Derived.Maps.OwnSet
import Derived.OpenShut
import Derived.OwnWalk
import Derived.ProofKit
import Derived.RegionTactic
import Derived.RowKitTokens
import Derived.Shelf.LaysM
import Derived.Shelf.Slices.Turned
import Derived.Shelf.Small.Strs
import Derived.Shelf.Small.Utf8
import Derived.Shelf.Small.Wraps
import Derived.Shelf.Strconv.Itoa0
import Derived.Shelf.Strconv.Itoa1
import Derived.Shelf.Strconv.Itoa2
import Derived.Shelf.Strconv.Itoa3
import Derived.Shelf.Strings.AsciiSet
import Derived.Shelf.Strings.Builder1
import Derived.Shelf.Strings.Builder2
import Derived.Shelf.Strings.BuilderF
import Derived.Shelf.Strings.Count
import Derived.Shelf.Strings.Cut
import Derived.Shelf.Strings.IndexAny
import Derived.Shelf.Strings.IndexAnyAll
import Derived.Shelf.Strings.LastIndex
import Derived.Shelf.Strings.OnBuilder
import Derived.Shelf.Strings.Prefix
import Derived.Shelf.Strings.Runes
import Derived.Shelf.Strings.Search1
import Derived.Shelf.Strings.Search2
import Derived.Shelf.Strings.Search3
import Derived.Shelf.Strings.Shaped
import Derived.Shelf.Strings.SlTrimAscii
import Derived.Shelf.Strings.Split
import Derived.Shelf.Strings.SplitShaped
import Derived.Shelf.Strings.Trim
import Derived.Shelf.Unicode.Decode
import Derived.Shelf.Unicode.DecodeSlow
import Derived.Sort.KeysCollected
import Derived.StillTailTactics
import Derived.Stop.Asserts
import Derived.StringKeys
import Derived.WalkKit
import Derived.WalkLawsBesides
import Derived.WalkMore
import Derived.WalkSmall
import Derived.WalkSpells
set_option maxRecDepth 100000
set_option maxHeartbeats 20000000
namespace Go.Proofs.YtkmjcombhjombaaGreatDoor
variable{K:Act->World->Prop}{O ops:Array Oper}{Q:Exit->Act->World->Prop}{r:List Value}{b i id j n sz:Nat}{P:Nat→Value→Prop}{o:Oper}{p:Prop}{t:TypeId}{a c d e f g k v:Value}{W w w' wr:World}
open Go.Proofs.Tryz
theorem dF[Decidable p](h:¬p:=by omega):decide p=false:=decide_eq_false h
theorem dT[Decidable p](h:p:=by omega):decide p=true:=decide_eq_true h
theorem lr{a:Nat}:a≤a:=Nat.le_refl a
theorem fH(h:p):RowKit.Hid p:=h
abbrev LU:=List UInt8
abbrev BA:=ByteArray
theorem gG{α:Type}{l:List α}(h:i<l.length):l[i]?=some l[i]:=List.getElem?_eq_getElem h
theorem gM{α:Type}{l:List α}{a:α}(h:l[i]?=some a):a∈l:=List.mem_of_getElem? h
theorem gS{α:Type}{l:List α}{a:α}(h:l[i]?=some a):∃h:i<l.length,l[i]=a:=List.getElem?_eq_some_iff.1 h
theorem bR:RowKit.Below n w w:=RowKit.Below.refl n w
theorem z0:0≤n:=Nat.zero_le n
theorem tS{α:Type}{l:List α}(h:i<l.length):l.take (i+1)=l.take i++[l[i]]:=List.take_succ_eq_append_getElem h
theorem bI{a b:Bool}:a=b↔(a=true↔b=true):=Bool.eq_iff_iff
theorem bF{α:Type}[BEq α][LawfulBEq α]{a b:α}:(a==b)=false↔a≠b:=beq_eq_false_iff_ne
theorem dO[Decidable p](h:decide p=true):p:=of_decide_eq_true h
theorem tL{α:Type}{l:List α}(h:l.length≤i):l.take i=l:=List.take_of_length_le h
theorem qj{b:Value}(h:∀(j:Nat)(u:Value),(a::b::c::r)[j]?=some u→P j u):P 0 a∧P 1 b∧P 2 c:=⟨h 0 _ rfl,h 1 _ rfl,h 2 _ rfl⟩
theorem ZX{b:Value}(h:∀(j:Nat)(u:Value),(a::b::c::d::r)[j]?=some u→P j u):P 0 a∧P 1 b∧P 2 c∧P 3 d:=⟨h 0 _ rfl,h 1 _ rfl,h 2 _ rfl,h 3 _ rfl⟩
theorem rF{b:Value}(h:∀(j:Nat)(u:Value),(a::b::c::d::e::r)[j]?=some u→P j u):P 0 a∧P 1 b∧P 2 c∧P 3 d∧P 4 e:=⟨h 0 _ rfl,h 1 _ rfl,h 2 _ rfl,h 3 _ rfl,h 4 _ rfl⟩
theorem cF6{b:Value}(h:∀(j:Nat)(u:Value),(a::b::c::d::e::f::r)[j]?=some u→P j u):P 0 a∧P 1 b∧P 2 c∧P 3 d∧P 4 e∧P 5 f:=⟨h 0 _ rfl,h 1 _ rfl,h 2 _ rfl,h 3 _ rfl,h 4 _ rfl,h 5 _ rfl⟩
theorem cF7{b:Value}(h:∀(j:Nat)(u:Value),(a::b::c::d::e::f::g::r)[j]?=some u→P j u):P 0 a∧P 1 b∧P 2 c∧P 3 d∧P 4 e∧P 5 f∧P 6 g:=⟨h 0 _ rfl,h 1 _ rfl,h 2 _ rfl,h 3 _ rfl,h 4 _ rfl,h 5 _ rfl,h 6 _ rfl⟩
theorem cF8{b:Value}(h:∀(j:Nat)(u:Value),(a::b::c::d::e::f::g::k::r)[j]?=some u→P j u):P 0 a∧P 1 b∧P 2 c∧P 3 d∧P 4 e∧P 5 f∧P 6 g∧P 7 k:=⟨h 0 _ rfl,h 1 _ rfl,h 2 _ rfl,h 3 _ rfl,h 4 _ rfl,h 5 _ rfl,h 6 _ rfl,h 7 _ rfl⟩
theorem cF9{b l:Value}(h:∀(j:Nat)(u:Value),(a::b::c::d::e::f::g::k::l::r)[j]?=some u→P j u):P 0 a∧P 1 b∧P 2 c∧P 3 d∧P 4 e∧P 5 f∧P 6 g∧P 7 k∧P 8 l:=⟨h 0 _ rfl,h 1 _ rfl,h 2 _ rfl,h 3 _ rfl,h 4 _ rfl,h 5 _ rfl,h 6 _ rfl,h 7 _ rfl,h 8 _ rfl⟩
abbrev OA:=Option Addr
abbrev LV:=List Value
abbrev Bw(w v:World):Prop:=RowKit.Below w.heap.size w v
theorem mb{P:Program}{f:FuncId}{a:Array Value}{p:World→Prop}{Q:Ending→World→Prop}(h:Calls P f a w fun e u=>e=.returned v∧p u)(k:∀ u,p u→Q (.returned v) u):Calls P f a w Q:=h.mono fun _ u ⟨h,g⟩=>h ▸ k u g
theorem sA{α:Type}(l:List α)(i:Nat)(a:α):l.toArray.setIfInBounds i a=(l.set i a).toArray:=List.setIfInBounds_toArray ..
theorem sB{α:Type}{a b:α}{l:List α}:(a::l).set 0 b=b::l:=rfl
theorem sC{α:Type}{a b:α}{l:List α}:(a::l).set (i+1) b=a::l.set i b:=rfl
theorem Gx {p:UInt8->Bool}(l:LU)(k:Nat)(h:k<l.length):(l.take (k+1)).all p=((l.take k).all p&&p (l[k])):=by
 rw[tS h,List.all_append];simp only[List.all_cons,List.all_nil,Bool.and_true]
theorem JO {p:UInt8->Bool}(l:LU)(k:Nat)(h:k<l.length)(z:p (l[k])=false):l.all p=false:=by
 rw[List.all_eq_false];exact⟨l[k],List.getElem_mem h,by simp[z]⟩
def bl (s:BA):LU:=s.data.toList
theorem fI (s:BA):(bl s).length=s.size:=by simp[bl]
theorem oE (s:BA)(k:Nat)(h:k<s.size):(bl s)[k]'(by rw[fI];exact h)=s[k]:=by simp[bl];rfl
theorem pN (s:BA)(k:Nat)(h:k<s.size):(bl s)[k]?=some s[k]:=by
 rw[gG (by rw[fI];exact h),oE s k h]
theorem sD (s:BA)(a b:Nat):bl (s.extract a b)=((bl s).drop a).take (b-a):=by
 simp[bl,ByteArray.data_extract]
theorem kG {s t:BA}(h:bl s=bl t):s=t:=by
 cases s;cases t;simp only[bl] at h;congr;exact Array.toList_inj.1 h
theorem iO (s t:BA):bl (s++t)=bl s++bl t:=by simp[bl]
theorem nj (l:LU):bl ⟨l.toArray⟩=l:=by simp[bl]
theorem kN {p:UInt8->Bool}(s:BA)(k:Nat)(h:k<s.size):((bl s).take (k+1)).all p=(((bl s).take k).all p&&p (s[k])):=by
 rw[Gx _ _ (by rw[fI];exact h),oE s k h]
theorem sE {p:UInt8->Bool}(s:BA)(k:Nat)(h:k<s.size)(z:p (s[k])=false):(bl s).all p=false:=
 JO _ k (by rw[fI];exact h) (by rw[oE s k h];exact z)
theorem JP (s:BA):(bl s).take s.size=bl s:=by rw[<-fI,List.take_length]
theorem qk (s:BA)(k:Nat)(h:s.size<=k):(bl s).take k=bl s:=tL (by rw[fI];exact h)
section
open Go.RowKit
def Rd (w:World)(sz:Nat)(A:OA)(n:Nat)(xs:LV):Prop:=
 xs.length=n*sz/\(0<n->∃ b off,A=some ⟨b,off,none⟩/\∀ (j:Nat)(u:Value),xs[j]?=some u->w.cell? ⟨b,off+j,none⟩=some u)
theorem Rd.nil (w:World)(sz:Nat)(A:OA):Rd w sz A 0 []:=⟨by simp,fun h=>absurd h (by omega)⟩
theorem Rd.keep {A:OA}{xs:LV}(h:Rd w sz A n xs)(F:∀ p:Addr,p.block<w.heap.size->w'.cell? p=w.cell? p):Rd w' sz A n xs:=
 ⟨h.1,fun H=>by
  obtain⟨b,off,e,D⟩:=h.2 H;exact⟨b,off,e,fun j u z=>(F _ (World.block_lt_of_cell? _ _ (D j u z))).trans (D j u z)⟩⟩
theorem Rd.below {A:OA}{xs:LV}(h:Rd w sz A n xs)(D:Bw w w'):Rd w' sz A n xs:=h.keep fun _ z=>D.cell z
theorem Rd.drew {A:OA}{xs:LV}(h:Rd w sz A n xs):Rd w.drew sz A n xs:=h
structure fP where
 nm:BA
 op:Int
 ver:BA
structure fW where
 path:BA
 kind:Int
 mode:Int
 owner:BA
 group:BA
 link:BA
 sum:BA
 conf:Bool
structure gE where
 phase:Int
 body:BA
structure fZ where
 nm:BA
 ver:BA
 ar:BA
 sm:BA
 na:OA
 nc:Nat
 needs:List BA
 ba:OA
 bc:Nat
 bars:List BA
 ga:OA
 gc:Nat
 gives:List fP
 fa:OA
 fc:Nat
 files:List fW
 sa:OA
 sc:Nat
 scripts:List gE
def fP.cells (x:fP):LV:=[.string x.nm,.int .i64 x.op,.string x.ver]
def fW.cells (x:fW):LV:=[.string x.path,.int .i64 x.kind,.int .i64 x.mode,.string x.owner,.string x.group,.string x.link,.string x.sum,.bool x.conf]
def gE.cells (x:gE):LV:=[.int .i64 x.phase,.string x.body]
def strCells (l:List BA):LV:=l.map .string
def fZ.cells (p:fZ):LV:=[.string p.nm,.string p.ver,.string p.ar,.string p.sm,.slice p.na p.needs.length p.nc,.slice p.ba p.bars.length p.bc,.slice p.ga p.gives.length p.gc,.slice p.fa p.files.length p.fc,.slice p.sa p.scripts.length p.sc]
def fZ.val (p:fZ):Value:=.agg #[.string p.nm,.string p.ver,.string p.ar,.string p.sm,.slice p.na p.needs.length p.nc,.slice p.ba p.bars.length p.bc,.slice p.ga p.gives.length p.gc,.slice p.fa p.files.length p.fc,.slice p.sa p.scripts.length p.sc]
structure fZ.ok (p:fZ) (w:World):Prop where
 needs:Rd w 1 p.na p.needs.length (strCells p.needs)
 bars:Rd w 1 p.ba p.bars.length (strCells p.bars)
 gives:Rd w 3 p.ga p.gives.length (p.gives.flatMap fP.cells)
 files:Rd w 8 p.fa p.files.length (p.files.flatMap fW.cells)
 scripts:Rd w 2 p.sa p.scripts.length (p.scripts.flatMap gE.cells)
theorem fZ.ok.below {p:fZ}(h:p.ok w)(z:Bw w w'):p.ok w':=⟨h.1.below z,h.2.below z,h.3.below z,h.4.below z,h.5.below z⟩
structure fZ.fits (p:fZ):Prop where
 nm:p.nm.size<=9223372036854775807
 ver:p.ver.size<=9223372036854775807
 ar:p.ar.size<=9223372036854775807
 sm:p.sm.size<=9223372036854775807
 needs:p.needs.length<=9223372036854775807
 bars:p.bars.length<=9223372036854775807
 gives:p.gives.length<=9223372036854775807
 files:p.files.length<=9223372036854775807
 scripts:p.scripts.length<=9223372036854775807
 needs_:∀ s∈p.needs,s.size<=9223372036854775807
 bars_:∀ s∈p.bars,s.size<=9223372036854775807
 gives_:∀ x∈p.gives,x.nm.size<=9223372036854775807/\x.ver.size<=9223372036854775807/\(Lit.int .i64 x.op).wf=true
 files_:∀ x∈p.files,x.path.size<=9223372036854775807/\x.owner.size<=9223372036854775807/\x.group.size<=9223372036854775807/\x.link.size<=9223372036854775807/\x.sum.size<=9223372036854775807/\(Lit.int .i64 x.kind).wf=true/\(Lit.int .i64 x.mode).wf=true
 scripts_:∀ x∈p.scripts,x.body.size<=9223372036854775807/\(Lit.int .i64 x.phase).wf=true
structure vl (w:World) (A:OA) (l:List fZ):Prop where
 row:Rd w 9 A l.length (l.flatMap fZ.cells)
 all:∀ p∈l,p.ok w
theorem vl.below {A:OA}{l:List fZ}(h:vl w A l)(z:Bw w w'):vl w' A l:=⟨h.1.below z,fun p D=>(h.2 p D).below z⟩
theorem pO {α:Type}{f:α->LV}{sz:Nat}(z:∀ x,(f x).length=sz):∀ (l:List α)(i j:Nat)(x:α),l[i]?=some x->j<sz->(l.flatMap f)[i*sz+j]?=(f x)[j]?
 | [],i,j,x,h,_=>by simp at h
 | a::r,0,j,x,h,hj=>by
  simp at h;subst h;rw[List.flatMap_cons,List.getElem?_append_left (by rw[z];omega)];simp
 | a::r,i+1,j,x,h,hj=>by
  have D:r[i]?=some x:=by simpa using h
  rw[List.flatMap_cons,List.getElem?_append_right (by rw[z,Nat.add_mul];omega),z,<-pO z r i j x D hj];congr 1;rw[Nat.add_mul];omega
theorem mw {α:Type}{f:α->LV}{sz:Nat}(z:∀ x,(f x).length=sz):∀ (l:List α),(l.flatMap f).length=l.length*sz
 | []=>by simp
 | a::r=>by rw[List.flatMap_cons,List.length_append,z,mw z r,List.length_cons,Nat.add_mul];omega
theorem kt (x:fP):x.cells.length=3:=rfl
theorem rG (x:fW):x.cells.length=8:=rfl
theorem ql (x:gE):x.cells.length=2:=rfl
theorem lk (x:fZ):x.cells.length=9:=rfl
theorem Rd.elem {α:Type}{f:α->LV}(z:∀ x,(f x).length=sz){A:OA}{l:List α}(h:Rd w sz A l.length (l.flatMap f))(i:Nat)(x:α)(F:l[i]?=some x):
  ∃ b off,A=some ⟨b,off,none⟩/\∀ (j:Nat)(u:Value),(f x)[j]?=some u->w.cell? ⟨b,off+i*sz+j,none⟩=some u:=by
 have H:i<l.length:=(gS F).1;obtain⟨b,off,e,J⟩:=h.2 (by omega);refine⟨b,off,e,fun j u D=>?_⟩;have I:j<sz:=by rw[<-z x];exact(gS D).1
 rw[Nat.add_assoc];exact J _ u (by rw[pO z l i j x F I,D])
theorem Rd.str {A:OA}{l:List BA}(h:Rd w 1 A l.length (strCells l))(i:Nat)(x:BA)(z:l[i]?=some x):
  ∃ b off,A=some ⟨b,off,none⟩/\w.cell? ⟨b,off+i,none⟩=some (.string x):=by
 have F:i<l.length:=(gS z).1;obtain⟨b,off,e,D⟩:=h.2 (by omega);exact⟨b,off,e,D i _ (by simp[strCells,z])⟩
end
def gf (c:UInt8):Bool:=decide (48<=c.toNat/\c.toNat<=57)
def it (c:UInt8):Bool:=decide (97<=c.toNat/\c.toNat<=122)
def TE (c:UInt8):Bool:=decide (65<=c.toNat/\c.toNat<=90)
def ku (c:UInt8):Bool:=it c||TE c
def pP (c:UInt8):Bool:=it c||gf c
def sG:LU->Bool
 | []=>false
 | c::_=>pP c
def sH (others l:LU):Bool:=(l.all fun c=>pP c||others.contains c)&&sG l
def hH (l:LU):Bool:=decide (2<=l.length)&&decide (l.length<=64)&&sH [43,46,45] l
def kH (l:LU):Bool:=decide (l.length<=32)&&sH [45] l
theorem mL (s:BA)(h:0<s.size):bl s=s[0]::(bl s).tail:=by
 have z:0<(bl s).length:=by rw[fI];exact h
 rw[<-oE s 0 h,<-List.drop_one,<-List.drop_eq_getElem_cons z,List.drop_zero]
theorem hZ (s:BA)(h:s.size=0):bl s=[]:=by
 apply List.eq_nil_of_length_eq_zero;rw[fI];exact h
theorem LG (s:BA)(h:0<s.size):sG (bl s)=pP s[0]:=by rw[mL s h];rfl
theorem JR (s:BA)(h:s.size=0):sG (bl s)=false:=by rw[hZ s h];rfl
theorem ik (s:BA)(k:Nat):bl (s.extract k s.size)=(bl s).drop k:=by
 rw[sD];apply tL;rw[List.length_drop,fI];omega
theorem JS (s:BA)(k:Nat)(h:k<s.size):sG (bl (s.extract k s.size))=pP s[k]:=by
 rw[ik,List.drop_eq_getElem_cons (by rw[fI];exact h),oE s k h];rfl
theorem CO (o:LU)(s:BA)(k:Nat)(h:k<s.size)(D:((bl s).take k).all (fun c=>pP c||o.contains c)=true)(z:(pP s[k]||o.contains s[k])=true):
  ((bl s).take (k+1)).all (fun c=>pP c||o.contains c)=true:=by rw[kN s k h,D,z];rfl
theorem TF (o:LU)(s:BA)(k:Nat)(h:k<s.size)(z:pP s[k]=false)(D:o.contains s[k]=false):sH o (bl s)=false:=by
 unfold sH;rw[sE s k h (by rw[z,D];rfl)];rfl
theorem Pa (o:LU)(s:BA)(k:Nat)(h:¬ k<s.size)(z:((bl s).take k).all (fun c=>pP c||o.contains c)=true):sH o (bl s)=sG (bl s):=by
 unfold sH;rw[qk s k (by omega)] at z;rw[z];rfl
def ZY (others:LU)(c:UInt8):Bool:=ku c||gf c||others.contains c
def iq (others l:LU):Bool:=!l.isEmpty&&l.all (ZY others)
def rx (l:LU):Bool:=!l.isEmpty&&l.all gf
def qW:LU->Bool
 | []=>false
 | c::_=>gf c
def ll (c:UInt8):LU->Option Nat
 | []=>none
 | x::r=>match ll c r with
  | some i=>some (i+1)
  | none=>if x=c then some 0 else none
theorem sI (c:UInt8):∀ (l:LU)(i:Nat),l[i]?=some c->(∀ j:Nat,i<j->l[j]?≠some c)->ll c l=some i
 | [],i,h,_=>by simp at h
 | x::r,0,h,hn=>by
  have D:ll c r=none:=by
   have key:∀ (r:LU),(∀ j:Nat,r[j]?≠some c)->ll c r=none:=by
    intro r
    induction r with
    | nil=>intro _;rfl
    | cons y t ih=>
     intro h;have:=ih (fun j=>by simpa using h (j+1));have z:=h 0;simp at z;simp[ll,this,z]
   exact key r (fun j=>by simpa using hn (j+1) (by omega))
  simp at h;simp[ll,D,h]
 | x::r,i+1,h,hn=>by
  have:=sI c r i (by simpa using h) (fun j F=>by simpa using hn (j+1) (by omega));simp[ll,this]
theorem CP (c:UInt8):∀ (r:LU),(∀ j:Nat,r[j]?≠some c)->ll c r=none
 | [],_=>rfl
 | y::t,h=>by
  have:=CP c t (fun j=>by simpa using h (j+1));have z:=h 0;simp at z;simp[ll,this,z]
theorem wR (c:UInt8):∀ (l:LU)(i:Nat),ll c l=some i->i<l.length
 | [],_,h=>by simp[ll] at h
 | x::r,i,h=>by
  unfold ll at h;split at h
  ·rename_i k z;have:=wR c r k z;simp at h;simp;omega
  ·split at h
   ·simp at h;simp;omega
   ·simp at h
def kO (l:LU):Option (LU×LU):=
 if (Lib.cut l [58]).2.2=true then (if rx (Lib.cut l [58]).1=true/\(Lib.cut l [58]).1.length<=9 then some ((Lib.cut l [58]).1,(Lib.cut l [58]).2.1) else none) else some ([],l)
def nD (p:LU):Option (LU×LU):=
 match ll 45 p with
 | none=>if (iq [46,43,126,45] p&&qW p)=true then some (p,[]) else none
 | some i=>if iq [46,43,126] (p.drop (i+1))=true/\(iq [46,43,126,45] (p.take i)&&qW (p.take i))=true then some (p.take i,p.drop (i+1)) else none
def mg (l:LU):Option (LU×LU×LU):=
 match kO l with
 | none=>none
 | some (ep,p)=>(nD p).map fun r=>(ep,r.1,r.2)
def nx (s sep:BA):BA:=⟨(Lib.cut (bl s) (bl sep)).1.toArray⟩
def qp (s sep:BA):BA:=⟨(Lib.cut (bl s) (bl sep)).2.1.toArray⟩
def Gy (s sep:BA):Bool:=(Lib.cut (bl s) (bl sep)).2.2
theorem li (s z:BA):bl (nx s z)=(Lib.cut (bl s) (bl z)).1:=nj _
theorem mM (s z:BA):bl (qp s z)=(Lib.cut (bl s) (bl z)).2.1:=nj _
theorem JV (l z:LU):(Lib.cut l z).1.length<=l.length/\(Lib.cut l z).2.1.length<=l.length:=by
 unfold Lib.cut;split<;>simp;omega
theorem wS (s z:BA):(nx s z).size<=s.size:=by
 rw[<-fI,<-fI,li];exact(JV _ _).1
theorem Cd (s z:BA):(qp s z).size<=s.size:=by
 rw[<-fI,<-fI,mM];exact(JV _ _).2
theorem jp (s:BA)(k:Nat):bl (s.extract 0 k)=(bl s).take k:=by rw[sD];simp
theorem lG (s:BA)(h:0<s.size):qW (bl s)=gf s[0]:=by rw[mL s h];rfl
theorem uJ (o:LU)(s:BA)(h:iq o (bl s)=true):0<s.size:=by
 rw[<-fI];unfold iq at h;cases hb:bl s with
 | nil=>rw[hb] at h;simp at h
 | cons c r=>simp
section
open Go.RowKit
def jO:Nat->BA
 | 0=>⟨#[97,108,112,104,97]⟩
 | 1=>⟨#[98,101,116,97]⟩
 | 2=>⟨#[112,114,101]⟩
 | 3=>⟨#[114,99]⟩
 | 4=>⟨#[99,118,115]⟩
 | 5=>⟨#[115,118,110]⟩
 | 6=>⟨#[103,105,116]⟩
 | 7=>⟨#[104,103]⟩
 | _=>⟨#[112]⟩
def LJ:Nat->BA
 | 0=>⟨#[]⟩
 | 1=>⟨#[60,60]⟩
 | 2=>⟨#[60,61]⟩
 | 3=>⟨#[61]⟩
 | 4=>⟨#[62,61]⟩
 | _=>⟨#[62,62]⟩
def wT:Nat->BA
 | 0=>⟨#[]⟩
 | 1=>⟨#[60]⟩
 | 2=>⟨#[60,61]⟩
 | 3=>⟨#[61]⟩
 | 4=>⟨#[62,61]⟩
 | _=>⟨#[62]⟩
def wU:Nat->BA
 | 0=>⟨#[]⟩
 | 1=>⟨#[60]⟩
 | 2=>⟨#[60,61]⟩
 | 3=>⟨#[61]⟩
 | 4=>⟨#[62,61]⟩
 | 5=>⟨#[62]⟩
 | _=>⟨#[126]⟩
def Ie:Nat->BA
 | 0=>⟨#[97,110,100]⟩
 | 1=>⟨#[111,114]⟩
 | 2=>⟨#[105,102]⟩
 | 3=>⟨#[117,110,108,101,115,115]⟩
 | 4=>⟨#[119,105,116,104]⟩
 | _=>⟨#[119,105,116,104,111,117,116]⟩
structure Gl (w:World):Prop where
 ml:∃ m:Int,w.cell? ⟨5,0,none⟩=some (.int .i64 m)
 vwd:∀ i,i<9->w.cell? ⟨6,i,none⟩=some (.string (jO i))
 dsg:∀ i,i<6->w.cell? ⟨3,i,none⟩=some (.string (LJ i))
 rsg:∀ i,i<6->w.cell? ⟨4,i,none⟩=some (.string (wT i))
 rwd:∀ i,i<6->w.cell? ⟨9,i,none⟩=some (.string (Ie i))
 asg:∀ i,i<7->w.cell? ⟨1,i,none⟩=some (.string (wU i))
theorem Gl.keep (h:Gl w)(D:∀ p:Addr,p.block<w.heap.size->w'.cell? p=w.cell? p):Gl w':=by
 obtain⟨⟨m,F⟩,J,H,M,I,K⟩:=h;refine⟨⟨m,?_⟩,fun i z=>?_,fun i z=>?_,fun i z=>?_,fun i z=>?_,fun i z=>?_⟩
 ·exact(D _ (World.block_lt_of_cell? _ _ F)).trans F
 ·exact(D _ (World.block_lt_of_cell? _ _ (J i z))).trans (J i z)
 ·exact(D _ (World.block_lt_of_cell? _ _ (H i z))).trans (H i z)
 ·exact(D _ (World.block_lt_of_cell? _ _ (M i z))).trans (M i z)
 ·exact(D _ (World.block_lt_of_cell? _ _ (I i z))).trans (I i z)
 ·exact(D _ (World.block_lt_of_cell? _ _ (K i z))).trans (K i z)
theorem Gl.below (h:Gl w)(D:Bw w w'):Gl w':=h.keep fun _ z=>D.cell z
theorem Gl.alloc (h:Gl w)(o:Obj):Gl (w.alloc o):=h.below (bR.alloc lr o)
theorem gh {B:Nat}{a:World}(h:Below B a w)(n:Nat):Below B a (w.drewN n):=⟨h.os,h.tape,h.output,h.size,h.block⟩
end
section
open Go.RowKit
def nE (w:World)(B size:Nat)(A:OA)(n:Nat)(xs:LV):Prop:=
 xs.length=n*size/\(0<n->∃ ad,A=some ad/\ad.block<B/\∀ j u,xs[j]?=some u->w.cell? (ad.add j)=some u)
section
variable {w w' : World} {B B' size n : Nat} {A : OA} {xs : LV}
end
section
variable {P : Program} (w : World)
theorem wX (base:Nat)(t J e:TypeId)(i:TypeInfo)(size:Nat)(ht:P.underlying t=some (.slice e))(F:P.info? e=some i)
  (v:Value)(n:Nat)(I:LV)(z:w.ownsRow base e size v n I)(c:Nat):(Builtin.append_ #[t,t] J #[v,.slice none 0 c]).run P w=.ok v w:=by
 rcases z.2 with⟨rfl,rfl⟩ | ⟨g,cap,H,rfl,_,_,D,_⟩
 ·simp[Builtin.append_,run_underlying ht,sizeOf,typeInfo,F,Builtin.lenOf,Builtin.firstCells]
 ·simp[Builtin.append_,run_underlying ht,sizeOf,typeInfo,F,Builtin.lenOf,Builtin.firstCells,D,storeCells]
theorem CU (base:Nat)(t ty e:TypeId)(i:TypeInfo)(z:Value)(size F:Nat)(ht:P.underlying t=some (.slice e))(hi:P.info? e=some i)(hz:i.zero=some z)
  (K:i.size=size)(aa:i.bytes=F)(ab:z.cells.size=size)(Y:0<size)
  (v:Value)(n:Nat)(V:LV)(H:w.ownsRow base e size v n V)
  (B:Nat)(A:OA)(m c:Nat)(D:LV)(U:nE w B size A m D)(h1:∀ u∈D,u.oneCell'=true)
  (X:n+m<=maxLen)(J:(n+m)*F<=140737488355328)(O:base<=w.heap.size):
  ∃ v' w',(Builtin.append_ #[t,t] ty #[v,.slice A m c]).run P w=.ok v' w'/\w'.ownsRow base e size v' (n+m) (V++D)/\w.grownBy w' v.ownBlock /\
   (v'.ownBlock=v.ownBlock\/v'.ownBlock=some w.heap.size):=by
 rcases A with _ | Z
 ·have hm:m=0:=by
   rcases Nat.eq_zero_or_pos m with M | M
   ·exact M
   ·obtain⟨Z,h,_⟩:=U.2 M;cases h
  subst hm;have hn:D=[]:=List.eq_nil_of_length_eq_zero (by simpa using U.1);subst hn;exact⟨v,w,wX w base t ty e i size ht hi v n V H c,by simpa using H,World.grownBy.refl w _,.inl rfl⟩
 ·have I:∀ j u,D[j]?=some u->w.cell? (Z.add j)=some u:=by
   intro j u hu;rcases Nat.eq_zero_or_pos m with M | M
   ·subst M;have hn:D=[]:=List.eq_nil_of_length_eq_zero (by simpa using U.1);subst hn;simp at hu
   ·obtain⟨ac,h,_,hc⟩:=U.2 M;injection h with h;subst h;exact hc j u hu
  obtain⟨v',w',R,h2,h3,_,h5⟩:=run_append_own_at (P:=P) w base t ty e i z size F ht hi hz K aa ab Y v n V H Z m c D U.1 I h1 X J O;exact⟨v',w',R,h2,h3,h5⟩
theorem vw {a:Act}(s x:Operand)(t:TypeId)
  (ho:o.op=.call { callee:=.builtin .append,args:=#[s,x],argTypes:=#[t,t] })
  (base:Nat)(e:TypeId)(i:TypeInfo)(z:Value)(size D:Nat)(ht:P.underlying t=some (.slice e))(hi:P.info? e=some i)(hz:i.zero=some z)
  (I:i.size=size)(V:i.bytes=D)(Y:z.cells.size=size)(U:0<size)
  (v:Value)(n:Nat)(X:LV)(hs:a.eval s=v)(M:w.ownsRow base e size v n X)
  (B:Nat)(A:OA)(m c:Nat)(F:LV)(hx:a.eval x=.slice A m c)(hr:nE w B size A m F)(h1:∀ u∈F,u.oneCell'=true)
  (R:n+m<=maxLen)(H:(n+m)*D<=140737488355328)(J:base<=w.heap.size)
  (h:∀ v' w',w'.ownsRow base e size v' (n+m) (X++F)->w.grownBy w' v.ownBlock->(v'.ownBlock=v.ownBlock\/v'.ownBlock=some w.heap.size)->K (a.put o.dst v') w'):o.wp P a w K Q:=by
 obtain⟨v',w',O,Z,h3,h4⟩:=CU (P:=P) w base t o.type e i z size D ht hi hz I V Y U v n X M B A m c F hr h1 R H J;unfold Oper.wp execOp;simp only[ho,resolve,invoke,builtin,Sem.run_bind,Sem.run_pure,Result.andThen_ok,List.map_toArray,List.map_cons,List.map_nil,hs,hx,O];exact h v' w' Z h3 h4
theorem fR {rest:List Oper}{a:Act}(M:o.guard=none)(s x:Operand)(t:TypeId)
  (ho:o.op=.call { callee:=.builtin .append,args:=#[s,x],argTypes:=#[t,t] })
  (base:Nat)(e:TypeId)(i:TypeInfo)(z:Value)(size D:Nat)(ht:P.underlying t=some (.slice e))(hi:P.info? e=some i)(hz:i.zero=some z)
  (I:i.size=size)(U:i.bytes=D)(X:z.cells.size=size)(R:0<size)
  (v:Value)(n:Nat)(V:LV)(hs:a.eval s=v)(K:w.ownsRow base e size v n V)
  (B:Nat)(A:OA)(m c:Nat)(F:LV)(hx:a.eval x=.slice A m c)(hr:nE w B size A m F)(h1:∀ u∈F,u.oneCell'=true)
  (O:n+m<=maxLen)(H:(n+m)*D<=140737488355328)(J:base<=w.heap.size)
  (h:∀ v' w',w'.ownsRow base e size v' (n+m) (V++F)->w.grownBy w' v.ownBlock->(v'.ownBlock=v.ownBlock\/v'.ownBlock=some w.heap.size)->wpList P ops Q rest (a.put o.dst v') w'):wpList P ops Q (o::rest) a w:=
 wpList_plain M fun _ hK=>vw w s x t ho base e i z size D ht hi hz I U X R v n V hs K B A m c F hx hr h1 O H J fun v' w' Y h3 Z=>hK _ _ (h v' w' Y h3 Z)
theorem iF {a:Act}{E:Prop}(O:o.guard=none)(s x:Operand)(t:TypeId)
  (ho:o.op=.call { callee:=.builtin .append,args:=#[s,x],argTypes:=#[t,t] })
  (base:Nat)(e:TypeId)(i:TypeInfo)(z:Value)(size D:Nat)(ht:P.underlying t=some (.slice e))(hi:P.info? e=some i)(hz:i.zero=some z)
  (I:i.size=size)(V:i.bytes=D)(Y:z.cells.size=size)(U:0<size)
  (v:Value)(n:Nat)(X:LV)(hs:a.eval s=v)(M:w.ownsRow base e size v n X)
  (B:Nat)(A:OA)(m c:Nat)(F:LV)(hx:a.eval x=.slice A m c)(hr:nE w B size A m F)(Z:∀ u∈F,u.oneCell'=true)
  (R:n+m<=maxLen)(H:(n+m)*D<=140737488355328)(J:base<=w.heap.size)
  (h:∀ v' w',w'.ownsRow base e size v' (n+m) (X++F)->w.grownBy w' v.ownBlock->(v'.ownBlock=v.ownBlock\/v'.ownBlock=some w.heap.size)->K (a.put o.dst v') w'):
  if Region.wanted o (yielded ops a.tmps)=true then Oper.wp P o a w K Q else E:=by
 have hw:Region.wanted o (yielded ops a.tmps)=true:=by simp[Region.wanted,O]
 rw[if_pos hw];exact vw w s x t ho base e i z size D ht hi hz I V Y U v n X hs M B A m c F hx hr Z R H J h
end
end
def jT:LU->List (LU)
 | []=>[[]]
 | c::r=>if c=47 then []::jT r else ((c::(jT r).headD [])::(jT r).tail)
theorem TV:∀ l,jT l≠[]
 | []=>by simp[jT]
 | c::r=>by unfold jT;split<;>simp
theorem qq {c:UInt8}(h:c≠47)(r:LU):∃ p ps,jT r=p::ps/\jT (c::r)=(c::p)::ps:=by
 cases hr:jT r with
 | nil=>exact absurd hr (TV r)
 | cons p ps=>exact⟨p,ps,rfl,by rw[jT,if_neg h,hr];rfl⟩
theorem Am:∀ (l:LU),(47:UInt8) ∉ l->jT l=[l]
 | [],_=>rfl
 | c::r,h=>by
  have H:c≠47:=fun e=>h (by rw[e];simp);obtain⟨p,I,z,F⟩:=qq H r;rw[Am r (fun D=>h (List.mem_cons_of_mem _ D))] at z;injection z with h3 h4;rw[F,<-h3,<-h4]
theorem CZ:∀ (k:Nat)(l:LU),(47:UInt8) ∉ l.take k->l[k]?=some 47->jT l=l.take k::jT (l.drop (k+1))
 | k,[],_,h=>by simp at h
 | 0,c::r,_,h=>by
  simp at h;subst h;simp[jT]
 | k+1,c::r,hn,h=>by
  have H:c≠47:=fun e=>hn (by rw[e];simp);obtain⟨p,I,z,F⟩:=qq H r;rw[CZ k r (fun D=>hn (by rw[List.take_succ_cons];exact List.mem_cons_of_mem _ D)) (by simpa using h)] at z;injection z with h3 h4;rw[F,<-h3,<-h4];simp
theorem vx:∀ (n:Nat)(l:LU),l.count 47=n->Lib.splitK [47] 0 n l=jT l
 | 0,l,h=>by
  rw[Am l (List.count_eq_zero.1 h)];rfl
 | n+1,l,h=>by
  have z:(47:UInt8)∈l:=List.count_pos_iff.1 (by omega);unfold Lib.splitK;rw[Lib.index_one];obtain⟨k,M,J,I⟩:=indexByte_mem 47 l z;rw[M,if_neg (by simp;try omega),CZ k l J I];have e:((k:Int)).toNat=k:=by omega
  rw[e];congr 1;simp only[List.length_singleton];refine vx n (l.drop (k+1)) ?_;have F:k<l.length:=(gS I).1;have K:l=l.take k++47::l.drop (k+1):=by
   have H:l[k]=47:=(gS I).2;rw[<-H,<-List.drop_eq_getElem_cons F,List.take_append_drop]
  rw[K,List.count_append,List.count_eq_zero.2 J,List.count_cons_self] at h;simp at h |-;omega
 where
 indexByte_mem (c:UInt8):∀ (l:LU),c∈l->∃ k:Nat,Lib.indexByte l c=k/\c ∉ l.take k/\l[k]?=some c
  | [],h=>by simp at h
  | b::r,h=>by
   by_cases D:b=c
   ·subst D;exact⟨0,by simp[Lib.indexByte],by simp,by simp⟩
   ·have R:c∈r:=by rcases List.mem_cons.1 h with h | h;exact absurd h.symm D;exact h
    obtain⟨k,U,O,V⟩:=indexByte_mem c r R;refine⟨k+1,?_,?_,by simpa using V⟩
    ·have:(b==c)=false:=by simp[D]
     simp only[Lib.indexByte,this,U];rw[if_neg (by simp),if_neg (by simp;try omega)];rfl
    ·rw[List.take_succ_cons];intro z;rcases List.mem_cons.1 z with z | z;exact D z.symm;exact O z
def L5 (p:LU):Bool:=!(decide (p=[])||decide (p=[46])||decide (p=[46,46]))
def qr (l:LU):Bool:=decide (1<=l.length)&&decide (l.length<=200) && !l.contains 0&&(jT l).all L5
def nQ (l:LU):Option (LU):=if qr l then (ll 47 l).map (l.take ·) else none
section
open Go.RowKit
structure GG (p:Prop):Prop where
 out:¬ p
theorem lm (a b:UInt8):(((a.toNat:Nat):Int)==((b.toNat:Nat):Int))=(a==b):=by
 rw[bI];simp[<-UInt8.toNat_inj];omega
def fY (c:UInt8):LU->Bool
 | a::_=>a==c
 | []=>false
theorem Il {c:UInt8}{l:LU}(h:fY c l=true):l=c::l.drop 1:=by
 cases l with
 | nil=>simp[fY] at h
 | cons a r=>simp[fY] at h;simp[h]
structure fV (wr:World) (b:Nat) (vs:LV):Prop where
 sz:b<wr.heap.size
 cell:∀ (j:Nat)(u:Value),vs[j]?=some u->wr.cell? ⟨b,j,none⟩=some u
 free:∀ j:Nat,j<vs.length->wr.frozen? ⟨b,j,none⟩=false
theorem fV.new (w:World)(vs:LV)(t:TypeId):fV (w.alloc (.cells vs.toArray t)) w.heap.size vs:=
 ⟨by simp,fun j u z=>by simp[z],fun j _=>by simp⟩
theorem fV.below {vs:LV}(h:fV wr b vs)(z:Bw wr w'):fV w' b vs:=
 ⟨Nat.lt_of_lt_of_le h.sz z.size,fun j u F=>(z.cell (p:=⟨b,j,none⟩) h.sz).trans (h.cell j u F),fun j D=>(z.frozen (p:=⟨b,j,none⟩) h.sz).trans (h.free j D)⟩
theorem fV.belowN {vs:LV}(h:fV wr b vs)(z:Below n wr w')(D:b<n):fV w' b vs:=
 ⟨Nat.lt_of_lt_of_le h.sz z.size,fun j u H=>(z.cell (p:=⟨b,j,none⟩) D).trans (h.cell j u H),fun j F=>(z.frozen (p:=⟨b,j,none⟩) D).trans (h.free j F)⟩
theorem fV.alloc {vs:LV}(h:fV wr b vs)(o:Obj):fV (wr.alloc o) b vs:=h.below (bR.alloc lr o)
theorem fV.drewN {vs:LV}(h:fV wr b vs)(k:Nat):fV (wr.drewN k) b vs:=h.below ⟨rfl,rfl,rfl,lr,fun _ _=>rfl⟩
theorem fV.drew {vs:LV}(h:fV wr b vs):fV wr.drew b vs:=h.below ⟨rfl,rfl,rfl,lr,fun _ _=>rfl⟩
theorem fV.set {vs:LV}(h:fV wr b vs)(j:Nat)(D:j<vs.length)(v:Value):fV (wr.setCell ⟨b,j,none⟩ v) b (vs.set j v):=by
 refine⟨by simpa using h.sz,fun i u z=>?_,fun i F=>by rw[World.frozen?_setCell];exact h.free i (by simpa using F)⟩;by_cases e:j=i
 ·subst e;rw[List.getElem?_set_self D] at z;injection z with z;subst z;exact World.cell?_setCell_same' _ _ _ (by rw[h.cell j vs[j] (gG D)];rfl)
 ·rw[List.getElem?_set_ne e] at z;rw[World.cell?_setCell_other (h:=by intro h;injection h with _ h;exact e h)];exact h.cell i u z
theorem fV.far {c:Nat}{vs:LV}(h:fV wr b vs)(z:c≠b)(v:Value):fV (wr.setCell ⟨c,j,none⟩ v) b vs:=
 ⟨by simpa using h.sz,fun i u D=>by rw[World.cell?_setCell_other (h:=by intro h;injection h with h;exact z h)];exact h.cell i u D,fun i F=>by rw[World.frozen?_setCell];exact h.free i F⟩
theorem fO {c:Nat}{a:World}(h:Below n a wr)(z:n<=c)(v:Value):Below n a (wr.setCell ⟨c,j,none⟩ v):=h.setCell (p:=⟨c,j,none⟩) z v
end
theorem Kn (a:LU):¬ a<a:=List.lt_irrefl a
theorem abM {a b c:LU}(h:a<b)(k:b<c):a<c:=List.lt_trans h k
theorem UB {a b:LU}(h:¬ a<b)(z:a≠b):b<a:=by
 have F:b<=a:=h;by_cases D:b<a
 ·exact D
 ·exact absurd (List.le_antisymm (show a<=b from D) F) z
section
open Go.RowKit Go.Maps
def RV (v:Value):Option (DataW Value×List MemPlace):=some (.held v,[])
theorem My {b:Value}(h:(DataW.held a:DataW Value)=.held b):a=b:=by injection h
theorem Dz:Keyed prog 9:=string_keyed underlying9
def kl (s:BA):Lit:=.string s.data.toList
theorem abN {s t:BA}(h:s≠t):kl s≠kl t:=by
 intro z;apply h;unfold kl at z;injection z with z;exact kG z
def mE (w:World)(b n:Nat)(f:BA->Option Value):Prop:=
 ∃ D:DataW Value,w.ownsMap prog 9 RV b n D/\∀ s:BA,s.size<=maxLen->(Maps.has D (kl s)=(f s).isSome/\∀ z v,f s=some v->D.atKey (kl s) z=.held v)
theorem mE.made (w:World):mE (w.alloc (.map #[] 0)) w.heap.size 0 (fun _=>none):=
 ⟨.map [],World.ownsMap_made _ _ _ _,fun s _=>⟨rfl,fun z v h=>by cases h⟩⟩
theorem mE.kept {f:BA->Option Value}{row:Option Nat}(h:mE w b n f)(I:w.grownBy w' row)(z:some b≠row):mE w' b n f:=by
 obtain⟨D,H,F⟩:=h;exact⟨D,H.kept I z,F⟩
theorem mE.below {f:BA->Option Value}(h:mE w b n f)(z:Bw w w'):mE w' b n f:=by
 obtain⟨D,H,F⟩:=h;exact⟨D,H.kept (row:=none) ⟨z.os,z.tape,z.output,z.size,fun i I _=>z.block i I⟩ (by simp),F⟩
theorem XD (s:BA)(h:s.size<=maxLen):keyOf prog 9 (.string s)=some (kl s):=Go.WideMaps.keyOf_string_mk underlying9 h
theorem mE.look_ok {f:BA->Option Value}(h:mE w b n f){e:TypeId}(ht:prog.underlying t=some (.map 9 e)){z:Value}(R:∀ w,(zeroValue e).run prog w=.ok z w)(s:BA)(I:s.size<=maxLen):
  (Instr.lookup t (.map (some b)) (.string s) true).run prog w=.ok (.tuple #[(f s).getD z,.bool (f s).isSome]) w:=by
 obtain⟨D,O,K⟩:=h;obtain⟨v,U,F,J⟩:=O.look_ok Dz ht (R w) (show RV z=some (.held z,[]) from rfl) (XD s I);obtain⟨H,M⟩:=K s I;rw[F,H];have:DataW.held v=D.atKey (kl s) (.held z):=congrArg Prod.fst (Option.some.inj J);cases hf:f s with
 | none=>
  rw[hf] at H;rw[atKey_of_not_has (by simpa using H)] at this;rw[My this];rfl
 | some u=>
  rw[M (.held z) u hf] at this;rw[My this];rfl
theorem mE.put {f:BA->Option Value}(h:mE w b n f){e:TypeId}(ht:prog.underlying t=some (.map 9 e))(V:n<maxLen)(s:BA)(Y:s.size<=maxLen)(v:Value):
  ∃ w',(Instr.mapUpdate t (.map (some b)) (.string s) v).run prog w=.ok () w'/\mE w' b (n+1) (fun x=>if x=s then some v else f x)/\w.grownBy w' (some b):=by
 obtain⟨D,O,R⟩:=h;obtain⟨w',I,H,Z⟩:=O.update Dz ht V (XD s Y) (show RV v=some (.held v,[]) from rfl);have K:=(O.tidy Dz).isMap;refine⟨w',I,⟨_,H,fun x hx=>?_⟩,Z⟩;by_cases F:x=s
 ·subst F;have M:WideAt.IsKeyLit (kl x):=trivial;simp only[if_pos];exact⟨by rw[has_put_same K M];rfl,fun z u J=>by have J:=Option.some.inj J;subst J;exact atKey_put_same K M _ _⟩
 ·simp only[if_neg F];obtain⟨X,U⟩:=R x hx;exact⟨by rw[has_put_other (abN F)];exact X,fun z u J=>by rw[atKey_put_other (abN F)];exact U z u J⟩
end
section
open Go.RowKit
theorem vH:∀ (x y:LU),Op.bytesLess x y=decide (x<y)
 | [],[]=>by simp[Op.bytesLess]
 | _::_,[]=>by simp[Op.bytesLess]
 | [],_::_=>by simp[Op.bytesLess]
 | a::x,b::y=>by
  rw[Op.bytesLess,vH x y,bI];simp[List.cons_lt_cons_iff]
def Bld (w:World)(B b:Nat)(l:LU):Prop:=Lib.IsBuilder 278 5 B b (Lib.byteCells l) w
theorem Nu:(prog.info? 278).map (·.size)=some 2:=by kernel_rfl
theorem E8 (b:Nat)(w:World)(D:w.cell? ⟨b,0,none⟩=some (.pointer (some ⟨b,0,none⟩))):Calls prog 235 #[.pointer (some ⟨b,0,none⟩)] w fun e w'=>e=.returned (.tuple #[])/\w'=w:=by
 obtain⟨j,z,_⟩:=Option.map_eq_some_iff.1 Nu;go_in;go_wp2_with fail;rw[Lib.run_neq_ptr_same w _ underlying276 z];go_wp2;go_end0;exact⟨rfl,rfl⟩
theorem BO (b:Nat)(w:World)(I:w.cell? ⟨b,0,none⟩=some (.pointer none))(z:w.shape? b=some (278,2))(H:w.frozen? ⟨b,0,none⟩=false):Calls prog 235 #[.pointer (some ⟨b,0,none⟩)] w fun e w'=>e=.returned (.tuple #[])/\w'=w.setCell ⟨b,0,none⟩ (.pointer (some ⟨b,0,none⟩)):=by
 obtain⟨j,F,D⟩:=Option.map_eq_some_iff.1 Nu;go_in;go_wp2_with fail;rw[Lib.run_to_unsafe w ⟨b,0,none⟩ underlying276 underlying295 F (by rw[D];decide) z (Nat.zero_lt_succ 1)];simp only[Result.andThen];rw[Oper.upon_value];go_wp2_with fail;rw[run_callFunc_extern func268 (by kernel_rfl) (by kernel_rfl) (by kernel_rfl) (e:=Extern.AbiNoEscape.same) (by kernel_rfl)];rw[Lib.run_noEscape];simp only[Result.andThen];rw[Oper.upon_value];go_wp2_with fail;rw[Lib.run_from_unsafe w ⟨b,0,none⟩ underlying295 underlying276 F z (by kernel_rfl)];simp only[Result.andThen];rw[Oper.upon_value];go_wp2;go_end0;exact⟨rfl,rfl⟩
theorem Hl (B b:Nat)(z:LV)(w:World)(h:Lib.IsBuilder 278 5 B b z w):Calls prog 235 #[.pointer (some ⟨b,0,none⟩)] w fun e w'=>e=.returned (.tuple #[])/\(Lib.BuilderAt 278 5 B b (.pointer (some ⟨b,0,none⟩)) z w'/\Below B w w'):=by
 rcases h with h | h
 ·refine(BO b w h.cell0 h.shape h.frozen0).mono ?_;rintro e w' ⟨rfl,rfl⟩;exact⟨rfl,h.used _,(Below.refl B w).setCell (p:=⟨b,0,none⟩) h.1 _⟩
 ·refine(E8 b w h.cell0).mono ?_;rintro e w' ⟨rfl,rfl⟩;exact⟨rfl,h,Below.refl B _⟩
theorem Yp:(prog.info? 5).map (fun i=>(i.zero,i.size,i.bytes))=some (some (.int .u8 0),1,1):=by kernel_rfl
theorem E9 (B b:Nat)(l:LU)(s:BA)(w:World)(h:Bld w B b l)(ab:l.length+s.size<=1000000)(ad:B<=w.heap.size):Calls prog 188 #[.pointer (some ⟨b,0,none⟩),.string s] w fun e w'=>e=.returned (.tuple #[.int .i64 s.size,.nilIface])/\Bld w' B b (l++bl s)/\Below B w w':=by
 obtain⟨i0,hi,X,Z,aa⟩:=info_parts Yp;have R:(Lib.byteCells l).length=l.length:=Lib.byteCells_length l;go_in;go_wp2_with fail;refine(Hl B b _ _ h).mono ?_;rintro e M ⟨rfl,h1,J⟩;obtain⟨hB,v,F,I,V⟩:=h1;have c0:M.cell? ⟨b,0,none⟩=some (.pointer (some ⟨b,0,none⟩)):=by rw[Lib.cell_of_heap F];rfl
 have c1:M.cell? ⟨b,1,none⟩=some v:=by rw[Lib.cell_of_heap F];rfl
 go_wp2_with (at_builtin;refine Lib.wpList_append_own_string _ rfl _ _ 106 9 rfl B 5 i0 underlying106 underlying9 hi X Z aa _ _ _ rfl I s rfl ?c3 ?c4 ?c5 ?_)
 case c3=>unfold maxLen;omega
 case c4=>omega
 case c5=>have:=J.size;omega
 intro v' O z D _;have U:b<M.heap.size:=by
  rcases Nat.lt_or_ge b M.heap.size with Y | Y
  ·exact Y
  ·simp[Array.getElem?_eq_none Y] at F
 have H:O.heap[b]?=some (.cells #[.pointer (some ⟨b,0,none⟩),v] 278 (0,0)):=by
  rw[D.block b U (fun e=>V e.symm)];exact F
 have d0:O.cell? ⟨b,0,none⟩=some (.pointer (some ⟨b,0,none⟩)):=by rw[Lib.cell_of_heap H];rfl
 have d1:O.cell? ⟨b,1,none⟩=some v:=by rw[Lib.cell_of_heap H];rfl
 have f1:O.frozen? ⟨b,1,none⟩=false:=Lib.frozen_of_heap H 1;obtain⟨ao,n',cap,rfl⟩:∃ ao n' cap,v'=.slice ao n' cap:=by
  rcases z.2 with⟨hv,_⟩ | ⟨g,cap,ac,hv,_⟩
  ·exact⟨_,_,_,hv⟩
  ·exact⟨_,_,_,hv⟩
 go_wp2;go_ret2;have K:Lib.byteCells l++Lib.strCells s=Lib.byteCells (l++bl s):=by
  unfold Lib.byteCells Lib.strCells bl;simp
 refine⟨rfl,.inr ?_,?_⟩
 ·rw[<-K];exact Lib.BuilderAt.put (T:=278) (e:=5) hB H (bs':=Lib.byteCells l++Lib.strCells s) (by simpa [Lib.strCells_length,R] using z) (by decide)
 ·exact(J.grown D (by have:=J.size;omega) (fun k hk=>(I.lt k hk).1)).setCell (p:=⟨b,1,none⟩) hB _
theorem fV.setN {b:Nat}(z:LV):∀ (D old pre:LV)(wr:World),D.length=old.length->fV wr b (pre++(old++z))->fV (wr.setCells b pre.length D) b (pre++(D++z))
 | [],[],_,_,_,h=>h
 | c::cr,o::r,pre,wr,hl,h=>by
  have F:=h.set pre.length (by simp) c;rw[List.set_append_right _ _ lr,Nat.sub_self] at F;have H:fV (wr.setCell ⟨b,pre.length,none⟩ c) b ((pre++[c])++(r++z)):=by simpa using F
  have I:=fV.setN z cr r (pre++[c]) _ (by simpa using hl) H;rw[World.setCells];simpa using I
 | [],_::_,_,_,hl,_=>by simp at hl
 | _::_,[],_,_,hl,_=>by simp at hl
def zL {α:Type}(p:α->Bool):List α->Int->Int
 | [],_=>-1
 | a::r,k=>if p a=true then k else zL p r (k+1)
theorem uZ {α:Type}(p:α->Bool):∀ (l:List α)(k:Int),0<=k->decide (0<=zL p l k)=l.any p
 | [],_,_=>rfl
 | a::r,k,h=>by
  unfold zL;cases ha:p a with
  | true=>rw[if_pos rfl,List.any_cons,ha];exact dT h
  | false=>rw[if_neg (by simp),List.any_cons,ha,uZ p r (k+1) (by omega)];rfl
theorem yc {α:Type}{p:α->Bool}{l:List α}{x:α}(z:l[i]?=some x)(D:∀ y∈l.take i,p y=false)(h:p x=true)(k:Int):zL p l k=k+i:=by
 induction l generalizing i k with
 | nil=>simp at z
 | cons a r ih=>
  unfold zL;cases i with
  | zero=>simp at z;subst z;rw[if_pos h];simp
  | succ i=>
   rw[if_neg (by rw[D a (by simp)];simp),ih (by simpa using z) (fun y F=>D y (by simp[F]))];omega
theorem si {α:Type}{p:α->Bool}:∀ {l:List α}(k:Int),(∀ y∈l,p y=false)->zL p l k=-1
 | [],_,_=>rfl
 | a::r,k,h=>by unfold zL;rw[if_neg (by rw[h a (by simp)];simp)];exact si (k+1) (fun y z=>h y (List.mem_cons_of_mem _ z))
theorem gC {α:Type}{l:List α}{k:Nat}{x:α}(D:l[k]?=some x):l.take (k+1)=l.take k++[x]:=by
 obtain⟨z,F⟩:=gS D;rw[tS z,F]
theorem zM:(prog.info? 78).map (fun i=>(i.zero,i.size,i.bytes))=some (some (.agg #[.string ⟨#[]⟩,.int .i64 0,.string ⟨#[]⟩]),3,40):=by kernel_rfl
end
section
open Go.RowKit
def CE (n k:Nat):Array Bool:=Array.ofFn (n:=n) fun i=>decide (i.val<k)
theorem Zr (n:Nat):Array.replicate n false=CE n 0:=by
 unfold CE;apply Array.ext
 ·simp
 ·intro i z D;simp
theorem Ts (n k:Nat):(CE n k).setIfInBounds k true=CE n (k+1):=by
 unfold CE;apply Array.ext
 ·simp
 ·intro i D z;rw[Array.getElem_setIfInBounds (by simpa using z)];split
  ·rename_i h;simp[<-h]
  ·rename_i h;simp only[Array.getElem_ofFn];congr 1;simp only[eq_iff_iff];omega
def Rz (O:Array Oper)(k:Nat):Bool:=Region.free .any O (CE O.size k) k&&(Region.ready .any O (CE O.size k)).contains k
def gd (t:Array Value)(d:Nat)(b:Bool):Bool:=match t[d]? with | some (.bool c)=>c==b | _=>false
theorem Ac {t:Array Value}{og:Oper}{g d:Nat}{b:Bool}(F:o.guard=some (g,b))(D:O[g]?=some og)(z:og.dst=some d):
  Region.wanted o (yielded O t)=gd t d b:=by
 unfold Region.wanted;rw[F];show(yielded O t g==some b)=_;unfold yielded gd;rw[D];show((match (og.dst).bind (t[·]?) with | some (.bool b)=>some b | _=>none)==some b)=_;rw[z];show((match t[d]? with | some (.bool b)=>some b | _=>none)==some b)=_;cases h:t[d]? with
 | none=>rfl
 | some x=>cases x<;>rfl
theorem jB (z:O=ops){k:Nat}(h:ops[k]?=some o):O[k]?=some o:=z ▸ h
section
variable {P : Program} {O : Array Oper} {R : Act -> World -> Prop} {S : World -> Prop} {n k f j : Nat} {o og : Oper} {v : Value} {t : Array Value} {df : List Deferred} {w : World}
theorem adE {a:Act}(h:∀ O',O'=O->Code.wp P (.region id O' true) Q a w):Code.wp P (.region id O true) Q a w:=h O rfl
theorem RF (D:∀ k,k<n->Rz O k=true)(F:Region.noSelect O=true)(I:k<n)(J:O[k]?=some o)(H:o.dst=some j)(K:YieldsIf P O S o v ⟨t,df⟩)(M:S w)
  (h:wpAnyH P .any O (Exit.then R fun _ _ _=>False) S f (CE O.size (k+1)) ⟨t.setIfInBounds j v,df⟩ w):
  wpAnyH P .any O (Exit.then R fun _ _ _=>False) S (f+1) (CE O.size k) ⟨t,df⟩ w:=by
 have z:=D k I;unfold Rz at z;rw[Bool.and_eq_true] at z;refine wpAnyH_take (i:=k) (oi:=o) (v:=v) J F z.1 z.2 (fun _ _ _ h=>h) K M ?_;rw[Ts,H];exact h
theorem ja (z:∀ k,k<n->Rz O k=true)(D:Region.noSelect O=true)(I:O[k]?=some o)
  (h:wpAnyH P .any O (Exit.then R fun _ _ _=>False) S f (CE O.size (k+1)) ⟨t.setIfInBounds j v,df⟩ w)
  (H:k<n:=by decide)(F:o.dst=some j:=by rfl)(M:o.guard=none:=by rfl)(K:S w:=by assumption)
  (J:∀ w,S w->(execOp (Act.eval ⟨t,df⟩) o).run P w=.ok (.value v) w:=by(intro w' hSw;(try dsimp only at hSw);go_simp;try (with_reducible rfl))):
  wpAnyH P .any O (Exit.then R fun _ _ _=>False) S (f+1) (CE O.size k) ⟨t,df⟩ w:=
 RF z D H I F (.inl ⟨by unfold Region.wanted;rw[M],J⟩) K h
theorem iN {g d:Nat}{b:Bool}(D:∀ k,k<n->Rz O k=true)(F:Region.noSelect O=true)(M:O[k]?=some o)(I:O[g]?=some og)
  (h:wpAnyH P .any O (Exit.then R fun _ _ _=>False) S f (CE O.size (k+1)) ⟨t.setIfInBounds j v,df⟩ w)
  (K:k<n:=by decide)(J:o.dst=some j:=by rfl)(X:o.guard=some (g,b):=by rfl)(H:og.dst=some d:=by rfl)(z:gd t d b=true:=by kernel_rfl)(V:S w:=by assumption)
  (U:∀ w,S w->(execOp (Act.eval ⟨t,df⟩) o).run P w=.ok (.value v) w:=by(intro w' hSw;(try dsimp only at hSw);go_simp;try (with_reducible rfl))):
  wpAnyH P .any O (Exit.then R fun _ _ _=>False) S (f+1) (CE O.size k) ⟨t,df⟩ w:=
 RF D F K M J (.inl ⟨by rw[Ac X I H];exact z,U⟩) V h
theorem gV {g d:Nat}{b:Bool}(D:∀ k,k<n->Rz O k=true)(F:Region.noSelect O=true)(M:O[k]?=some o)(I:O[g]?=some og)
  (h:wpAnyH P .any O (Exit.then R fun _ _ _=>False) S f (CE O.size (k+1)) ⟨t.setIfInBounds j undef,df⟩ w)
  (K:k<n:=by decide)(J:o.dst=some j:=by rfl)(V:o.guard=some (g,b):=by rfl)(H:og.dst=some d:=by rfl)(z:gd t d b=false:=by kernel_rfl)(U:S w:=by assumption):
  wpAnyH P .any O (Exit.then R fun _ _ _=>False) S (f+1) (CE O.size k) ⟨t,df⟩ w:=
 RF D F K M J (.inr ⟨by rw[Ac V I H];exact z,rfl⟩) U h
theorem abV (I:Region.ready .any O (CE O.size k)=[k])(D:O[k]?=some o)(_:o.dst=some j)(z:Region.wanted o (yielded O t)=true)(H:S w)
  (F:∀ K:Act->World->Prop,K ⟨t.setIfInBounds j v,df⟩ w->Oper.wp P o ⟨t,df⟩ w K (Exit.then R fun _ _ _=>False))
  (h:wpAnyH P .any O (Exit.then R fun _ _ _=>False) S f (CE O.size (k+1)) ⟨t.setIfInBounds j v,df⟩ w):
  wpAnyH P .any O (Exit.then R fun _ _ _=>False) S (f+1) (CE O.size k) ⟨t,df⟩ w:=by
 refine wpAnyH_ready I (by simp) (AllReadyH.cons D (fun K J=>?_) AllReadyH.nil);rw[if_pos z];refine F K (J _ _ H fun _=>?_);rw[Ts];exact h
theorem acQ {a:Act}(z:P.follows .mixedOrders=true)(F:S w.drew)
  (h:S w.drew->wpAnyH P .any O (Exit.then R fun _ _ _=>False) S O.size (CE O.size 0) a w.drew):(Code.region id O true).wp P (Exit.then R fun _ _ _=>False) a w:=by
 refine wp_region_held_drew z F fun D=>?_;rw[Zr];exact h D
theorem yD {a:Act}(z:Region.ready .any O (CE O.size k)=[])(h:R a w):wpAnyH P .any O (Exit.then R fun _ _ _=>False) S f (CE O.size k) a w:=wpAnyH_done z h f
end
end
section
open Go.ChangeShapes Go.WideShapes Go.ChangeAt Go.RowKit
theorem own:ownKnob prog.godebug=none:=by kernel_rfl
def uI:List (String×DataW Unit):=Rows.convertBackRow.laid
def qh : List (String × DataW Unit) := [("math/bits.deBruijn32tab", Rows.laid_math_bits_deBruijn32tab), ("math/bits.deBruijn64tab", Rows.laid_math_bits_deBruijn64tab), ("internal/strconv.uint64pow10", Rows.laid_internal_strconv_uint64pow10), ("unicode/utf8.acceptRanges", Rows.laid_unicode_utf8_acceptRanges), ("drayage/version.words", Rows.laid_drayage_version_words), ("drayage/adep.signs", Rows.laid_drayage_adep_signs), ("drayage/ddep.signs", Rows.laid_drayage_ddep_signs), ("drayage/rdep.signs", Rows.laid_drayage_rdep_signs), ("drayage/rdep.words", Rows.laid_drayage_rdep_words), ("drayage/vmap.pres", Rows.laid_drayage_vmap_pres), ("unicode/utf8.first", Rows.laid_unicode_utf8_first)]
theorem Lx (h:laidMetH prog uI W):laidMet prog qh W:=h.1
noncomputable def nJ (os:Os):World:=
 ({ World.holding prog os ⟨#[],#[],[]⟩ with heap:=(World.holding prog os ⟨#[],#[],[]⟩).heap.modify 2 fun
   | .cells _ t frozen=>.cells #[.iface 337 (.agg #[typeHandle prog 191])] t frozen
   | o=>o }:World).layVars prog qh
theorem Ly (z:Os):(nJ z).os=z:=World.layVars_os _ _ _
theorem ZN (D:Os)(z:Array Value):laidMet prog qh ((nJ D).forCall (fun _ _=>0) ⟨#[],z,[]⟩).memory:=by
 have h:laidMet prog qh (nJ D):=by
  refine laidMet_layVars (w0:={ World.holding prog D ⟨#[],#[],[]⟩ with heap:=(World.holding prog D ⟨#[],#[],[]⟩).heap.modify 2 fun
   | .cells _ t frozen=>.cells #[.iface 337 (.agg #[typeHandle prog 191])] t frozen
   | o=>o }) (qh.map (·.1)) [] ?_ ?_ ?_ ?_
  ·rfl
  ·kernel_rfl
  ·kernel_rfl
  ·exact LaidIn.none
 exact h.of_heap (by simp[World.memory,World.forCall,Input.heap])
theorem ZO (D:Os)(z:Array Value):laidMetH prog uI ((nJ D).forCall (fun _ _=>0) ⟨#[],z,[]⟩).memory:=
 laidMetH_of_parts (ZN D z) (by kernel_rfl)
theorem ZP (D:Os)(z:Array Value):((nJ D).forCall (fun _ _=>0) ⟨#[],z,[]⟩).variablesRefB prog=true:=by kernel_rfl
theorem ZQ (D:Os)(z:Array Value):(((nJ D).forCall (fun _ _=>0) ⟨#[],z,[]⟩).heap.toList.drop prog.globals.size).take ((begin prog (fun _ _=>0) default).world.heap.size-prog.globals.size) =
   (begin prog (fun _ _=>0) default).world.heap.toList.drop prog.globals.size:=by kernel_rfl
end
section
open Go.RowKit Go.WideShapes Go.ChangeShapes
section
variable {H : Type} {enc : TypeId × Value -> H} {P : Program}
theorem Ib {f:Func}{s:ChangeSpec}{apart fresh handsOn again:Bool}{W':World}{args:Array Value}{ds gs:List (DataW H)}{before pa pv:List MemPlace}
  (U:DataW.Whole enc P f.params.toList s.vars apart W args.toList ds gs before)
  (J:∀ (b:Nat)(sp:Nat->Bool)(hd:Bool),DataW.TrodAll enc P W' b sp hd f.resultTypes.toList (v.resultList f.resultTypes.size) (s.fn H (ds++gs)).results [])
  (z:∀ sp:Nat->Bool,(∀ p∈before,sp p.block=true)->DataW.TrodAll enc P W' 0 sp true f.params.toList args.toList (s.fn H (ds++gs)).args pa)
  (F:∀ sp:Nat->Bool,(∀ p∈before,sp p.block=true)->DataW.TrodVars enc P W' sp s.vars (s.fn H (ds++gs)).vars pv)
  (I:before=pa++pv)(V:Bw W W')
  (R:∀ (j:Nat)(t:TypeId)(r:Value),f.resultTypes[j]?=some t->(v.resultList f.resultTypes.size)[j]?=some r->Value.okWide P W' .any 0 t r):
  s.post enc P f apart fresh handsOn again W args v W':=by
 have M:∀ p∈before,p.block<W.heap.size:=fun p D=>U.lt p D;have K:∀ p∈before,(fun b=>decide (b<W.heap.size)) p.block=true:=fun p D=>by simpa using M p D
 refine⟨ds,gs,before,[],pa,pv,U,J _ _ _,z _ K,F _ K,World.keptBut_mono (fun p D=>⟨D,?_⟩) (V.frame (·∈before)),fun _=>?_⟩
 ·rw[I,List.mem_append] at D;exact Or.inr D
 ·obtain⟨_,_,_,_,_,Z,Y⟩:=U;refine⟨R,_,_,([]++pa)++pv,⟨[]++pa,pv,trodAll_append (z _ (fun _ _=>rfl)) (J _ _ _),F _ (fun _ _=>rfl),rfl,?_,?_⟩,?_⟩
  ·intro b off D;have O:MemPlace.cell b off∈before:=by rw[I];simpa using D
   rw[V.frozen (M _ O)];exact Z b off O
  ·intro X;have:=Y X;rw[I] at this;simpa using this
  ·intro p D _;rw[I];simpa using D
end
end
end Go.Proofs.YtkmjcombhjombaaGreatDoor
