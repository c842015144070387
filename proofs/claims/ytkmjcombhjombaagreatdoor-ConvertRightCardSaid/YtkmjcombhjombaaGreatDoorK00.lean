/- A part of the proof. -/
import Derived.Test.YtkmjcombhjombaaGreatDoorCards
import Derived.Test.YtkmjcombhjombaaGreatDoorProg
import Derived.Test.YtkmjcombhjombaaGreatDoorTie
import Derived.Below
import Derived.BigQuiet
import Derived.BigRegion
import Derived.ChangeAlike
import Derived.ChangeSame
import Derived.Deep.AppendLies
import Derived.Deep.CutBlock
import Derived.Deep.DeepCutAuto
import Derived.Deep.DeepHandedRow
import Derived.Deep.DeepWitnessRowRef
import Derived.Deep.Draws
import Derived.Deep.LoopGhost
import Derived.Deep.QuietTactic
import Derived.Deep.RegionHeld3
import Derived.Deep.RegionLaw
import Derived.IntWalk
import Derived.LaidEql
import Derived.LaidHandle
import Derived.Laws.CopyOwn
import Derived.Laws.Externs
import Derived.Laws.IdiomCopy
import Derived.Laws.IdiomStrings
import Derived.Laws.OwnMore
import Derived.Lay
import Derived.Lib.AppendZeros
import Derived.Lib.DecodeN
import Derived.Lib.Hide
import Derived.Lib.IndexAny
import Derived.Lib.IndexMore
import Derived.Lib.ItoaNum
import Derived.Lib.LaidTab
import Derived.Lib.LastIndexByte
import Derived.Lib.OthersKept
import Derived.Lib.SplitLaws
import Derived.Maps.AppendAt
import Derived.Maps.Own
import Derived.Maps.OwnOps
import Derived.Maps.OwnSet
import Derived.OpenShut
import Derived.OwnWalk
import Derived.ProofKit
import Derived.RegionTactic
import Derived.RowKitTokens
import Derived.Shelf.LaysM
import Derived.Shelf.Slices.Turned
import Derived.Shelf.Small.Strs
import Derived.Shelf.Small.Utf8
import Derived.Shelf.Small.Wraps
import Derived.Shelf.Strconv.Itoa0
import Derived.Shelf.Strconv.Itoa1
import Derived.Shelf.Strconv.Itoa2
import Derived.Shelf.Strconv.Itoa3
import Derived.Shelf.Strings.AsciiSet
import Derived.Shelf.Strings.Builder1
import Derived.Shelf.Strings.Builder2
import Derived.Shelf.Strings.BuilderF
import Derived.Shelf.Strings.Count
import Derived.Shelf.Strings.Cut
import Derived.Shelf.Strings.IndexAny
import Derived.Shelf.Strings.IndexAnyAll
import Derived.Shelf.Strings.LastIndex
import Derived.Shelf.Strings.OnBuilder
import Derived.Shelf.Strings.Prefix
import Derived.Shelf.Strings.Runes
import Derived.Shelf.Strings.Search1
import Derived.Shelf.Strings.Search2
import Derived.Shelf.Strings.Search3
import Derived.Shelf.Strings.Shaped
import Derived.Shelf.Strings.SlTrimAscii
import Derived.Shelf.Strings.Split
import Derived.Shelf.Strings.SplitShaped
import Derived.Shelf.Strings.Trim
import Derived.Shelf.Unicode.Decode
import Derived.Shelf.Unicode.DecodeSlow
import Derived.Sort.KeysCollected
import Derived.StillTailTactics
import Derived.Stop.Asserts
import Derived.StringKeys
import Derived.WalkKit
import Derived.WalkLawsBesides
import Derived.WalkMore
import Derived.WalkSmall
import Derived.WalkSpells
set_option maxRecDepth 100000
set_option maxHeartbeats 20000000
set_option linter.unusedVariables false
set_option linter.unusedSimpArgs false
namespace Go.Proofs.YtkmjcombhjombaaGreatDoor
variable{a:Act}{K:Act->World->Prop}{ops:Array Oper}{Q:Exit->Act->World->Prop}{vs:List Value}{b i j n:Nat}{o:Oper}{p:Prop}{e t:TypeId}{c:UInt8}{W w w' wr:World}
theorem dF[Decidable p](h:¬p:=by omega):decide p=false:=decide_eq_false h
theorem dT[Decidable p](h:p:=by omega):decide p=true:=decide_eq_true h
theorem lr{a:Nat}:a≤a:=Nat.le_refl a
theorem iV(h:p):RowKit.Hid p:=h
abbrev LU:=List UInt8
abbrev BA:=ByteArray
theorem gG{α:Type}{l:List α}(h:i<l.length):l[i]?=some l[i]:=List.getElem?_eq_getElem h
theorem gM{α:Type}{l:List α}{a:α}(h:l[i]?=some a):a∈l:=List.mem_of_getElem? h
theorem gS{α:Type}{l:List α}{a:α}(h:l[i]?=some a):∃h:i<l.length,l[i]=a:=List.getElem?_eq_some_iff.1 h
theorem bR:RowKit.Below n w w:=RowKit.Below.refl n w
theorem z0:0≤n:=Nat.zero_le n
theorem tS{α:Type}{l:List α}(h:i<l.length):l.take (i+1)=l.take i++[l[i]]:=List.take_succ_eq_append_getElem h
theorem bI{a b:Bool}:a=b↔(a=true↔b=true):=Bool.eq_iff_iff
theorem bF{α:Type}[BEq α][LawfulBEq α]{a b:α}:(a==b)=false↔a≠b:=beq_eq_false_iff_ne
theorem dO[Decidable p](h:decide p=true):p:=of_decide_eq_true h
theorem tL{α:Type}{l:List α}(h:l.length≤i):l.take i=l:=List.take_of_length_le h
theorem sA{α:Type}(l:List α)(i:Nat)(a:α):l.toArray.setIfInBounds i a=(l.set i a).toArray:=List.setIfInBounds_toArray ..
theorem sB{α:Type}{a b:α}{l:List α}:(a::l).set 0 b=b::l:=rfl
theorem sC{α:Type}{a b:α}{l:List α}:(a::l).set (i+1) b=a::l.set i b:=rfl
theorem FW {p:UInt8->Bool}(l:LU)(k:Nat)(h:k<l.length):(l.take (k+1)).all p=((l.take k).all p&&p (l[k])):=by
 rw[tS h,List.all_append];simp only[List.all_cons,List.all_nil,Bool.and_true]
theorem I2 {p:UInt8->Bool}(l:LU)(k:Nat)(h:k<l.length)(hp:p (l[k])=false):l.all p=false:=by
 rw[List.all_eq_false];exact⟨l[k],List.getElem_mem h,by simp[hp]⟩
def bl (s:BA):LU:=s.data.toList
theorem iX (s:BA):(bl s).length=s.size:=by simp[bl]
theorem qt (s:BA)(k:Nat)(h:k<s.size):(bl s)[k]'(by rw[iX];exact h)=s[k]:=by simp[bl];rfl
theorem qJ (s:BA)(k:Nat)(h:k<s.size):(bl s)[k]?=some s[k]:=by
 rw[gG (by rw[iX];exact h),qt s k h]
theorem tT (s:BA)(a b:Nat):bl (s.extract a b)=((bl s).drop a).take (b-a):=by
 simp[bl,ByteArray.data_extract]
theorem nH {s t:BA}(h:bl s=bl t):s=t:=by
 cases s;cases t;simp only[bl] at h;congr;exact Array.toList_inj.1 h
theorem kK (s t:BA):bl (s++t)=bl s++bl t:=by simp[bl]
theorem pd (l:LU):bl ⟨l.toArray⟩=l:=by simp[bl]
theorem mt {p:UInt8->Bool}(s:BA)(k:Nat)(h:k<s.size):((bl s).take (k+1)).all p=(((bl s).take k).all p&&p (s[k])):=by
 rw[FW _ _ (by rw[iX];exact h),qt s k h]
theorem rq {p:UInt8->Bool}(s:BA)(k:Nat)(h:k<s.size)(hp:p (s[k])=false):(bl s).all p=false:=
 I2 _ k (by rw[iX];exact h) (by rw[qt s k h];exact hp)
theorem I3 (s:BA):(bl s).take s.size=bl s:=by rw[<-iX,List.take_length]
theorem px (s:BA)(k:Nat)(h:s.size<=k):(bl s).take k=bl s:=tL (by rw[iX];exact h)
def jV (c:UInt8):Bool:=decide (48<=c.toNat/\c.toNat<=57)
def lF (c:UInt8):Bool:=decide (97<=c.toNat/\c.toNat<=122)
def Ye (c:UInt8):Bool:=decide (65<=c.toNat/\c.toNat<=90)
def sP (c:UInt8):Bool:=lF c||Ye c
def ru (c:UInt8):Bool:=lF c||jV c
def tW:LU->Bool
 | []=>false
 | c::_=>ru c
def tX (others l:LU):Bool:=(l.all fun c=>ru c||others.contains c)&&tW l
def jZ (l:LU):Bool:=decide (2<=l.length)&&decide (l.length<=64)&&tX [43,46,45] l
def mH (l:LU):Bool:=decide (l.length<=32)&&tX [45] l
theorem pi (s:BA)(h:0<s.size):bl s=s[0]::(bl s).tail:=by
 have y:0<(bl s).length:=by rw[iX];exact h
 rw[<-qt s 0 h,<-List.drop_one,<-List.drop_eq_getElem_cons y,List.drop_zero]
theorem kw (s:BA)(h:s.size=0):bl s=[]:=by
 apply List.eq_nil_of_length_eq_zero;rw[iX];exact h
theorem Km (s:BA)(h:0<s.size):tW (bl s)=ru s[0]:=by rw[pi s h];rfl
theorem I6 (s:BA)(h:s.size=0):tW (bl s)=false:=by rw[kw s h];rfl
theorem lm (s:BA)(k:Nat):bl (s.extract k s.size)=(bl s).drop k:=by
 rw[tT];apply tL;rw[List.length_drop,iX];omega
theorem I7 (s:BA)(k:Nat)(h:k<s.size):tW (bl (s.extract k s.size))=ru s[k]:=by
 rw[lm,List.drop_eq_getElem_cons (by rw[iX];exact h),qt s k h];rfl
theorem Cs (o:LU)(s:BA)(k:Nat)(h:k<s.size)(h0:((bl s).take k).all (fun c=>ru c||o.contains c)=true)(h1:(ru s[k]||o.contains s[k])=true):
  ((bl s).take (k+1)).all (fun c=>ru c||o.contains c)=true:=by rw[mt s k h,h0,h1];rfl
theorem RP (o:LU)(s:BA)(k:Nat)(h:k<s.size)(h1:ru s[k]=false)(h2:o.contains s[k]=false):tX o (bl s)=false:=by
 unfold tX;rw[rq s k h (by rw[h1,h2];rfl)];rfl
theorem Nz (o:LU)(s:BA)(k:Nat)(h:¬ k<s.size)(h0:((bl s).take k).all (fun c=>ru c||o.contains c)=true):tX o (bl s)=tW (bl s):=by
 unfold tX;rw[px s k (by omega)] at h0;rw[h0];rfl
def Yf (others:LU)(c:UInt8):Bool:=sP c||jV c||others.contains c
def km (others l:LU):Bool:=!l.isEmpty&&l.all (Yf others)
def sS (l:LU):Bool:=!l.isEmpty&&l.all jV
def sy:LU->Bool
 | []=>false
 | c::_=>jV c
def nj (c:UInt8):LU->Option Nat
 | []=>none
 | x::r=>match nj c r with
  | some i=>some (i+1)
  | none=>if x=c then some 0 else none
theorem tY (c:UInt8):∀ (l:LU)(i:Nat),l[i]?=some c->(∀ j:Nat,i<j->l[j]?≠some c)->nj c l=some i
 | [],i,h,_=>by simp at h
 | x::r,0,h,hn=>by
  have D:nj c r=none:=by
   have key:∀ (r:LU),(∀ j:Nat,r[j]?≠some c)->nj c r=none:=by
    intro r
    induction r with
    | nil=>intro _;rfl
    | cons y t ih=>
     intro h;have:=ih (fun j=>by simpa using h (j+1));have z:=h 0;simp at z;simp[nj,this,z]
   exact key r (fun j=>by simpa using hn (j+1) (by omega))
  simp at h;simp[nj,D,h]
 | x::r,i+1,h,hn=>by
  have:=tY c r i (by simpa using h) (fun j F=>by simpa using hn (j+1) (by omega));simp[nj,this]
theorem Ct (c:UInt8):∀ (r:LU),(∀ j:Nat,r[j]?≠some c)->nj c r=none
 | [],_=>rfl
 | y::t,h=>by
  have:=Ct c t (fun j=>by simpa using h (j+1));have z:=h 0;simp at z;simp[nj,this,z]
theorem xD (c:UInt8):∀ (l:LU)(i:Nat),nj c l=some i->i<l.length
 | [],_,h=>by simp[nj] at h
 | x::r,i,h=>by
  unfold nj at h;split at h
  ·rename_i k y;have:=xD c r k y;simp at h;simp;omega
  ·split at h
   ·simp at h;simp;omega
   ·simp at h
def mN (l:LU):Option (LU×LU):=
 if (Lib.cut l [58]).2.2=true then (if sS (Lib.cut l [58]).1=true/\(Lib.cut l [58]).1.length<=9 then some ((Lib.cut l [58]).1,(Lib.cut l [58]).2.1) else none) else some ([],l)
def pF (p:LU):Option (LU×LU):=
 match nj 45 p with
 | none=>if (km [46,43,126,45] p&&sy p)=true then some (p,[]) else none
 | some i=>if km [46,43,126] (p.drop (i+1))=true/\(km [46,43,126,45] (p.take i)&&sy (p.take i))=true then some (p.take i,p.drop (i+1)) else none
def oj (l:LU):Option (LU×LU×LU):=
 match mN l with
 | none=>none
 | some (ep,p)=>(pF p).map fun r=>(ep,r.1,r.2)
def pA (s sep:BA):BA:=⟨(Lib.cut (bl s) (bl sep)).1.toArray⟩
def rI (s sep:BA):BA:=⟨(Lib.cut (bl s) (bl sep)).2.1.toArray⟩
def FZ (s sep:BA):Bool:=(Lib.cut (bl s) (bl sep)).2.2
theorem nh (s sep:BA):bl (pA s sep)=(Lib.cut (bl s) (bl sep)).1:=pd _
theorem oI (s sep:BA):bl (rI s sep)=(Lib.cut (bl s) (bl sep)).2.1:=pd _
theorem I9 (l sep:LU):(Lib.cut l sep).1.length<=l.length/\(Lib.cut l sep).2.1.length<=l.length:=by
 unfold Lib.cut;split<;>simp;omega
theorem xE (s sep:BA):(pA s sep).size<=s.size:=by
 rw[<-iX,<-iX,nh];exact(I9 _ _).1
theorem BT (s sep:BA):(rI s sep).size<=s.size:=by
 rw[<-iX,<-iX,oI];exact(I9 _ _).2
theorem mF (s:BA)(k:Nat):bl (s.extract 0 k)=(bl s).take k:=by rw[tT];simp
theorem nD (s:BA)(h:0<s.size):sy (bl s)=jV s[0]:=by rw[pi s h];rfl
theorem vo (o:LU)(s:BA)(h:km o (bl s)=true):0<s.size:=by
 rw[<-iX];unfold km at h;cases hb:bl s with
 | nil=>rw[hb] at h;simp at h
 | cons c r=>simp
section
open Go.RowKit
def lR:Nat->BA
 | 0=>⟨#[97,108,112,104,97]⟩
 | 1=>⟨#[98,101,116,97]⟩
 | 2=>⟨#[112,114,101]⟩
 | 3=>⟨#[114,99]⟩
 | 4=>⟨#[99,118,115]⟩
 | 5=>⟨#[115,118,110]⟩
 | 6=>⟨#[103,105,116]⟩
 | 7=>⟨#[104,103]⟩
 | _=>⟨#[112]⟩
def Ko:Nat->BA
 | 0=>⟨#[]⟩
 | 1=>⟨#[60,60]⟩
 | 2=>⟨#[60,61]⟩
 | 3=>⟨#[61]⟩
 | 4=>⟨#[62,61]⟩
 | _=>⟨#[62,62]⟩
def xF:Nat->BA
 | 0=>⟨#[]⟩
 | 1=>⟨#[60]⟩
 | 2=>⟨#[60,61]⟩
 | 3=>⟨#[61]⟩
 | 4=>⟨#[62,61]⟩
 | _=>⟨#[62]⟩
def xG:Nat->BA
 | 0=>⟨#[]⟩
 | 1=>⟨#[60]⟩
 | 2=>⟨#[60,61]⟩
 | 3=>⟨#[61]⟩
 | 4=>⟨#[62,61]⟩
 | 5=>⟨#[62]⟩
 | _=>⟨#[126]⟩
def GW:Nat->BA
 | 0=>⟨#[97,110,100]⟩
 | 1=>⟨#[111,114]⟩
 | 2=>⟨#[105,102]⟩
 | 3=>⟨#[117,110,108,101,115,115]⟩
 | 4=>⟨#[119,105,116,104]⟩
 | _=>⟨#[119,105,116,104,111,117,116]⟩
structure Gl (w:World):Prop where
 ml:∃ m:Int,w.cell? ⟨5,0,none⟩=some (.int .i64 m)
 vwd:∀ i,i<9->w.cell? ⟨6,i,none⟩=some (.string (lR i))
 dsg:∀ i,i<6->w.cell? ⟨3,i,none⟩=some (.string (Ko i))
 rsg:∀ i,i<6->w.cell? ⟨4,i,none⟩=some (.string (xF i))
 rwd:∀ i,i<6->w.cell? ⟨9,i,none⟩=some (.string (GW i))
 asg:∀ i,i<7->w.cell? ⟨1,i,none⟩=some (.string (xG i))
theorem Gl.keep (h:Gl w)(hk:∀ p:Addr,p.block<w.heap.size->w'.cell? p=w.cell? p):Gl w':=by
 obtain⟨⟨m,I⟩,D,z,J,H,F⟩:=h;refine⟨⟨m,?_⟩,fun i y=>?_,fun i y=>?_,fun i y=>?_,fun i y=>?_,fun i y=>?_⟩
 ·exact(hk _ (World.block_lt_of_cell? _ _ I)).trans I
 ·exact(hk _ (World.block_lt_of_cell? _ _ (D i y))).trans (D i y)
 ·exact(hk _ (World.block_lt_of_cell? _ _ (z i y))).trans (z i y)
 ·exact(hk _ (World.block_lt_of_cell? _ _ (J i y))).trans (J i y)
 ·exact(hk _ (World.block_lt_of_cell? _ _ (H i y))).trans (H i y)
 ·exact(hk _ (World.block_lt_of_cell? _ _ (F i y))).trans (F i y)
theorem Gl.below (h:Gl w)(hb:Below w.heap.size w w'):Gl w':=h.keep fun _ y=>hb.cell y
theorem Gl.alloc (h:Gl w)(o:Obj):Gl (w.alloc o):=h.below (bR.alloc lr o)
theorem jj {B:Nat}{a:World}(h:Below B a w)(n:Nat):Below B a (w.drewN n):=⟨h.os,h.tape,h.output,h.size,h.block⟩
end
section
open Go.RowKit
def oP (w:World)(B size:Nat)(A:Option Addr)(n:Nat)(xs:List Value):Prop:=
 xs.length=n*size/\(0<n->∃ ad,A=some ad/\ad.block<B/\∀ j u,xs[j]?=some u->w.cell? (ad.add j)=some u)
section
variable {w w' : World} {B B' size n : Nat} {A : Option Addr} {xs : List Value}
end
section
variable {P : Program} (w : World)
theorem xI (base:Nat)(t ty e:TypeId)(i:TypeInfo)(size:Nat)(ht:P.underlying t=some (.slice e))(hi:P.info? e=some i)
  (v:Value)(n:Nat)(xs:List Value)(hown:w.ownsRow base e size v n xs)(c:Nat):(Builtin.append_ #[t,t] ty #[v,.slice none 0 c]).run P w=.ok v w:=by
 rcases hown.2 with⟨rfl,rfl⟩ | ⟨g,cap,z,rfl,_,_,y,_⟩
 ·simp[Builtin.append_,run_underlying ht,sizeOf,typeInfo,hi,Builtin.lenOf,Builtin.firstCells]
 ·simp[Builtin.append_,run_underlying ht,sizeOf,typeInfo,hi,Builtin.lenOf,Builtin.firstCells,y,storeCells]
theorem Cw (base:Nat)(t ty e:TypeId)(i:TypeInfo)(z:Value)(size bytes:Nat)(ht:P.underlying t=some (.slice e))(hi:P.info? e=some i)(hz:i.zero=some z)
  (hsize:i.size=size)(hby:i.bytes=bytes)(hzs:z.cells.size=size)(hsz:0<size)
  (v:Value)(n:Nat)(xs:List Value)(hown:w.ownsRow base e size v n xs)
  (B:Nat)(A:Option Addr)(m c:Nat)(news:List Value)(hr:oP w B size A m news)(h1:∀ u∈news,u.oneCell'=true)
  (h63:n+m<=maxLen)(hbytes:(n+m)*bytes<=140737488355328)(hbase:base<=w.heap.size):
  ∃ v' w',(Builtin.append_ #[t,t] ty #[v,.slice A m c]).run P w=.ok v' w'/\w'.ownsRow base e size v' (n+m) (xs++news)/\w.grownBy w' v.ownBlock /\
   (v'.ownBlock=v.ownBlock\/v'.ownBlock=some w.heap.size):=by
 rcases A with _ | H
 ·have R:m=0:=by
   rcases Nat.eq_zero_or_pos m with D | D
   ·exact D
   ·obtain⟨H,h,_⟩:=hr.2 D;cases h
  subst R;have I:news=[]:=List.eq_nil_of_length_eq_zero (by simpa using hr.1);subst I;exact⟨v,w,xI w base t ty e i size ht hi v n xs hown c,by simpa using hown,World.grownBy.refl w _,.inl rfl⟩
 ·have y:∀ j u,news[j]?=some u->w.cell? (H.add j)=some u:=by
   intro j u J;rcases Nat.eq_zero_or_pos m with D | D
   ·subst D;have I:news=[]:=List.eq_nil_of_length_eq_zero (by simpa using hr.1);subst I;simp at J
   ·obtain⟨O,h,_,N⟩:=hr.2 D;injection h with h;subst h;exact N j u J
  obtain⟨v',w',F,K,U,_,M⟩:=run_append_own_at (P:=P) w base t ty e i z size bytes ht hi hz hsize hby hzs hsz v n xs hown H m c news hr.1 y h1 h63 hbytes hbase;exact⟨v',w',F,K,U,M⟩
theorem vR (s x:Operand)(t:TypeId)
  (ho:o.op=.call { callee:=.builtin .append,args:=#[s,x],argTypes:=#[t,t] })
  (base:Nat)(e:TypeId)(i:TypeInfo)(z:Value)(size bytes:Nat)(ht:P.underlying t=some (.slice e))(hi:P.info? e=some i)(hz:i.zero=some z)
  (hsize:i.size=size)(hby:i.bytes=bytes)(hzs:z.cells.size=size)(hsz:0<size)
  (v:Value)(n:Nat)(xs:List Value)(hs:a.eval s=v)(hown:w.ownsRow base e size v n xs)
  (B:Nat)(A:Option Addr)(m c:Nat)(news:List Value)(hx:a.eval x=.slice A m c)(hr:oP w B size A m news)(h1:∀ u∈news,u.oneCell'=true)
  (h63:n+m<=maxLen)(hbytes:(n+m)*bytes<=140737488355328)(hbase:base<=w.heap.size)
  (h:∀ v' w',w'.ownsRow base e size v' (n+m) (xs++news)->w.grownBy w' v.ownBlock->(v'.ownBlock=v.ownBlock\/v'.ownBlock=some w.heap.size)->K (a.put o.dst v') w'):o.wp P a w K Q:=by
 obtain⟨v',w',y,D,F,H⟩:=Cw (P:=P) w base t o.type e i z size bytes ht hi hz hsize hby hzs hsz v n xs hown B A m c news hr h1 h63 hbytes hbase;unfold Oper.wp execOp;simp only[ho,resolve,invoke,builtin,Sem.run_bind,Sem.run_pure,Result.andThen_ok,List.map_toArray,List.map_cons,List.map_nil,hs,hx,y];exact h v' w' D F H
theorem je {rest:List Oper}(hgd:o.guard=none)(s x:Operand)(t:TypeId)
  (ho:o.op=.call { callee:=.builtin .append,args:=#[s,x],argTypes:=#[t,t] })
  (base:Nat)(e:TypeId)(i:TypeInfo)(z:Value)(size bytes:Nat)(ht:P.underlying t=some (.slice e))(hi:P.info? e=some i)(hz:i.zero=some z)
  (hsize:i.size=size)(hby:i.bytes=bytes)(hzs:z.cells.size=size)(hsz:0<size)
  (v:Value)(n:Nat)(xs:List Value)(hs:a.eval s=v)(hown:w.ownsRow base e size v n xs)
  (B:Nat)(A:Option Addr)(m c:Nat)(news:List Value)(hx:a.eval x=.slice A m c)(hr:oP w B size A m news)(h1:∀ u∈news,u.oneCell'=true)
  (h63:n+m<=maxLen)(hbytes:(n+m)*bytes<=140737488355328)(hbase:base<=w.heap.size)
  (h:∀ v' w',w'.ownsRow base e size v' (n+m) (xs++news)->w.grownBy w' v.ownBlock->(v'.ownBlock=v.ownBlock\/v'.ownBlock=some w.heap.size)->wpList P ops Q rest (a.put o.dst v') w'):wpList P ops Q (o::rest) a w:=
 wpList_plain hgd fun _ F=>vR w s x t ho base e i z size bytes ht hi hz hsize hby hzs hsz v n xs hs hown B A m c news hx hr h1 h63 hbytes hbase fun v' w' y D H=>F _ _ (h v' w' y D H)
theorem kr {E:Prop}(hgd:o.guard=none)(s x:Operand)(t:TypeId)
  (ho:o.op=.call { callee:=.builtin .append,args:=#[s,x],argTypes:=#[t,t] })
  (base:Nat)(e:TypeId)(i:TypeInfo)(z:Value)(size bytes:Nat)(ht:P.underlying t=some (.slice e))(hi:P.info? e=some i)(hz:i.zero=some z)
  (hsize:i.size=size)(hby:i.bytes=bytes)(hzs:z.cells.size=size)(hsz:0<size)
  (v:Value)(n:Nat)(xs:List Value)(hs:a.eval s=v)(hown:w.ownsRow base e size v n xs)
  (B:Nat)(A:Option Addr)(m c:Nat)(news:List Value)(hx:a.eval x=.slice A m c)(hr:oP w B size A m news)(h1:∀ u∈news,u.oneCell'=true)
  (h63:n+m<=maxLen)(hbytes:(n+m)*bytes<=140737488355328)(hbase:base<=w.heap.size)
  (h:∀ v' w',w'.ownsRow base e size v' (n+m) (xs++news)->w.grownBy w' v.ownBlock->(v'.ownBlock=v.ownBlock\/v'.ownBlock=some w.heap.size)->K (a.put o.dst v') w'):
  if Region.wanted o (yielded ops a.tmps)=true then Oper.wp P o a w K Q else E:=by
 have y:Region.wanted o (yielded ops a.tmps)=true:=by simp[Region.wanted,hgd]
 rw[if_pos y];exact vR w s x t ho base e i z size bytes ht hi hz hsize hby hzs hsz v n xs hs hown B A m c news hx hr h1 h63 hbytes hbase h
end
end
def lU:LU->List (LU)
 | []=>[[]]
 | c::r=>if c=47 then []::lU r else ((c::(lU r).headD [])::(lU r).tail)
theorem Se:∀ l,lU l≠[]
 | []=>by simp[lU]
 | c::r=>by unfold lU;split<;>simp
theorem rJ (h:c≠47)(r:LU):∃ p ps,lU r=p::ps/\lU (c::r)=(c::p)::ps:=by
 cases hr:lU r with
 | nil=>exact absurd hr (Se r)
 | cons p ps=>exact⟨p,ps,rfl,by rw[lU,if_neg h,hr];rfl⟩
theorem Az:∀ (l:LU),(47:UInt8) ∉ l->lU l=[l]
 | [],_=>rfl
 | c::r,h=>by
  have D:c≠47:=fun e=>h (by rw[e];simp);obtain⟨p,H,y,z⟩:=rJ D r;rw[Az r (fun F=>h (List.mem_cons_of_mem _ F))] at y;injection y with h3 h4;rw[z,<-h3,<-h4]
theorem Cy:∀ (k:Nat)(l:LU),(47:UInt8) ∉ l.take k->l[k]?=some 47->lU l=l.take k::lU (l.drop (k+1))
 | k,[],_,h=>by simp at h
 | 0,c::r,_,h=>by
  simp at h;subst h;simp[lU]
 | k+1,c::r,hn,h=>by
  have D:c≠47:=fun e=>hn (by rw[e];simp);obtain⟨p,H,y,z⟩:=rJ D r;rw[Cy k r (fun F=>hn (by rw[List.take_succ_cons];exact List.mem_cons_of_mem _ F)) (by simpa using h)] at y;injection y with h3 h4;rw[z,<-h3,<-h4];simp
theorem vS:∀ (n:Nat)(l:LU),l.count 47=n->Lib.splitK [47] 0 n l=lU l
 | 0,l,h=>by
  rw[Az l (List.count_eq_zero.1 h)];rfl
 | n+1,l,h=>by
  have y:(47:UInt8)∈l:=List.count_pos_iff.1 (by omega);unfold Lib.splitK;rw[Lib.index_one];obtain⟨k,J,I,H⟩:=indexByte_mem 47 l y;rw[J,if_neg (by simp;try omega),Cy k l I H];have e:((k:Int)).toNat=k:=by omega
  rw[e];congr 1;simp only[List.length_singleton];refine vS n (l.drop (k+1)) ?_;have D:k<l.length:=(gS H).1;have M:l=l.take k++47::l.drop (k+1):=by
   have F:l[k]=47:=(gS H).2;rw[<-F,<-List.drop_eq_getElem_cons D,List.take_append_drop]
  rw[M,List.count_append,List.count_eq_zero.2 I,List.count_cons_self] at h;simp at h |-;omega
 where
 indexByte_mem (c:UInt8):∀ (l:LU),c∈l->∃ k:Nat,Lib.indexByte l c=k/\c ∉ l.take k/\l[k]?=some c
  | [],h=>by simp at h
  | b::r,h=>by
   by_cases z:b=c
   ·subst z;exact⟨0,by simp[Lib.indexByte],by simp,by simp⟩
   ·have N:c∈r:=by rcases List.mem_cons.1 h with h | h;exact absurd h.symm z;exact h
    obtain⟨k,O,K,R⟩:=indexByte_mem c r N;refine⟨k+1,?_,?_,by simpa using R⟩
    ·have:(b==c)=false:=by simp[z]
     simp only[Lib.indexByte,this,O];rw[if_neg (by simp),if_neg (by simp;try omega)];rfl
    ·rw[List.take_succ_cons];intro y;rcases List.mem_cons.1 y with y | y;exact z y.symm;exact K y
def Kz (p:LU):Bool:=!(decide (p=[])||decide (p=[46])||decide (p=[46,46]))
def rK (l:LU):Bool:=decide (1<=l.length)&&decide (l.length<=200) && !l.contains 0&&(lU l).all Kz
def pQ (l:LU):Option (LU):=if rK l then (nj 47 l).map (l.take ·) else none
section
open Go.RowKit
structure Gb (p:Prop):Prop where
 out:¬ p
theorem np (a b:UInt8):(((a.toNat:Nat):Int)==((b.toNat:Nat):Int))=(a==b):=by
 rw[bI];simp[<-UInt8.toNat_inj];omega
def jl (c:UInt8):LU->Bool
 | a::_=>a==c
 | []=>false
theorem Hc {l:LU}(h:jl c l=true):l=c::l.drop 1:=by
 cases l with
 | nil=>simp[jl] at h
 | cons a r=>simp[jl] at h;simp[h]
structure jh (wr:World) (b:Nat) (vs:List Value):Prop where
 sz:b<wr.heap.size
 cell:∀ (j:Nat)(u:Value),vs[j]?=some u->wr.cell? ⟨b,j,none⟩=some u
 free:∀ j:Nat,j<vs.length->wr.frozen? ⟨b,j,none⟩=false
theorem jh.new (w:World)(vs:List Value)(t:TypeId):jh (w.alloc (.cells vs.toArray t)) w.heap.size vs:=
 ⟨by simp,fun j u y=>by simp[y],fun j _=>by simp⟩
theorem jh.below (h:jh wr b vs)(hb:Below wr.heap.size wr w'):jh w' b vs:=
 ⟨Nat.lt_of_lt_of_le h.sz hb.size,fun j u z=>(hb.cell (p:=⟨b,j,none⟩) h.sz).trans (h.cell j u z),fun j y=>(hb.frozen (p:=⟨b,j,none⟩) h.sz).trans (h.free j y)⟩
theorem jh.belowN (h:jh wr b vs)(hb:Below n wr w')(hn:b<n):jh w' b vs:=
 ⟨Nat.lt_of_lt_of_le h.sz hb.size,fun j u z=>(hb.cell (p:=⟨b,j,none⟩) hn).trans (h.cell j u z),fun j y=>(hb.frozen (p:=⟨b,j,none⟩) hn).trans (h.free j y)⟩
theorem jh.alloc (h:jh wr b vs)(o:Obj):jh (wr.alloc o) b vs:=h.below (bR.alloc lr o)
theorem jh.drewN (h:jh wr b vs)(k:Nat):jh (wr.drewN k) b vs:=h.below ⟨rfl,rfl,rfl,lr,fun _ _=>rfl⟩
theorem jh.drew (h:jh wr b vs):jh wr.drew b vs:=h.below ⟨rfl,rfl,rfl,lr,fun _ _=>rfl⟩
theorem jh.set (h:jh wr b vs)(j:Nat)(hj:j<vs.length)(v:Value):jh (wr.setCell ⟨b,j,none⟩ v) b (vs.set j v):=by
 refine⟨by simpa using h.sz,fun i u y=>?_,fun i z=>by rw[World.frozen?_setCell];exact h.free i (by simpa using z)⟩;by_cases e:j=i
 ·subst e;rw[List.getElem?_set_self hj] at y;injection y with y;subst y;exact World.cell?_setCell_same' _ _ _ (by rw[h.cell j vs[j] (gG hj)];rfl)
 ·rw[List.getElem?_set_ne e] at y;rw[World.cell?_setCell_other (h:=by intro h;injection h with _ h;exact e h)];exact h.cell i u y
theorem jh.far {c:Nat}(h:jh wr b vs)(hne:c≠b)(v:Value):jh (wr.setCell ⟨c,j,none⟩ v) b vs:=
 ⟨by simpa using h.sz,fun i u y=>by rw[World.cell?_setCell_other (h:=by intro h;injection h with h;exact hne h)];exact h.cell i u y,fun i z=>by rw[World.frozen?_setCell];exact h.free i z⟩
theorem jb {c:Nat}{a:World}(h:Below n a wr)(hc:n<=c)(v:Value):Below n a (wr.setCell ⟨c,j,none⟩ v):=h.setCell (p:=⟨c,j,none⟩) hc v
end
section
open Go.RowKit Go.Extern.Stop Go.Stop Go.Extern
theorem Jw (t:Addr)(w:World):(ReflectliteValue.unpack (.iface 246 (.pointer (some t)))).run Tryz.prog w
  = .ok (.agg #[.pointer (some ⟨13,246,none⟩),.pointer (some ⟨w.heap.size,0,none⟩),.int .u64 150]) (w.alloc (.cells #[.pointer (some t)] 246)):=by kernel_rfl
theorem La (a c:Int)(w:World):(ReflectliteValue.unpack (.iface 242 (.agg #[.int .i64 a,.int .i64 c]))).run Tryz.prog w
  = .ok (.agg #[.pointer (some ⟨13,242,none⟩),.pointer (some ⟨w.heap.size,0,none⟩),.int .u64 153]) (w.alloc (.cells #[.int .i64 a,.int .i64 c] 242)):=by kernel_rfl
theorem Sy (a : Addr) (w : World) : (ReflectliteValue.methodAny (ReflectliteValue.valueError "reflectlite.Value.Type" 0) (fun t _ _ _ => ReflectliteType.toType t) #[.agg #[.pointer (some ⟨13, 246, none⟩), .pointer (some a), .int .u64 150]]).run Tryz.prog w
  = .ok (.iface 337 (.agg #[.pointer (some ⟨13,246,none⟩)])) w:=by kernel_rfl
theorem vY (n : Nat) (h : Value) (w : World) : (Go.method (n + 1) 337 (.agg #[h]) "Kind").run Tryz.prog w = .ok (311, h) w := by kernel_rfl
theorem vZ (n : Nat) (h : Value) (w : World) : (Go.method (n + 1) 337 (.agg #[h]) "Elem").run Tryz.prog w = .ok (324, .agg #[h]) w := by kernel_rfl
theorem rm (n : Nat) (h : Value) (w : World) : (Go.method (n + 1) 337 (.agg #[h]) "Implements").run Tryz.prog w = .ok (325, .agg #[h]) w := by kernel_rfl
theorem qr (n : Nat) (h : Value) (w : World) : (Go.method (n + 1) 337 (.agg #[h]) "AssignableTo").run Tryz.prog w = .ok (322, .agg #[h]) w := by kernel_rfl
theorem Sz (w:World):((ReflectliteType.abiMethod fun t=>(fun a:Nat=>Value.int IntKind.u8 (a:Int)) <$> Rtype.kind t) #[.pointer (some ⟨13,246,none⟩)]).run Tryz.prog w=.ok (.int .u8 22) w:=by kernel_rfl
theorem VB (w:World):((ReflectliteType.abiMethod fun t=>(fun a:Nat=>Value.int IntKind.u8 (a:Int)) <$> Rtype.kind t) #[.pointer (some ⟨13,242,none⟩)]).run Tryz.prog w=.ok (.int .u8 25) w:=by kernel_rfl
theorem SC (w:World):(ReflectliteType.method ReflectliteType.elem #[.agg #[.pointer (some ⟨13,246,none⟩)]]).run Tryz.prog w=.ok (.iface 337 (.agg #[.pointer (some ⟨13,242,none⟩)])) w:=by kernel_rfl
theorem Db (w : World) : (ReflectliteType.relation "Implements" ReflectliteType.implements_ #[.agg #[.pointer (some ⟨13, 242, none⟩)], .iface 337 (.agg #[.pointer (some ⟨13, 191, none⟩)])]).run Tryz.prog w = .ok (.bool true) w := by kernel_rfl
theorem Dc (v:Value)(w:World):(ReflectliteType.typeOf #[.iface 242 v]).run Tryz.prog w=.ok (.iface 337 (.agg #[.pointer (some ⟨13,242,none⟩)])) w:=by kernel_rfl
theorem Dd (w : World) : (ReflectliteType.relation "AssignableTo" ReflectliteType.assignableTo #[.agg #[.pointer (some ⟨13, 242, none⟩)], .iface 337 (.agg #[.pointer (some ⟨13, 242, none⟩)])]).run Tryz.prog w = .ok (.bool true) w := by kernel_rfl
theorem rlm (z:Sem Value)(f:TypeId->Addr->Nat->Nat->Sem Value)(v:Value):
  ReflectliteValue.method z f #[v]=(do match <-ReflectliteValue.parts v with | none=>z | some (t,a,fl)=>f t a fl (fl % 32)):=rfl
theorem De (a:Addr)(w:World):(ReflectliteValue.parts (.agg #[.pointer (some ⟨13,246,none⟩),.pointer (some a),.int .u64 150])).run Tryz.prog w=.ok (some (246,a,150)) w:=by kernel_rfl
theorem Oe (a p:Addr)(W:World)(ha:W.cell? a=some (.pointer (some p))):
  (ReflectliteValue.method (ReflectliteValue.valueError "reflectlite.Value.IsNil" 0) ReflectliteValue.isNil #[.agg #[.pointer (some ⟨13, 246, none⟩), .pointer (some a), .int .u64 150]]).run Tryz.prog W = .ok (.bool false) W := by
 rw[rlm];simp only[Sem.run_bind,De,Result.andThen];simp[ReflectliteValue.isNil,loadVar,isAgg,underlying,Tryz.underlying246,ha,Result.andThen]
theorem Lb (w:World):(Rtype.elem? 246).run Tryz.prog w=.ok (some 242) w:=by kernel_rfl
theorem Z8 (p:Addr)(w:World):(ReflectliteValue.mk 242 p ReflectliteValue.flagAddr).run Tryz.prog w=.ok (.agg #[.pointer (some ⟨13,242,none⟩),.pointer (some p),.int .u64 409]) w:=by kernel_rfl
theorem Of (a p:Addr)(W:World)(ha:W.cell? a=some (.pointer (some p))):
  (ReflectliteValue.method (ReflectliteValue.valueError "reflectlite.Value.Elem" 0) ReflectliteValue.elem #[.agg #[.pointer (some ⟨13, 246, none⟩), .pointer (some a), .int .u64 150]]).run Tryz.prog W
   = .ok (.agg #[.pointer (some ⟨13,242,none⟩),.pointer (some p),.int .u64 409]) W:=by
 rw[rlm];simp only[Sem.run_bind,De,Result.andThen];simp[ReflectliteValue.elem,loadVar,isAgg,underlying,Tryz.underlying246,ha,Result.andThen,Lb,Z8]
theorem rls (v x:Value):ReflectliteValue.set #[v,x]=(do
  let(some (dst,a,fl),some (src,b,_)):=(<-ReflectliteValue.parts v,<-ReflectliteValue.parts x)
   | unsupported (.noEntry "extern/(internal/reflectlite.Value).Set.zeroValue")
  if fl / ReflectliteValue.flagAddr % 2 == 0 then unsupported (.noEntry "extern/(internal/reflectlite.Value).Set.unaddressable")
  let val <-loadVar src b
  if <-Rtype.directlyAssignable dst src then storeVar dst a val
  else if <-Rtype.implements dst src then
   if (<-Rtype.kind src)==20 then
    match val with
    | .nilIface => unsupported (.noEntry "extern/reflectlite: a nil value of one interface type handed on as a value of another")
    | _=>storeVar dst a val
   else storeVar dst a (.iface src val)
  else panicString ("reflectlite.Set: value of type " ++ (<- Rtype.spelt src) ++ " is not assignable to type " ++ (<- Rtype.spelt dst))
  pure (.tuple #[])):=rfl
theorem Og (a:Addr)(w:World):(ReflectliteValue.parts (.agg #[.pointer (some ⟨13,242,none⟩),.pointer (some a),.int .u64 409])).run Tryz.prog w=.ok (some (242,a,409)) w:=by kernel_rfl
theorem SE (a:Addr)(w:World):(ReflectliteValue.parts (.agg #[.pointer (some ⟨13,242,none⟩),.pointer (some a),.int .u64 153])).run Tryz.prog w=.ok (some (242,a,153)) w:=by kernel_rfl
theorem Oh (w:World):(Rtype.directlyAssignable 242 242).run Tryz.prog w=.ok true w:=by kernel_rfl
theorem Yt (b c:Nat)(x y:Int)(o1 o2:Value)(W:World)(hb0:W.cell? ⟨c,0,none⟩=some (.int .i64 x))(hb1:W.cell? ⟨c,1,none⟩=some (.int .i64 y))(h0:W.cell? ⟨b,0,none⟩=some o1)(h1:W.cell? ⟨b,1,none⟩=some o2)(f0:W.frozen? ⟨b,0,none⟩=false)(f1:W.frozen? ⟨b,1,none⟩=false):
  (ReflectliteValue.set #[.agg #[.pointer (some ⟨13,242,none⟩),.pointer (some ⟨b,0,none⟩),.int .u64 409],.agg #[.pointer (some ⟨13,242,none⟩),.pointer (some ⟨c,0,none⟩),.int .u64 153]]).run Tryz.prog W
   = .ok (.tuple #[]) ((W.setCell ⟨b,0,none⟩ (.int .i64 x)).setCell ⟨b,1,none⟩ (.int .i64 y)):=by
 have F:(loadCells ⟨c,0,none⟩ 2).run Tryz.prog W=.ok #[.int .i64 x,.int .i64 y] W:=by
  refine run_loadCells_list _ ⟨c,0,none⟩ [.int .i64 x,.int .i64 y] (fun j v z=>?_)
  match j,z with
  | 0,z=>simp at z;subst z;simpa [Addr.add] using hb0
  | 1,z=>simp at z;subst z;simpa [Addr.add] using hb1
  | j+2,z=>simp at z
 have D:(W.setCell ⟨b,0,none⟩ (.int .i64 x)).cell? ⟨b,1,none⟩=some o2:=by
  rw[World.cell?_setCell_other (h:=by intro h;injection h with _ h;omega)];exact h1
 rw[rls];simp only[Sem.run_bind,Og,SE,Result.andThen];simp[ReflectliteValue.flagAddr,loadVar,isAgg,underlying,Tryz.underlying242,F,Result.andThen,Oh,storeVar,Value.cells,storeCells,Addr.add];rw[run_store Tryz.prog W ⟨b,0,none⟩ _ _ (by rfl)];simp only[h0,f0,Bool.false_eq_true,if_false];rw[run_store Tryz.prog _ ⟨b,1,none⟩ _ _ (by rfl)];simp[D,f1]
def QN (w:World):Prop:=Gl w/\w.cell? ⟨2,0,none⟩=some (.iface 337 (.agg #[.pointer (some ⟨13,191,none⟩)]))
theorem QN.below (h:QN w)(hb:Below w.heap.size w w'):QN w':=⟨h.1.below hb,(hb.cell (World.block_lt_of_cell? _ _ h.2)).trans h.2⟩
end
theorem uJ (a:LU):¬ a<a:=List.lt_irrefl a
theorem VJ {a b c:LU}(h:a<b)(k:b<c):a<c:=List.lt_trans h k
theorem Ht {a b:LU}(h:¬ a<b)(hne:a≠b):b<a:=by
 have z:b<=a:=h;by_cases y:b<a
 ·exact y
 ·exact absurd (List.le_antisymm (show a<=b from y) z) hne
section
open Go.RowKit Go.Maps
def RV (v:Value):Option (DataW Value×List MemPlace):=some (.held v,[])
theorem yg {a b:Value}(h:(DataW.held a:DataW Value)=.held b):a=b:=by injection h
theorem uL:Keyed Tryz.prog 9:=string_keyed Tryz.underlying9
def kl (s:BA):Lit:=.string s.data.toList
theorem ZJ {s t:BA}(h:s≠t):kl s≠kl t:=by
 intro y;apply h;unfold kl at y;injection y with y;exact nH y
def lG (w:World)(b n:Nat)(f:BA->Option Value):Prop:=
 ∃ D:DataW Value,w.ownsMap Tryz.prog 9 RV b n D/\∀ s:BA,s.size<=maxLen->(Maps.has D (kl s)=(f s).isSome/\∀ z v,f s=some v->D.atKey (kl s) z=.held v)
theorem lG.made (w:World):lG (w.alloc (.map #[] 0)) w.heap.size 0 (fun _=>none):=
 ⟨.map [],World.ownsMap_made _ _ _ _,fun s _=>⟨rfl,fun z v h=>by cases h⟩⟩
theorem lG.kept {f:BA->Option Value}{row:Option Nat}(h:lG w b n f)(hg:w.grownBy w' row)(hne:some b≠row):lG w' b n f:=by
 obtain⟨D,z,y⟩:=h;exact⟨D,z.kept hg hne,y⟩
theorem lG.below {f:BA->Option Value}(h:lG w b n f)(hb:Below w.heap.size w w'):lG w' b n f:=by
 obtain⟨D,z,y⟩:=h;exact⟨D,z.kept (row:=none) ⟨hb.os,hb.tape,hb.output,hb.size,fun i F _=>hb.block i F⟩ (by simp),y⟩
theorem Ow (s:BA)(h:s.size<=maxLen):keyOf Tryz.prog 9 (.string s)=some (kl s):=Go.WideMaps.keyOf_string_mk Tryz.underlying9 h
theorem lG.look_ok {f:BA->Option Value}(h:lG w b n f)(ht:Tryz.prog.underlying t=some (.map 9 e)){z:Value}(hz:∀ w,(zeroValue e).run Tryz.prog w=.ok z w)(s:BA)(hs:s.size<=maxLen):
  (Instr.lookup t (.map (some b)) (.string s) true).run Tryz.prog w=.ok (.tuple #[(f s).getD z,.bool (f s).isSome]) w:=by
 obtain⟨D,J,H⟩:=h;obtain⟨v,M,y,I⟩:=J.look_ok uL ht (hz w) (show RV z=some (.held z,[]) from rfl) (Ow s hs);obtain⟨F,K⟩:=H s hs;rw[y,F];have:DataW.held v=D.atKey (kl s) (.held z):=congrArg Prod.fst (Option.some.inj I);cases hf:f s with
 | none=>
  rw[hf] at F;rw[atKey_of_not_has (by simpa using F)] at this;rw[yg this];rfl
 | some u=>
  rw[K (.held z) u hf] at this;rw[yg this];rfl
theorem lG.put {f:BA->Option Value}(h:lG w b n f)(ht:Tryz.prog.underlying t=some (.map 9 e))(hn:n<maxLen)(s:BA)(hs:s.size<=maxLen)(v:Value):
  ∃ w',(Instr.mapUpdate t (.map (some b)) (.string s) v).run Tryz.prog w=.ok () w'/\lG w' b (n+1) (fun x=>if x=s then some v else f x)/\w.grownBy w' (some b):=by
 obtain⟨D,K,N⟩:=h;obtain⟨w',I,F,R⟩:=K.update uL ht hn (Ow s hs) (show RV v=some (.held v,[]) from rfl);have M:=(K.tidy uL).isMap;refine⟨w',I,⟨_,F,fun x U=>?_⟩,R⟩;by_cases y:x=s
 ·subst y;have J:WideAt.IsKeyLit (kl x):=trivial;simp only[if_pos];exact⟨by rw[has_put_same M J];rfl,fun z u H=>by have H:=Option.some.inj H;subst H;exact atKey_put_same M J _ _⟩
 ·simp only[if_neg y];obtain⟨V,O⟩:=N x U;exact⟨by rw[has_put_other (ZJ y)];exact V,fun z u H=>by rw[atKey_put_other (ZJ y)];exact O z u H⟩
end
section
open Go.RowKit
theorem wk:∀ (x y:LU),Op.bytesLess x y=decide (x<y)
 | [],[]=>by simp[Op.bytesLess]
 | _::_,[]=>by simp[Op.bytesLess]
 | [],_::_=>by simp[Op.bytesLess]
 | a::x,b::y=>by
  rw[Op.bytesLess,wk x y,bI];simp[List.cons_lt_cons_iff]
theorem jh.setN {b:Nat}(post:List Value):∀ (cs old pre:List Value)(wr:World),cs.length=old.length->jh wr b (pre++(old++post))->jh (wr.setCells b pre.length cs) b (pre++(cs++post))
 | [],[],_,_,_,h=>h
 | c::cr,o::r,pre,wr,hl,h=>by
  have y:=h.set pre.length (by simp) c;rw[List.set_append_right _ _ lr,Nat.sub_self] at y;have z:jh (wr.setCell ⟨b,pre.length,none⟩ c) b ((pre++[c])++(r++post)):=by simpa using y
  have D:=jh.setN post cr r (pre++[c]) _ (by simpa using hl) z;rw[World.setCells];simpa using D
 | [],_::_,_,_,hl,_=>by simp at hl
 | _::_,[],_,_,hl,_=>by simp at hl
def WP {α:Type}(p:α->Bool):List α->Int->Int
 | [],_=>-1
 | a::r,k=>if p a=true then k else WP p r (k+1)
theorem Rq {α:Type}(p:α->Bool):∀ (l:List α)(k:Int),0<=k->decide (0<=WP p l k)=l.any p
 | [],_,_=>rfl
 | a::r,k,h=>by
  unfold WP;cases ha:p a with
  | true=>rw[if_pos rfl,List.any_cons,ha];exact dT h
  | false=>rw[if_neg (by simp),List.any_cons,ha,Rq p r (k+1) (by omega)];rfl
theorem YY {α:Type}{p:α->Bool}{l:List α}{x:α}(hx:l[i]?=some x)(hb:∀ y∈l.take i,p y=false)(h:p x=true)(k:Int):WP p l k=k+i:=by
 induction l generalizing i k with
 | nil=>simp at hx
 | cons a r ih=>
  unfold WP;cases i with
  | zero=>simp at hx;subst hx;rw[if_pos h];simp
  | succ i=>
   rw[if_neg (by rw[hb a (by simp)];simp),ih (by simpa using hx) (fun y z=>hb y (by simp[z]))];omega
theorem Mv {α:Type}{p:α->Bool}:∀ {l:List α}(k:Int),(∀ y∈l,p y=false)->WP p l k=-1
 | [],_,_=>rfl
 | a::r,k,h=>by unfold WP;rw[if_neg (by rw[h a (by simp)];simp)];exact Mv (k+1) (fun y z=>h y (List.mem_cons_of_mem _ z))
theorem jI {α:Type}{l:List α}{k:Nat}{x:α}(hx:l[k]?=some x):l.take (k+1)=l.take k++[x]:=by
 obtain⟨y,z⟩:=gS hx;rw[tS y,z]
theorem Ae:(Tryz.prog.info? 78).map (fun i=>(i.zero,i.size,i.bytes))=some (some (.agg #[.string ⟨#[]⟩,.int .i64 0,.string ⟨#[]⟩]),3,40):=by kernel_rfl
end
section
open Go.ChangeShapes Go.WideShapes Go.ChangeAt Go.RowKit
theorem own:ownKnob Tryz.prog.godebug=none:=by kernel_rfl
def vn:List (String×DataW Unit):=Rows.convertBackRow.laid
def rE : List (String × DataW Unit) := [("math/bits.deBruijn32tab", Rows.laid_math_bits_deBruijn32tab), ("math/bits.deBruijn64tab", Rows.laid_math_bits_deBruijn64tab), ("internal/strconv.uint64pow10", Rows.laid_internal_strconv_uint64pow10), ("unicode/utf8.acceptRanges", Rows.laid_unicode_utf8_acceptRanges), ("drayage/version.words", Rows.laid_drayage_version_words), ("drayage/adep.signs", Rows.laid_drayage_adep_signs), ("drayage/ddep.signs", Rows.laid_drayage_ddep_signs), ("drayage/rdep.signs", Rows.laid_drayage_rdep_signs), ("drayage/rdep.words", Rows.laid_drayage_rdep_words), ("drayage/vmap.pres", Rows.laid_drayage_vmap_pres), ("unicode/utf8.first", Rows.laid_unicode_utf8_first)]
theorem Kd (h:laidMetH Tryz.prog vn W):laidMet Tryz.prog rE W:=h.1
noncomputable def oh (os:Os):World:=
 ({ World.holding Tryz.prog os ⟨#[],#[],[]⟩ with heap:=(World.holding Tryz.prog os ⟨#[],#[],[]⟩).heap.modify 2 fun
   | .cells _ t frozen=>.cells #[.iface 337 (.agg #[typeHandle Tryz.prog 191])] t frozen
   | o=>o }:World).layVars Tryz.prog rE
theorem yU (os:Os):(oh os).os=os:=World.layVars_os _ _ _
theorem XZ (os:Os)(args:Array Value):laidMet Tryz.prog rE ((oh os).forCall (fun _ _=>0) ⟨#[],args,[]⟩).memory:=by
 have h:laidMet Tryz.prog rE (oh os):=by
  refine laidMet_layVars (w0:={ World.holding Tryz.prog os ⟨#[],#[],[]⟩ with heap:=(World.holding Tryz.prog os ⟨#[],#[],[]⟩).heap.modify 2 fun
   | .cells _ t frozen=>.cells #[.iface 337 (.agg #[typeHandle Tryz.prog 191])] t frozen
   | o=>o }) (rE.map (·.1)) [] ?_ ?_ ?_ ?_
  ·rfl
  ·kernel_rfl
  ·kernel_rfl
  ·exact LaidIn.none
 exact h.of_heap (by simp[World.memory,World.forCall,Input.heap])
theorem Np (os:Os)(args:Array Value):laidMetH Tryz.prog vn ((oh os).forCall (fun _ _=>0) ⟨#[],args,[]⟩).memory:=
 laidMetH_of_parts (XZ os args) (by kernel_rfl)
theorem Nq (os:Os)(args:Array Value):((oh os).forCall (fun _ _=>0) ⟨#[],args,[]⟩).variablesRefB Tryz.prog=true:=by kernel_rfl
theorem Nr (os:Os)(args:Array Value):(((oh os).forCall (fun _ _=>0) ⟨#[],args,[]⟩).heap.toList.drop Tryz.prog.globals.size).take ((begin Tryz.prog (fun _ _=>0) default).world.heap.size-Tryz.prog.globals.size) =
   (begin Tryz.prog (fun _ _=>0) default).world.heap.toList.drop Tryz.prog.globals.size:=by kernel_rfl
end
section
open Go.RowKit Go.WideShapes Go.ChangeShapes
section
variable {H : Type} {enc : TypeId × Value -> H} {P : Program}
theorem ww {f:Func}{s:ChangeSpec}{apart fresh handsOn again:Bool}{W':World}{args:Array Value}{v:Value}{ds gs:List (DataW H)}{before pa pv:List MemPlace}
  (hW:DataW.Whole enc P f.params.toList s.vars apart W args.toList ds gs before)
  (hres:∀ (b:Nat)(sp:Nat->Bool)(hd:Bool),DataW.TrodAll enc P W' b sp hd f.resultTypes.toList (v.resultList f.resultTypes.size) (s.fn H (ds++gs)).results [])
  (hargs:∀ sp:Nat->Bool,(∀ p∈before,sp p.block=true)->DataW.TrodAll enc P W' 0 sp true f.params.toList args.toList (s.fn H (ds++gs)).args pa)
  (hvars:∀ sp:Nat->Bool,(∀ p∈before,sp p.block=true)->DataW.TrodVars enc P W' sp s.vars (s.fn H (ds++gs)).vars pv)
  (hps:before=pa++pv)(hb:Below W.heap.size W W')
  (hok:∀ (j:Nat)(t:TypeId)(r:Value),f.resultTypes[j]?=some t->(v.resultList f.resultTypes.size)[j]?=some r->Value.okWide P W' .any 0 t r):
  s.post enc P f apart fresh handsOn again W args v W':=by
 have D:∀ p∈before,p.block<W.heap.size:=fun p y=>hW.lt p y;have z:∀ p∈before,(fun b=>decide (b<W.heap.size)) p.block=true:=fun p y=>by simpa using D p y
 refine⟨ds,gs,before,[],pa,pv,hW,hres _ _ _,hargs _ z,hvars _ z,World.keptBut_mono (fun p y=>⟨y,?_⟩) (hb.frame (·∈before)),fun _=>?_⟩
 ·rw[hps,List.mem_append] at y;exact Or.inr y
 ·obtain⟨_,_,_,_,_,J,K⟩:=hW;refine⟨hok,_,_,([]++pa)++pv,⟨[]++pa,pv,trodAll_append (hargs _ (fun _ _=>rfl)) (hres _ _ _),hvars _ (fun _ _=>rfl),rfl,?_,?_⟩,?_⟩
  ·intro b off y;have F:MemPlace.cell b off∈before:=by rw[hps];simpa using y
   rw[hb.frozen (D _ F)];exact J b off F
  ·intro I;have:=K I;rw[hps] at this;simpa using this
  ·intro p y _;rw[hps];simpa using y
end
end
end Go.Proofs.YtkmjcombhjombaaGreatDoor
