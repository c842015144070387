/- A part of the proof of a law on dependencies in three formats. No condition. -/
import Derived.Test.YtkjdbpjglobbjaaGreatDoorCards
import Derived.Test.YtkjdbpjglobbjaaGreatDoorProg
import Derived.Test.YtkjdbpjglobbjaaGreatDoorTie
import Derived.Below
import Derived.BigQuiet
import Derived.ChangeAlike
import Derived.ChangeSame
import Derived.Deep.AppendLies
import Derived.Deep.CutBlock
import Derived.Deep.DeepCutAuto
import Derived.Deep.DeepHandedRow
import Derived.Deep.DeepWitnessRowRef
import Derived.Deep.Draws
import Derived.Deep.LoopGhost
import Derived.Deep.QuietTactic
import Derived.Deep.RegionLaw
import Derived.IntWalk
import Derived.LaidEql
import Derived.LaidHandle
import Derived.Laws.Externs
import Derived.Laws.OwnMore
import Derived.Lay
import Derived.Lib.DecodeN
import Derived.Lib.Hide
import Derived.Lib.IndexAny
import Derived.Lib.IndexMore
import Derived.Lib.LaidTab
import Derived.Lib.LastIndexByte
import Derived.Lib.OthersKept
import Derived.Lib.SplitLaws
import Derived.Maps.AppendAt
import Derived.Maps.Own
import Derived.Maps.OwnOps
import Derived.Maps.OwnSet
import Derived.OpenShut
import Derived.OwnWalk
import Derived.ProofKit
import Derived.RegionTactic
import Derived.RowKitTokens
import Derived.Shelf.LaysM
import Derived.Shelf.Small.Strs
import Derived.Shelf.Small.Utf8
import Derived.Shelf.Small.Wraps
import Derived.Shelf.Strconv.Itoa0
import Derived.Shelf.Strconv.Itoa1
import Derived.Shelf.Strconv.Itoa2
import Derived.Shelf.Strconv.Itoa3
import Derived.Shelf.Strings.AsciiSet
import Derived.Shelf.Strings.Builder1
import Derived.Shelf.Strings.Builder2
import Derived.Shelf.Strings.BuilderF
import Derived.Shelf.Strings.Count
import Derived.Shelf.Strings.Cut
import Derived.Shelf.Strings.IndexAny
import Derived.Shelf.Strings.IndexAnyAll
import Derived.Shelf.Strings.LastIndex
import Derived.Shelf.Strings.OnBuilder
import Derived.Shelf.Strings.Prefix
import Derived.Shelf.Strings.Runes
import Derived.Shelf.Strings.Search1
import Derived.Shelf.Strings.Search2
import Derived.Shelf.Strings.Search3
import Derived.Shelf.Strings.Shaped
import Derived.Shelf.Strings.SlTrimAscii
import Derived.Shelf.Strings.Split
import Derived.Shelf.Strings.SplitShaped
import Derived.Shelf.Strings.Trim
import Derived.Shelf.Unicode.Decode
import Derived.Shelf.Unicode.DecodeSlow
import Derived.Sort.KeysCollected
import Derived.StillTailTactics
import Derived.Stop.Asserts
import Derived.StringKeys
import Derived.WalkKit
import Derived.WalkLawsBesides
import Derived.WalkMore
import Derived.WalkSmall
import Derived.WalkSpells
set_option maxRecDepth 100000
set_option maxHeartbeats 20000000
set_option linter.unusedVariables false
set_option linter.unusedSimpArgs false
namespace Go.Proofs.YtkjdbpjglobbjaaGreatDoor
theorem dF{p:Prop}[Decidable p](h:¬p:=by omega):decide p=false:=decide_eq_false h
theorem dT{p:Prop}[Decidable p](h:p:=by omega):decide p=true:=decide_eq_true h
theorem lr{a:Nat}:a≤a:=Nat.le_refl a
theorem ae{p:Prop}(h:p):RowKit.Hid p:=h
abbrev LU:=List UInt8
abbrev BA:=ByteArray
theorem gG{α:Type}{l:List α}{i:Nat}(h:i<l.length):l[i]?=some l[i]:=List.getElem?_eq_getElem h
theorem gM{α:Type}{l:List α}{i:Nat}{a:α}(h:l[i]?=some a):a∈l:=List.mem_of_getElem? h
theorem gS{α:Type}{l:List α}{i:Nat}{a:α}(h:l[i]?=some a):∃h:i<l.length,l[i]=a:=List.getElem?_eq_some_iff.1 h
theorem bR{n:Nat}{w:World}:RowKit.Below n w w:=RowKit.Below.refl n w
theorem z0{n:Nat}:0≤n:=Nat.zero_le n
theorem tS{α:Type}{i:Nat}{l:List α}(h:i<l.length):l.take (i+1)=l.take i++[l[i]]:=List.take_succ_eq_append_getElem h
theorem bI{a b:Bool}:a=b↔(a=true↔b=true):=Bool.eq_iff_iff
theorem bF{α:Type}[BEq α][LawfulBEq α]{a b:α}:(a==b)=false↔a≠b:=beq_eq_false_iff_ne
theorem dO{p:Prop}[Decidable p](h:decide p=true):p:=of_decide_eq_true h
theorem tL{α:Type}{l:List α}{i:Nat}(h:l.length≤i):l.take i=l:=List.take_of_length_le h
theorem zu {p:UInt8→Bool}(l:LU)(k:Nat)(h:k<l.length):(l.take (k+1)).all p=((l.take k).all p&&p (l[k])):=by
 rw[tS h,List.all_append];simp only[List.all_cons,List.all_nil,Bool.and_true]
theorem Cq {p:UInt8→Bool}(l:LU)(k:Nat)(h:k<l.length)(hp:p (l[k])=false):l.all p=false:=by
 rw[List.all_eq_false];exact⟨l[k],List.getElem_mem h,by simp[hp]⟩
def bl (s:BA):LU:=s.data.toList
theorem af (s:BA):(bl s).length=s.size:=by simp[bl]
theorem gL (s:BA)(k:Nat)(h:k<s.size):(bl s)[k]'(by rw[af];exact h)=s[k]:=by simp[bl];rfl
theorem ie (s:BA)(k:Nat)(h:k<s.size):(bl s)[k]?=some s[k]:=by
 rw[gG (by rw[af];exact h),gL s k h]
theorem kv (s:BA)(a b:Nat):bl (s.extract a b)=((bl s).drop a).take (b-a):=by
 simp[bl,ByteArray.data_extract]
theorem dp {s t:BA}(h:bl s=bl t):s=t:=by
 cases s;cases t;simp only[bl] at h;congr;exact Array.toList_inj.1 h
theorem bg (s t:BA):bl (s++t)=bl s++bl t:=by simp[bl]
theorem gI (l:LU):bl ⟨l.toArray⟩=l:=by simp[bl]
theorem di {p:UInt8→Bool}(s:BA)(k:Nat)(h:k<s.size):((bl s).take (k+1)).all p=(((bl s).take k).all p&&p (s[k])):=by
 rw[zu _ _ (by rw[af];exact h),gL s k h]
theorem jX {p:UInt8→Bool}(s:BA)(k:Nat)(h:k<s.size)(hp:p (s[k])=false):(bl s).all p=false:=
 Cq _ k (by rw[af];exact h) (by rw[gL s k h];exact hp)
theorem Cr (s:BA):(bl s).take s.size=bl s:=by rw[←af,List.take_length]
theorem eP (s:BA)(k:Nat)(h:s.size≤k):(bl s).take k=bl s:=tL (by rw[af];exact h)
section
open Go.RowKit
def ci:Nat→BA
 | 0=>⟨#[97,108,112,104,97]⟩
 | 1=>⟨#[98,101,116,97]⟩
 | 2=>⟨#[112,114,101]⟩
 | 3=>⟨#[114,99]⟩
 | 4=>⟨#[99,118,115]⟩
 | 5=>⟨#[115,118,110]⟩
 | 6=>⟨#[103,105,116]⟩
 | 7=>⟨#[104,103]⟩
 | _=>⟨#[112]⟩
def Er:Nat→BA
 | 0=>⟨#[]⟩
 | 1=>⟨#[60,60]⟩
 | 2=>⟨#[60,61]⟩
 | 3=>⟨#[61]⟩
 | 4=>⟨#[62,61]⟩
 | _=>⟨#[62,62]⟩
def qS:Nat→BA
 | 0=>⟨#[]⟩
 | 1=>⟨#[60]⟩
 | 2=>⟨#[60,61]⟩
 | 3=>⟨#[61]⟩
 | 4=>⟨#[62,61]⟩
 | _=>⟨#[62]⟩
def qT:Nat→BA
 | 0=>⟨#[]⟩
 | 1=>⟨#[60]⟩
 | 2=>⟨#[60,61]⟩
 | 3=>⟨#[61]⟩
 | 4=>⟨#[62,61]⟩
 | 5=>⟨#[62]⟩
 | _=>⟨#[126]⟩
def An:Nat→BA
 | 0=>⟨#[97,110,100]⟩
 | 1=>⟨#[111,114]⟩
 | 2=>⟨#[105,102]⟩
 | 3=>⟨#[117,110,108,101,115,115]⟩
 | 4=>⟨#[119,105,116,104]⟩
 | _=>⟨#[119,105,116,104,111,117,116]⟩
structure Gl (w:World):Prop where
 ml:∃ m:Int,w.cell? ⟨6,0,none⟩=some (.int .i64 m)
 vwd:∀ i,i<9→w.cell? ⟨7,i,none⟩=some (.string (ci i))
 dsg:∀ i,i<6→w.cell? ⟨2,i,none⟩=some (.string (Er i))
 rsg:∀ i,i<6→w.cell? ⟨3,i,none⟩=some (.string (qS i))
 rwd:∀ i,i<6→w.cell? ⟨5,i,none⟩=some (.string (An i))
 asg:∀ i,i<7→w.cell? ⟨0,i,none⟩=some (.string (qT i))
theorem Gl.keep {w w':World}(h:Gl w)(hk:∀ p:Addr,p.block<w.heap.size→w'.cell? p=w.cell? p):Gl w':=by
 obtain⟨⟨m,hm⟩,h1,h2,h3,h4,h5⟩:=h
 refine⟨⟨m,?_⟩,fun i hi=>?_,fun i hi=>?_,fun i hi=>?_,fun i hi=>?_,fun i hi=>?_⟩
 ·exact(hk _ (World.block_lt_of_cell? _ _ hm)).trans hm
 ·exact(hk _ (World.block_lt_of_cell? _ _ (h1 i hi))).trans (h1 i hi)
 ·exact(hk _ (World.block_lt_of_cell? _ _ (h2 i hi))).trans (h2 i hi)
 ·exact(hk _ (World.block_lt_of_cell? _ _ (h3 i hi))).trans (h3 i hi)
 ·exact(hk _ (World.block_lt_of_cell? _ _ (h4 i hi))).trans (h4 i hi)
 ·exact(hk _ (World.block_lt_of_cell? _ _ (h5 i hi))).trans (h5 i hi)
theorem Gl.below {w w':World}(h:Gl w)(hb:Below w.heap.size w w'):Gl w':=h.keep fun _ hp=>hb.cell hp
theorem Gl.alloc {w:World}(h:Gl w)(o:Obj):Gl (w.alloc o):=h.below (bR.alloc lr o)
theorem bJ {B:Nat}{a w:World}(h:Below B a w)(n:Nat):Below B a (w.drewN n):=⟨h.os,h.tape,h.output,h.size,h.block⟩
def Rd (w:World)(sz:Nat)(A:Option Addr)(n:Nat)(xs:List Value):Prop:=
 xs.length=n*sz∧(0<n→∃ b off,A=some ⟨b,off,none⟩∧∀ (j:Nat)(u:Value),xs[j]?=some u→w.cell? ⟨b,off+j,none⟩=some u)
theorem Rd.nil (w:World)(sz:Nat)(A:Option Addr):Rd w sz A 0 []:=⟨by simp,fun h=>absurd h (by omega)⟩
theorem Rd.keep {w w':World}{sz n:Nat}{A:Option Addr}{xs:List Value}(h:Rd w sz A n xs)(hk:∀ p:Addr,p.block<w.heap.size→w'.cell? p=w.cell? p):Rd w' sz A n xs:=
 ⟨h.1,fun hn=>by
  obtain⟨b,off,e,hc⟩:=h.2 hn
  exact⟨b,off,e,fun j u hu=>(hk _ (World.block_lt_of_cell? _ _ (hc j u hu))).trans (hc j u hu)⟩⟩
theorem Rd.below {w w':World}{sz n:Nat}{A:Option Addr}{xs:List Value}(h:Rd w sz A n xs)(hb:Below w.heap.size w w'):Rd w' sz A n xs:=h.keep fun _ hp=>hb.cell hp
structure aA where
 nm:BA
 op:Int
 ver:BA
def aA.cells (x:aA):List Value:=[.string x.nm,.int .i64 x.op,.string x.ver]
def strCells (l:List BA):List Value:=l.map .string
theorem vo {α:Type}{f:α→List Value}{sz:Nat}(hf:∀ x,(f x).length=sz):∀ (l:List α)(i j:Nat)(x:α),l[i]?=some x→j<sz→(l.flatMap f)[i*sz+j]?=(f x)[j]?
 | [],i,j,x,h,_=>by simp at h
 | a::r,0,j,x,h,hj=>by
  simp at h;subst h
  rw[List.flatMap_cons,List.getElem?_append_left (by rw[hf];omega)];simp
 | a::r,i+1,j,x,h,hj=>by
  have h':r[i]?=some x:=by simpa using h
  rw[List.flatMap_cons,List.getElem?_append_right (by rw[hf,Nat.add_mul];omega),hf,←vo hf r i j x h' hj]
  congr 1;rw[Nat.add_mul];omega
theorem ld {α:Type}{f:α→List Value}{sz:Nat}(hf:∀ x,(f x).length=sz):∀ (l:List α),(l.flatMap f).length=l.length*sz
 | []=>by simp
 | a::r=>by rw[List.flatMap_cons,List.length_append,hf,ld hf r,List.length_cons,Nat.add_mul];omega
theorem dw (x:aA):x.cells.length=3:=rfl
theorem Rd.elem {α:Type}{f:α→List Value}{sz:Nat}(hf:∀ x,(f x).length=sz){w:World}{A:Option Addr}{l:List α}(h:Rd w sz A l.length (l.flatMap f))(i:Nat)(x:α)(hi:l[i]?=some x):
  ∃ b off,A=some ⟨b,off,none⟩∧∀ (j:Nat)(u:Value),(f x)[j]?=some u→w.cell? ⟨b,off+i*sz+j,none⟩=some u:=by
 have hlt:i<l.length:=(gS hi).1
 obtain⟨b,off,e,hc⟩:=h.2 (by omega)
 refine⟨b,off,e,fun j u hu=>?_⟩
 have hj:j<sz:=by rw[←hf x];exact(gS hu).1
 rw[Nat.add_assoc]
 exact hc _ u (by rw[vo hf l i j x hi hj,hu])
theorem Rd.str {w:World}{A:Option Addr}{l:List BA}(h:Rd w 1 A l.length (strCells l))(i:Nat)(x:BA)(hi:l[i]?=some x):
  ∃ b off,A=some ⟨b,off,none⟩∧w.cell? ⟨b,off+i,none⟩=some (.string x):=by
 have hlt:i<l.length:=(gS hi).1
 obtain⟨b,off,e,hc⟩:=h.2 (by omega)
 exact⟨b,off,e,hc i _ (by simp[strCells,hi])⟩
end
section
open Go.RowKit
def jQ (w:World)(B size:Nat)(A:Option Addr)(n:Nat)(xs:List Value):Prop:=
 xs.length=n*size∧(0<n→∃ ad,A=some ad∧ad.block<B∧∀ j u,xs[j]?=some u→w.cell? (ad.add j)=some u)
section
variable {w w' : World} {B B' size n : Nat} {A : Option Addr} {xs : List Value}
end
section
variable {P : Program} (w : World)
theorem qU (base:Nat)(t ty e:TypeId)(i:TypeInfo)(size:Nat)(ht:P.underlying t=some (.slice e))(hi:P.info? e=some i)
  (v:Value)(n:Nat)(xs:List Value)(hown:w.ownsRow base e size v n xs)(c:Nat):(Builtin.append_ #[t,t] ty #[v,.slice none 0 c]).run P w=.ok v w:=by
 rcases hown.2 with⟨rfl,rfl⟩ | ⟨g,cap,cur,rfl,_,_,hnc,_⟩
 ·simp[Builtin.append_,run_underlying ht,sizeOf,typeInfo,hi,Builtin.lenOf,Builtin.firstCells]
 ·simp[Builtin.append_,run_underlying ht,sizeOf,typeInfo,hi,Builtin.lenOf,Builtin.firstCells,hnc,storeCells]
theorem vJ (base:Nat)(t ty e:TypeId)(i:TypeInfo)(z:Value)(size bytes:Nat)(ht:P.underlying t=some (.slice e))(hi:P.info? e=some i)(hz:i.zero=some z)
  (hsize:i.size=size)(hby:i.bytes=bytes)(hzs:z.cells.size=size)(hsz:0<size)
  (v:Value)(n:Nat)(xs:List Value)(hown:w.ownsRow base e size v n xs)
  (B:Nat)(A:Option Addr)(m c:Nat)(news:List Value)(hr:jQ w B size A m news)(h1:∀ u∈news,u.oneCell'=true)
  (h63:n+m≤maxLen)(hbytes:(n+m)*bytes≤140737488355328)(hbase:base≤w.heap.size):
  ∃ v' w',(Builtin.append_ #[t,t] ty #[v,.slice A m c]).run P w=.ok v' w'∧w'.ownsRow base e size v' (n+m) (xs++news)∧w.grownBy w' v.ownBlock ∧
   (v'.ownBlock=v.ownBlock∨v'.ownBlock=some w.heap.size):=by
 rcases A with _ | ad
 ·have hm:m=0:=by
   rcases Nat.eq_zero_or_pos m with h0 | h0
   ·exact h0
   ·obtain⟨ad,h,_⟩:=hr.2 h0
    cases h
  subst hm
  have hn:news=[]:=List.eq_nil_of_length_eq_zero (by simpa using hr.1)
  subst hn
  exact⟨v,w,qU w base t ty e i size ht hi v n xs hown c,by simpa using hown,World.grownBy.refl w _,.inl rfl⟩
 ·have hcells:∀ j u,news[j]?=some u→w.cell? (ad.add j)=some u:=by
   intro j u hu
   rcases Nat.eq_zero_or_pos m with h0 | h0
   ·subst h0
    have hn:news=[]:=List.eq_nil_of_length_eq_zero (by simpa using hr.1)
    subst hn
    simp at hu
   ·obtain⟨ad',h,_,hc⟩:=hr.2 h0
    injection h with h
    subst h
    exact hc j u hu
  obtain⟨v',w',hrun,h2,h3,_,h5⟩:=run_append_own_at (P:=P) w base t ty e i z size bytes ht hi hz hsize hby hzs hsz v n xs hown ad m c news hr.1 hcells h1 h63 hbytes hbase
  exact⟨v',w',hrun,h2,h3,h5⟩
theorem pq {o:Oper}{a:Act}{K:Act→World→Prop}{Q:Exit→Act→World→Prop}(s x:Operand)(t:TypeId)
  (ho:o.op=.call { callee:=.builtin .append,args:=#[s,x],argTypes:=#[t,t] })
  (base:Nat)(e:TypeId)(i:TypeInfo)(z:Value)(size bytes:Nat)(ht:P.underlying t=some (.slice e))(hi:P.info? e=some i)(hz:i.zero=some z)
  (hsize:i.size=size)(hby:i.bytes=bytes)(hzs:z.cells.size=size)(hsz:0<size)
  (v:Value)(n:Nat)(xs:List Value)(hs:a.eval s=v)(hown:w.ownsRow base e size v n xs)
  (B:Nat)(A:Option Addr)(m c:Nat)(news:List Value)(hx:a.eval x=.slice A m c)(hr:jQ w B size A m news)(h1:∀ u∈news,u.oneCell'=true)
  (h63:n+m≤maxLen)(hbytes:(n+m)*bytes≤140737488355328)(hbase:base≤w.heap.size)
  (h:∀ v' w',w'.ownsRow base e size v' (n+m) (xs++news)→w.grownBy w' v.ownBlock→(v'.ownBlock=v.ownBlock∨v'.ownBlock=some w.heap.size)→K (a.put o.dst v') w'):o.wp P a w K Q:=by
 obtain⟨v',w',hrun,h2,h3,h4⟩:=vJ (P:=P) w base t o.type e i z size bytes ht hi hz hsize hby hzs hsz v n xs hown B A m c news hr h1 h63 hbytes hbase
 unfold Oper.wp execOp
 simp only[ho,resolve,invoke,builtin,Sem.run_bind,Sem.run_pure,Result.andThen_ok,List.map_toArray,List.map_cons,List.map_nil,hs,hx,hrun]
 exact h v' w' h2 h3 h4
theorem ak {ops:Array Oper}{rest:List Oper}{o:Oper}{a:Act}{Q:Exit→Act→World→Prop}(hgd:o.guard=none)(s x:Operand)(t:TypeId)
  (ho:o.op=.call { callee:=.builtin .append,args:=#[s,x],argTypes:=#[t,t] })
  (base:Nat)(e:TypeId)(i:TypeInfo)(z:Value)(size bytes:Nat)(ht:P.underlying t=some (.slice e))(hi:P.info? e=some i)(hz:i.zero=some z)
  (hsize:i.size=size)(hby:i.bytes=bytes)(hzs:z.cells.size=size)(hsz:0<size)
  (v:Value)(n:Nat)(xs:List Value)(hs:a.eval s=v)(hown:w.ownsRow base e size v n xs)
  (B:Nat)(A:Option Addr)(m c:Nat)(news:List Value)(hx:a.eval x=.slice A m c)(hr:jQ w B size A m news)(h1:∀ u∈news,u.oneCell'=true)
  (h63:n+m≤maxLen)(hbytes:(n+m)*bytes≤140737488355328)(hbase:base≤w.heap.size)
  (h:∀ v' w',w'.ownsRow base e size v' (n+m) (xs++news)→w.grownBy w' v.ownBlock→(v'.ownBlock=v.ownBlock∨v'.ownBlock=some w.heap.size)→wpList P ops Q rest (a.put o.dst v') w'):wpList P ops Q (o::rest) a w:=
 wpList_plain hgd fun _ hK=>pq w s x t ho base e i z size bytes ht hi hz hsize hby hzs hsz v n xs hs hown B A m c news hx hr h1 h63 hbytes hbase fun v' w' h2 h3 h4=>hK _ _ (h v' w' h2 h3 h4)
theorem dj {ops:Array Oper}{o:Oper}{a:Act}{K:Act→World→Prop}{Q:Exit→Act→World→Prop}{E:Prop}(hgd:o.guard=none)(s x:Operand)(t:TypeId)
  (ho:o.op=.call { callee:=.builtin .append,args:=#[s,x],argTypes:=#[t,t] })
  (base:Nat)(e:TypeId)(i:TypeInfo)(z:Value)(size bytes:Nat)(ht:P.underlying t=some (.slice e))(hi:P.info? e=some i)(hz:i.zero=some z)
  (hsize:i.size=size)(hby:i.bytes=bytes)(hzs:z.cells.size=size)(hsz:0<size)
  (v:Value)(n:Nat)(xs:List Value)(hs:a.eval s=v)(hown:w.ownsRow base e size v n xs)
  (B:Nat)(A:Option Addr)(m c:Nat)(news:List Value)(hx:a.eval x=.slice A m c)(hr:jQ w B size A m news)(h1:∀ u∈news,u.oneCell'=true)
  (h63:n+m≤maxLen)(hbytes:(n+m)*bytes≤140737488355328)(hbase:base≤w.heap.size)
  (h:∀ v' w',w'.ownsRow base e size v' (n+m) (xs++news)→w.grownBy w' v.ownBlock→(v'.ownBlock=v.ownBlock∨v'.ownBlock=some w.heap.size)→K (a.put o.dst v') w'):
  if Region.wanted o (yielded ops a.tmps)=true then Oper.wp P o a w K Q else E:=by
 have hw:Region.wanted o (yielded ops a.tmps)=true:=by simp[Region.wanted,hgd]
 rw[if_pos hw]
 exact pq w s x t ho base e i z size bytes ht hi hz hsize hby hzs hsz v n xs hs hown B A m c news hx hr h1 h63 hbytes hbase h
end
end
section
open Go.RowKit
def rg (r:Option (LU×LU×LU)):Int:=if r.isSome then 0 else 3
theorem To {a b:Nat}(h:a=b):((a:Int)==(b:Int))=true:=by simp[h]
theorem Tp {a b:Nat}(h:¬ a=b):((a:Int)==(b:Int))=false:=by simp;omega
structure aF (wr:World) (b:Nat) (vs:List Value):Prop where
 sz:b<wr.heap.size
 cell:∀ (j:Nat)(u:Value),vs[j]?=some u→wr.cell? ⟨b,j,none⟩=some u
 free:∀ j:Nat,j<vs.length→wr.frozen? ⟨b,j,none⟩=false
theorem aF.new (w:World)(vs:List Value)(t:TypeId):aF (w.alloc (.cells vs.toArray t)) w.heap.size vs:=
 ⟨by simp,fun j u hu=>by simp[hu],fun j _=>by simp⟩
theorem aF.below {wr w':World}{b:Nat}{vs:List Value}(h:aF wr b vs)(hb:Below wr.heap.size wr w'):aF w' b vs:=
 ⟨Nat.lt_of_lt_of_le h.sz hb.size,fun j u hu=>(hb.cell (p:=⟨b,j,none⟩) h.sz).trans (h.cell j u hu),fun j hj=>(hb.frozen (p:=⟨b,j,none⟩) h.sz).trans (h.free j hj)⟩
theorem aF.belowN {wr w':World}{b n:Nat}{vs:List Value}(h:aF wr b vs)(hb:Below n wr w')(hn:b<n):aF w' b vs:=
 ⟨Nat.lt_of_lt_of_le h.sz hb.size,fun j u hu=>(hb.cell (p:=⟨b,j,none⟩) hn).trans (h.cell j u hu),fun j hj=>(hb.frozen (p:=⟨b,j,none⟩) hn).trans (h.free j hj)⟩
theorem aF.alloc {wr:World}{b:Nat}{vs:List Value}(h:aF wr b vs)(o:Obj):aF (wr.alloc o) b vs:=h.below (bR.alloc lr o)
theorem aF.drewN {wr:World}{b:Nat}{vs:List Value}(h:aF wr b vs)(k:Nat):aF (wr.drewN k) b vs:=h.below ⟨rfl,rfl,rfl,lr,fun _ _=>rfl⟩
theorem aF.drew {wr:World}{b:Nat}{vs:List Value}(h:aF wr b vs):aF wr.drew b vs:=h.below ⟨rfl,rfl,rfl,lr,fun _ _=>rfl⟩
theorem aF.set {wr:World}{b:Nat}{vs:List Value}(h:aF wr b vs)(j:Nat)(hj:j<vs.length)(v:Value):aF (wr.setCell ⟨b,j,none⟩ v) b (vs.set j v):=by
 refine⟨by simpa using h.sz,fun i u hu=>?_,fun i hi=>by rw[World.frozen?_setCell];exact h.free i (by simpa using hi)⟩
 by_cases e:j=i
 ·subst e
  rw[List.getElem?_set_self hj] at hu
  injection hu with hu;subst hu
  exact World.cell?_setCell_same' _ _ _ (by rw[h.cell j vs[j] (gG hj)];rfl)
 ·rw[List.getElem?_set_ne e] at hu
  rw[World.cell?_setCell_other (h:=by intro h;injection h with _ h;exact e h)]
  exact h.cell i u hu
theorem aF.far {wr:World}{b c j:Nat}{vs:List Value}(h:aF wr b vs)(hne:c≠b)(v:Value):aF (wr.setCell ⟨c,j,none⟩ v) b vs:=
 ⟨by simpa using h.sz,fun i u hu=>by rw[World.cell?_setCell_other (h:=by intro h;injection h with h;exact hne h)];exact h.cell i u hu,fun i hi=>by rw[World.frozen?_setCell];exact h.free i hi⟩
theorem aw {n c j:Nat}{a wr:World}(h:Below n a wr)(hc:n≤c)(v:Value):Below n a (wr.setCell ⟨c,j,none⟩ v):=h.setCell (p:=⟨c,j,none⟩) hc v
end
section
open Go.RowKit Go.Extern.Stop Go.Stop Go.Extern
theorem Db (t:Addr)(w:World):(ReflectliteValue.unpack (.iface 204 (.pointer (some t)))).run Tryz.prog w
  = .ok (.agg #[.pointer (some ⟨13,204,none⟩),.pointer (some ⟨w.heap.size,0,none⟩),.int .u64 150]) (w.alloc (.cells #[.pointer (some t)] 204)):=by kernel_rfl
theorem Fr (a c:Int)(w:World):(ReflectliteValue.unpack (.iface 200 (.agg #[.int .i64 a,.int .i64 c]))).run Tryz.prog w
  = .ok (.agg #[.pointer (some ⟨13,200,none⟩),.pointer (some ⟨w.heap.size,0,none⟩),.int .u64 153]) (w.alloc (.cells #[.int .i64 a,.int .i64 c] 200)):=by kernel_rfl
theorem LS (a : Addr) (w : World) : (ReflectliteValue.methodAny (ReflectliteValue.valueError "reflectlite.Value.Type" 0) (fun t _ _ _ => ReflectliteType.toType t) #[.agg #[.pointer (some ⟨13, 204, none⟩), .pointer (some a), .int .u64 150]]).run Tryz.prog w
  = .ok (.iface 272 (.agg #[.pointer (some ⟨13,204,none⟩)])) w:=by kernel_rfl
theorem pz (n : Nat) (h : Value) (w : World) : (Go.method (n + 1) 272 (.agg #[h]) "Kind").run Tryz.prog w = .ok (257, h) w := by kernel_rfl
theorem pB (n : Nat) (h : Value) (w : World) : (Go.method (n + 1) 272 (.agg #[h]) "Elem").run Tryz.prog w = .ok (270, .agg #[h]) w := by kernel_rfl
theorem jU (n : Nat) (h : Value) (w : World) : (Go.method (n + 1) 272 (.agg #[h]) "Implements").run Tryz.prog w = .ok (271, .agg #[h]) w := by kernel_rfl
theorem jf (n : Nat) (h : Value) (w : World) : (Go.method (n + 1) 272 (.agg #[h]) "AssignableTo").run Tryz.prog w = .ok (268, .agg #[h]) w := by kernel_rfl
theorem LV (w:World):((ReflectliteType.abiMethod fun t=>(fun a:Nat=>Value.int IntKind.u8 (a:Int)) <$> Rtype.kind t) #[.pointer (some ⟨13,204,none⟩)]).run Tryz.prog w=.ok (.int .u8 22) w:=by kernel_rfl
theorem OM (w:World):((ReflectliteType.abiMethod fun t=>(fun a:Nat=>Value.int IntKind.u8 (a:Int)) <$> Rtype.kind t) #[.pointer (some ⟨13,200,none⟩)]).run Tryz.prog w=.ok (.int .u8 25) w:=by kernel_rfl
theorem LX (w:World):(ReflectliteType.method ReflectliteType.elem #[.agg #[.pointer (some ⟨13,204,none⟩)]]).run Tryz.prog w=.ok (.iface 272 (.agg #[.pointer (some ⟨13,200,none⟩)])) w:=by kernel_rfl
theorem wK (w : World) : (ReflectliteType.relation "Implements" ReflectliteType.implements_ #[.agg #[.pointer (some ⟨13, 200, none⟩)], .iface 272 (.agg #[.pointer (some ⟨13, 157, none⟩)])]).run Tryz.prog w = .ok (.bool true) w := by kernel_rfl
theorem wL (v:Value)(w:World):(ReflectliteType.typeOf #[.iface 200 v]).run Tryz.prog w=.ok (.iface 272 (.agg #[.pointer (some ⟨13,200,none⟩)])) w:=by kernel_rfl
theorem wM (w : World) : (ReflectliteType.relation "AssignableTo" ReflectliteType.assignableTo #[.agg #[.pointer (some ⟨13, 200, none⟩)], .iface 272 (.agg #[.pointer (some ⟨13, 200, none⟩)])]).run Tryz.prog w = .ok (.bool true) w := by kernel_rfl
theorem UM (z:Sem Value)(f:TypeId→Addr→Nat→Nat→Sem Value)(v:Value):
  ReflectliteValue.method z f #[v]=(do match ←ReflectliteValue.parts v with | none=>z | some (t,a,fl)=>f t a fl (fl % 32)):=rfl
theorem wN (a:Addr)(w:World):(ReflectliteValue.parts (.agg #[.pointer (some ⟨13,204,none⟩),.pointer (some a),.int .u64 150])).run Tryz.prog w=.ok (some (204,a,150)) w:=by kernel_rfl
theorem Io (a p:Addr)(W:World)(ha:W.cell? a=some (.pointer (some p))):
  (ReflectliteValue.method (ReflectliteValue.valueError "reflectlite.Value.IsNil" 0) ReflectliteValue.isNil #[.agg #[.pointer (some ⟨13, 204, none⟩), .pointer (some a), .int .u64 150]]).run Tryz.prog W = .ok (.bool false) W := by
 rw[UM]
 simp only[Sem.run_bind,wN,Result.andThen]
 simp[ReflectliteValue.isNil,loadVar,isAgg,underlying,Tryz.underlying204,ha,Result.andThen]
theorem Fs (w:World):(Rtype.elem? 204).run Tryz.prog w=.ok (some 200) w:=by kernel_rfl
theorem Ty (p:Addr)(w:World):(ReflectliteValue.mk 200 p ReflectliteValue.flagAddr).run Tryz.prog w=.ok (.agg #[.pointer (some ⟨13,200,none⟩),.pointer (some p),.int .u64 409]) w:=by kernel_rfl
theorem Ip (a p:Addr)(W:World)(ha:W.cell? a=some (.pointer (some p))):
  (ReflectliteValue.method (ReflectliteValue.valueError "reflectlite.Value.Elem" 0) ReflectliteValue.elem #[.agg #[.pointer (some ⟨13, 204, none⟩), .pointer (some a), .int .u64 150]]).run Tryz.prog W
   = .ok (.agg #[.pointer (some ⟨13,200,none⟩),.pointer (some p),.int .u64 409]) W:=by
 rw[UM]
 simp only[Sem.run_bind,wN,Result.andThen]
 simp[ReflectliteValue.elem,loadVar,isAgg,underlying,Tryz.underlying204,ha,Result.andThen,Fs,Ty]
theorem UU (v x:Value):ReflectliteValue.set #[v,x]=(do
  let(some (dst,a,fl),some (src,b,_)):=(←ReflectliteValue.parts v,←ReflectliteValue.parts x)
   | unsupported (.noEntry "extern/(internal/reflectlite.Value).Set.zeroValue")
  if fl / ReflectliteValue.flagAddr % 2 == 0 then unsupported (.noEntry "extern/(internal/reflectlite.Value).Set.unaddressable")
  let val ←loadVar src b
  if ←Rtype.directlyAssignable dst src then storeVar dst a val
  else if ←Rtype.implements dst src then
   if (←Rtype.kind src)==20 then
    match val with
    | .nilIface => unsupported (.noEntry "extern/reflectlite: a nil value of one interface type handed on as a value of another")
    | _=>storeVar dst a val
   else storeVar dst a (.iface src val)
  else panicString ("reflectlite.Set: value of type " ++ (← Rtype.spelt src) ++ " is not assignable to type " ++ (← Rtype.spelt dst))
  pure (.tuple #[])):=rfl
theorem Iq (a:Addr)(w:World):(ReflectliteValue.parts (.agg #[.pointer (some ⟨13,200,none⟩),.pointer (some a),.int .u64 409])).run Tryz.prog w=.ok (some (200,a,409)) w:=by kernel_rfl
theorem LY (a:Addr)(w:World):(ReflectliteValue.parts (.agg #[.pointer (some ⟨13,200,none⟩),.pointer (some a),.int .u64 153])).run Tryz.prog w=.ok (some (200,a,153)) w:=by kernel_rfl
theorem Ir (w:World):(Rtype.directlyAssignable 200 200).run Tryz.prog w=.ok true w:=by kernel_rfl
theorem Rx (b c:Nat)(x y:Int)(o1 o2:Value)(W:World)(hb0:W.cell? ⟨c,0,none⟩=some (.int .i64 x))(hb1:W.cell? ⟨c,1,none⟩=some (.int .i64 y))(h0:W.cell? ⟨b,0,none⟩=some o1)(h1:W.cell? ⟨b,1,none⟩=some o2)(f0:W.frozen? ⟨b,0,none⟩=false)(f1:W.frozen? ⟨b,1,none⟩=false):
  (ReflectliteValue.set #[.agg #[.pointer (some ⟨13,200,none⟩),.pointer (some ⟨b,0,none⟩),.int .u64 409],.agg #[.pointer (some ⟨13,200,none⟩),.pointer (some ⟨c,0,none⟩),.int .u64 153]]).run Tryz.prog W
   = .ok (.tuple #[]) ((W.setCell ⟨b,0,none⟩ (.int .i64 x)).setCell ⟨b,1,none⟩ (.int .i64 y)):=by
 have hl:(loadCells ⟨c,0,none⟩ 2).run Tryz.prog W=.ok #[.int .i64 x,.int .i64 y] W:=by
  refine run_loadCells_list _ ⟨c,0,none⟩ [.int .i64 x,.int .i64 y] (fun j v hj=>?_)
  match j,hj with
  | 0,hj=>simp at hj;subst hj;simpa [Addr.add] using hb0
  | 1,hj=>simp at hj;subst hj;simpa [Addr.add] using hb1
  | j+2,hj=>simp at hj
 have h1':(W.setCell ⟨b,0,none⟩ (.int .i64 x)).cell? ⟨b,1,none⟩=some o2:=by
  rw[World.cell?_setCell_other (h:=by intro h;injection h with _ h;omega)];exact h1
 rw[UU]
 simp only[Sem.run_bind,Iq,LY,Result.andThen]
 simp[ReflectliteValue.flagAddr,loadVar,isAgg,underlying,Tryz.underlying200,hl,Result.andThen,Ir,storeVar,Value.cells,storeCells,Addr.add]
 rw[run_store Tryz.prog W ⟨b,0,none⟩ _ _ (by rfl)]
 simp only[h0,f0,Bool.false_eq_true,if_false]
 rw[run_store Tryz.prog _ ⟨b,1,none⟩ _ _ (by rfl)]
 simp[h1',f1]
def NY (w:World):Prop:=Gl w∧w.cell? ⟨4,0,none⟩=some (.iface 272 (.agg #[.pointer (some ⟨13,157,none⟩)]))
theorem NY.below {w w':World}(h:NY w)(hb:Below w.heap.size w w'):NY w':=⟨h.1.below hb,(hb.cell (World.block_lt_of_cell? _ _ h.2)).trans h.2⟩
end
section
open Go.RowKit Go.Maps
def kl (s:BA):Lit:=.string s.data.toList
theorem IE {W:World}{base:Nat}{e t:TypeId}{size n b:Nat}{v:Value}{xs:List Value}{cs:Array Value}{fr:Nat×Nat}(h:W.ownsRow base e size v n xs)(hb:W.heap[b]?=some (.cells cs t fr))(hne:t≠e):some b≠v.ownBlock:=by
 intro he
 rcases h.2 with⟨rfl,_⟩ | ⟨g,cap,cur,rfl,_,hg,_⟩
 ·simp[Value.ownBlock] at he
 ·simp[Value.ownBlock] at he
  subst he
  rw[hb] at hg
  injection hg with hg
  injection hg with _ h2 _
  exact hne h2
end
section
open Go.RowKit
def TF (w:World)(B b:Nat)(l:LU):Prop:=Lib.IsBuilder 172 5 B b (Lib.byteCells l) w
theorem FE:(Tryz.prog.info? 172).map (·.size)=some 2:=by kernel_rfl
theorem wX (b:Nat)(w:World)(h0:w.cell? ⟨b,0,none⟩=some (.pointer (some ⟨b,0,none⟩))):
  Calls Tryz.prog 142 #[.pointer (some ⟨b,0,none⟩)] w fun e w'=>e=.returned (.tuple #[])∧w'=w:=by
 obtain⟨j,hj,_⟩:=Option.map_eq_some_iff.1 FE
 go_enter Tryz.func142,Tryz.ntmps142
 go_wp2_with fail
 rw[Lib.run_neq_ptr_same w _ Tryz.underlying169 hj]
 go_wp2_with fail
 go_end0
 exact⟨rfl,rfl⟩
theorem uU (b:Nat)(w:World)(h0:w.cell? ⟨b,0,none⟩=some (.pointer none))(hsh:w.shape? b=some (172,2))(hfz:w.frozen? ⟨b,0,none⟩=false):
  Calls Tryz.prog 142 #[.pointer (some ⟨b,0,none⟩)] w fun e w'=>e=.returned (.tuple #[])∧w'=w.setCell ⟨b,0,none⟩ (.pointer (some ⟨b,0,none⟩)):=by
 obtain⟨j,hj,hjs⟩:=Option.map_eq_some_iff.1 FE
 go_enter Tryz.func142,Tryz.ntmps142
 go_wp2_with fail
 rw[Lib.run_to_unsafe w ⟨b,0,none⟩ Tryz.underlying169 Tryz.underlying237 hj (by rw[hjs];decide) hsh (Nat.zero_lt_succ 1)]
 simp only[Result.andThen]
 rw[Oper.upon_value]
 go_wp2_with fail
 rw[run_callFunc_extern Tryz.func188 (by kernel_rfl) (by kernel_rfl) (by kernel_rfl) (e:=Extern.AbiNoEscape.same) (by kernel_rfl)]
 rw[Lib.run_noEscape]
 simp only[Result.andThen]
 rw[Oper.upon_value]
 go_wp2_with fail
 rw[Lib.run_from_unsafe w ⟨b,0,none⟩ Tryz.underlying237 Tryz.underlying169 hj hsh (by kernel_rfl)]
 simp only[Result.andThen]
 rw[Oper.upon_value]
 go_wp2_with fail
 go_end0
 exact⟨rfl,rfl⟩
theorem zM (B b:Nat)(bs:List Value)(w:World)(h:Lib.IsBuilder 172 5 B b bs w):
  Calls Tryz.prog 142 #[.pointer (some ⟨b,0,none⟩)] w fun e w'=>e=.returned (.tuple #[])∧(Lib.BuilderAt 172 5 B b (.pointer (some ⟨b,0,none⟩)) bs w'∧Below B w w'):=by
 rcases h with h | h
 ·refine(uU b w h.cell0 h.shape h.frozen0).mono ?_
  rintro e w' ⟨rfl,rfl⟩
  exact⟨rfl,h.used _,(Below.refl B w).setCell (p:=⟨b,0,none⟩) h.1 _⟩
 ·refine(wX b w h.cell0).mono ?_
  rintro e w' ⟨rfl,rfl⟩
  exact⟨rfl,h,Below.refl B _⟩
theorem OU:(Tryz.prog.info? 5).map (fun i=>(i.zero,i.size,i.bytes))=some (some (.int .u8 0),1,1):=by kernel_rfl
theorem wY (B b:Nat)(l:LU)(s:BA)(w:World)(h:TF w B b l)(hlen:l.length+s.size≤1000000)(hBw:B≤w.heap.size):
  Calls Tryz.prog 102 #[.pointer (some ⟨b,0,none⟩),.string s] w fun e w'=>e=.returned (.tuple #[.int .i64 s.size,.nilIface])∧TF w' B b (l++bl s)∧Below B w w':=by
 obtain⟨i0,hi,hz0,hz1,hz2⟩:=info_parts OU
 have hbl:(Lib.byteCells l).length=l.length:=Lib.byteCells_length l
 go_enter Tryz.func102,Tryz.ntmps102
 go_wp2_with fail
 refine(zM B b _ _ h).mono ?_
 rintro e w1 ⟨rfl,h1,hb1⟩
 obtain⟨hB,v,hbk,hown,hne⟩:=h1
 have c0:w1.cell? ⟨b,0,none⟩=some (.pointer (some ⟨b,0,none⟩)):=by rw[Lib.cell_of_heap hbk];rfl
 have c1:w1.cell? ⟨b,1,none⟩=some v:=by rw[Lib.cell_of_heap hbk];rfl
 go_wp2_with (at_builtin;refine Lib.wpList_append_own_string _ rfl _ _ 170 9 rfl B 5 i0 Tryz.underlying170 Tryz.underlying9 hi hz0 hz1 hz2 _ _ _ rfl hown s rfl ?c3 ?c4 ?c5 ?_)
 case c3=>unfold maxLen;omega
 case c4=>omega
 case c5=>have:=hb1.size;omega
 intro v' w2 hown' hgrow _
 have hlt:b<w1.heap.size:=by
  rcases Nat.lt_or_ge b w1.heap.size with h' | h'
  ·exact h'
  ·simp[Array.getElem?_eq_none h'] at hbk
 have hb2:w2.heap[b]?=some (.cells #[.pointer (some ⟨b,0,none⟩),v] 172 (0,0)):=by
  rw[hgrow.block b hlt (fun e=>hne e.symm)]
  exact hbk
 have d0:w2.cell? ⟨b,0,none⟩=some (.pointer (some ⟨b,0,none⟩)):=by rw[Lib.cell_of_heap hb2];rfl
 have d1:w2.cell? ⟨b,1,none⟩=some v:=by rw[Lib.cell_of_heap hb2];rfl
 have f1:w2.frozen? ⟨b,1,none⟩=false:=Lib.frozen_of_heap hb2 1
 obtain⟨ao,n',cap,rfl⟩:∃ ao n' cap,v'=.slice ao n' cap:=by
  rcases hown'.2 with⟨hv,_⟩ | ⟨g,cap,cur,hv,_⟩
  ·exact⟨_,_,_,hv⟩
  ·exact⟨_,_,_,hv⟩
 go_wp2_with fail
 go_ret2
 have hcat:Lib.byteCells l++Lib.strCells s=Lib.byteCells (l++bl s):=by
  unfold Lib.byteCells Lib.strCells bl;simp
 refine⟨rfl,.inr ?_,?_⟩
 ·rw[←hcat]
  exact Lib.BuilderAt.put (T:=172) (e:=5) hB hb2 (bs':=Lib.byteCells l++Lib.strCells s) (by simpa [Lib.strCells_length,hbl] using hown') (by decide)
 ·exact(hb1.grown hgrow (by have:=hb1.size;omega) (fun k hk=>(hown.lt k hk).1)).setCell (p:=⟨b,1,none⟩) hB _
theorem gt {W:World}{b1 b2:Nat}{e1 e2:TypeId}{s1 s2 n1 n2:Nat}{v1 v2:Value}{x1 x2:List Value}(h1:W.ownsRow b1 e1 s1 v1 n1 x1)(h2:W.ownsRow b2 e2 s2 v2 n2 x2)(hne:e1≠e2):v1.ownBlock=none∨v1.ownBlock≠v2.ownBlock:=by
 rcases h1.2 with⟨rfl,_⟩ | ⟨g,cap,cur,rfl,_,hg,_⟩
 ·exact .inl rfl
 ·exact .inr (IE h2 hg hne)
end
section
open Go.ChangeShapes Go.WideShapes Go.ChangeAt Go.RowKit
theorem own:ownKnob Tryz.prog.godebug=none:=by kernel_rfl
def nW:List (String×DataW Unit):=Rows.dmapBackRow.laid
def kq : List (String × DataW Unit) := [("math/bits.deBruijn32tab", Rows.laid_math_bits_deBruijn32tab), ("math/bits.deBruijn64tab", Rows.laid_math_bits_deBruijn64tab), ("internal/strconv.uint64pow10", Rows.laid_internal_strconv_uint64pow10), ("unicode/utf8.acceptRanges", Rows.laid_unicode_utf8_acceptRanges), ("drayage/version.words", Rows.laid_drayage_version_words), ("drayage/adep.signs", Rows.laid_drayage_adep_signs), ("drayage/ddep.signs", Rows.laid_drayage_ddep_signs), ("drayage/rdep.signs", Rows.laid_drayage_rdep_signs), ("drayage/rdep.words", Rows.laid_drayage_rdep_words), ("drayage/vmap.pres", Rows.laid_drayage_vmap_pres), ("unicode/utf8.first", Rows.laid_unicode_utf8_first)]
theorem DU {W:World}(h:laidMetH Tryz.prog nW W):laidMet Tryz.prog kq W:=h.1
noncomputable def eH (os:Os):World:=
 ({ World.holding Tryz.prog os ⟨#[],#[],[]⟩ with heap:=(World.holding Tryz.prog os ⟨#[],#[],[]⟩).heap.modify 4 fun
   | .cells _ t frozen=>.cells #[.iface 272 (.agg #[typeHandle Tryz.prog 157])] t frozen
   | o=>o }:World).layVars Tryz.prog kq
theorem mN (os:Os):(eH os).os=os:=World.layVars_os _ _ _
theorem QB (os:Os)(args:Array Value):laidMet Tryz.prog kq ((eH os).forCall (fun _ _=>0) ⟨#[],args,[]⟩).memory:=by
 have h:laidMet Tryz.prog kq (eH os):=by
  refine laidMet_layVars (w0:={ World.holding Tryz.prog os ⟨#[],#[],[]⟩ with heap:=(World.holding Tryz.prog os ⟨#[],#[],[]⟩).heap.modify 4 fun
   | .cells _ t frozen=>.cells #[.iface 272 (.agg #[typeHandle Tryz.prog 157])] t frozen
   | o=>o }) (kq.map (·.1)) [] ?_ ?_ ?_ ?_
  ·rfl
  ·kernel_rfl
  ·kernel_rfl
  ·exact LaidIn.none
 exact h.of_heap (by simp[World.memory,World.forCall,Input.heap])
theorem yQ (os:Os)(args:Array Value):laidMetH Tryz.prog nW ((eH os).forCall (fun _ _=>0) ⟨#[],args,[]⟩).memory:=
 laidMetH_of_parts (QB os args) (by kernel_rfl)
theorem yR (os:Os)(args:Array Value):((eH os).forCall (fun _ _=>0) ⟨#[],args,[]⟩).variablesRefB Tryz.prog=true:=by kernel_rfl
theorem yS (os:Os)(args:Array Value):(((eH os).forCall (fun _ _=>0) ⟨#[],args,[]⟩).heap.toList.drop Tryz.prog.globals.size).take ((begin Tryz.prog (fun _ _=>0) default).world.heap.size-Tryz.prog.globals.size) =
   (begin Tryz.prog (fun _ _=>0) default).world.heap.toList.drop Tryz.prog.globals.size:=by kernel_rfl
end
section
open Go.RowKit Go.WideShapes Go.ChangeShapes
section
variable {H : Type} {enc : TypeId × Value → H} {P : Program}
theorem lJ {f:Func}{s:ChangeSpec}{apart fresh handsOn again:Bool}{W W':World}{args:Array Value}{v:Value}{ds gs:List (DataW H)}{before pa pv:List MemPlace}
  (hW:DataW.Whole enc P f.params.toList s.vars apart W args.toList ds gs before)
  (hres:∀ (b:Nat)(sp:Nat→Bool)(hd:Bool),DataW.TrodAll enc P W' b sp hd f.resultTypes.toList (v.resultList f.resultTypes.size) (s.fn H (ds++gs)).results [])
  (hargs:∀ sp:Nat→Bool,(∀ p∈before,sp p.block=true)→DataW.TrodAll enc P W' 0 sp true f.params.toList args.toList (s.fn H (ds++gs)).args pa)
  (hvars:∀ sp:Nat→Bool,(∀ p∈before,sp p.block=true)→DataW.TrodVars enc P W' sp s.vars (s.fn H (ds++gs)).vars pv)
  (hps:before=pa++pv)(hb:Below W.heap.size W W')
  (hok:∀ (j:Nat)(t:TypeId)(r:Value),f.resultTypes[j]?=some t→(v.resultList f.resultTypes.size)[j]?=some r→Value.okWide P W' .any 0 t r):
  s.post enc P f apart fresh handsOn again W args v W':=by
 have hlt:∀ p∈before,p.block<W.heap.size:=fun p hp=>hW.lt p hp
 have hold:∀ p∈before,(fun b=>decide (b<W.heap.size)) p.block=true:=fun p hp=>by simpa using hlt p hp
 refine⟨ds,gs,before,[],pa,pv,hW,hres _ _ _,hargs _ hold,hvars _ hold,World.keptBut_mono (fun p hp=>⟨hp,?_⟩) (hb.frame (·∈before)),fun _=>?_⟩
 ·rw[hps,List.mem_append] at hp
  exact Or.inr hp
 ·obtain⟨_,_,_,_,_,hz,hn⟩:=hW
  refine⟨hok,_,_,([]++pa)++pv,⟨[]++pa,pv,trodAll_append (hargs _ (fun _ _=>rfl)) (hres _ _ _),hvars _ (fun _ _=>rfl),rfl,?_,?_⟩,?_⟩
  ·intro b off hp
   have hin:MemPlace.cell b off∈before:=by rw[hps];simpa using hp
   rw[hb.frozen (hlt _ hin)]
   exact hz b off hin
  ·intro ha
   have:=hn ha
   rw[hps] at this
   simpa using this
  ·intro p hp _
   rw[hps]
   simpa using hp
end
end
end Go.Proofs.YtkjdbpjglobbjaaGreatDoor
