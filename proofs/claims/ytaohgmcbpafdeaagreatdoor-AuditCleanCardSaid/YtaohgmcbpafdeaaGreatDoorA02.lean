/- A part of the proof. -/
import Derived.Test.YtaohgmcbpafdeaaGreatDoorProg
import Derived.Deep.AppendLies
import Derived.Deep.Draws
import Derived.Laws.OwnMore
import Derived.Maps.AppendAt
import Derived.OwnWalk
import Derived.RegionTactic
import Derived.WalkKit
import Derived.Test.YtaohgmcbpafdeaaGreatDoorA00
set_option maxRecDepth 100000
set_option maxHeartbeats 20000000
set_option linter.unusedVariables false
set_option linter.unusedSimpArgs false
namespace Go.Proofs.YtaohgmcbpafdeaaGreatDoor
section
open Go.RowKit
def Rd (w:World)(sz:Nat)(A:OA)(n:Nat)(xs:LV):Prop:=
 xs.length=n*sz∧(0<n→∃ b off,A=some ⟨b,off,none⟩∧∀ (j:Nat)(u:Value),xs[j]?=some u→w.cell? ⟨b,off+j,none⟩=some u)
theorem Rd.nil (w:World)(sz:Nat)(A:OA):Rd w sz A 0 []:=⟨by simp,fun h=>absurd h (by omega)⟩
theorem Rd.keep {w w':World}{sz n:Nat}{A:OA}{xs:LV}(h:Rd w sz A n xs)(hk:∀ p:Addr,p.block<w.heap.size→w'.cell? p=w.cell? p):Rd w' sz A n xs:=
 ⟨h.1,fun hn=>by
  obtain⟨b,off,e,hc⟩:=h.2 hn
  exact⟨b,off,e,fun j u hu=>(hk _ (World.block_lt_of_cell? _ _ (hc j u hu))).trans (hc j u hu)⟩⟩
theorem Rd.below {w w':World}{sz n:Nat}{A:OA}{xs:LV}(h:Rd w sz A n xs)(hb:Below w.heap.size w w'):Rd w' sz A n xs:=h.keep fun _ hp=>hb.cell hp
theorem Rd.drew {w:World}{sz n:Nat}{A:OA}{xs:LV}(h:Rd w sz A n xs):Rd w.drew sz A n xs:=h
structure et where
 nm:BA
 op:Int
 ver:BA
structure av where
 path:BA
 kind:Int
 mode:Int
 owner:BA
 group:BA
 link:BA
 sum:BA
 conf:Bool
structure bd where
 phase:Int
 body:BA
structure bJ where
 nm:BA
 ver:BA
 ar:BA
 sm:BA
 na:OA
 nc:Nat
 needs:List BA
 ba:OA
 bc:Nat
 bars:List BA
 ga:OA
 gc:Nat
 gives:List et
 fa:OA
 fc:Nat
 files:List av
 sa:OA
 sc:Nat
 scripts:List bd
def et.cells (x:et):LV:=[.string x.nm,.int .i64 x.op,.string x.ver]
def av.cells (x:av):LV:=[.string x.path,.int .i64 x.kind,.int .i64 x.mode,.string x.owner,.string x.group,.string x.link,.string x.sum,.bool x.conf]
def bd.cells (x:bd):LV:=[.int .i64 x.phase,.string x.body]
def az (l:List BA):LV:=l.map .string
def bJ.cells (p:bJ):LV:=[.string p.nm,.string p.ver,.string p.ar,.string p.sm,.slice p.na p.needs.length p.nc,.slice p.ba p.bars.length p.bc,.slice p.ga p.gives.length p.gc,.slice p.fa p.files.length p.fc,.slice p.sa p.scripts.length p.sc]
def bJ.val (p:bJ):Value:=.agg #[.string p.nm,.string p.ver,.string p.ar,.string p.sm,.slice p.na p.needs.length p.nc,.slice p.ba p.bars.length p.bc,.slice p.ga p.gives.length p.gc,.slice p.fa p.files.length p.fc,.slice p.sa p.scripts.length p.sc]
structure bJ.ok (p:bJ) (w:World):Prop where
 needs:Rd w 1 p.na p.needs.length (az p.needs)
 bars:Rd w 1 p.ba p.bars.length (az p.bars)
 gives:Rd w 3 p.ga p.gives.length (p.gives.flatMap et.cells)
 files:Rd w 8 p.fa p.files.length (p.files.flatMap av.cells)
 scripts:Rd w 2 p.sa p.scripts.length (p.scripts.flatMap bd.cells)
theorem bJ.ok.below {p:bJ}{w w':World}(h:p.ok w)(hb:Below w.heap.size w w'):p.ok w':=⟨h.1.below hb,h.2.below hb,h.3.below hb,h.4.below hb,h.5.below hb⟩
structure bJ.fits (p:bJ):Prop where
 nm:p.nm.size≤9223372036854775807
 ver:p.ver.size≤9223372036854775807
 ar:p.ar.size≤9223372036854775807
 sm:p.sm.size≤9223372036854775807
 needs:p.needs.length≤9223372036854775807
 bars:p.bars.length≤9223372036854775807
 gives:p.gives.length≤9223372036854775807
 files:p.files.length≤9223372036854775807
 scripts:p.scripts.length≤9223372036854775807
 needs_:∀ s∈p.needs,s.size≤9223372036854775807
 bars_:∀ s∈p.bars,s.size≤9223372036854775807
 gives_:∀ x∈p.gives,x.nm.size≤9223372036854775807∧x.ver.size≤9223372036854775807∧(Lit.int .i64 x.op).wf=true
 files_:∀ x∈p.files,x.path.size≤9223372036854775807∧x.owner.size≤9223372036854775807∧x.group.size≤9223372036854775807∧x.link.size≤9223372036854775807∧x.sum.size≤9223372036854775807∧(Lit.int .i64 x.kind).wf=true∧(Lit.int .i64 x.mode).wf=true
 scripts_:∀ x∈p.scripts,x.body.size≤9223372036854775807∧(Lit.int .i64 x.phase).wf=true
structure oO (w:World) (A:OA) (l:List bJ):Prop where
 row:Rd w 9 A l.length (l.flatMap bJ.cells)
 all:∀ p∈l,p.ok w
theorem oO.below {w w':World}{A:OA}{l:List bJ}(h:oO w A l)(hb:Below w.heap.size w w'):oO w' A l:=⟨h.1.below hb,fun p hp=>(h.2 p hp).below hb⟩
theorem nA {α:Type}{f:α→LV}{sz:Nat}(hf:∀ x,(f x).length=sz):∀ (l:List α)(i j:Nat)(x:α),l[i]?=some x→j<sz→(l.flatMap f)[i*sz+j]?=(f x)[j]?
 | [],i,j,x,h,_=>by simp at h
 | a::r,0,j,x,h,hj=>by
  simp at h;subst h
  rw[List.flatMap_cons,List.getElem?_append_left (by rw[hf];omega)];simp
 | a::r,i+1,j,x,h,hj=>by
  have h':r[i]?=some x:=by simpa using h
  rw[List.flatMap_cons,List.getElem?_append_right (by rw[hf,Nat.add_mul];omega),hf,←nA hf r i j x h' hj]
  congr 1;rw[Nat.add_mul];omega
theorem eu {α:Type}{f:α→LV}{sz:Nat}(hf:∀ x,(f x).length=sz):∀ (l:List α),(l.flatMap f).length=l.length*sz
 | []=>by simp
 | a::r=>by rw[List.flatMap_cons,List.length_append,hf,eu hf r,List.length_cons,Nat.add_mul];omega
theorem yo (x:et):x.cells.length=3:=rfl
theorem iD (x:av):x.cells.length=8:=rfl
theorem jY (x:bd):x.cells.length=2:=rfl
theorem oP (x:bJ):x.cells.length=9:=rfl
theorem Rd.elem {α:Type}{f:α→LV}{sz:Nat}(hf:∀ x,(f x).length=sz){w:World}{A:OA}{l:List α}(h:Rd w sz A l.length (l.flatMap f))(i:Nat)(x:α)(hi:l[i]?=some x):
  ∃ b off,A=some ⟨b,off,none⟩∧∀ (j:Nat)(u:Value),(f x)[j]?=some u→w.cell? ⟨b,off+i*sz+j,none⟩=some u:=by
 have hlt:i<l.length:=(gS hi).1
 obtain⟨b,off,e,hc⟩:=h.2 (by omega)
 refine⟨b,off,e,fun j u hu=>?_⟩
 have hj:j<sz:=by rw[←hf x];exact(gS hu).1
 rw[Nat.add_assoc]
 exact hc _ u (by rw[nA hf l i j x hi hj,hu])
theorem Rd.str {w:World}{A:OA}{l:List BA}(h:Rd w 1 A l.length (az l))(i:Nat)(x:BA)(hi:l[i]?=some x):
  ∃ b off,A=some ⟨b,off,none⟩∧w.cell? ⟨b,off+i,none⟩=some (.string x):=by
 have hlt:i<l.length:=(gS hi).1
 obtain⟨b,off,e,hc⟩:=h.2 (by omega)
 exact⟨b,off,e,hc i _ (by simp[az,hi])⟩
end
section
open Go.RowKit
def iF (w:World)(B size:Nat)(A:OA)(n:Nat)(xs:LV):Prop:=
 xs.length=n*size∧(0<n→∃ ad,A=some ad∧ad.block<B∧∀ j u,xs[j]?=some u→w.cell? (ad.add j)=some u)
section
variable {w w' : World} {B B' size n : Nat} {A : OA} {xs : LV}
end
section
variable {P : Program} (w : World)
theorem nG (base:Nat)(t ty e:TypeId)(i:TypeInfo)(size:Nat)(ht:P.underlying t=some (.slice e))(hi:P.info? e=some i)
  (v:Value)(n:Nat)(xs:LV)(hown:w.ownsRow base e size v n xs)(c:Nat):(Builtin.append_ #[t,t] ty #[v,.slice none 0 c]).run P w=.ok v w:=by
 rcases hown.2 with⟨rfl,rfl⟩ | ⟨g,cap,cur,rfl,_,_,hnc,_⟩
 ·simp[Builtin.append_,run_underlying ht,sizeOf,typeInfo,hi,Builtin.lenOf,Builtin.firstCells]
 ·simp[Builtin.append_,run_underlying ht,sizeOf,typeInfo,hi,Builtin.lenOf,Builtin.firstCells,hnc,storeCells]
theorem ry (base:Nat)(t ty e:TypeId)(i:TypeInfo)(z:Value)(size bytes:Nat)(ht:P.underlying t=some (.slice e))(hi:P.info? e=some i)(hz:i.zero=some z)
  (hsize:i.size=size)(hby:i.bytes=bytes)(hzs:z.cells.size=size)(hsz:0<size)
  (v:Value)(n:Nat)(xs:LV)(hown:w.ownsRow base e size v n xs)
  (B:Nat)(A:OA)(m c:Nat)(news:LV)(hr:iF w B size A m news)(h1:∀ u∈news,u.oneCell'=true)
  (h63:n+m≤maxLen)(hbytes:(n+m)*bytes≤140737488355328)(hbase:base≤w.heap.size):
  ∃ v' w',(Builtin.append_ #[t,t] ty #[v,.slice A m c]).run P w=.ok v' w'∧w'.ownsRow base e size v' (n+m) (xs++news)∧w.grownBy w' v.ownBlock ∧
   (v'.ownBlock=v.ownBlock∨v'.ownBlock=some w.heap.size):=by
 rcases A with _ | ad
 ·have hm:m=0:=by
   rcases Nat.eq_zero_or_pos m with h0 | h0
   ·exact h0
   ·obtain⟨ad,h,_⟩:=hr.2 h0
    cases h
  subst hm
  have hn:news=[]:=List.eq_nil_of_length_eq_zero (by simpa using hr.1)
  subst hn
  exact⟨v,w,nG w base t ty e i size ht hi v n xs hown c,by simpa using hown,World.grownBy.refl w _,.inl rfl⟩
 ·have hcells:∀ j u,news[j]?=some u→w.cell? (ad.add j)=some u:=by
   intro j u hu
   rcases Nat.eq_zero_or_pos m with h0 | h0
   ·subst h0
    have hn:news=[]:=List.eq_nil_of_length_eq_zero (by simpa using hr.1)
    subst hn
    simp at hu
   ·obtain⟨ad',h,_,hc⟩:=hr.2 h0
    injection h with h
    subst h
    exact hc j u hu
  obtain⟨v',w',hrun,h2,h3,_,h5⟩:=run_append_own_at (P:=P) w base t ty e i z size bytes ht hi hz hsize hby hzs hsz v n xs hown ad m c news hr.1 hcells h1 h63 hbytes hbase
  exact⟨v',w',hrun,h2,h3,h5⟩
theorem mh {o:Oper}{a:Act}{K:Act→World→Prop}{Q:Exit→Act→World→Prop}(s x:Operand)(t:TypeId)
  (ho:o.op=.call { callee:=.builtin .append,args:=#[s,x],argTypes:=#[t,t] })
  (base:Nat)(e:TypeId)(i:TypeInfo)(z:Value)(size bytes:Nat)(ht:P.underlying t=some (.slice e))(hi:P.info? e=some i)(hz:i.zero=some z)
  (hsize:i.size=size)(hby:i.bytes=bytes)(hzs:z.cells.size=size)(hsz:0<size)
  (v:Value)(n:Nat)(xs:LV)(hs:a.eval s=v)(hown:w.ownsRow base e size v n xs)
  (B:Nat)(A:OA)(m c:Nat)(news:LV)(hx:a.eval x=.slice A m c)(hr:iF w B size A m news)(h1:∀ u∈news,u.oneCell'=true)
  (h63:n+m≤maxLen)(hbytes:(n+m)*bytes≤140737488355328)(hbase:base≤w.heap.size)
  (h:∀ v' w',w'.ownsRow base e size v' (n+m) (xs++news)→w.grownBy w' v.ownBlock→(v'.ownBlock=v.ownBlock∨v'.ownBlock=some w.heap.size)→K (a.put o.dst v') w'):o.wp P a w K Q:=by
 obtain⟨v',w',hrun,h2,h3,h4⟩:=ry (P:=P) w base t o.type e i z size bytes ht hi hz hsize hby hzs hsz v n xs hown B A m c news hr h1 h63 hbytes hbase
 unfold Oper.wp execOp
 simp only[ho,resolve,invoke,builtin,Sem.run_bind,Sem.run_pure,Result.andThen_ok,List.map_toArray,List.map_cons,List.map_nil,hs,hx,hrun]
 exact h v' w' h2 h3 h4
theorem aD {ops:Array Oper}{rest:List Oper}{o:Oper}{a:Act}{Q:Exit→Act→World→Prop}(hgd:o.guard=none)(s x:Operand)(t:TypeId)
  (ho:o.op=.call { callee:=.builtin .append,args:=#[s,x],argTypes:=#[t,t] })
  (base:Nat)(e:TypeId)(i:TypeInfo)(z:Value)(size bytes:Nat)(ht:P.underlying t=some (.slice e))(hi:P.info? e=some i)(hz:i.zero=some z)
  (hsize:i.size=size)(hby:i.bytes=bytes)(hzs:z.cells.size=size)(hsz:0<size)
  (v:Value)(n:Nat)(xs:LV)(hs:a.eval s=v)(hown:w.ownsRow base e size v n xs)
  (B:Nat)(A:OA)(m c:Nat)(news:LV)(hx:a.eval x=.slice A m c)(hr:iF w B size A m news)(h1:∀ u∈news,u.oneCell'=true)
  (h63:n+m≤maxLen)(hbytes:(n+m)*bytes≤140737488355328)(hbase:base≤w.heap.size)
  (h:∀ v' w',w'.ownsRow base e size v' (n+m) (xs++news)→w.grownBy w' v.ownBlock→(v'.ownBlock=v.ownBlock∨v'.ownBlock=some w.heap.size)→wpList P ops Q rest (a.put o.dst v') w'):wpList P ops Q (o::rest) a w:=
 wpList_plain hgd fun _ hK=>mh w s x t ho base e i z size bytes ht hi hz hsize hby hzs hsz v n xs hs hown B A m c news hx hr h1 h63 hbytes hbase fun v' w' h2 h3 h4=>hK _ _ (h v' w' h2 h3 h4)
theorem cn {ops:Array Oper}{o:Oper}{a:Act}{K:Act→World→Prop}{Q:Exit→Act→World→Prop}{E:Prop}(hgd:o.guard=none)(s x:Operand)(t:TypeId)
  (ho:o.op=.call { callee:=.builtin .append,args:=#[s,x],argTypes:=#[t,t] })
  (base:Nat)(e:TypeId)(i:TypeInfo)(z:Value)(size bytes:Nat)(ht:P.underlying t=some (.slice e))(hi:P.info? e=some i)(hz:i.zero=some z)
  (hsize:i.size=size)(hby:i.bytes=bytes)(hzs:z.cells.size=size)(hsz:0<size)
  (v:Value)(n:Nat)(xs:LV)(hs:a.eval s=v)(hown:w.ownsRow base e size v n xs)
  (B:Nat)(A:OA)(m c:Nat)(news:LV)(hx:a.eval x=.slice A m c)(hr:iF w B size A m news)(h1:∀ u∈news,u.oneCell'=true)
  (h63:n+m≤maxLen)(hbytes:(n+m)*bytes≤140737488355328)(hbase:base≤w.heap.size)
  (h:∀ v' w',w'.ownsRow base e size v' (n+m) (xs++news)→w.grownBy w' v.ownBlock→(v'.ownBlock=v.ownBlock∨v'.ownBlock=some w.heap.size)→K (a.put o.dst v') w'):
  if Region.wanted o (yielded ops a.tmps)=true then Oper.wp P o a w K Q else E:=by
 have hw:Region.wanted o (yielded ops a.tmps)=true:=by simp[Region.wanted,hgd]
 rw[if_pos hw]
 exact mh w s x t ho base e i z size bytes ht hi hz hsize hby hzs hsz v n xs hs hown B A m c news hx hr h1 h63 hbytes hbase h
end
end
end Go.Proofs.YtaohgmcbpafdeaaGreatDoor
