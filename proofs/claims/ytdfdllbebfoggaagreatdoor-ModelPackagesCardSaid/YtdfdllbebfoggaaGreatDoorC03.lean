/- A part of the proof that ModelPackages holds. No condition. -/
import Derived.Test.YtdfdllbebfoggaaGreatDoorCards
import Derived.Test.YtdfdllbebfoggaaGreatDoorTie
import Derived.Deep.DeepHandedRow
import Derived.Deep.DeepWitnessRowRef
import Derived.LaidHandle
import Derived.Lay
import Derived.Lib.LaidTab
import Derived.OpenShut
import Derived.Test.YtdfdllbebfoggaaGreatDoorC00
set_option maxRecDepth 100000
set_option maxHeartbeats 20000000
set_option linter.unusedVariables false
set_option linter.unusedSimpArgs false
namespace Go.Proofs.YtdfdllbebfoggaaGreatDoor
section
open Go.RowKit
def Reads (w:World)(B size:Nat)(A:Option Addr)(n:Nat)(xs:List Value):Prop:=
 xs.length=n*size∧(0<n→∃ ad,A=some ad∧ad.block<B∧∀ j u,xs[j]?=some u→w.cell? (ad.add j)=some u)
section
variable {w w' : World} {B B' size n : Nat} {A : Option Addr} {xs : List Value}
end
section
variable {P : Program} (w : World)
theorem run_append_of_nil (base:Nat)(t ty e:TypeId)(i:TypeInfo)(size:Nat)(ht:P.underlying t=some (.slice e))(hi:P.info? e=some i)
  (v:Value)(n:Nat)(xs:List Value)(hown:w.ownsRow base e size v n xs)(c:Nat):(Builtin.append_ #[t,t] ty #[v,.slice none 0 c]).run P w=.ok v w:=by
 rcases hown.2 with⟨rfl,rfl⟩ | ⟨g,cap,cur,rfl,_,_,hnc,_⟩
 ·simp[Builtin.append_,run_underlying ht,sizeOf,typeInfo,hi,Builtin.lenOf,Builtin.firstCells]
 ·simp[Builtin.append_,run_underlying ht,sizeOf,typeInfo,hi,Builtin.lenOf,Builtin.firstCells,hnc,storeCells]
theorem run_append_any (base:Nat)(t ty e:TypeId)(i:TypeInfo)(z:Value)(size bytes:Nat)(ht:P.underlying t=some (.slice e))(hi:P.info? e=some i)(hz:i.zero=some z)
  (hsize:i.size=size)(hby:i.bytes=bytes)(hzs:z.cells.size=size)(hsz:0<size)
  (v:Value)(n:Nat)(xs:List Value)(hown:w.ownsRow base e size v n xs)
  (B:Nat)(A:Option Addr)(m c:Nat)(news:List Value)(hr:Reads w B size A m news)(h1:∀ u∈news,u.oneCell'=true)
  (h63:n+m≤maxLen)(hbytes:(n+m)*bytes≤140737488355328)(hbase:base≤w.heap.size):
  ∃ v' w',(Builtin.append_ #[t,t] ty #[v,.slice A m c]).run P w=.ok v' w'∧w'.ownsRow base e size v' (n+m) (xs++news)∧w.grownBy w' v.ownBlock ∧
   (v'.ownBlock=v.ownBlock∨v'.ownBlock=some w.heap.size):=by
 rcases A with _ | ad
 ·have hm:m=0:=by
   rcases Nat.eq_zero_or_pos m with h0 | h0
   ·exact h0
   ·obtain⟨ad,h,_⟩:=hr.2 h0
    cases h
  subst hm
  have hn:news=[]:=List.eq_nil_of_length_eq_zero (by simpa using hr.1)
  subst hn
  exact⟨v,w,run_append_of_nil w base t ty e i size ht hi v n xs hown c,by simpa using hown,World.grownBy.refl w _,.inl rfl⟩
 ·have hcells:∀ j u,news[j]?=some u→w.cell? (ad.add j)=some u:=by
   intro j u hu
   rcases Nat.eq_zero_or_pos m with h0 | h0
   ·subst h0
    have hn:news=[]:=List.eq_nil_of_length_eq_zero (by simpa using hr.1)
    subst hn
    simp at hu
   ·obtain⟨ad',h,_,hc⟩:=hr.2 h0
    injection h with h
    subst h
    exact hc j u hu
  obtain⟨v',w',hrun,h2,h3,_,h5⟩:=run_append_own_at (P:=P) w base t ty e i z size bytes ht hi hz hsize hby hzs hsz v n xs hown ad m c news hr.1 hcells h1 h63 hbytes hbase
  exact⟨v',w',hrun,h2,h3,h5⟩
theorem wp_append_any {o:Oper}{a:Act}{K:Act→World→Prop}{Q:Exit→Act→World→Prop}(s x:Operand)(t:TypeId)
  (ho:o.op=.call { callee:=.builtin .append,args:=#[s,x],argTypes:=#[t,t] })
  (base:Nat)(e:TypeId)(i:TypeInfo)(z:Value)(size bytes:Nat)(ht:P.underlying t=some (.slice e))(hi:P.info? e=some i)(hz:i.zero=some z)
  (hsize:i.size=size)(hby:i.bytes=bytes)(hzs:z.cells.size=size)(hsz:0<size)
  (v:Value)(n:Nat)(xs:List Value)(hs:a.eval s=v)(hown:w.ownsRow base e size v n xs)
  (B:Nat)(A:Option Addr)(m c:Nat)(news:List Value)(hx:a.eval x=.slice A m c)(hr:Reads w B size A m news)(h1:∀ u∈news,u.oneCell'=true)
  (h63:n+m≤maxLen)(hbytes:(n+m)*bytes≤140737488355328)(hbase:base≤w.heap.size)
  (h:∀ v' w',w'.ownsRow base e size v' (n+m) (xs++news)→w.grownBy w' v.ownBlock→(v'.ownBlock=v.ownBlock∨v'.ownBlock=some w.heap.size)→K (a.put o.dst v') w'):o.wp P a w K Q:=by
 obtain⟨v',w',hrun,h2,h3,h4⟩:=run_append_any (P:=P) w base t o.type e i z size bytes ht hi hz hsize hby hzs hsz v n xs hown B A m c news hr h1 h63 hbytes hbase
 unfold Oper.wp execOp
 simp only[ho,resolve,invoke,builtin,Sem.run_bind,Sem.run_pure,Result.andThen_ok,List.map_toArray,List.map_cons,List.map_nil,hs,hx,hrun]
 exact h v' w' h2 h3 h4
theorem wpList_append_any {ops:Array Oper}{rest:List Oper}{o:Oper}{a:Act}{Q:Exit→Act→World→Prop}(hgd:o.guard=none)(s x:Operand)(t:TypeId)
  (ho:o.op=.call { callee:=.builtin .append,args:=#[s,x],argTypes:=#[t,t] })
  (base:Nat)(e:TypeId)(i:TypeInfo)(z:Value)(size bytes:Nat)(ht:P.underlying t=some (.slice e))(hi:P.info? e=some i)(hz:i.zero=some z)
  (hsize:i.size=size)(hby:i.bytes=bytes)(hzs:z.cells.size=size)(hsz:0<size)
  (v:Value)(n:Nat)(xs:List Value)(hs:a.eval s=v)(hown:w.ownsRow base e size v n xs)
  (B:Nat)(A:Option Addr)(m c:Nat)(news:List Value)(hx:a.eval x=.slice A m c)(hr:Reads w B size A m news)(h1:∀ u∈news,u.oneCell'=true)
  (h63:n+m≤maxLen)(hbytes:(n+m)*bytes≤140737488355328)(hbase:base≤w.heap.size)
  (h:∀ v' w',w'.ownsRow base e size v' (n+m) (xs++news)→w.grownBy w' v.ownBlock→(v'.ownBlock=v.ownBlock∨v'.ownBlock=some w.heap.size)→wpList P ops Q rest (a.put o.dst v') w'):wpList P ops Q (o::rest) a w:=
 wpList_plain hgd fun _ hK=>wp_append_any w s x t ho base e i z size bytes ht hi hz hsize hby hzs hsz v n xs hs hown B A m c news hx hr h1 h63 hbytes hbase fun v' w' h2 h3 h4=>hK _ _ (h v' w' h2 h3 h4)
theorem step_append_any {ops:Array Oper}{o:Oper}{a:Act}{K:Act→World→Prop}{Q:Exit→Act→World→Prop}{E:Prop}(hgd:o.guard=none)(s x:Operand)(t:TypeId)
  (ho:o.op=.call { callee:=.builtin .append,args:=#[s,x],argTypes:=#[t,t] })
  (base:Nat)(e:TypeId)(i:TypeInfo)(z:Value)(size bytes:Nat)(ht:P.underlying t=some (.slice e))(hi:P.info? e=some i)(hz:i.zero=some z)
  (hsize:i.size=size)(hby:i.bytes=bytes)(hzs:z.cells.size=size)(hsz:0<size)
  (v:Value)(n:Nat)(xs:List Value)(hs:a.eval s=v)(hown:w.ownsRow base e size v n xs)
  (B:Nat)(A:Option Addr)(m c:Nat)(news:List Value)(hx:a.eval x=.slice A m c)(hr:Reads w B size A m news)(h1:∀ u∈news,u.oneCell'=true)
  (h63:n+m≤maxLen)(hbytes:(n+m)*bytes≤140737488355328)(hbase:base≤w.heap.size)
  (h:∀ v' w',w'.ownsRow base e size v' (n+m) (xs++news)→w.grownBy w' v.ownBlock→(v'.ownBlock=v.ownBlock∨v'.ownBlock=some w.heap.size)→K (a.put o.dst v') w'):
  if Region.wanted o (yielded ops a.tmps)=true then Oper.wp P o a w K Q else E:=by
 have hw:Region.wanted o (yielded ops a.tmps)=true:=by simp[Region.wanted,hgd]
 rw[if_pos hw]
 exact wp_append_any w s x t ho base e i z size bytes ht hi hz hsize hby hzs hsz v n xs hs hown B A m c news hx hr h1 h63 hbytes hbase h
end
end
section
open Go.RowKit
structure Blk (wr:World) (b:Nat) (vs:List Value):Prop where
 sz:b<wr.heap.size
 cell:∀ (j:Nat)(u:Value),vs[j]?=some u→wr.cell? ⟨b,j,none⟩=some u
 free:∀ j:Nat,j<vs.length→wr.frozen? ⟨b,j,none⟩=false
theorem Blk.new (w:World)(vs:List Value)(t:TypeId):Blk (w.alloc (.cells vs.toArray t)) w.heap.size vs:=
 ⟨by simp,fun j u hu=>by simp[hu],fun j _=>by simp⟩
theorem Blk.below {wr w':World}{b:Nat}{vs:List Value}(h:Blk wr b vs)(hb:Below wr.heap.size wr w'):Blk w' b vs:=
 ⟨Nat.lt_of_lt_of_le h.sz hb.size,fun j u hu=>(hb.cell (p:=⟨b,j,none⟩) h.sz).trans (h.cell j u hu),fun j hj=>(hb.frozen (p:=⟨b,j,none⟩) h.sz).trans (h.free j hj)⟩
theorem Blk.belowN {wr w':World}{b n:Nat}{vs:List Value}(h:Blk wr b vs)(hb:Below n wr w')(hn:b<n):Blk w' b vs:=
 ⟨Nat.lt_of_lt_of_le h.sz hb.size,fun j u hu=>(hb.cell (p:=⟨b,j,none⟩) hn).trans (h.cell j u hu),fun j hj=>(hb.frozen (p:=⟨b,j,none⟩) hn).trans (h.free j hj)⟩
theorem Blk.alloc {wr:World}{b:Nat}{vs:List Value}(h:Blk wr b vs)(o:Obj):Blk (wr.alloc o) b vs:=h.below ((Below.refl _ _).alloc lr o)
theorem Blk.drewN {wr:World}{b:Nat}{vs:List Value}(h:Blk wr b vs)(k:Nat):Blk (wr.drewN k) b vs:=h.below ⟨rfl,rfl,rfl,lr,fun _ _=>rfl⟩
theorem Blk.drew {wr:World}{b:Nat}{vs:List Value}(h:Blk wr b vs):Blk wr.drew b vs:=h.below ⟨rfl,rfl,rfl,lr,fun _ _=>rfl⟩
theorem Blk.set {wr:World}{b:Nat}{vs:List Value}(h:Blk wr b vs)(j:Nat)(hj:j<vs.length)(v:Value):Blk (wr.setCell ⟨b,j,none⟩ v) b (vs.set j v):=by
 refine⟨by simpa using h.sz,fun i u hu=>?_,fun i hi=>by rw[World.frozen?_setCell];exact h.free i (by simpa using hi)⟩
 by_cases e:j=i
 ·subst e
  rw[List.getElem?_set_self hj] at hu
  injection hu with hu;subst hu
  exact World.cell?_setCell_same' _ _ _ (by rw[h.cell j vs[j] (List.getElem?_eq_getElem hj)];rfl)
 ·rw[List.getElem?_set_ne e] at hu
  rw[World.cell?_setCell_other (h:=by intro h;injection h with _ h;exact e h)]
  exact h.cell i u hu
theorem Blk.far {wr:World}{b c j:Nat}{vs:List Value}(h:Blk wr b vs)(hne:c≠b)(v:Value):Blk (wr.setCell ⟨c,j,none⟩ v) b vs:=
 ⟨by simpa using h.sz,fun i u hu=>by rw[World.cell?_setCell_other (h:=by intro h;injection h with h;exact hne h)];exact h.cell i u hu,fun i hi=>by rw[World.frozen?_setCell];exact h.free i hi⟩
theorem below_set {n c j:Nat}{a wr:World}(h:Below n a wr)(hc:n≤c)(v:Value):Below n a (wr.setCell ⟨c,j,none⟩ v):=h.setCell (p:=⟨c,j,none⟩) hc v
end
section
open Go.ChangeShapes Go.WideShapes Go.ChangeAt Go.RowKit
theorem own:ownKnob Tryz.prog.godebug=none:=by kernel_rfl
def laidAllL:List (String×DataW Unit):=Rows.modelWordsRow.laid
def laidDataL : List (String × DataW Unit) := [("unicode/utf8.acceptRanges", Rows.laid_unicode_utf8_acceptRanges), ("drayage/version.words", Rows.laid_drayage_version_words), ("drayage/adep.signs", Rows.laid_drayage_adep_signs), ("drayage/ddep.signs", Rows.laid_drayage_ddep_signs), ("drayage/rdep.signs", Rows.laid_drayage_rdep_signs), ("drayage/rdep.words", Rows.laid_drayage_rdep_words), ("unicode/utf8.first", Rows.laid_unicode_utf8_first)]
theorem data_of_laid {W:World}(h:laidMetH Tryz.prog laidAllL W):laidMet Tryz.prog laidDataL W:=h.1
noncomputable def laidWorld (os:Os):World:=
 ({ World.holding Tryz.prog os ⟨#[],#[],[]⟩ with heap:=(World.holding Tryz.prog os ⟨#[],#[],[]⟩).heap.modify 5 fun
   | .cells _ t frozen=>.cells #[.iface 301 (.agg #[typeHandle Tryz.prog 174])] t frozen
   | o=>o }:World).layVars Tryz.prog laidDataL
theorem laidWorld_os (os:Os):(laidWorld os).os=os:=World.layVars_os _ _ _
theorem wit_data (os:Os)(args:Array Value):laidMet Tryz.prog laidDataL ((laidWorld os).forCall (fun _ _=>0) ⟨#[],args,[]⟩).memory:=by
 have h:laidMet Tryz.prog laidDataL (laidWorld os):=by
  refine laidMet_layVars (w0:={ World.holding Tryz.prog os ⟨#[],#[],[]⟩ with heap:=(World.holding Tryz.prog os ⟨#[],#[],[]⟩).heap.modify 5 fun
   | .cells _ t frozen=>.cells #[.iface 301 (.agg #[typeHandle Tryz.prog 174])] t frozen
   | o=>o }) (laidDataL.map (·.1)) [] ?_ ?_ ?_ ?_
  ·rfl
  ·kernel_rfl
  ·kernel_rfl
  ·exact LaidIn.none
 exact h.of_heap (by simp[World.memory,World.forCall,Input.heap])
theorem wit_laid (os:Os)(args:Array Value):laidMetH Tryz.prog laidAllL ((laidWorld os).forCall (fun _ _=>0) ⟨#[],args,[]⟩).memory:=
 laidMetH_of_parts (wit_data os args) (by kernel_rfl)
theorem wit_vars (os:Os)(args:Array Value):((laidWorld os).forCall (fun _ _=>0) ⟨#[],args,[]⟩).variablesRefB Tryz.prog=true:=by kernel_rfl
theorem wit_rest (os:Os)(args:Array Value):(((laidWorld os).forCall (fun _ _=>0) ⟨#[],args,[]⟩).heap.toList.drop Tryz.prog.globals.size).take ((begin Tryz.prog (fun _ _=>0) default).world.heap.size-Tryz.prog.globals.size) =
   (begin Tryz.prog (fun _ _=>0) default).world.heap.toList.drop Tryz.prog.globals.size:=by kernel_rfl
end
end Go.Proofs.YtdfdllbebfoggaaGreatDoor
