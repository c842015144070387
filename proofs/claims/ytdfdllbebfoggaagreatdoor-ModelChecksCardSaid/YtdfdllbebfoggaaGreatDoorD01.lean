/- A part of the proof that ModelChecks holds. No condition. -/
import Derived.BigRegion
import Derived.Maps.Own
import Derived.Maps.OwnOps
import Derived.Maps.OwnSet
import Derived.Sort.KeysCollected
import Derived.StillTailTactics
import Derived.StringKeys
import Derived.Test.YtdfdllbebfoggaaGreatDoorD00
set_option maxRecDepth 100000
set_option maxHeartbeats 20000000
set_option linter.unusedVariables false
set_option linter.unusedSimpArgs false
namespace Go.Proofs.YtdfdllbebfoggaaGreatDoor
theorem all_take_snoc {p:UInt8→Bool}(l:LU)(k:Nat)(h:k<l.length):(l.take (k+1)).all p=((l.take k).all p&&p (l[k])):=by
 rw[tS h,List.all_append];simp only[List.all_cons,List.all_nil,Bool.and_true]
theorem all_false_at {p:UInt8→Bool}(l:LU)(k:Nat)(h:k<l.length)(hp:p (l[k])=false):l.all p=false:=by
 rw[List.all_eq_false];exact⟨l[k],List.getElem_mem h,by simp[hp]⟩
def bl (s:BA):LU:=s.data.toList
theorem bl_length (s:BA):(bl s).length=s.size:=by simp[bl]
theorem bl_get (s:BA)(k:Nat)(h:k<s.size):(bl s)[k]'(by rw[bl_length];exact h)=s[k]:=by simp[bl];rfl
theorem bl_get? (s:BA)(k:Nat)(h:k<s.size):(bl s)[k]?=some s[k]:=by
 rw[gG (by rw[bl_length];exact h),bl_get s k h]
theorem bl_extract (s:BA)(a b:Nat):bl (s.extract a b)=((bl s).drop a).take (b-a):=by
 simp[bl,ByteArray.data_extract]
theorem bl_inj {s t:BA}(h:bl s=bl t):s=t:=by
 cases s;cases t;simp only[bl] at h;congr;exact Array.toList_inj.1 h
theorem bl_append (s t:BA):bl (s++t)=bl s++bl t:=by simp[bl]
theorem bl_mk (l:LU):bl ⟨l.toArray⟩=l:=by simp[bl]
theorem bl_take_all {p:UInt8→Bool}(s:BA)(k:Nat)(h:k<s.size):((bl s).take (k+1)).all p=(((bl s).take k).all p&&p (s[k])):=by
 rw[all_take_snoc _ _ (by rw[bl_length];exact h),bl_get s k h]
theorem bl_all_false {p:UInt8→Bool}(s:BA)(k:Nat)(h:k<s.size)(hp:p (s[k])=false):(bl s).all p=false:=
 all_false_at _ k (by rw[bl_length];exact h) (by rw[bl_get s k h];exact hp)
theorem bl_take_size (s:BA):(bl s).take s.size=bl s:=by rw[←bl_length,List.take_length]
theorem bl_take_ge (s:BA)(k:Nat)(h:s.size≤k):(bl s).take k=bl s:=tL (by rw[bl_length];exact h)
section
open Go.RowKit
def Rd (w:World)(sz:Nat)(A:Option Addr)(n:Nat)(xs:List Value):Prop:=
 xs.length=n*sz∧(0<n→∃ b off,A=some ⟨b,off,none⟩∧∀ (j:Nat)(u:Value),xs[j]?=some u→w.cell? ⟨b,off+j,none⟩=some u)
theorem Rd.nil (w:World)(sz:Nat)(A:Option Addr):Rd w sz A 0 []:=⟨by simp,fun h=>absurd h (by omega)⟩
theorem Rd.keep {w w':World}{sz n:Nat}{A:Option Addr}{xs:List Value}(h:Rd w sz A n xs)(hk:∀ p:Addr,p.block<w.heap.size→w'.cell? p=w.cell? p):Rd w' sz A n xs:=
 ⟨h.1,fun hn=>by
  obtain⟨b,off,e,hc⟩:=h.2 hn
  exact⟨b,off,e,fun j u hu=>(hk _ (World.block_lt_of_cell? _ _ (hc j u hu))).trans (hc j u hu)⟩⟩
theorem Rd.below {w w':World}{sz n:Nat}{A:Option Addr}{xs:List Value}(h:Rd w sz A n xs)(hb:Below w.heap.size w w'):Rd w' sz A n xs:=h.keep fun _ hp=>hb.cell hp
structure AtomM where
 nm:BA
 op:Int
 ver:BA
structure FileM where
 path:BA
 kind:Int
 mode:Int
 owner:BA
 group:BA
 link:BA
 sum:BA
 conf:Bool
structure ScriptM where
 phase:Int
 body:BA
structure PkL where
 nm:BA
 ver:BA
 ar:BA
 sm:BA
 na:Option Addr
 nc:Nat
 needs:List BA
 ba:Option Addr
 bc:Nat
 bars:List BA
 ga:Option Addr
 gc:Nat
 gives:List AtomM
 fa:Option Addr
 fc:Nat
 files:List FileM
 sa:Option Addr
 sc:Nat
 scripts:List ScriptM
def AtomM.cells (x:AtomM):List Value:=[.string x.nm,.int .i64 x.op,.string x.ver]
def FileM.cells (x:FileM):List Value:=[.string x.path,.int .i64 x.kind,.int .i64 x.mode,.string x.owner,.string x.group,.string x.link,.string x.sum,.bool x.conf]
def ScriptM.cells (x:ScriptM):List Value:=[.int .i64 x.phase,.string x.body]
def strCells (l:List BA):List Value:=l.map .string
def PkL.cells (p:PkL):List Value:=[.string p.nm,.string p.ver,.string p.ar,.string p.sm,.slice p.na p.needs.length p.nc,.slice p.ba p.bars.length p.bc,.slice p.ga p.gives.length p.gc,.slice p.fa p.files.length p.fc,.slice p.sa p.scripts.length p.sc]
def PkL.val (p:PkL):Value:=.agg #[.string p.nm,.string p.ver,.string p.ar,.string p.sm,.slice p.na p.needs.length p.nc,.slice p.ba p.bars.length p.bc,.slice p.ga p.gives.length p.gc,.slice p.fa p.files.length p.fc,.slice p.sa p.scripts.length p.sc]
structure PkL.ok (p:PkL) (w:World):Prop where
 needs:Rd w 1 p.na p.needs.length (strCells p.needs)
 bars:Rd w 1 p.ba p.bars.length (strCells p.bars)
 gives:Rd w 3 p.ga p.gives.length (p.gives.flatMap AtomM.cells)
 files:Rd w 8 p.fa p.files.length (p.files.flatMap FileM.cells)
 scripts:Rd w 2 p.sa p.scripts.length (p.scripts.flatMap ScriptM.cells)
theorem PkL.ok.below {p:PkL}{w w':World}(h:p.ok w)(hb:Below w.heap.size w w'):p.ok w':=⟨h.1.below hb,h.2.below hb,h.3.below hb,h.4.below hb,h.5.below hb⟩
structure PkL.fits (p:PkL):Prop where
 nm:p.nm.size≤9223372036854775807
 ver:p.ver.size≤9223372036854775807
 ar:p.ar.size≤9223372036854775807
 sm:p.sm.size≤9223372036854775807
 needs:p.needs.length≤9223372036854775807
 bars:p.bars.length≤9223372036854775807
 gives:p.gives.length≤9223372036854775807
 files:p.files.length≤9223372036854775807
 scripts:p.scripts.length≤9223372036854775807
 needs_:∀ s∈p.needs,s.size≤9223372036854775807
 bars_:∀ s∈p.bars,s.size≤9223372036854775807
 gives_:∀ x∈p.gives,x.nm.size≤9223372036854775807∧x.ver.size≤9223372036854775807∧(Lit.int .i64 x.op).wf=true
 files_:∀ x∈p.files,x.path.size≤9223372036854775807∧x.owner.size≤9223372036854775807∧x.group.size≤9223372036854775807∧x.link.size≤9223372036854775807∧x.sum.size≤9223372036854775807∧(Lit.int .i64 x.kind).wf=true∧(Lit.int .i64 x.mode).wf=true
 scripts_:∀ x∈p.scripts,x.body.size≤9223372036854775807∧(Lit.int .i64 x.phase).wf=true
theorem flat_at {α:Type}{f:α→List Value}{sz:Nat}(hf:∀ x,(f x).length=sz):∀ (l:List α)(i j:Nat)(x:α),l[i]?=some x→j<sz→(l.flatMap f)[i*sz+j]?=(f x)[j]?
 | [],i,j,x,h,_=>by simp at h
 | a::r,0,j,x,h,hj=>by
  simp at h;subst h
  rw[List.flatMap_cons,List.getElem?_append_left (by rw[hf];omega)];simp
 | a::r,i+1,j,x,h,hj=>by
  have h':r[i]?=some x:=by simpa using h
  rw[List.flatMap_cons,List.getElem?_append_right (by rw[hf,Nat.add_mul];omega),hf,←flat_at hf r i j x h' hj]
  congr 1;rw[Nat.add_mul];omega
theorem flat_length {α:Type}{f:α→List Value}{sz:Nat}(hf:∀ x,(f x).length=sz):∀ (l:List α),(l.flatMap f).length=l.length*sz
 | []=>by simp
 | a::r=>by rw[List.flatMap_cons,List.length_append,hf,flat_length hf r,List.length_cons,Nat.add_mul];omega
theorem atom_len (x:AtomM):x.cells.length=3:=rfl
theorem file_len (x:FileM):x.cells.length=8:=rfl
theorem script_len (x:ScriptM):x.cells.length=2:=rfl
theorem pk_len (x:PkL):x.cells.length=9:=rfl
theorem Rd.elem {α:Type}{f:α→List Value}{sz:Nat}(hf:∀ x,(f x).length=sz){w:World}{A:Option Addr}{l:List α}(h:Rd w sz A l.length (l.flatMap f))(i:Nat)(x:α)(hi:l[i]?=some x):
  ∃ b off,A=some ⟨b,off,none⟩∧∀ (j:Nat)(u:Value),(f x)[j]?=some u→w.cell? ⟨b,off+i*sz+j,none⟩=some u:=by
 have hlt:i<l.length:=(gS hi).1
 obtain⟨b,off,e,hc⟩:=h.2 (by omega)
 refine⟨b,off,e,fun j u hu=>?_⟩
 have hj:j<sz:=by rw[←hf x];exact(gS hu).1
 rw[Nat.add_assoc]
 exact hc _ u (by rw[flat_at hf l i j x hi hj,hu])
theorem Rd.str {w:World}{A:Option Addr}{l:List BA}(h:Rd w 1 A l.length (strCells l))(i:Nat)(x:BA)(hi:l[i]?=some x):
  ∃ b off,A=some ⟨b,off,none⟩∧w.cell? ⟨b,off+i,none⟩=some (.string x):=by
 have hlt:i<l.length:=(gS hi).1
 obtain⟨b,off,e,hc⟩:=h.2 (by omega)
 exact⟨b,off,e,hc i _ (by simp[strCells,hi])⟩
end
section
open Go.RowKit
def Reads (w:World)(B size:Nat)(A:Option Addr)(n:Nat)(xs:List Value):Prop:=
 xs.length=n*size∧(0<n→∃ ad,A=some ad∧ad.block<B∧∀ j u,xs[j]?=some u→w.cell? (ad.add j)=some u)
section
variable {w w' : World} {B B' size n : Nat} {A : Option Addr} {xs : List Value}
end
section
variable {P : Program} (w : World)
theorem run_append_of_nil (base:Nat)(t ty e:TypeId)(i:TypeInfo)(size:Nat)(ht:P.underlying t=some (.slice e))(hi:P.info? e=some i)
  (v:Value)(n:Nat)(xs:List Value)(hown:w.ownsRow base e size v n xs)(c:Nat):(Builtin.append_ #[t,t] ty #[v,.slice none 0 c]).run P w=.ok v w:=by
 rcases hown.2 with⟨rfl,rfl⟩ | ⟨g,cap,cur,rfl,_,_,hnc,_⟩
 ·simp[Builtin.append_,run_underlying ht,sizeOf,typeInfo,hi,Builtin.lenOf,Builtin.firstCells]
 ·simp[Builtin.append_,run_underlying ht,sizeOf,typeInfo,hi,Builtin.lenOf,Builtin.firstCells,hnc,storeCells]
theorem run_append_any (base:Nat)(t ty e:TypeId)(i:TypeInfo)(z:Value)(size bytes:Nat)(ht:P.underlying t=some (.slice e))(hi:P.info? e=some i)(hz:i.zero=some z)
  (hsize:i.size=size)(hby:i.bytes=bytes)(hzs:z.cells.size=size)(hsz:0<size)
  (v:Value)(n:Nat)(xs:List Value)(hown:w.ownsRow base e size v n xs)
  (B:Nat)(A:Option Addr)(m c:Nat)(news:List Value)(hr:Reads w B size A m news)(h1:∀ u∈news,u.oneCell'=true)
  (h63:n+m≤maxLen)(hbytes:(n+m)*bytes≤140737488355328)(hbase:base≤w.heap.size):
  ∃ v' w',(Builtin.append_ #[t,t] ty #[v,.slice A m c]).run P w=.ok v' w'∧w'.ownsRow base e size v' (n+m) (xs++news)∧w.grownBy w' v.ownBlock ∧
   (v'.ownBlock=v.ownBlock∨v'.ownBlock=some w.heap.size):=by
 rcases A with _ | ad
 ·have hm:m=0:=by
   rcases Nat.eq_zero_or_pos m with h0 | h0
   ·exact h0
   ·obtain⟨ad,h,_⟩:=hr.2 h0
    cases h
  subst hm
  have hn:news=[]:=List.eq_nil_of_length_eq_zero (by simpa using hr.1)
  subst hn
  exact⟨v,w,run_append_of_nil w base t ty e i size ht hi v n xs hown c,by simpa using hown,World.grownBy.refl w _,.inl rfl⟩
 ·have hcells:∀ j u,news[j]?=some u→w.cell? (ad.add j)=some u:=by
   intro j u hu
   rcases Nat.eq_zero_or_pos m with h0 | h0
   ·subst h0
    have hn:news=[]:=List.eq_nil_of_length_eq_zero (by simpa using hr.1)
    subst hn
    simp at hu
   ·obtain⟨ad',h,_,hc⟩:=hr.2 h0
    injection h with h
    subst h
    exact hc j u hu
  obtain⟨v',w',hrun,h2,h3,_,h5⟩:=run_append_own_at (P:=P) w base t ty e i z size bytes ht hi hz hsize hby hzs hsz v n xs hown ad m c news hr.1 hcells h1 h63 hbytes hbase
  exact⟨v',w',hrun,h2,h3,h5⟩
theorem wp_append_any {o:Oper}{a:Act}{K:Act→World→Prop}{Q:Exit→Act→World→Prop}(s x:Operand)(t:TypeId)
  (ho:o.op=.call { callee:=.builtin .append,args:=#[s,x],argTypes:=#[t,t] })
  (base:Nat)(e:TypeId)(i:TypeInfo)(z:Value)(size bytes:Nat)(ht:P.underlying t=some (.slice e))(hi:P.info? e=some i)(hz:i.zero=some z)
  (hsize:i.size=size)(hby:i.bytes=bytes)(hzs:z.cells.size=size)(hsz:0<size)
  (v:Value)(n:Nat)(xs:List Value)(hs:a.eval s=v)(hown:w.ownsRow base e size v n xs)
  (B:Nat)(A:Option Addr)(m c:Nat)(news:List Value)(hx:a.eval x=.slice A m c)(hr:Reads w B size A m news)(h1:∀ u∈news,u.oneCell'=true)
  (h63:n+m≤maxLen)(hbytes:(n+m)*bytes≤140737488355328)(hbase:base≤w.heap.size)
  (h:∀ v' w',w'.ownsRow base e size v' (n+m) (xs++news)→w.grownBy w' v.ownBlock→(v'.ownBlock=v.ownBlock∨v'.ownBlock=some w.heap.size)→K (a.put o.dst v') w'):o.wp P a w K Q:=by
 obtain⟨v',w',hrun,h2,h3,h4⟩:=run_append_any (P:=P) w base t o.type e i z size bytes ht hi hz hsize hby hzs hsz v n xs hown B A m c news hr h1 h63 hbytes hbase
 unfold Oper.wp execOp
 simp only[ho,resolve,invoke,builtin,Sem.run_bind,Sem.run_pure,Result.andThen_ok,List.map_toArray,List.map_cons,List.map_nil,hs,hx,hrun]
 exact h v' w' h2 h3 h4
theorem wpList_append_any {ops:Array Oper}{rest:List Oper}{o:Oper}{a:Act}{Q:Exit→Act→World→Prop}(hgd:o.guard=none)(s x:Operand)(t:TypeId)
  (ho:o.op=.call { callee:=.builtin .append,args:=#[s,x],argTypes:=#[t,t] })
  (base:Nat)(e:TypeId)(i:TypeInfo)(z:Value)(size bytes:Nat)(ht:P.underlying t=some (.slice e))(hi:P.info? e=some i)(hz:i.zero=some z)
  (hsize:i.size=size)(hby:i.bytes=bytes)(hzs:z.cells.size=size)(hsz:0<size)
  (v:Value)(n:Nat)(xs:List Value)(hs:a.eval s=v)(hown:w.ownsRow base e size v n xs)
  (B:Nat)(A:Option Addr)(m c:Nat)(news:List Value)(hx:a.eval x=.slice A m c)(hr:Reads w B size A m news)(h1:∀ u∈news,u.oneCell'=true)
  (h63:n+m≤maxLen)(hbytes:(n+m)*bytes≤140737488355328)(hbase:base≤w.heap.size)
  (h:∀ v' w',w'.ownsRow base e size v' (n+m) (xs++news)→w.grownBy w' v.ownBlock→(v'.ownBlock=v.ownBlock∨v'.ownBlock=some w.heap.size)→wpList P ops Q rest (a.put o.dst v') w'):wpList P ops Q (o::rest) a w:=
 wpList_plain hgd fun _ hK=>wp_append_any w s x t ho base e i z size bytes ht hi hz hsize hby hzs hsz v n xs hs hown B A m c news hx hr h1 h63 hbytes hbase fun v' w' h2 h3 h4=>hK _ _ (h v' w' h2 h3 h4)
theorem step_append_any {ops:Array Oper}{o:Oper}{a:Act}{K:Act→World→Prop}{Q:Exit→Act→World→Prop}{E:Prop}(hgd:o.guard=none)(s x:Operand)(t:TypeId)
  (ho:o.op=.call { callee:=.builtin .append,args:=#[s,x],argTypes:=#[t,t] })
  (base:Nat)(e:TypeId)(i:TypeInfo)(z:Value)(size bytes:Nat)(ht:P.underlying t=some (.slice e))(hi:P.info? e=some i)(hz:i.zero=some z)
  (hsize:i.size=size)(hby:i.bytes=bytes)(hzs:z.cells.size=size)(hsz:0<size)
  (v:Value)(n:Nat)(xs:List Value)(hs:a.eval s=v)(hown:w.ownsRow base e size v n xs)
  (B:Nat)(A:Option Addr)(m c:Nat)(news:List Value)(hx:a.eval x=.slice A m c)(hr:Reads w B size A m news)(h1:∀ u∈news,u.oneCell'=true)
  (h63:n+m≤maxLen)(hbytes:(n+m)*bytes≤140737488355328)(hbase:base≤w.heap.size)
  (h:∀ v' w',w'.ownsRow base e size v' (n+m) (xs++news)→w.grownBy w' v.ownBlock→(v'.ownBlock=v.ownBlock∨v'.ownBlock=some w.heap.size)→K (a.put o.dst v') w'):
  if Region.wanted o (yielded ops a.tmps)=true then Oper.wp P o a w K Q else E:=by
 have hw:Region.wanted o (yielded ops a.tmps)=true:=by simp[Region.wanted,hgd]
 rw[if_pos hw]
 exact wp_append_any w s x t ho base e i z size bytes ht hi hz hsize hby hzs hsz v n xs hs hown B A m c news hx hr h1 h63 hbytes hbase h
end
end
section
open Go.RowKit
theorem info_str:(Tryz.prog.info? 9).map (fun i=>(i.zero,i.size,i.bytes))=some (some (.string ⟨#[]⟩),1,16):=by kernel_rfl
theorem only_drewN {a w:World}{row:Option Nat}(h:a.grownBy w row)(n:Nat):a.grownBy (w.drewN n) row:=⟨h.os,h.tape,h.output,h.size,h.block⟩
theorem only_alloc {a w:World}{row:Option Nat}(h:a.grownBy w row)(o:Obj):a.grownBy (w.alloc o) row:=
 ⟨h.os,h.tape,h.output,Nat.le_trans h.size (by simp),fun i hi hne=>(Below.heap_alloc w o i (Nat.lt_of_lt_of_le hi h.size)).trans (h.block i hi hne)⟩
theorem only_setCell {a w:World}{g:Nat}(h:a.grownBy w (some g)){p:Addr}(hp:p.block=g∨a.heap.size≤p.block)(u:Value):a.grownBy (w.setCell p u) (some g):=
 ⟨h.os,h.tape,h.output,by simpa [World.setCell] using h.size,fun i hi hne=>(Below.heap_setCell w p u i (by
  rintro rfl
  rcases hp with hp | hp
  ·exact hne (by rw[hp])
  ·omega)).trans (h.block i hi hne)⟩
theorem only_below {a w w':World}{row:Option Nat}(h:a.grownBy w row)(hb:Below w.heap.size w w'):a.grownBy w' row:=
 ⟨hb.os.trans h.os,hb.tape.trans h.tape,hb.output.trans h.output,Nat.le_trans h.size hb.size,fun i hi hn=>(hb.block i (Nat.lt_of_lt_of_le hi h.size)).trans (h.block i hi hn)⟩
theorem owns_below {w w':World}{base:Nat}{e:TypeId}{size n:Nat}{v:Value}{xs:List Value}(h:w.ownsRow base e size v n xs)(hb:Below w.heap.size w w'):w'.ownsRow base e size v n xs:=by
 refine⟨h.1,?_⟩
 rcases h.2 with h0 | ⟨g,cap,cur,hv,hg,hh,h1,h2,h3,h4⟩
 ·exact .inl h0
 ·exact .inr ⟨g,cap,cur,hv,hg,(hb.block g (Array.getElem?_eq_some_iff.1 hh).1).trans hh,h1,h2,h3,h4⟩
theorem owns_form {w:World}{base:Nat}{e:TypeId}{size n:Nat}{v:Value}{xs:List Value}(h:w.ownsRow base e size v n xs):∃ A c,v=.slice A n c:=by
 rcases h.2 with⟨rfl,rfl⟩ | ⟨g,cap,cur,hv,_⟩
 ·exact⟨none,0,rfl⟩
 ·exact⟨_,_,hv⟩
theorem owns_base {w:World}{base base':Nat}{e:TypeId}{size n:Nat}{v:Value}{xs:List Value}(h:w.ownsRow base e size v n xs)(hb:base'≤base):w.ownsRow base' e size v n xs:=by
 refine⟨h.1,?_⟩
 rcases h.2 with h0 | ⟨g,cap,cur,hv,hg,r⟩
 ·exact .inl h0
 ·exact .inr ⟨g,cap,cur,hv,Nat.le_trans hb hg,r⟩
theorem owns_rd {w:World}{base:Nat}{e:TypeId}{size n c:Nat}{A:Option Addr}{xs:List Value}(h:w.ownsRow base e size (.slice A n c) n xs):Rd w size A n xs:=by
 refine⟨h.1,fun hn=>?_⟩
 obtain⟨g,cap,hv,_,hlt⟩:=h.form hn
 have hA:A=some ⟨g,0,none⟩:=by injection hv
 subst hA
 refine⟨g,0,rfl,fun j u hu=>?_⟩
 have:=h.cells (g:=g) rfl j u hu
 unfold Addr.add at this
 rw[Nat.zero_add]
 split at this
 ·rename_i h0;subst h0;exact this
 ·simpa using this
theorem owns_kept {w w':World}{lo g:Nat}{e:TypeId}{size n:Nat}{v:Value}{xs:List Value}(h:w.ownsRow lo e size v n xs)(hlo:g<lo)(hg:w.grownBy w' (some g)):w'.ownsRow lo e size v n xs:=by
 refine h.kept hg ?_
 cases hb:v.ownBlock with
 | none=>exact .inl rfl
 | some k=>right;intro he;have:=(h.lt k hb).1;injection he with he;omega
theorem grown_thru {a b c:World}{row:Option Nat}(h:a.grownBy b row)(k:b.grownBy c row):a.grownBy c row:=
 ⟨k.os.trans h.os,k.tape.trans h.tape,k.output.trans h.output,Nat.le_trans h.size k.size,fun i hi hn=>(k.block i (Nat.lt_of_lt_of_le hi h.size) hn).trans (h.block i hi hn)⟩
theorem below_grown {w a b:World}{g:Nat}(h:Below w.heap.size w a)(k:a.grownBy b (some g))(hg:w.heap.size≤g):Below w.heap.size w b:=
 h.grown k h.size (fun j hj=>by injection hj with hj;omega)
structure Blk (wr:World) (b:Nat) (vs:List Value):Prop where
 sz:b<wr.heap.size
 cell:∀ (j:Nat)(u:Value),vs[j]?=some u→wr.cell? ⟨b,j,none⟩=some u
 free:∀ j:Nat,j<vs.length→wr.frozen? ⟨b,j,none⟩=false
theorem Blk.new (w:World)(vs:List Value)(t:TypeId):Blk (w.alloc (.cells vs.toArray t)) w.heap.size vs:=
 ⟨by simp,fun j u hu=>by simp[hu],fun j _=>by simp⟩
theorem Blk.below {wr w':World}{b:Nat}{vs:List Value}(h:Blk wr b vs)(hb:Below wr.heap.size wr w'):Blk w' b vs:=
 ⟨Nat.lt_of_lt_of_le h.sz hb.size,fun j u hu=>(hb.cell (p:=⟨b,j,none⟩) h.sz).trans (h.cell j u hu),fun j hj=>(hb.frozen (p:=⟨b,j,none⟩) h.sz).trans (h.free j hj)⟩
theorem Blk.belowN {wr w':World}{b n:Nat}{vs:List Value}(h:Blk wr b vs)(hb:Below n wr w')(hn:b<n):Blk w' b vs:=
 ⟨Nat.lt_of_lt_of_le h.sz hb.size,fun j u hu=>(hb.cell (p:=⟨b,j,none⟩) hn).trans (h.cell j u hu),fun j hj=>(hb.frozen (p:=⟨b,j,none⟩) hn).trans (h.free j hj)⟩
theorem Blk.alloc {wr:World}{b:Nat}{vs:List Value}(h:Blk wr b vs)(o:Obj):Blk (wr.alloc o) b vs:=h.below (bR.alloc lr o)
theorem Blk.drewN {wr:World}{b:Nat}{vs:List Value}(h:Blk wr b vs)(k:Nat):Blk (wr.drewN k) b vs:=h.below ⟨rfl,rfl,rfl,lr,fun _ _=>rfl⟩
theorem Blk.drew {wr:World}{b:Nat}{vs:List Value}(h:Blk wr b vs):Blk wr.drew b vs:=h.below ⟨rfl,rfl,rfl,lr,fun _ _=>rfl⟩
theorem Blk.set {wr:World}{b:Nat}{vs:List Value}(h:Blk wr b vs)(j:Nat)(hj:j<vs.length)(v:Value):Blk (wr.setCell ⟨b,j,none⟩ v) b (vs.set j v):=by
 refine⟨by simpa using h.sz,fun i u hu=>?_,fun i hi=>by rw[World.frozen?_setCell];exact h.free i (by simpa using hi)⟩
 by_cases e:j=i
 ·subst e
  rw[List.getElem?_set_self hj] at hu
  injection hu with hu;subst hu
  exact World.cell?_setCell_same' _ _ _ (by rw[h.cell j vs[j] (gG hj)];rfl)
 ·rw[List.getElem?_set_ne e] at hu
  rw[World.cell?_setCell_other (h:=by intro h;injection h with _ h;exact e h)]
  exact h.cell i u hu
theorem Blk.far {wr:World}{b c j:Nat}{vs:List Value}(h:Blk wr b vs)(hne:c≠b)(v:Value):Blk (wr.setCell ⟨c,j,none⟩ v) b vs:=
 ⟨by simpa using h.sz,fun i u hu=>by rw[World.cell?_setCell_other (h:=by intro h;injection h with h;exact hne h)];exact h.cell i u hu,fun i hi=>by rw[World.frozen?_setCell];exact h.free i hi⟩
theorem below_set {n c j:Nat}{a wr:World}(h:Below n a wr)(hc:n≤c)(v:Value):Below n a (wr.setCell ⟨c,j,none⟩ v):=h.setCell (p:=⟨c,j,none⟩) hc v
end
theorem lt_irr (a:LU):¬ a<a:=List.lt_irrefl a
theorem lt_tr {a b c:LU}(h:a<b)(k:b<c):a<c:=List.lt_trans h k
theorem lt_of_not {a b:LU}(h:¬ a<b)(hne:a≠b):b<a:=by
 have h1:b≤a:=h
 by_cases hb:b<a
 ·exact hb
 ·exact absurd (List.le_antisymm (show a≤b from hb) h1) hne
section
open Go.RowKit
open Classical
def fpaths (l:List FileM):List BA:=l.map (·.path)
end
section
open Go.RowKit
theorem bytesLess_dec:∀ (x y:LU),Op.bytesLess x y=decide (x<y)
 | [],[]=>by simp[Op.bytesLess]
 | _::_,[]=>by simp[Op.bytesLess]
 | [],_::_=>by simp[Op.bytesLess]
 | a::x,b::y=>by
  rw[Op.bytesLess,bytesLess_dec x y,bI]
  simp[List.cons_lt_cons_iff]
end
end Go.Proofs.YtdfdllbebfoggaaGreatDoor
