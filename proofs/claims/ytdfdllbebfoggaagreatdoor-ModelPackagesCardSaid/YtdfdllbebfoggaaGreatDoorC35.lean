/- A part of the proof that ModelPackages holds. No condition. -/
import Derived.Test.YtdfdllbebfoggaaGreatDoorC25
set_option maxRecDepth 100000
set_option maxHeartbeats 20000000
set_option linter.unusedVariables false
set_option linter.unusedSimpArgs false
namespace Go.Proofs.YtdfdllbebfoggaaGreatDoor
section
open Go.RowKit
def BT (w:World)(b:Nat)(e:TypeId)(vs:List Value):Prop:=w.heap[b]?=some (.cells vs.toArray e (0,0))
theorem BT.new (w:World)(e:TypeId)(vs:List Value):BT (w.alloc (.cells vs.toArray e)) w.heap.size e vs:=heap_alloc_new w _
theorem BT.sz {w:World}{b:Nat}{e:TypeId}{vs:List Value}(h:BT w b e vs):b<w.heap.size:=(Array.getElem?_eq_some_iff.1 h).1
theorem BT.blk {w:World}{b:Nat}{e:TypeId}{vs:List Value}(h:BT w b e vs):Blk w b vs:=by
 refine⟨h.sz,fun j u hu=>?_,fun j hj=>?_⟩
 ·unfold BT at h;simp[World.cell?,h,hu]
 ·unfold BT at h;simp[World.frozen?,h]
theorem BT.set {w:World}{b:Nat}{e:TypeId}{vs:List Value}(h:BT w b e vs)(j:Nat)(v:Value):BT (w.setCell ⟨b,j,none⟩ v) b e (vs.set j v):=by
 have:=heap_setCell_same w b j _ e v h
 unfold BT;rw[this];simp
theorem BT.far {w:World}{b c j:Nat}{e:TypeId}{vs:List Value}(h:BT w b e vs)(hne:c≠b)(v:Value):BT (w.setCell ⟨c,j,none⟩ v) b e vs:=by
 unfold BT;rw[heap_setCell_other w ⟨c,j,none⟩ b v (fun e=>hne e.symm)];exact h
theorem BT.below {w w':World}{b n:Nat}{e:TypeId}{vs:List Value}(h:BT w b e vs)(hb:Below n w w')(hn:b<n):BT w' b e vs:=(hb.block b hn).trans h
theorem BT.belowW {w w':World}{b:Nat}{e:TypeId}{vs:List Value}(h:BT w b e vs)(hb:Below w.heap.size w w'):BT w' b e vs:=h.below hb h.sz
theorem BT.grownBy {w w':World}{b:Nat}{e:TypeId}{vs:List Value}{row:Option Nat}(h:BT w b e vs)(hg:w.grownBy w' row)(hne:some b≠row):BT w' b e vs:=(hg.block b h.sz hne).trans h
def isTS (e:TypeId):Prop:=e=9∨e=157
structure KT (a:Nat) (w w':World):Prop where
 bel:Below a w w'
 same:∀ (k:Nat)(cur:Array Value)(e:TypeId)(fr:Nat×Nat),w.heap[k]?=some (.cells cur e fr)→isTS e→w'.heap[k]?=w.heap[k]?
theorem KT.refl (a:Nat)(w:World):KT a w w:=⟨Below.refl _ _,fun _ _ _ _ _ _=>rfl⟩
theorem KT.trans {a:Nat}{w w1 w2:World}(h:KT a w w1)(k:KT a w1 w2):KT a w w2:=
 ⟨h.bel.trans k.bel,fun i cur e fr hi he=>by
  have h1:=h.same i cur e fr hi he
  rw[←h1];exact k.same i cur e fr (h1.trans hi) he⟩
theorem KT.of_below {a:Nat}{w w':World}(hb:Below w.heap.size w w')(ha:a≤w.heap.size):KT a w w':=
 ⟨hb.mono ha,fun i cur e fr hi _=>hb.block i (Array.getElem?_eq_some_iff.1 hi).1⟩
theorem KT.of_grown {a b:Nat}{w w':World}{e:TypeId}{cur:Array Value}{fr:Nat×Nat}(hg:w.grownBy w' (some b))(hab:a≤b)(hb:w.heap[b]?=some (.cells cur e fr))(he:¬ isTS e):KT a w w':=by
 refine⟨⟨hg.os,hg.tape,hg.output,hg.size,fun k hk=>?_⟩,fun i c2 e2 f2 hi h2=>hg.block i (Array.getElem?_eq_some_iff.1 hi).1 (fun h=>?_)⟩
 ·by_cases hkw:k<w.heap.size
  ·exact hg.block k hkw (by intro h;injection h with h;omega)
  ·have:=(Array.getElem?_eq_some_iff.1 hb).1;omega
 ·injection h with h;subst h;rw[hb] at hi;injection hi with hi;injection hi with _ h3 _;exact he (h3 ▸ h2)
theorem KT.of_row {a:Nat}{w w':World}{lo:Nat}{e:TypeId}{z n:Nat}{v:Value}{xs:List Value}(hr:w.ownsRow lo e z v n xs)(hg:w.grownBy w' v.ownBlock)(hab:a≤lo)(haw:a≤w.heap.size)(he:¬ isTS e):KT a w w':=by
 rcases hr.2 with⟨rfl,_⟩ | ⟨g,cap,cur,rfl,h1,h2,_⟩
 ·exact KT.of_below ⟨hg.os,hg.tape,hg.output,hg.size,fun k hk=>hg.block k hk (by simp[Value.ownBlock])⟩ haw
 ·exact KT.of_grown (b:=g) hg (by omega) h2 he
theorem KT.owns {a:Nat}{w w':World}{lo:Nat}{e:TypeId}{z n:Nat}{v:Value}{xs:List Value}(h:KT a w w')(hr:w.ownsRow lo e z v n xs)(he:isTS e):w'.ownsRow lo e z v n xs:=by
 refine⟨hr.1,?_⟩
 rcases hr.2 with h0 | ⟨g,cap,cur,hv,h1,h2,h3⟩
 ·exact .inl h0
 ·exact .inr ⟨g,cap,cur,hv,h1,(h.same g cur e (0,0) h2 he).trans h2,h3⟩
theorem KT.bt {a b:Nat}{w w':World}{vs:List Value}(h:KT a w w')(hb:BT w b 157 vs):BT w' b 157 vs:=(h.same b _ _ _ hb (.inr rfl)).trans hb
theorem KT.trm {a:Nat}{w w':World}{t:TrmM}{lo:Nat}(h:KT a w w')(ht:t.own w lo):t.own w' lo:=h.owns ht (.inl rfl)
theorem KT.grp {a:Nat}{w w':World}{g:GrpM}{lo:Nat}(h:KT a w w')(hg:g.own w lo):g.own w' lo:=⟨h.owns hg.row (.inr rfl),fun t ht=>h.trm (hg.archs t ht)⟩
structure Prt where
 kind:Nat
 at_:Nat
 text:ByteArray
def Prt.cells (x:Prt):List Value:=[.int .i64 x.kind,.int .i64 x.at_,.string x.text]
theorem prt_len (x:Prt):x.cells.length=3:=rfl
def prtB (x:Prt):Bool:=if x.kind=1 then dnameB (bl x.text) else if x.kind=2 then dwordB (bl x.text) else decide (verE 1 x.text=0)
structure RS (w:World) (a:Nat) (s:ByteArray) (p:Nat) (bad:Bool) (ps:List Prt) (gs:List GrpM) (hs:List Int):Prop where
 blk:∃ (PA LA HA:Option Addr) (pc lc hc:Nat),BT w a 242 [.string s,.int .i64 p,.bool bad,.slice PA ps.length pc,.slice LA gs.length lc,.slice HA hs.length hc] ∧
  w.ownsRow (a+1) 244 3 (.slice PA ps.length pc) ps.length (ps.flatMap Prt.cells)∧w.ownsRow (a+1) 155 1 (.slice LA gs.length lc) gs.length (gs.map GrpM.sl)∧w.ownsRow (a+1) 3 1 (.slice HA hs.length hc) hs.length (hs.map (Value.int .i64))
 grp:∀ g∈gs,g.own w (a+1)
 le:p≤s.size
 pl:ps.length≤p
 hl:hs.length≤p+1
 gl:gs.length≤p
 pat:∀ x∈ps,x.at_≤s.size∧x.text.size≤4294967280∧1≤x.kind∧x.kind≤3
theorem RS.below {w w':World}{a:Nat}{s:ByteArray}{p:Nat}{bad:Bool}{ps:List Prt}{gs:List GrpM}{hs:List Int}(h:RS w a s p bad ps gs hs)(hb:Below w.heap.size w w'):RS w' a s p bad ps gs hs:=by
 obtain⟨PA,LA,HA,pc,lc,hc,k1,k2,k3,k4⟩:=h.blk
 exact⟨⟨PA,LA,HA,pc,lc,hc,k1.belowW hb,owns_below k2 hb,owns_below k3 hb,owns_below k4 hb⟩,fun g hg=>(h.grp g hg).below hb,h.le,h.pl,h.hl,h.gl,h.pat⟩
theorem RS.sz {w:World}{a:Nat}{s:ByteArray}{p:Nat}{bad:Bool}{ps:List Prt}{gs:List GrpM}{hs:List Int}(h:RS w a s p bad ps gs hs):a<w.heap.size:=by
 obtain⟨PA,LA,HA,pc,lc,hc,k1,_⟩:=h.blk;exact k1.sz
theorem RS.alloc {w:World}{a:Nat}{s:ByteArray}{p:Nat}{bad:Bool}{ps:List Prt}{gs:List GrpM}{hs:List Int}(h:RS w a s p bad ps gs hs)(o:Obj):RS (w.alloc o) a s p bad ps gs hs:=h.below ((Below.refl _ _).alloc lr o)
theorem RS.drewN {w:World}{a:Nat}{s:ByteArray}{p:Nat}{bad:Bool}{ps:List Prt}{gs:List GrpM}{hs:List Int}(h:RS w a s p bad ps gs hs)(n:Nat):RS (w.drewN n) a s p bad ps gs hs:=h.below ⟨rfl,rfl,rfl,lr,fun _ _=>rfl⟩
theorem notTS_State:¬ isTS 242:=by unfold isTS;decide
theorem notTS_Part:¬ isTS 244:=by unfold isTS;decide
theorem notTS_Grp:¬ isTS 155:=by unfold isTS;decide
theorem notTS_int:¬ isTS 3:=by unfold isTS;decide
theorem RS.kt {w:World}{a j:Nat}{s:ByteArray}{p:Nat}{bad:Bool}{ps:List Prt}{gs:List GrpM}{hs:List Int}(h:RS w a s p bad ps gs hs)(v:Value):KT a w (w.setCell ⟨a,j,none⟩ v):=by
 obtain⟨PA,LA,HA,pc,lc,hc,k1,_⟩:=h.blk
 exact KT.of_grown (kept_set v) lr k1 notTS_State
theorem RS.kept {w w':World}{a:Nat}{s:ByteArray}{p p':Nat}{bad bad':Bool}{ps:List Prt}{gs:List GrpM}{hs:List Int}(h:RS w a s p bad ps gs hs)(hg:w.grownBy w' (some a))(h1:p≤p')(h2:p'≤s.size)
  (hb:∀ v3 v4 v5,BT w a 242 [.string s,.int .i64 p,.bool bad,v3,v4,v5]→BT w' a 242 [.string s,.int .i64 p',.bool bad',v3,v4,v5]):RS w' a s p' bad' ps gs hs:=by
 obtain⟨PA,LA,HA,pc,lc,hc,k1,k2,k3,k4⟩:=h.blk
 refine⟨⟨PA,LA,HA,pc,lc,hc,hb _ _ _ k1,owns_kept k2 (Nat.lt_succ_self _) hg,owns_kept k3 (Nat.lt_succ_self _) hg,owns_kept k4 (Nat.lt_succ_self _) hg⟩,fun g hg'=>(h.grp g hg').kept (Nat.lt_succ_self _) hg,h2,?_,?_,?_,h.pat⟩
 ·have:=h.pl;omega
 ·have:=h.hl;omega
 ·have:=h.gl;omega
theorem RS.move {w:World}{a:Nat}{s:ByteArray}{p q:Nat}{bad:Bool}{ps:List Prt}{gs:List GrpM}{hs:List Int}(h:RS w a s p bad ps gs hs)(h1:p≤q)(h2:q≤s.size):RS (w.setCell ⟨a,1,none⟩ (.int .i64 q)) a s q bad ps gs hs:=
 h.kept (kept_set _) h1 h2 (fun _ _ _ k=>k.set 1 _)
theorem RS.fail {w:World}{a:Nat}{s:ByteArray}{p:Nat}{bad:Bool}{ps:List Prt}{gs:List GrpM}{hs:List Int}(h:RS w a s p bad ps gs hs)(b:Bool):RS (w.setCell ⟨a,2,none⟩ (.bool b)) a s p b ps gs hs:=
 h.kept (kept_set _) lr h.le (fun _ _ _ k=>k.set 2 _)
structure RSc (w:World) (a:Nat) (s:ByteArray) (p:Nat) (bad:Bool) (v3 v4 v5:Value):Prop where
 c0:w.cell? ⟨a,0,none⟩=some (.string s)
 c1:w.cell? ⟨a,1,none⟩=some (.int .i64 p)
 c2:w.cell? ⟨a,2,none⟩=some (.bool bad)
 c3:w.cell? ⟨a,3,none⟩=some v3
 c4:w.cell? ⟨a,4,none⟩=some v4
 c5:w.cell? ⟨a,5,none⟩=some v5
 f1:w.frozen? ⟨a,1,none⟩=false
 f2:w.frozen? ⟨a,2,none⟩=false
 f3:w.frozen? ⟨a,3,none⟩=false
 f4:w.frozen? ⟨a,4,none⟩=false
 f5:w.frozen? ⟨a,5,none⟩=false
theorem BT.rsc {w:World}{a:Nat}{s:ByteArray}{p:Nat}{bad:Bool}{v3 v4 v5:Value}(h:BT w a 242 [.string s,.int .i64 p,.bool bad,v3,v4,v5]):RSc w a s p bad v3 v4 v5:=by
 have k:=h.blk
 exact⟨k.cell 0 _ rfl,k.cell 1 _ rfl,k.cell 2 _ rfl,k.cell 3 _ rfl,k.cell 4 _ rfl,k.cell 5 _ rfl,k.free 1 (by simp),k.free 2 (by simp),k.free 3 (by simp),k.free 4 (by simp),k.free 5 (by simp)⟩
theorem RS.cells {w:World}{a:Nat}{s:ByteArray}{p:Nat}{bad:Bool}{ps:List Prt}{gs:List GrpM}{hs:List Int}(h:RS w a s p bad ps gs hs):∃ v3 v4 v5,RSc w a s p bad v3 v4 v5:=by
 obtain⟨PA,LA,HA,pc,lc,hc,k1,_⟩:=h.blk;exact⟨_,_,_,k1.rsc⟩
theorem RS.at_ {w:World}{a:Nat}{s:ByteArray}{p:Nat}{bad:Bool}{ps:List Prt}{gs:List GrpM}{hs:List Int}(h:RS w a s p bad ps gs hs):atOf a w=p:=by
 obtain⟨_,_,_,k⟩:=h.cells;unfold atOf;rw[k.c1];simp
theorem RS.dec {w w':World}{a:Nat}{s:ByteArray}{p p':Nat}{bad bad':Bool}{ps ps':List Prt}{gs gs':List GrpM}{hs hs':List Int}(h':RS w' a s p' bad' ps' gs' hs')(h:RS w a s p bad ps gs hs)(hk:p<p'):s.size-atOf a w'<s.size-atOf a w:=by
 rw[h'.at_,h.at_];have:=h'.le;omega
end
end Go.Proofs.YtdfdllbebfoggaaGreatDoor
