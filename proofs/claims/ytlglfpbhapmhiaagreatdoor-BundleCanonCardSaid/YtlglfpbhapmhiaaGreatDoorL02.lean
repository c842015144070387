/- A part of the proof. -/
import Derived.Test.YtlglfpbhapmhiaaGreatDoorProg
import Derived.BigQuiet
import Derived.Deep.AppendLies
import Derived.Deep.CutBlock
import Derived.Deep.DeepCutAuto
import Derived.Deep.Draws
import Derived.Deep.LoopGhost
import Derived.Deep.QuietTactic
import Derived.IntWalk
import Derived.Laws.OwnMore
import Derived.Maps.AppendAt
import Derived.OwnWalk
import Derived.ProofKit
import Derived.RegionTactic
import Derived.WalkKit
import Derived.WalkLawsBesides
import Derived.WalkSpells
import Derived.Test.YtlglfpbhapmhiaaGreatDoorL00
set_option maxRecDepth 100000
set_option maxHeartbeats 20000000
set_option linter.unusedVariables false
set_option linter.unusedSimpArgs false
namespace Go.Proofs.YtlglfpbhapmhiaaGreatDoor
variable{xs:LV}{base g lo n size sz:Nat}{A:OA}{row:Option Nat}{e:TypeId}{v:Value}{a b w w':World}
section
open Go.RowKit
def Rd (w:World)(sz:Nat)(A:OA)(n:Nat)(xs:LV):Prop:=
 xs.length=n*sz/\(0<n->∃ b off,A=some ⟨b,off,none⟩/\∀ (j:Nat)(u:Value),xs[j]?=some u->w.cell? ⟨b,off+j,none⟩=some u)
theorem Rd.nil (w:World)(sz:Nat)(A:OA):Rd w sz A 0 []:=⟨by simp,fun h=>absurd h (by omega)⟩
theorem Rd.keep (h:Rd w sz A n xs)(hk:∀ p:Addr,p.block<w.heap.size->w'.cell? p=w.cell? p):Rd w' sz A n xs:=
 ⟨h.1,fun hn=>by
  obtain⟨b,off,e,hc⟩:=h.2 hn;exact⟨b,off,e,fun j u hu=>(hk _ (World.block_lt_of_cell? _ _ (hc j u hu))).trans (hc j u hu)⟩⟩
theorem Rd.below (h:Rd w sz A n xs)(hb:Below w.heap.size w w'):Rd w' sz A n xs:=h.keep fun _ hp=>hb.cell hp
theorem Rd.drew (h:Rd w sz A n xs):Rd w.drew sz A n xs:=h
structure cS where
 nm:BA
 op:Int
 ver:BA
structure av where
 path:BA
 kind:Int
 mode:Int
 owner:BA
 group:BA
 link:BA
 sum:BA
 conf:Bool
structure aT where
 phase:Int
 body:BA
structure bK where
 nm:BA
 ver:BA
 ar:BA
 sm:BA
 na:OA
 nc:Nat
 needs:List BA
 ba:OA
 bc:Nat
 bars:List BA
 ga:OA
 gc:Nat
 gives:List cS
 fa:OA
 fc:Nat
 files:List av
 sa:OA
 sc:Nat
 scripts:List aT
def cS.cells (x:cS):LV:=[.string x.nm,.int .i64 x.op,.string x.ver]
def av.cells (x:av):LV:=[.string x.path,.int .i64 x.kind,.int .i64 x.mode,.string x.owner,.string x.group,.string x.link,.string x.sum,.bool x.conf]
def aT.cells (x:aT):LV:=[.int .i64 x.phase,.string x.body]
def ay (l:List BA):LV:=l.map .string
def bK.cells (p:bK):LV:=[.string p.nm,.string p.ver,.string p.ar,.string p.sm,.slice p.na p.needs.length p.nc,.slice p.ba p.bars.length p.bc,.slice p.ga p.gives.length p.gc,.slice p.fa p.files.length p.fc,.slice p.sa p.scripts.length p.sc]
def bK.val (p:bK):Value:=.agg #[.string p.nm,.string p.ver,.string p.ar,.string p.sm,.slice p.na p.needs.length p.nc,.slice p.ba p.bars.length p.bc,.slice p.ga p.gives.length p.gc,.slice p.fa p.files.length p.fc,.slice p.sa p.scripts.length p.sc]
structure bK.ok (p:bK) (w:World):Prop where
 needs:Rd w 1 p.na p.needs.length (ay p.needs)
 bars:Rd w 1 p.ba p.bars.length (ay p.bars)
 gives:Rd w 3 p.ga p.gives.length (p.gives.flatMap cS.cells)
 files:Rd w 8 p.fa p.files.length (p.files.flatMap av.cells)
 scripts:Rd w 2 p.sa p.scripts.length (p.scripts.flatMap aT.cells)
theorem bK.ok.below {p:bK}(h:p.ok w)(hb:Below w.heap.size w w'):p.ok w':=⟨h.1.below hb,h.2.below hb,h.3.below hb,h.4.below hb,h.5.below hb⟩
structure bK.fits (p:bK):Prop where
 nm:p.nm.size<=9223372036854775807
 ver:p.ver.size<=9223372036854775807
 ar:p.ar.size<=9223372036854775807
 sm:p.sm.size<=9223372036854775807
 needs:p.needs.length<=9223372036854775807
 bars:p.bars.length<=9223372036854775807
 gives:p.gives.length<=9223372036854775807
 files:p.files.length<=9223372036854775807
 scripts:p.scripts.length<=9223372036854775807
 needs_:∀ s∈p.needs,s.size<=9223372036854775807
 bars_:∀ s∈p.bars,s.size<=9223372036854775807
 gives_:∀ x∈p.gives,x.nm.size<=9223372036854775807/\x.ver.size<=9223372036854775807/\(Lit.int .i64 x.op).wf=true
 files_:∀ x∈p.files,x.path.size<=9223372036854775807/\x.owner.size<=9223372036854775807/\x.group.size<=9223372036854775807/\x.link.size<=9223372036854775807/\x.sum.size<=9223372036854775807/\(Lit.int .i64 x.kind).wf=true/\(Lit.int .i64 x.mode).wf=true
 scripts_:∀ x∈p.scripts,x.body.size<=9223372036854775807/\(Lit.int .i64 x.phase).wf=true
structure wJ (w:World) (A:OA) (l:List bK):Prop where
 row:Rd w 9 A l.length (l.flatMap bK.cells)
 all:∀ p∈l,p.ok w
theorem wJ.below {l:List bK}(h:wJ w A l)(hb:Below w.heap.size w w'):wJ w' A l:=⟨h.1.below hb,fun p hp=>(h.2 p hp).below hb⟩
theorem ft {α:Type}{f:α->LV}{sz:Nat}(hf:∀ x,(f x).length=sz):∀ (l:List α)(i j:Nat)(x:α),l[i]?=some x->j<sz->(l.flatMap f)[i*sz+j]?=(f x)[j]?
 | [],i,j,x,h,_=>by simp at h
 | a::r,0,j,x,h,hj=>by
  simp at h;subst h;rw[List.flatMap_cons,List.getElem?_append_left (by rw[hf];omega)];simp
 | a::r,i+1,j,x,h,hj=>by
  have h':r[i]?=some x:=by simpa using h
  rw[List.flatMap_cons,List.getElem?_append_right (by rw[hf,Nat.add_mul];omega),hf,<-ft hf r i j x h' hj];congr 1;rw[Nat.add_mul];omega
theorem dw {α:Type}{f:α->LV}{sz:Nat}(hf:∀ x,(f x).length=sz):∀ (l:List α),(l.flatMap f).length=l.length*sz
 | []=>by simp
 | a::r=>by rw[List.flatMap_cons,List.length_append,hf,dw hf r,List.length_cons,Nat.add_mul];omega
theorem lm (x:cS):x.cells.length=3:=rfl
theorem gg (x:av):x.cells.length=8:=rfl
theorem fD (x:aT):x.cells.length=2:=rfl
theorem iG (x:bK):x.cells.length=9:=rfl
theorem Rd.elem {α:Type}{f:α->LV}(hf:∀ x,(f x).length=sz){l:List α}(h:Rd w sz A l.length (l.flatMap f))(i:Nat)(x:α)(hi:l[i]?=some x):
  ∃ b off,A=some ⟨b,off,none⟩/\∀ (j:Nat)(u:Value),(f x)[j]?=some u->w.cell? ⟨b,off+i*sz+j,none⟩=some u:=by
 have hlt:i<l.length:=(gS hi).1;obtain⟨b,off,e,hc⟩:=h.2 (by omega);refine⟨b,off,e,fun j u hu=>?_⟩;have hj:j<sz:=by rw[<-hf x];exact(gS hu).1
 rw[Nat.add_assoc];exact hc _ u (by rw[ft hf l i j x hi hj,hu])
theorem Rd.str {l:List BA}(h:Rd w 1 A l.length (ay l))(i:Nat)(x:BA)(hi:l[i]?=some x):
  ∃ b off,A=some ⟨b,off,none⟩/\w.cell? ⟨b,off+i,none⟩=some (.string x):=by
 have hlt:i<l.length:=(gS hi).1;obtain⟨b,off,e,hc⟩:=h.2 (by omega);exact⟨b,off,e,hc i _ (by simp[ay,hi])⟩
theorem bZ (h:a.grownBy w row)(n:Nat):a.grownBy (w.drewN n) row:=⟨h.os,h.tape,h.output,h.size,h.block⟩
theorem eK (h:a.grownBy w row)(o:Obj):a.grownBy (w.alloc o) row:=
 ⟨h.os,h.tape,h.output,Nat.le_trans h.size (by simp),fun i hi hne=>(Below.heap_alloc w o i (Nat.lt_of_lt_of_le hi h.size)).trans (h.block i hi hne)⟩
theorem ap (h:a.grownBy w (some g)){p:Addr}(hp:p.block=g\/a.heap.size<=p.block)(u:Value):a.grownBy (w.setCell p u) (some g):=
 ⟨h.os,h.tape,h.output,by simpa [World.setCell] using h.size,fun i hi hne=>(Below.heap_setCell w p u i (by
  rintro rfl;rcases hp with hp | hp
  ·exact hne (by rw[hp])
  ·omega)).trans (h.block i hi hne)⟩
theorem bB (h:a.grownBy w row)(hb:Below w.heap.size w w'):a.grownBy w' row:=
 ⟨hb.os.trans h.os,hb.tape.trans h.tape,hb.output.trans h.output,Nat.le_trans h.size hb.size,fun i hi hn=>(hb.block i (Nat.lt_of_lt_of_le hi h.size)).trans (h.block i hi hn)⟩
theorem aL (h:w.ownsRow base e size v n xs)(hb:Below w.heap.size w w'):w'.ownsRow base e size v n xs:=by
 refine⟨h.1,?_⟩;rcases h.2 with h0 | ⟨g,cap,cur,hv,hg,hh,h1,h2,h3,h4⟩
 ·exact .inl h0
 ·exact .inr ⟨g,cap,cur,hv,hg,(hb.block g (Array.getElem?_eq_some_iff.1 hh).1).trans hh,h1,h2,h3,h4⟩
theorem aN (h:w.ownsRow base e size v n xs):∃ A c,v=.slice A n c:=by
 rcases h.2 with⟨rfl,rfl⟩ | ⟨g,cap,cur,hv,_⟩
 ·exact⟨none,0,rfl⟩
 ·exact⟨_,_,hv⟩
theorem aY {base':Nat}(h:w.ownsRow base e size v n xs)(hb:base'<=base):w.ownsRow base' e size v n xs:=by
 refine⟨h.1,?_⟩;rcases h.2 with h0 | ⟨g,cap,cur,hv,hg,r⟩
 ·exact .inl h0
 ·exact .inr ⟨g,cap,cur,hv,Nat.le_trans hb hg,r⟩
theorem bD {c:Nat}(h:w.ownsRow base e size (.slice A n c) n xs):Rd w size A n xs:=by
 refine⟨h.1,fun hn=>?_⟩;obtain⟨g,cap,hv,_,hlt⟩:=h.form hn;have hA:A=some ⟨g,0,none⟩:=by injection hv
 subst hA;refine⟨g,0,rfl,fun j u hu=>?_⟩;have:=h.cells (g:=g) rfl j u hu;unfold Addr.add at this;rw[Nat.zero_add];split at this
 ·rename_i h0;subst h0;exact this
 ·simpa using this
structure gj (q:bK) (w:World) (lo:Nat):Prop where
 needs:w.ownsRow lo 9 1 (.slice q.na q.needs.length q.nc) q.needs.length (ay q.needs)
 bars:w.ownsRow lo 9 1 (.slice q.ba q.bars.length q.bc) q.bars.length (ay q.bars)
 gives:w.ownsRow lo 81 3 (.slice q.ga q.gives.length q.gc) q.gives.length (q.gives.flatMap cS.cells)
 files:w.ownsRow lo 56 8 (.slice q.fa q.files.length q.fc) q.files.length (q.files.flatMap av.cells)
 scripts:w.ownsRow lo 44 2 (.slice q.sa q.scripts.length q.sc) q.scripts.length (q.scripts.flatMap aT.cells)
theorem aP (h:w.ownsRow lo e size v n xs)(hlo:g<lo)(hg:w.grownBy w' (some g)):w'.ownsRow lo e size v n xs:=by
 refine h.kept hg ?_;cases hb:v.ownBlock with
 | none=>exact .inl rfl
 | some k=>right;intro he;have:=(h.lt k hb).1;injection he with he;omega
theorem gj.kept {q:bK}(h:gj q w lo)(hlo:g<lo)(hg:w.grownBy w' (some g)):gj q w' lo:=
 ⟨aP h.1 hlo hg,aP h.2 hlo hg,aP h.3 hlo hg,aP h.4 hlo hg,aP h.5 hlo hg⟩
theorem gj.below {q:bK}(h:gj q w lo)(hb:Below w.heap.size w w'):gj q w' lo:=
 ⟨aL h.1 hb,aL h.2 hb,aL h.3 hb,aL h.4 hb,aL h.5 hb⟩
theorem gj.ok {q:bK}(h:gj q w lo):q.ok w:=⟨bD h.1,bD h.2,bD h.3,bD h.4,bD h.5⟩
structure bK.alike (p q:bK):Prop where
 nm:p.nm=q.nm
 ver:p.ver=q.ver
 ar:p.ar=q.ar
 sm:p.sm=q.sm
 needs:p.needs=q.needs
 bars:p.bars=q.bars
 gives:p.gives=q.gives
 files:p.files=q.files
 scripts:p.scripts=q.scripts
def Ln (p q:bK):Prop:=(∀ g g',(Value.slice p.ga p.gives.length p.gc).ownBlock=some g->(Value.slice q.ga q.gives.length q.gc).ownBlock=some g'->g<g')/\(∀ g g',(Value.slice p.fa p.files.length p.fc).ownBlock=some g->(Value.slice q.fa q.files.length q.fc).ownBlock=some g'->g<g')
structure Sb (w:World) (lo g0:Nat) (v:Value) (l:List bK):Prop where
 row:w.ownsRow lo 27 9 v l.length (l.flatMap bK.cells)
 blk:0<l.length->v.ownBlock=some g0
 all:∀ q∈l,gj q w (g0+1)
 far:l.Pairwise Ln
theorem Qy (qs r:List bK)(p:bK)(k j:Nat)(u:Value)(hk:qs.length=k)(hj:j<9):((qs++p::r).flatMap bK.cells).set (k*9+j) u=qs.flatMap bK.cells++(p.cells.set j u++r.flatMap bK.cells):=by
 have hl:(qs.flatMap bK.cells).length=k*9:=by rw[dw iG,hk]
 rw[List.flatMap_append,List.flatMap_cons,List.set_append_right _ _ (by omega),hl,show k*9+j-k*9=j from by omega,List.set_append_left _ _ (by rw[iG];omega)]
theorem ak {c:World}(h:a.grownBy b row)(k:b.grownBy c row):a.grownBy c row:=
 ⟨k.os.trans h.os,k.tape.trans h.tape,k.output.trans h.output,Nat.le_trans h.size k.size,fun i hi hn=>(k.block i (Nat.lt_of_lt_of_le hi h.size) hn).trans (h.block i hi hn)⟩
theorem dU (h:Below w.heap.size w a)(k:a.grownBy b (some g))(hg:w.heap.size<=g):Below w.heap.size w b:=
 h.grown k h.size (fun j hj=>by injection hj with hj;omega)
theorem zo {p:bK}(hp:p.ok w)(h:Below w.heap.size w a)(k:a.grownBy b (some g))(hg:w.heap.size<=g):Hid (p.ok b):=hp.below (dU h k hg)
theorem Qz (qs r:List bK)(p:bK)(k:Nat)(hk:qs.length=k)  : ((qs++p::r).flatMap bK.cells)[k*9+4]?=some (.slice p.na p.needs.length p.nc):=by
 exact ft iG (qs++p::r) k 4 p (by rw[List.getElem?_append_right (by omega)];simp[hk]) (by omega)
theorem QA (qs r:List bK)(p:bK)(k:Nat)(hk:qs.length=k)(u0:Value):(((qs++p::r).flatMap bK.cells).set (k*9+4) u0)[k*9+5]?=some (.slice p.ba p.bars.length p.bc):=by
 rw[List.getElem?_set_ne (by omega)];exact ft iG (qs++p::r) k 5 p (by rw[List.getElem?_append_right (by omega)];simp[hk]) (by omega)
theorem QB (qs r:List bK)(p:bK)(k:Nat)(hk:qs.length=k)(u0:Value)(u1:Value):((((qs++p::r).flatMap bK.cells).set (k*9+4) u0).set (k*9+5) u1)[k*9+6]?=some (.slice p.ga p.gives.length p.gc):=by
 rw[List.getElem?_set_ne (by omega)];rw[List.getElem?_set_ne (by omega)];exact ft iG (qs++p::r) k 6 p (by rw[List.getElem?_append_right (by omega)];simp[hk]) (by omega)
theorem QC (qs r:List bK)(p:bK)(k:Nat)(hk:qs.length=k)(u0:Value)(u1:Value)(u2:Value):(((((qs++p::r).flatMap bK.cells).set (k*9+4) u0).set (k*9+5) u1).set (k*9+6) u2)[k*9+7]?=some (.slice p.fa p.files.length p.fc):=by
 rw[List.getElem?_set_ne (by omega)];rw[List.getElem?_set_ne (by omega)];rw[List.getElem?_set_ne (by omega)];exact ft iG (qs++p::r) k 7 p (by rw[List.getElem?_append_right (by omega)];simp[hk]) (by omega)
theorem QD (qs r:List bK)(p:bK)(k:Nat)(hk:qs.length=k)(u0:Value)(u1:Value)(u2:Value)(u3:Value):((((((qs++p::r).flatMap bK.cells).set (k*9+4) u0).set (k*9+5) u1).set (k*9+6) u2).set (k*9+7) u3)[k*9+8]?=some (.slice p.sa p.scripts.length p.sc):=by
 rw[List.getElem?_set_ne (by omega)];rw[List.getElem?_set_ne (by omega)];rw[List.getElem?_set_ne (by omega)];rw[List.getElem?_set_ne (by omega)];exact ft iG (qs++p::r) k 8 p (by rw[List.getElem?_append_right (by omega)];simp[hk]) (by omega)
theorem tn (a b c:LV)(k j:Nat)(u:Value)(ha:a.length=k*9)(hj:j<b.length):(a++(b++c)).set (k*9+j) u=a++(b.set j u++c):=by
 rw[List.set_append_right _ _ (by omega),ha,show k*9+j-k*9=j from by omega,List.set_append_left _ _ hj]
theorem Lo (qs r:List bK)(p:bK)(k:Nat)(hk:qs.length=k)(a1 a2 a3 a4 a5:OA)(c1 c2 c3 c4 c5:Nat):
  ((((((qs++p::r).flatMap bK.cells).set (k*9+4) (.slice a1 p.needs.length c1)).set (k*9+5) (.slice a2 p.bars.length c2)).set (k*9+6) (.slice a3 p.gives.length c3)).set (k*9+7) (.slice a4 p.files.length c4)).set (k*9+8) (.slice a5 p.scripts.length c5) =
    ((qs++[({ p with na:=a1,nc:=c1,ba:=a2,bc:=c2,ga:=a3,gc:=c3,fa:=a4,fc:=c4,sa:=a5,sc:=c5 }:bK)])++r).flatMap bK.cells:=by
 have hl:(qs.flatMap bK.cells).length=k*9:=by rw[dw iG,hk]
 rw[Qy qs r p k 4 _ hk (by omega),tn _ _ _ k 5 _ hl (by simp[bK.cells]),tn _ _ _ k 6 _ hl (by simp[bK.cells]),tn _ _ _ k 7 _ hl (by simp[bK.cells]),tn _ _ _ k 8 _ hl (by simp[bK.cells])];rw[List.append_assoc,List.flatMap_append,List.singleton_append,List.flatMap_cons];rfl
theorem DW {l qs:List bK}{k:Nat}{p q:bK}(hk:qs.length=k)(h:∀ (i:Nat)(p q:bK),l[i]?=some p->qs[i]?=some q->p.alike q)(hp:l[k]?=some p)(ha:p.alike q):
  ∀ (i:Nat)(x y:bK),l[i]?=some x->(qs++[q])[i]?=some y->x.alike y:=by
 intro i x y hx hy;by_cases hi:i<qs.length
 ·rw[List.getElem?_append_left hi] at hy;exact h i x y hx hy
 ·rw[List.getElem?_append_right (by omega)] at hy;have hik:i=k:=by
   have:=(gS hy).1;simp at this;omega
  subst hik;rw[hk,Nat.sub_self] at hy;simp at hy;rw[hp] at hx;injection hx with hx;subst hx hy;exact ha
end
end Go.Proofs.YtlglfpbhapmhiaaGreatDoor
