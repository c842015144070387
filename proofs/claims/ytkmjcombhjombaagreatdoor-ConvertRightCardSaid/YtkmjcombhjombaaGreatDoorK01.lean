/- A part of the proof. -/
import Derived.Deep.Fields
import Derived.Deep.Slices
import Derived.LaidEqlPtr
import Derived.Laws.StructEq
import Derived.Lib.SliceRun
import Derived.MapKept
import Derived.Test.YtkmjcombhjombaaGreatDoorK00
set_option maxRecDepth 100000
set_option maxHeartbeats 20000000
set_option linter.unusedVariables false
set_option linter.unusedSimpArgs false
namespace Go.Proofs.YtkmjcombhjombaaGreatDoor
variable{fs:Array Field}{O:Array Oper}{xs:List Value}{base d fuel g id k lo n size sz:Nat}{o:Oper}{A:Option Addr}{row:Option Nat}{E T e:TypeId}{v:Value}{a b w w':World}
section
open Go.RowKit
def Rd (w:World)(sz:Nat)(A:Option Addr)(n:Nat)(xs:List Value):Prop:=
 xs.length=n*sz/\(0<n->∃ b off,A=some ⟨b,off,none⟩/\∀ (j:Nat)(u:Value),xs[j]?=some u->w.cell? ⟨b,off+j,none⟩=some u)
theorem Rd.nil (w:World)(sz:Nat)(A:Option Addr):Rd w sz A 0 []:=⟨by simp,fun h=>absurd h (by omega)⟩
theorem Rd.keep (h:Rd w sz A n xs)(hk:∀ p:Addr,p.block<w.heap.size->w'.cell? p=w.cell? p):Rd w' sz A n xs:=
 ⟨h.1,fun D=>by
  obtain⟨b,off,e,y⟩:=h.2 D;exact⟨b,off,e,fun j u z=>(hk _ (World.block_lt_of_cell? _ _ (y j u z))).trans (y j u z)⟩⟩
theorem Rd.below (h:Rd w sz A n xs)(hb:Below w.heap.size w w'):Rd w' sz A n xs:=h.keep fun _ y=>hb.cell y
theorem Rd.drew (h:Rd w sz A n xs):Rd w.drew sz A n xs:=h
structure jf where
 nm:BA
 op:Int
 ver:BA
structure jg where
 path:BA
 kind:Int
 mode:Int
 owner:BA
 group:BA
 link:BA
 sum:BA
 conf:Bool
structure jy where
 phase:Int
 body:BA
structure jn where
 nm:BA
 ver:BA
 ar:BA
 sm:BA
 na:Option Addr
 nc:Nat
 needs:List BA
 ba:Option Addr
 bc:Nat
 bars:List BA
 ga:Option Addr
 gc:Nat
 gives:List jf
 fa:Option Addr
 fc:Nat
 files:List jg
 sa:Option Addr
 sc:Nat
 scripts:List jy
def jf.cells (x:jf):List Value:=[.string x.nm,.int .i64 x.op,.string x.ver]
def jg.cells (x:jg):List Value:=[.string x.path,.int .i64 x.kind,.int .i64 x.mode,.string x.owner,.string x.group,.string x.link,.string x.sum,.bool x.conf]
def jy.cells (x:jy):List Value:=[.int .i64 x.phase,.string x.body]
def strCells (l:List BA):List Value:=l.map .string
def jn.cells (p:jn):List Value:=[.string p.nm,.string p.ver,.string p.ar,.string p.sm,.slice p.na p.needs.length p.nc,.slice p.ba p.bars.length p.bc,.slice p.ga p.gives.length p.gc,.slice p.fa p.files.length p.fc,.slice p.sa p.scripts.length p.sc]
def jn.val (p:jn):Value:=.agg #[.string p.nm,.string p.ver,.string p.ar,.string p.sm,.slice p.na p.needs.length p.nc,.slice p.ba p.bars.length p.bc,.slice p.ga p.gives.length p.gc,.slice p.fa p.files.length p.fc,.slice p.sa p.scripts.length p.sc]
structure jn.ok (p:jn) (w:World):Prop where
 needs:Rd w 1 p.na p.needs.length (strCells p.needs)
 bars:Rd w 1 p.ba p.bars.length (strCells p.bars)
 gives:Rd w 3 p.ga p.gives.length (p.gives.flatMap jf.cells)
 files:Rd w 8 p.fa p.files.length (p.files.flatMap jg.cells)
 scripts:Rd w 2 p.sa p.scripts.length (p.scripts.flatMap jy.cells)
theorem jn.ok.below {p:jn}(h:p.ok w)(hb:Below w.heap.size w w'):p.ok w':=⟨h.1.below hb,h.2.below hb,h.3.below hb,h.4.below hb,h.5.below hb⟩
structure jn.fits (p:jn):Prop where
 nm:p.nm.size<=9223372036854775807
 ver:p.ver.size<=9223372036854775807
 ar:p.ar.size<=9223372036854775807
 sm:p.sm.size<=9223372036854775807
 needs:p.needs.length<=9223372036854775807
 bars:p.bars.length<=9223372036854775807
 gives:p.gives.length<=9223372036854775807
 files:p.files.length<=9223372036854775807
 scripts:p.scripts.length<=9223372036854775807
 needs_:∀ s∈p.needs,s.size<=9223372036854775807
 bars_:∀ s∈p.bars,s.size<=9223372036854775807
 gives_:∀ x∈p.gives,x.nm.size<=9223372036854775807/\x.ver.size<=9223372036854775807/\(Lit.int .i64 x.op).wf=true
 files_:∀ x∈p.files,x.path.size<=9223372036854775807/\x.owner.size<=9223372036854775807/\x.group.size<=9223372036854775807/\x.link.size<=9223372036854775807/\x.sum.size<=9223372036854775807/\(Lit.int .i64 x.kind).wf=true/\(Lit.int .i64 x.mode).wf=true
 scripts_:∀ x∈p.scripts,x.body.size<=9223372036854775807/\(Lit.int .i64 x.phase).wf=true
structure tU (w:World) (A:Option Addr) (l:List jn):Prop where
 row:Rd w 9 A l.length (l.flatMap jn.cells)
 all:∀ p∈l,p.ok w
theorem tU.below {l:List jn}(h:tU w A l)(hb:Below w.heap.size w w'):tU w' A l:=⟨h.1.below hb,fun p y=>(h.2 p y).below hb⟩
theorem rt {α:Type}{f:α->List Value}{sz:Nat}(hf:∀ x,(f x).length=sz):∀ (l:List α)(i j:Nat)(x:α),l[i]?=some x->j<sz->(l.flatMap f)[i*sz+j]?=(f x)[j]?
 | [],i,j,x,h,_=>by simp at h
 | a::r,0,j,x,h,hj=>by
  simp at h;subst h;rw[List.flatMap_cons,List.getElem?_append_left (by rw[hf];omega)];simp
 | a::r,i+1,j,x,h,hj=>by
  have y:r[i]?=some x:=by simpa using h
  rw[List.flatMap_cons,List.getElem?_append_right (by rw[hf,Nat.add_mul];omega),hf,<-rt hf r i j x y hj];congr 1;rw[Nat.add_mul];omega
theorem ox {α:Type}{f:α->List Value}{sz:Nat}(hf:∀ x,(f x).length=sz):∀ (l:List α),(l.flatMap f).length=l.length*sz
 | []=>by simp
 | a::r=>by rw[List.flatMap_cons,List.length_append,hf,ox hf r,List.length_cons,Nat.add_mul];omega
theorem md (x:jf):x.cells.length=3:=rfl
theorem nS (x:jg):x.cells.length=8:=rfl
theorem nI (x:jy):x.cells.length=2:=rfl
theorem mX (x:jn):x.cells.length=9:=rfl
theorem Rd.elem {α:Type}{f:α->List Value}(hf:∀ x,(f x).length=sz){l:List α}(h:Rd w sz A l.length (l.flatMap f))(i:Nat)(x:α)(hi:l[i]?=some x):
  ∃ b off,A=some ⟨b,off,none⟩/\∀ (j:Nat)(u:Value),(f x)[j]?=some u->w.cell? ⟨b,off+i*sz+j,none⟩=some u:=by
 have z:i<l.length:=(gS hi).1;obtain⟨b,off,e,F⟩:=h.2 (by omega);refine⟨b,off,e,fun j u y=>?_⟩;have D:j<sz:=by rw[<-hf x];exact(gS y).1
 rw[Nat.add_assoc];exact F _ u (by rw[rt hf l i j x hi D,y])
theorem Rd.str {l:List BA}(h:Rd w 1 A l.length (strCells l))(i:Nat)(x:BA)(hi:l[i]?=some x):
  ∃ b off,A=some ⟨b,off,none⟩/\w.cell? ⟨b,off+i,none⟩=some (.string x):=by
 have y:i<l.length:=(gS hi).1;obtain⟨b,off,e,z⟩:=h.2 (by omega);exact⟨b,off,e,z i _ (by simp[strCells,hi])⟩
theorem ls (h:a.grownBy w row)(n:Nat):a.grownBy (w.drewN n) row:=⟨h.os,h.tape,h.output,h.size,h.block⟩
theorem pB (h:a.grownBy w row)(o:Obj):a.grownBy (w.alloc o) row:=
 ⟨h.os,h.tape,h.output,Nat.le_trans h.size (by simp),fun i z y=>(Below.heap_alloc w o i (Nat.lt_of_lt_of_le z h.size)).trans (h.block i z y)⟩
theorem ji (h:a.grownBy w (some g)){p:Addr}(hp:p.block=g\/a.heap.size<=p.block)(u:Value):a.grownBy (w.setCell p u) (some g):=
 ⟨h.os,h.tape,h.output,by simpa [World.setCell] using h.size,fun i z y=>(Below.heap_setCell w p u i (by
  rintro rfl;rcases hp with hp | hp
  ·exact y (by rw[hp])
  ·omega)).trans (h.block i z y)⟩
theorem kx (h:a.grownBy w row)(hb:Below w.heap.size w w'):a.grownBy w' row:=
 ⟨hb.os.trans h.os,hb.tape.trans h.tape,hb.output.trans h.output,Nat.le_trans h.size hb.size,fun i y z=>(hb.block i (Nat.lt_of_lt_of_le y h.size)).trans (h.block i y z)⟩
theorem jp (h:w.ownsRow base e size v n xs)(hb:Below w.heap.size w w'):w'.ownsRow base e size v n xs:=by
 refine⟨h.1,?_⟩;rcases h.2 with I | ⟨g,cap,y,F,K,z,H,D,M,J⟩
 ·exact .inl I
 ·exact .inr ⟨g,cap,y,F,K,(hb.block g (Array.getElem?_eq_some_iff.1 z).1).trans z,H,D,M,J⟩
theorem jk (h:w.ownsRow base e size v n xs):∃ A c,v=.slice A n c:=by
 rcases h.2 with⟨rfl,rfl⟩ | ⟨g,cap,z,y,_⟩
 ·exact⟨none,0,rfl⟩
 ·exact⟨_,_,y⟩
theorem jK {base':Nat}(h:w.ownsRow base e size v n xs)(hb:base'<=base):w.ownsRow base' e size v n xs:=by
 refine⟨h.1,?_⟩;rcases h.2 with D | ⟨g,cap,y,z,F,r⟩
 ·exact .inl D
 ·exact .inr ⟨g,cap,y,z,Nat.le_trans hb F,r⟩
theorem jL {c:Nat}(h:w.ownsRow base e size (.slice A n c) n xs):Rd w size A n xs:=by
 refine⟨h.1,fun I=>?_⟩;obtain⟨g,cap,z,_,D⟩:=h.form I;have H:A=some ⟨g,0,none⟩:=by injection z
 subst H;refine⟨g,0,rfl,fun j u y=>?_⟩;have:=h.cells (g:=g) rfl j u y;unfold Addr.add at this;rw[Nat.zero_add];split at this
 ·rename_i F;subst F;exact this
 ·simpa using this
structure nT (q:jn) (w:World) (lo:Nat):Prop where
 needs:w.ownsRow lo 9 1 (.slice q.na q.needs.length q.nc) q.needs.length (strCells q.needs)
 bars:w.ownsRow lo 9 1 (.slice q.ba q.bars.length q.bc) q.bars.length (strCells q.bars)
 gives:w.ownsRow lo 78 3 (.slice q.ga q.gives.length q.gc) q.gives.length (q.gives.flatMap jf.cells)
 files:w.ownsRow lo 57 8 (.slice q.fa q.files.length q.fc) q.files.length (q.files.flatMap jg.cells)
 scripts:w.ownsRow lo 59 2 (.slice q.sa q.scripts.length q.sc) q.scripts.length (q.scripts.flatMap jy.cells)
theorem jS (h:w.ownsRow lo e size v n xs)(hlo:g<lo)(hg:w.grownBy w' (some g)):w'.ownsRow lo e size v n xs:=by
 refine h.kept hg ?_;cases hb:v.ownBlock with
 | none=>exact .inl rfl
 | some k=>right;intro y;have:=(h.lt k hb).1;injection y with y;omega
theorem nT.kept {q:jn}(h:nT q w lo)(hlo:g<lo)(hg:w.grownBy w' (some g)):nT q w' lo:=
 ⟨jS h.1 hlo hg,jS h.2 hlo hg,jS h.3 hlo hg,jS h.4 hlo hg,jS h.5 hlo hg⟩
theorem nT.below {q:jn}(h:nT q w lo)(hb:Below w.heap.size w w'):nT q w' lo:=
 ⟨jp h.1 hb,jp h.2 hb,jp h.3 hb,jp h.4 hb,jp h.5 hb⟩
structure jn.alike (p q:jn):Prop where
 nm:p.nm=q.nm
 ver:p.ver=q.ver
 ar:p.ar=q.ar
 sm:p.sm=q.sm
 needs:p.needs=q.needs
 bars:p.bars=q.bars
 gives:p.gives=q.gives
 files:p.files=q.files
 scripts:p.scripts=q.scripts
def QE (p q:jn):Prop:=(∀ g g',(Value.slice p.ga p.gives.length p.gc).ownBlock=some g->(Value.slice q.ga q.gives.length q.gc).ownBlock=some g'->g<g')/\(∀ g g',(Value.slice p.fa p.files.length p.fc).ownBlock=some g->(Value.slice q.fa q.files.length q.fc).ownBlock=some g'->g<g')
structure aaW (w:World) (lo g0:Nat) (v:Value) (l:List jn):Prop where
 row:w.ownsRow lo 38 9 v l.length (l.flatMap jn.cells)
 blk:0<l.length->v.ownBlock=some g0
 all:∀ q∈l,nT q w (g0+1)
 far:l.Pairwise QE
theorem ZW (qs r:List jn)(p:jn)(k j:Nat)(u:Value)(hk:qs.length=k)(hj:j<9):((qs++p::r).flatMap jn.cells).set (k*9+j) u=qs.flatMap jn.cells++(p.cells.set j u++r.flatMap jn.cells):=by
 have y:(qs.flatMap jn.cells).length=k*9:=by rw[ox mX,hk]
 rw[List.flatMap_append,List.flatMap_cons,List.set_append_right _ _ (by omega),y,show k*9+j-k*9=j from by omega,List.set_append_left _ _ (by rw[mX];omega)]
theorem ja {c:World}(h:a.grownBy b row)(k:b.grownBy c row):a.grownBy c row:=
 ⟨k.os.trans h.os,k.tape.trans h.tape,k.output.trans h.output,Nat.le_trans h.size k.size,fun i z y=>(k.block i (Nat.lt_of_lt_of_le z h.size) y).trans (h.block i z y)⟩
theorem mP (h:Below w.heap.size w a)(k:a.grownBy b (some g))(hg:w.heap.size<=g):Below w.heap.size w b:=
 h.grown k h.size (fun j y=>by injection y with y;omega)
theorem Je {p:jn}(hp:p.ok w)(h:Below w.heap.size w a)(k:a.grownBy b (some g))(hg:w.heap.size<=g):Hid (p.ok b):=hp.below (mP h k hg)
theorem ZX (qs r:List jn)(p:jn)(k:Nat)(hk:qs.length=k)  : ((qs++p::r).flatMap jn.cells)[k*9+4]?=some (.slice p.na p.needs.length p.nc):=by
 exact rt mX (qs++p::r) k 4 p (by rw[List.getElem?_append_right (by omega)];simp[hk]) (by omega)
theorem ZY (qs r:List jn)(p:jn)(k:Nat)(hk:qs.length=k)(u0:Value):(((qs++p::r).flatMap jn.cells).set (k*9+4) u0)[k*9+5]?=some (.slice p.ba p.bars.length p.bc):=by
 rw[List.getElem?_set_ne (by omega)];exact rt mX (qs++p::r) k 5 p (by rw[List.getElem?_append_right (by omega)];simp[hk]) (by omega)
theorem ZZ (qs r:List jn)(p:jn)(k:Nat)(hk:qs.length=k)(u0:Value)(u1:Value):((((qs++p::r).flatMap jn.cells).set (k*9+4) u0).set (k*9+5) u1)[k*9+6]?=some (.slice p.ga p.gives.length p.gc):=by
 rw[List.getElem?_set_ne (by omega)];rw[List.getElem?_set_ne (by omega)];exact rt mX (qs++p::r) k 6 p (by rw[List.getElem?_append_right (by omega)];simp[hk]) (by omega)
theorem Z1 (qs r:List jn)(p:jn)(k:Nat)(hk:qs.length=k)(u0:Value)(u1:Value)(u2:Value):(((((qs++p::r).flatMap jn.cells).set (k*9+4) u0).set (k*9+5) u1).set (k*9+6) u2)[k*9+7]?=some (.slice p.fa p.files.length p.fc):=by
 rw[List.getElem?_set_ne (by omega)];rw[List.getElem?_set_ne (by omega)];rw[List.getElem?_set_ne (by omega)];exact rt mX (qs++p::r) k 7 p (by rw[List.getElem?_append_right (by omega)];simp[hk]) (by omega)
theorem Z3 (qs r:List jn)(p:jn)(k:Nat)(hk:qs.length=k)(u0:Value)(u1:Value)(u2:Value)(u3:Value):((((((qs++p::r).flatMap jn.cells).set (k*9+4) u0).set (k*9+5) u1).set (k*9+6) u2).set (k*9+7) u3)[k*9+8]?=some (.slice p.sa p.scripts.length p.sc):=by
 rw[List.getElem?_set_ne (by omega)];rw[List.getElem?_set_ne (by omega)];rw[List.getElem?_set_ne (by omega)];rw[List.getElem?_set_ne (by omega)];exact rt mX (qs++p::r) k 8 p (by rw[List.getElem?_append_right (by omega)];simp[hk]) (by omega)
theorem BU (a b c:List Value)(k j:Nat)(u:Value)(ha:a.length=k*9)(hj:j<b.length):(a++(b++c)).set (k*9+j) u=a++(b.set j u++c):=by
 rw[List.set_append_right _ _ (by omega),ha,show k*9+j-k*9=j from by omega,List.set_append_left _ _ hj]
theorem Vb (qs r:List jn)(p:jn)(k:Nat)(hk:qs.length=k)(a1 a2 a3 a4 a5:Option Addr)(c1 c2 c3 c4 c5:Nat):
  ((((((qs++p::r).flatMap jn.cells).set (k*9+4) (.slice a1 p.needs.length c1)).set (k*9+5) (.slice a2 p.bars.length c2)).set (k*9+6) (.slice a3 p.gives.length c3)).set (k*9+7) (.slice a4 p.files.length c4)).set (k*9+8) (.slice a5 p.scripts.length c5) =
    ((qs++[({ p with na:=a1,nc:=c1,ba:=a2,bc:=c2,ga:=a3,gc:=c3,fa:=a4,fc:=c4,sa:=a5,sc:=c5 }:jn)])++r).flatMap jn.cells:=by
 have y:(qs.flatMap jn.cells).length=k*9:=by rw[ox mX,hk]
 rw[ZW qs r p k 4 _ hk (by omega),BU _ _ _ k 5 _ y (by simp[jn.cells]),BU _ _ _ k 6 _ y (by simp[jn.cells]),BU _ _ _ k 7 _ y (by simp[jn.cells]),BU _ _ _ k 8 _ y (by simp[jn.cells])];rw[List.append_assoc,List.flatMap_append,List.singleton_append,List.flatMap_cons];rfl
theorem NH {l qs:List jn}{p q:jn}(hk:qs.length=k)(h:∀ (i:Nat)(p q:jn),l[i]?=some p->qs[i]?=some q->p.alike q)(hp:l[k]?=some p)(ha:p.alike q):
  ∀ (i:Nat)(x y:jn),l[i]?=some x->(qs++[q])[i]?=some y->x.alike y:=by
 intro i x y D z;by_cases H:i<qs.length
 ·rw[List.getElem?_append_left H] at z;exact h i x y D z
 ·rw[List.getElem?_append_right (by omega)] at z;have F:i=k:=by
   have:=(gS z).1;simp at this;omega
  subst F;rw[hk,Nat.sub_self] at z;simp at z;rw[hp] at D;injection D with D;subst D z;exact ha
end
section
open Go.RowKit
def lst (n k:Nat):Array Bool:=Array.ofFn (n:=n) fun i=>decide (i.val<k)
theorem XC (n:Nat):Array.replicate n false=lst n 0:=by
 unfold lst;apply Array.ext
 ·simp
 ·intro i z y;simp
theorem RG (n k:Nat):(lst n k).setIfInBounds k true=lst n (k+1):=by
 unfold lst;apply Array.ext
 ·simp
 ·intro i z y;rw[Array.getElem_setIfInBounds (by simpa using y)];split
  ·rename_i h;simp[<-h]
  ·rename_i h;simp only[Array.getElem_ofFn];congr 1;simp only[eq_iff_iff];omega
def Qi (O:Array Oper)(k:Nat):Bool:=Region.free .any O (lst O.size k) k&&(Region.ready .any O (lst O.size k)).contains k
def gd (t:Array Value)(d:Nat)(b:Bool):Bool:=match t[d]? with | some (.bool c)=>c==b | _=>false
theorem Al {t:Array Value}{og:Oper}{b:Bool}(hg:o.guard=some (g,b))(hpg:O[g]?=some og)(hdg:og.dst=some d):
  Region.wanted o (yielded O t)=gd t d b:=by
 unfold Region.wanted;rw[hg];show(yielded O t g==some b)=_;unfold yielded gd;rw[hpg];show((match (og.dst).bind (t[·]?) with | some (.bool b)=>some b | _=>none)==some b)=_;rw[hdg];show((match t[d]? with | some (.bool b)=>some b | _=>none)==some b)=_;cases h:t[d]? with
 | none=>rfl
 | some x=>cases x<;>rfl
theorem lC {ops:Array Oper}(hO:O=ops)(h:ops[k]?=some o):O[k]?=some o:=hO ▸ h
section
variable {P : Program} {O : Array Oper} {R : Act -> World -> Prop} {S : World -> Prop} {n k f j : Nat} {o og : Oper} {v : Value} {t : Array Value} {df : List Deferred} {w : World}
theorem abo {Q:Exit->Act->World->Prop}{a:Act}(h:∀ O',O'=O->Code.wp P (.region id O' true) Q a w):Code.wp P (.region id O true) Q a w:=h O rfl
theorem Qj (hok:∀ k,k<n->Qi O k=true)(hns:Region.noSelect O=true)(hk:k<n)(ho:O[k]?=some o)(hd:o.dst=some j)(hy:YieldsIf P O S o v ⟨t,df⟩)(hS:S w)
  (h:wpAnyH P .any O (Exit.then R fun _ _ _=>False) S f (lst O.size (k+1)) ⟨t.setIfInBounds j v,df⟩ w):
  wpAnyH P .any O (Exit.then R fun _ _ _=>False) S (f+1) (lst O.size k) ⟨t,df⟩ w:=by
 have y:=hok k hk;unfold Qi at y;rw[Bool.and_eq_true] at y;refine wpAnyH_take (i:=k) (oi:=o) (v:=v) ho hns y.1 y.2 (fun _ _ _ h=>h) hy hS ?_;rw[RG,hd];exact h
theorem kS (hok:∀ k,k<n->Qi O k=true)(hns:Region.noSelect O=true)(ho:O[k]?=some o)
  (h:wpAnyH P .any O (Exit.then R fun _ _ _=>False) S f (lst O.size (k+1)) ⟨t.setIfInBounds j v,df⟩ w)
  (hk:k<n:=by decide)(hd:o.dst=some j:=by rfl)(hg:o.guard=none:=by rfl)(hS:S w:=by assumption)
  (he:∀ w,S w->(execOp (Act.eval ⟨t,df⟩) o).run P w=.ok (.value v) w:=by(intro w' hSw;(try dsimp only at hSw);go_simp;try (with_reducible rfl))):
  wpAnyH P .any O (Exit.then R fun _ _ _=>False) S (f+1) (lst O.size k) ⟨t,df⟩ w:=
 Qj hok hns hk ho hd (.inl ⟨by unfold Region.wanted;rw[hg],he⟩) hS h
theorem kJ {b:Bool}(hok:∀ k,k<n->Qi O k=true)(hns:Region.noSelect O=true)(ho:O[k]?=some o)(hpg:O[g]?=some og)
  (h:wpAnyH P .any O (Exit.then R fun _ _ _=>False) S f (lst O.size (k+1)) ⟨t.setIfInBounds j v,df⟩ w)
  (hk:k<n:=by decide)(hd:o.dst=some j:=by rfl)(hg:o.guard=some (g,b):=by rfl)(hdg:og.dst=some d:=by rfl)(hgd:gd t d b=true:=by kernel_rfl)(hS:S w:=by assumption)
  (he:∀ w,S w->(execOp (Act.eval ⟨t,df⟩) o).run P w=.ok (.value v) w:=by(intro w' hSw;(try dsimp only at hSw);go_simp;try (with_reducible rfl))):
  wpAnyH P .any O (Exit.then R fun _ _ _=>False) S (f+1) (lst O.size k) ⟨t,df⟩ w:=
 Qj hok hns hk ho hd (.inl ⟨by rw[Al hg hpg hdg];exact hgd,he⟩) hS h
theorem jP {b:Bool}(hok:∀ k,k<n->Qi O k=true)(hns:Region.noSelect O=true)(ho:O[k]?=some o)(hpg:O[g]?=some og)
  (h:wpAnyH P .any O (Exit.then R fun _ _ _=>False) S f (lst O.size (k+1)) ⟨t.setIfInBounds j undef,df⟩ w)
  (hk:k<n:=by decide)(hd:o.dst=some j:=by rfl)(hg:o.guard=some (g,b):=by rfl)(hdg:og.dst=some d:=by rfl)(hgd:gd t d b=false:=by kernel_rfl)(hS:S w:=by assumption):
  wpAnyH P .any O (Exit.then R fun _ _ _=>False) S (f+1) (lst O.size k) ⟨t,df⟩ w:=
 Qj hok hns hk ho hd (.inr ⟨by rw[Al hg hpg hdg];exact hgd,rfl⟩) hS h
theorem ZR (hr:Region.ready .any O (lst O.size k)=[k])(ho:O[k]?=some o)(hd:o.dst=some j)(hw:Region.wanted o (yielded O t)=true)(hS:S w)
  (he:∀ K:Act->World->Prop,K ⟨t.setIfInBounds j v,df⟩ w->Oper.wp P o ⟨t,df⟩ w K (Exit.then R fun _ _ _=>False))
  (h:wpAnyH P .any O (Exit.then R fun _ _ _=>False) S f (lst O.size (k+1)) ⟨t.setIfInBounds j v,df⟩ w):
  wpAnyH P .any O (Exit.then R fun _ _ _=>False) S (f+1) (lst O.size k) ⟨t,df⟩ w:=by
 refine wpAnyH_ready hr (by simp) (AllReadyH.cons ho (fun K y=>?_) AllReadyH.nil);rw[if_pos hw];refine he K (y.out _ _ hS fun _=>?_);rw[RG];exact h
theorem aaI {a:Act}(hm:P.follows .mixedOrders=true)(hS:S w.drew)
  (h:S w.drew->wpAnyH P .any O (Exit.then R fun _ _ _=>False) S O.size (lst O.size 0) a w.drew):(Code.region id O true).wp P (Exit.then R fun _ _ _=>False) a w:=by
 refine wp_region_held_drew hm hS fun y=>?_;rw[XC];exact h y
theorem yR {a:Act}(hr:Region.ready .any O (lst O.size k)=[])(h:R a w):wpAnyH P .any O (Exit.then R fun _ _ _=>False) S f (lst O.size k) a w:=wpAnyH_done hr h f
end
end
section
open Go.ChangeShapes Go.WideShapes Go.Deep Go.RowKit
section
variable {H : Type} {enc : TypeId × Value -> H} {P : Program} {w : World} {base : Nat} {spare : Nat -> Bool} {held : Bool}
theorem yV {t:TypeId}{cs:List Value}{x:DataW H×List MemPlace}(ht:P.underlying t=some (.slice e))(he:P.underlying e=some (.struct fs))
  (hone:oneCellFields P fs=true)(hC:P.cellsOf e=fs.size)(h:DataW.trod enc P w base spare held fuel t cs=some x):
  (cs=[.slice none 0 0]/\x=(.nil,[])) \/
  ∃ (a:Addr) (len cap m:Nat) (D:Nat->DataW H) (Pl:Nat->List MemPlace),cs=[.slice (some a) len cap]/\base<=a.block/\len<=cap/\cap<=maxLen/\m=(if spare a.block then cap else len) /\
   x=(.slice ((List.range len).map D) ((List.range (m-len)).map fun j=>D (len+j)),MemPlace.row a (m*fs.size)++(List.range m).flatMap Pl) /\
   ∀ i,i<m->∃ (ys:List (DataW H×List MemPlace)) (n:Nat),D i=.agg (ys.map (·.1))/\Pl i=ys.flatMap (·.2)/\ys.length=fs.size /\
    ∀ (j:Nat)(f:Field),fs[j]?=some f->∃ (v:Value)(y:DataW H×List MemPlace),w.cell? (a.add (i*fs.size+j))=some v/\ys[j]?=some y/\DataW.trod enc P w base spare held n f.type [v]=some y:=by
 rcases open_slice ht h with h0 | ⟨a,len,cap,m,n,D,Pl,M,hb,hl,hm,K,hx,hi⟩
 ·exact .inl h0
 ·refine .inr ⟨a,len,cap,m,D,Pl,M,hb,hl,hm,K,by rw[hC] at hx;exact hx,fun i Y=>?_⟩;obtain⟨z,hc,R⟩:=hi i Y;rw[hC] at hc;obtain⟨ys,n',ac,N,aa,Z,hf⟩:=DataW.trod_struct he R;obtain⟨_,ab,V⟩:=World.cells?_some hc;simp only[Prod.mk.injEq] at N;refine⟨ys,n',N.1,N.2,Z,fun j f X=>?_⟩;obtain⟨ho,hk⟩:=hone_of hone j f X;have O:j<fs.size:=(Array.getElem?_eq_some_iff.1 X).1;have I:=V j O;have hv:z[j]?=some (z[j]'(by omega)):=gG (by omega);have U:=hf j f X;rw[ho,hk] at U;have F:(z.drop j).take 1=[z[j]'(by omega)]:=by
   rw[List.drop_eq_getElem_cons (by omega)];rfl
  rw[F] at U;have J:ys[j]?=some (ys[j]'(by omega)):=gG (by omega);refine⟨_,_,?_,J,U.trans J⟩;rw[<-Go.Deep.add_add,I,hv]
end
theorem Cq {α:Type}{Q:Nat->α->Prop}:∀ n:Nat,(∀ i,i<n->∃ x,Q i x)->∃ l:List α,l.length=n/\∀ (i:Nat)(x:α),l[i]?=some x->Q i x
 | 0,_=>⟨[],rfl,fun i x h=>by simp at h⟩
 | n+1,h=>by
  obtain⟨l,D,H⟩:=Cq n (fun i F=>h i (by omega));obtain⟨x,I⟩:=h n (by omega);refine⟨l++[x],by simp[D],fun i y z=>?_⟩;by_cases F:i<l.length
  ·rw[List.getElem?_append_left F] at z;exact H i y z
  ·rw[List.getElem?_append_right (by omega)] at z;have:i=n:=by have:=(gS z).1;simp at this;omega
   subst this;rw[D,Nat.sub_self] at z;simp at z;subst z;exact I
theorem FH {α:Type}{f:α->List Value}(hf:∀ x,(f x).length=sz)(hsz:0<sz)(l:List α)(j:Nat)(u:Value)(h:(l.flatMap f)[j]?=some u):∃ (i k:Nat)(x:α),l[i]?=some x/\k<sz/\j=i*sz+k/\(f x)[k]?=some u:=by
 have D:j<l.length*sz:=by rw[<-ox hf];exact(gS h).1
 have z:j / sz<l.length:=Nat.div_lt_of_lt_mul (by rw[Nat.mul_comm];exact D);have y:j % sz<sz:=Nat.mod_lt _ hsz;have e:j=j / sz*sz+j % sz:=by rw[Nat.mul_comm];exact(Nat.div_add_mod j sz).symm
 refine⟨j / sz,j % sz,l[j / sz],gG z,y,e,?_⟩;rw[<-rt hf l (j / sz) (j % sz) _ (gG z) y,<-e,h]
theorem vJ {a:Addr}(h:w.cell? (a.add n)=some v):a.add n=⟨a.block,a.off+n,none⟩:=by
 unfold Addr.add at *;split at h
 ·rename_i y;subst y;simp only[if_pos];cases a with | mk b o s=>
   unfold World.cell? at h;split at h
   ·split at h
    ·cases h
    ·rename_i z;simp at z;simp[z]
   ·cases h
 ·rename_i y;rw[if_neg y]
section
variable {H : Type} {enc : TypeId × Value -> H} {w : World} {spare : Nat -> Bool}
theorem vK (hT:Tryz.prog.underlying T=some (.slice E))(hE:Tryz.prog.underlying E=some (.struct fs))(hone:oneCellFields Tryz.prog fs=true)(hC:Tryz.prog.cellsOf E=fs.size)(hpos:0<fs.size)
  {α:Type}(f:α->List Value)(Pr:α->Prop)(hf:∀ x,(f x).length=fs.size)
  (hel:∀ (n:Nat)(vs:Nat->Value),(∀ (j:Nat)(fd:Field),fs[j]?=some fd->∃ y,DataW.trod enc Tryz.prog w 0 spare true n fd.type [vs j]=some y)->∃ x:α,Pr x/\∀ j,j<fs.size->(f x)[j]?=some (vs j))
  {d:DataW H×List MemPlace}(h:DataW.trod enc Tryz.prog w 0 spare true fuel T [v]=some d):
  ∃ (A:Option Addr) (c:Nat) (l:List α),v=.slice A l.length c/\Rd w fs.size A l.length (l.flatMap f)/\(∀ x∈l,Pr x)/\l.length<=9223372036854775807/\l.length<=c:=by
 rcases yV hT hE hone hC h with⟨z,_⟩ | ⟨a,len,cap,m,D,Pl,z,_,hl,hm,V,_,hi⟩
 ·injection z with z _;exact⟨none,0,[],z,Rd.nil _ _ _,fun x K=>by simp at K,z0,z0⟩
 ·injection z with z _;have aa:len<=m:=by rw[V];split<;>omega
  have key:∀ i,i<len->∃ x:α,Pr x/\∀ j u,(f x)[j]?=some u->w.cell? ⟨a.block,a.off+(i*fs.size+j),none⟩=some u:=by
   intro i O;obtain⟨ys,n,_,_,ab,Y⟩:=hi i (by omega);have Z:∀ j,∃ v,(∀ fd,fs[j]?=some fd->w.cell? (a.add (i*fs.size+j))=some v/\∃ y,DataW.trod enc Tryz.prog w 0 spare true n fd.type [v]=some y):=by
    intro j;cases hfd:fs[j]? with
    | none=>exact⟨default,fun fd h=>by cases h⟩
    | some fd=>
     obtain⟨v,y,I,_,h3⟩:=Y j fd hfd;exact⟨v,fun ae h=>by injection h with h;subst h;exact⟨I,y,h3⟩⟩
   have F:∃ vs:Nat->Value,∀ j fd,fs[j]?=some fd->w.cell? (a.add (i*fs.size+j))=some (vs j)/\∃ y,DataW.trod enc Tryz.prog w 0 spare true n fd.type [vs j]=some y:=
    ⟨fun j=>Classical.choose (Z j),fun j fd h=>Classical.choose_spec (Z j) fd h⟩
   obtain⟨vs,F⟩:=F;obtain⟨x,K,hc⟩:=hel n vs (fun j fd h=>(F j fd h).2);refine⟨x,K,fun j u U=>?_⟩;have N:j<fs.size:=by rw[<-hf x];exact(gS U).1
   have I:=hc j N;rw[U] at I;have I:=Option.some.inj I;subst I;have M:=(F j _ (Array.getElem?_eq_getElem N)).1;rw[vJ M] at M;exact M
  obtain⟨l,J,R⟩:=Cq len key;refine⟨some a,cap,l,by rw[J];exact z,⟨ox hf l,fun hn=>?_⟩,fun x K=>?_,by rw[J];unfold maxLen at hm;omega,by rw[J];exact hl⟩
  ·obtain⟨x0,ad⟩:∃ x,l[0]?=some x:=⟨_,gG hn⟩
   obtain⟨u0,ac⟩:∃ u,(f x0)[0]?=some u:=⟨_,gG (by rw[hf];exact hpos)⟩
   refine⟨a.block,a.off,?_,fun j u U=>?_⟩
   ·obtain⟨ys,n,_,_,_,Y⟩:=hi 0 (by omega);obtain⟨v0,y0,I,_,_⟩:=Y 0 _ (Array.getElem?_eq_getElem hpos);have M:=vJ I;simp only[Nat.zero_mul,Nat.zero_add,Addr.add,if_pos,Nat.add_zero] at M;rw[<-M]
   ·obtain⟨i,k,x,K,hk,rfl,X⟩:=FH hf hpos l j u U;exact(R i x K).2 k u X
  ·obtain⟨i,O,rfl⟩:=List.getElem_of_mem K;exact(R i _ (gG O)).1
theorem IZ (hT:Tryz.prog.underlying T=some (.slice E))(hE:Tryz.prog.underlying E=some .string)(hC:Tryz.prog.cellsOf E=1)
  {d:DataW H×List MemPlace}(h:DataW.trod enc Tryz.prog w 0 spare true fuel T [v]=some d):
  ∃ (A:Option Addr) (c:Nat) (l:List BA),v=.slice A l.length c/\Rd w 1 A l.length (strCells l)/\(∀ x∈l,x.size<=9223372036854775807)/\l.length<=9223372036854775807/\l.length<=c:=by
 rcases open_slice hT h with⟨y,_⟩ | ⟨a,len,cap,m,n,D,Pl,y,_,hl,hm,M,_,hi⟩
 ·injection y with y _;exact⟨none,0,[],y,Rd.nil _ _ _,fun x K=>by simp at K,z0,z0⟩
 ·injection y with y _;have Z:len<=m:=by rw[M];split<;>omega
  have key:∀ i,i<len->∃ x:BA,x.size<=9223372036854775807/\w.cell? ⟨a.block,a.off+i,none⟩=some (.string x)/\a.add i=⟨a.block,a.off+i,none⟩:=by
   intro i J;obtain⟨ab,X,R⟩:=hi i (by omega);rw[hC] at X;obtain⟨_,aa,U⟩:=World.cells?_some X;obtain⟨s,hs,_,N⟩:=DataW.trod_string hE R;have O:=U 0 (by omega);rw[hs,Nat.mul_one] at O;have Y:w.cell? (a.add i)=some (.string s):=by
    have e:(a.add i).add 0=a.add i:=by simp[Addr.add]
    rw[e] at O;simpa using O
   have I:=vJ Y;refine⟨s,by unfold maxLen at N;omega,by rw[<-I];exact Y,I⟩
  obtain⟨l,z,F⟩:=Cq len key;refine⟨some a,cap,l,by rw[z];exact y,⟨by simp[strCells],fun hn=>?_⟩,fun x K=>?_,by rw[z];unfold maxLen at hm;omega,by rw[z];exact hl⟩
  ·refine⟨a.block,a.off,?_,fun j u V=>?_⟩
   ·have I:=(F 0 _ (gG hn)).2.2;simp only[Addr.add,if_pos,Nat.add_zero] at I;rw[<-I]
   ·simp only[strCells,List.getElem?_map,Option.map_eq_some_iff] at V;obtain⟨x,K,rfl⟩:=V;exact(F j x K).2.1
  ·obtain⟨i,J,rfl⟩:=List.getElem_of_mem K;exact(F i _ (gG J)).1
end
end
end Go.Proofs.YtkmjcombhjombaaGreatDoor
