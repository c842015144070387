/- A part of the proof. -/
import Derived.Test.YtlglfpbhapmhiaaGreatDoorK17
set_option maxRecDepth 100000
set_option maxHeartbeats 20000000
set_option linter.unusedVariables false
set_option linter.unusedSimpArgs false
namespace Go.Proofs.YtlglfpbhapmhiaaGreatDoor
section
open Go.RowKit
theorem aR {w:World}{a j:Nat}(v:Value):w.grownBy (w.setCell ⟨a,j,none⟩ v) (some a):=an (World.grownBy.refl w (some a)) (.inl rfl) _
theorem kW {w w' w'':World}{a:Nat}(h:w.grownBy w' (some a))(hb:Below w'.heap.size w' w''):w.grownBy w'' (some a):=bh h hb
theorem dd {w w':World}(hb:Below w.heap.size w w')(row:Option Nat):w.grownBy w' row:=bh (World.grownBy.refl w row) hb
theorem av.grownBy {w w':World}{b:Nat}{row:Option Nat}{vs:LV}(h:av w b vs)(hg:w.grownBy w' row)(hne:some b≠row):av w' b vs:=by
 have hk:=hg.block b h.sz hne
 exact⟨Nat.lt_of_lt_of_le h.sz hg.size,fun j u hu=>(World.cell?_of_block (a:=⟨b,j,none⟩) hk).trans (h.cell j u hu),fun j hj=>(World.frozen?_of_block (a:=⟨b,j,none⟩) hk).trans (h.free j hj)⟩
structure DR (w:World) (a:Nat) (s:BA) (p n:Nat) (c:Int):Prop where
 blk:∃ (f:BA) (x:Int),av w a [.string s,.int .i64 p,.int .i64 n,.string f,.int .i64 x,.int .i64 c]
 le:p≤s.size
 nle:n≤p
theorem DR.below {w w':World}{a:Nat}{s:BA}{p n:Nat}{c:Int}(h:DR w a s p n c)(hb:Below w.heap.size w w'):DR w' a s p n c:=by
 obtain⟨f,x,k⟩:=h.blk;exact⟨⟨f,x,k.below hb⟩,h.le,h.nle⟩
theorem DR.kept {w w':World}{a:Nat}{row:Option Nat}{s:BA}{p n:Nat}{c:Int}(h:DR w a s p n c)(hg:w.grownBy w' row)(hne:some a≠row):DR w' a s p n c:=by
 obtain⟨f,x,k⟩:=h.blk;exact⟨⟨f,x,k.grownBy hg hne⟩,h.le,h.nle⟩
theorem DR.alloc {w:World}{a:Nat}{s:BA}{p n:Nat}{c:Int}(h:DR w a s p n c)(o:Obj):DR (w.alloc o) a s p n c:=h.below (bR.alloc lr o)
theorem DR.drewN {w:World}{a:Nat}{s:BA}{p n:Nat}{c:Int}(h:DR w a s p n c)(k:Nat):DR (w.drewN k) a s p n c:=h.below ⟨rfl,rfl,rfl,lr,fun _ _=>rfl⟩
theorem DR.far {w:World}{a b j:Nat}{s:BA}{p n:Nat}{c:Int}(h:DR w a s p n c)(hne:b≠a)(v:Value):DR (w.setCell ⟨b,j,none⟩ v) a s p n c:=h.kept (aR v) (by simp;omega)
theorem DR.sz {w:World}{a:Nat}{s:BA}{p n:Nat}{c:Int}(h:DR w a s p n c):a<w.heap.size:=by obtain⟨f,x,k⟩:=h.blk;exact k.sz
theorem DR.move {w:World}{a:Nat}{s:BA}{p n q:Nat}{c:Int}(h:DR w a s p n c)(h1:p≤q)(h2:q≤s.size):DR (w.setCell ⟨a,1,none⟩ (.int .i64 q)) a s q n c:=by
 obtain⟨f,x,k⟩:=h.blk;exact⟨⟨f,x,k.set 1 (by simp) _⟩,h2,Nat.le_trans h.nle h1⟩
theorem DR.count {w:World}{a:Nat}{s:BA}{p n:Nat}{c:Int}(h:DR w a s p n c)(h1:n<p):DR (w.setCell ⟨a,2,none⟩ (.int .i64 ((n+1:Nat):Int))) a s p (n+1) c:=by
 obtain⟨f,x,k⟩:=h.blk;exact⟨⟨f,x,k.set 2 (by simp) _⟩,h.le,h1⟩
structure Na (w:World) (a:Nat) (s:BA) (p n:Nat) (f:BA) (x c:Int):Prop where
 c0:w.cell? ⟨a,0,none⟩=some (.string s)
 c1:w.cell? ⟨a,1,none⟩=some (.int .i64 p)
 c2:w.cell? ⟨a,2,none⟩=some (.int .i64 n)
 c3:w.cell? ⟨a,3,none⟩=some (.string f)
 c4:w.cell? ⟨a,4,none⟩=some (.int .i64 x)
 c5:w.cell? ⟨a,5,none⟩=some (.int .i64 c)
 f0:w.frozen? ⟨a,0,none⟩=false
 f1:w.frozen? ⟨a,1,none⟩=false
 f2:w.frozen? ⟨a,2,none⟩=false
 f3:w.frozen? ⟨a,3,none⟩=false
 f4:w.frozen? ⟨a,4,none⟩=false
 f5:w.frozen? ⟨a,5,none⟩=false
theorem DR.cells {w:World}{a:Nat}{s:BA}{p n:Nat}{c:Int}(h:DR w a s p n c):∃ f x,Na w a s p n f x c:=by
 obtain⟨f,x,k⟩:=h.blk
 exact⟨f,x,k.cell 0 _ rfl,k.cell 1 _ rfl,k.cell 2 _ rfl,k.cell 3 _ rfl,k.cell 4 _ rfl,k.cell 5 _ rfl,k.free 0 (by simp),k.free 1 (by simp),k.free 2 (by simp),k.free 3 (by simp),k.free 4 (by simp),k.free 5 (by simp)⟩
def wl (a:Nat)(w:World):Nat:=match w.cell? ⟨a,1,none⟩ with | some (.int _ k)=>k.toNat | _=>0
theorem DR.at_ {w:World}{a:Nat}{s:BA}{p n:Nat}{c:Int}(h:DR w a s p n c):wl a w=p:=by
 obtain⟨f,x,k⟩:=h.cells;unfold wl;rw[k.c1];simp
theorem DR.dec {w w':World}{a:Nat}{s:BA}{k k' n n':Nat}{c c':Int}(h':DR w' a s k' n' c')(h:DR w a s k n c)(hk:k<k'):s.size-wl a w'<s.size-wl a w:=by
 rw[h'.at_,h.at_];have:=h'.le;omega
def jo (c e:Int):Int:=if c=0 then e else c
theorem eB (c e:Int):jo c e=0↔c=0∧e=0:=by unfold jo;split<;>rename_i h<;>simp[h]
theorem DR.noted {w:World}{a:Nat}{s:BA}{p n:Nat}{c:Int}(h:DR w a s p n c)(f:BA)(x e:Int):DR (((w.setCell ⟨a,3,none⟩ (.string f)).setCell ⟨a,4,none⟩ (.int .i64 x)).setCell ⟨a,5,none⟩ (.int .i64 e)) a s p n e:=by
 obtain⟨f',x',k⟩:=h.blk;exact⟨⟨f,x,((k.set 3 (by simp) _).set 4 (by simp) _).set 5 (by simp) _⟩,h.le,h.nle⟩
structure cy where
 nm:BA
 op:Nat
 ver:BA
 qual:BA
 aa:OA
 ac:Nat
 archs:List BA
def cy.cells (t:cy):LV:=[.string t.nm,.int .i64 t.op,.string t.ver,.string t.qual,.slice t.aa t.archs.length t.ac]
def cy.val (t:cy):Value:=.agg #[.string t.nm,.int .i64 t.op,.string t.ver,.string t.qual,.slice t.aa t.archs.length t.ac]
def cy.pl (t:cy):dn:=⟨bl t.nm,bl t.qual,t.op,bl t.ver,t.archs.map bl⟩
theorem Cn (t:cy):t.cells.length=5:=rfl
def cy.own (t:cy)(w:World)(lo:Nat):Prop:=w.ownsRow lo 9 1 (.slice t.aa t.archs.length t.ac) t.archs.length (az t.archs)
structure bA where
 ga:OA
 gc:Nat
 ts:List cy
def bA.sl (g:bA):Value:=.slice g.ga g.ts.length g.gc
def bA.pl (g:bA):List dn:=g.ts.map cy.pl
structure bA.own (g:bA) (w:World) (lo:Nat):Prop where
 row:w.ownsRow lo 211 5 g.sl g.ts.length (g.ts.flatMap cy.cells)
 archs:∀ t∈g.ts,t.own w lo
theorem cy.own.kept {t:cy}{w w':World}{lo g:Nat}(h:t.own w lo)(hlo:g<lo)(hg:w.grownBy w' (some g)):t.own w' lo:=aJ h hlo hg
theorem cy.own.below {t:cy}{w w':World}{lo:Nat}(h:t.own w lo)(hb:Below w.heap.size w w'):t.own w' lo:=aD h hb
theorem cy.own.base {t:cy}{w:World}{lo lo':Nat}(h:t.own w lo)(hl:lo'≤lo):t.own w lo':=aN h hl
theorem bA.own.kept {t:bA}{w w':World}{lo g:Nat}(h:t.own w lo)(hlo:g<lo)(hg:w.grownBy w' (some g)):t.own w' lo:=⟨aJ h.row hlo hg,fun x hx=>(h.archs x hx).kept hlo hg⟩
theorem bA.own.below {t:bA}{w w':World}{lo:Nat}(h:t.own w lo)(hb:Below w.heap.size w w'):t.own w' lo:=⟨aD h.row hb,fun x hx=>(h.archs x hx).below hb⟩
theorem bA.own.base {t:bA}{w:World}{lo lo':Nat}(h:t.own w lo)(hl:lo'≤lo):t.own w lo':=⟨aN h.row hl,fun x hx=>(h.archs x hx).base hl⟩
structure nT (w:World) (A:OA) (l:List bA):Prop where
 row:Rd w 1 A l.length (l.map bA.sl)
 grp:∀ g∈l,Rd w 5 g.ga g.ts.length (g.ts.flatMap cy.cells)
 archs:∀ g∈l,∀ t∈g.ts,Rd w 1 t.aa t.archs.length (az t.archs)
theorem nT.below {w w':World}{A:OA}{l:List bA}(h:nT w A l)(hb:Below w.heap.size w w'):nT w' A l:=
 ⟨h.1.below hb,fun g hg=>(h.2 g hg).below hb,fun g hg t ht=>(h.3 g hg t ht).below hb⟩
end
end Go.Proofs.YtlglfpbhapmhiaaGreatDoor
