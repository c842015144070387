/- A part of the proof. -/
import Derived.Test.YtlglfpbhapmhiaaGreatDoorProg
import Derived.Deep.Draws
import Derived.WalkKit
import Derived.Test.YtlglfpbhapmhiaaGreatDoorL00
set_option maxRecDepth 100000
set_option maxHeartbeats 20000000
set_option linter.unusedVariables false
set_option linter.unusedSimpArgs false
namespace Go.Proofs.YtlglfpbhapmhiaaGreatDoor
variable{w w':World}
section
open Go.RowKit
def oj:Nat->BA
 | 0=>⟨#[97,108,112,104,97]⟩
 | 1=>⟨#[98,101,116,97]⟩
 | 2=>⟨#[112,114,101]⟩
 | 3=>⟨#[114,99]⟩
 | 4=>⟨#[99,118,115]⟩
 | 5=>⟨#[115,118,110]⟩
 | 6=>⟨#[103,105,116]⟩
 | 7=>⟨#[104,103]⟩
 | _=>⟨#[112]⟩
def AW:Nat->BA
 | 0=>⟨#[]⟩
 | 1=>⟨#[60,60]⟩
 | 2=>⟨#[60,61]⟩
 | 3=>⟨#[61]⟩
 | 4=>⟨#[62,61]⟩
 | _=>⟨#[62,62]⟩
def pq:Nat->BA
 | 0=>⟨#[]⟩
 | 1=>⟨#[60]⟩
 | 2=>⟨#[60,61]⟩
 | 3=>⟨#[61]⟩
 | 4=>⟨#[62,61]⟩
 | _=>⟨#[62]⟩
def pt:Nat->BA
 | 0=>⟨#[]⟩
 | 1=>⟨#[60]⟩
 | 2=>⟨#[60,61]⟩
 | 3=>⟨#[61]⟩
 | 4=>⟨#[62,61]⟩
 | 5=>⟨#[62]⟩
 | _=>⟨#[126]⟩
def xL:Nat->BA
 | 0=>⟨#[97,110,100]⟩
 | 1=>⟨#[111,114]⟩
 | 2=>⟨#[105,102]⟩
 | 3=>⟨#[117,110,108,101,115,115]⟩
 | 4=>⟨#[119,105,116,104]⟩
 | _=>⟨#[119,105,116,104,111,117,116]⟩
structure Gl (w:World):Prop where
 ml:∃ m:Int,w.cell? ⟨0,0,none⟩=some (.int .i64 m)
 vwd:∀ i,i<9->w.cell? ⟨5,i,none⟩=some (.string (oj i))
 dsg:∀ i,i<6->w.cell? ⟨6,i,none⟩=some (.string (AW i))
 rsg:∀ i,i<6->w.cell? ⟨7,i,none⟩=some (.string (pq i))
 rwd:∀ i,i<6->w.cell? ⟨9,i,none⟩=some (.string (xL i))
 asg:∀ i,i<7->w.cell? ⟨1,i,none⟩=some (.string (pt i))
theorem Gl.keep (h:Gl w)(hk:∀ p:Addr,p.block<w.heap.size->w'.cell? p=w.cell? p):Gl w':=by
 obtain⟨⟨m,hm⟩,h1,h2,h3,h4,h5⟩:=h;refine⟨⟨m,?_⟩,fun i hi=>?_,fun i hi=>?_,fun i hi=>?_,fun i hi=>?_,fun i hi=>?_⟩
 ·exact(hk _ (World.block_lt_of_cell? _ _ hm)).trans hm
 ·exact(hk _ (World.block_lt_of_cell? _ _ (h1 i hi))).trans (h1 i hi)
 ·exact(hk _ (World.block_lt_of_cell? _ _ (h2 i hi))).trans (h2 i hi)
 ·exact(hk _ (World.block_lt_of_cell? _ _ (h3 i hi))).trans (h3 i hi)
 ·exact(hk _ (World.block_lt_of_cell? _ _ (h4 i hi))).trans (h4 i hi)
 ·exact(hk _ (World.block_lt_of_cell? _ _ (h5 i hi))).trans (h5 i hi)
theorem Gl.below (h:Gl w)(hb:Below w.heap.size w w'):Gl w':=h.keep fun _ hp=>hb.cell hp
theorem Gl.alloc (h:Gl w)(o:Obj):Gl (w.alloc o):=h.below (bR.alloc lr o)
theorem am {B:Nat}{a:World}(h:Below B a w)(n:Nat):Below B a (w.drewN n):=⟨h.os,h.tape,h.output,h.size,h.block⟩
end
end Go.Proofs.YtlglfpbhapmhiaaGreatDoor
