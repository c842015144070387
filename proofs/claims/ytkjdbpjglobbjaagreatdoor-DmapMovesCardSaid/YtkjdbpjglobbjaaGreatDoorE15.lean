/- A part of the proof of a law on dependencies in three formats. No condition. -/
import Derived.Test.YtkjdbpjglobbjaaGreatDoorE13
set_option maxRecDepth 100000
set_option maxHeartbeats 20000000
set_option linter.unusedVariables false
set_option linter.unusedSimpArgs false
namespace Go.Proofs.YtkjdbpjglobbjaaGreatDoor
section
open Go.RowKit
structure bW where
 nm:BA
 ver:BA
 gives:List aA
def aB.plain (x:aB):bW:=⟨x.nm,x.ver,x.gives⟩
structure kF (w:World) (A:Option Addr) (l:List aB):Prop where
 row:Rd w 3 A l.length (l.flatMap aB.cells)
 all:∀ x∈l,Rd w 3 x.ga x.gives.length (x.gives.flatMap aA.cells)
theorem kF.below {w w':World}{A:Option Addr}{l:List aB}(h:kF w A l)(hb:Below w.heap.size w w'):kF w' A l:=⟨h.row.below hb,fun x hx=>(h.all x hx).below hb⟩
def iy (a b:Int)(g:aA):Int:=if g.op≠3 then 11 else if (trans a b g.ver).2≠0 then 11 else 0
def gg (nm:BA)(l:List aA):Bool:=bo (bl nm)&&l.all fun g=>bo (bl g.nm)
def eA (a b:Int)(x:bW):Int:=if gg x.nm x.gives=false then 10 else if (trans a b x.ver).2≠0 then 11 else if (x.gives.all fun g=>decide (iy a b g=0))=false then 11 else 0
def iM (a b:Int)(g:aA):aA:=⟨g.nm,3,⟨(trans a b g.ver).1.toArray⟩⟩
def dG (a b:Int)(x:bW):bW:=⟨x.nm,⟨(trans a b x.ver).1.toArray⟩,x.gives.map (iM a b)⟩
def mC (f:bW→Int):List bW→Int
 | []=>0
 | x::r=>if f x≠0 then f x else mC f r
def dC (a b:Int)(l:List bW):Int:=if ¬ dk a∨¬ dk b then 9 else mC (eA a b) l
def fD (a b:Int)(l:List bW):List bW:=if dC a b l=0 then l.map (dG a b) else []
theorem wg {f:bW→Int}:∀ {l:List bW}{k:Nat}{x:bW},l[k]?=some x→(∀ (i:Nat) y,i<k→l[i]?=some y→f y=0)→f x≠0→mC f l=f x
 | [],_,_,h,_,_=>by simp at h
 | a::r,0,x,h,_,hx=>by simp at h;subst h;rw[mC,if_pos hx]
 | a::r,k+1,x,h,hb,hx=>by
  have h0:f a=0:=hb 0 a (by omega) rfl
  rw[mC,if_neg (by rw[h0];simp)]
  exact wg (by simpa using h) (fun i y hi hy=>hb (i+1) y (by omega) (by simpa using hy)) hx
theorem ny {f:bW→Int}:∀ {l:List bW},(∀ y∈l,f y=0)→mC f l=0
 | [],_=>rfl
 | a::r,h=>by rw[mC,if_neg (by rw[h a (by simp)];simp)];exact ny (fun y hy=>h y (List.mem_cons_of_mem _ hy))
def sQ (a b:Int)(l:List bW)(w:World)(e:Ending)(w':World):Prop:=
 ∃ (A:Option Addr) (c:Nat) (out:List aB),e=.returned (.tuple #[.slice A out.length c,.int .i64 (dC a b l)])∧kF w' A out∧out.map aB.plain=fD a b l∧Below w.heap.size w w'
end
end Go.Proofs.YtkjdbpjglobbjaaGreatDoor
