/- A part of the proof of a law on dependencies in three formats. No condition. -/
import Derived.Test.YtkjdbpjglobbjaaGreatDoorE01
set_option maxRecDepth 100000
set_option maxHeartbeats 20000000
set_option linter.unusedVariables false
set_option linter.unusedSimpArgs false
namespace Go.Proofs.YtkjdbpjglobbjaaGreatDoor
section
open Go.ChangeShapes Go.WideShapes Go.Deep Go.RowKit
section
variable {H : Type} {enc : TypeId × Value → H} {P : Program} {w : World} {base : Nat} {spare : Nat → Bool} {held : Bool}
end
section
variable {H : Type} {enc : TypeId × Value → H} {w : World} {spare : Nat → Bool}
theorem BQ {T E:TypeId}(hT:Tryz.prog.underlying T=some (.slice E))(hE:Tryz.prog.underlying E=some .string)(hC:Tryz.prog.cellsOf E=1)
  {fuel:Nat}{v:Value}{d:DataW H×List MemPlace}(h:DataW.trod enc Tryz.prog w 0 spare true fuel T [v]=some d):
  ∃ (A:Option Addr) (c:Nat) (l:List BA),v=.slice A l.length c∧Rd w 1 A l.length (strCells l)∧(∀ x∈l,x.size≤9223372036854775807)∧l.length≤9223372036854775807∧l.length≤c:=by
 rcases open_slice hT h with⟨hcs,_⟩ | ⟨a,len,cap,m,n,D,Pl,hcs,_,hl,hm,hmm,_,hi⟩
 ·injection hcs with hcs _
  exact⟨none,0,[],hcs,Rd.nil _ _ _,fun x hx=>by simp at hx,z0,z0⟩
 ·injection hcs with hcs _
  have hlen:len≤m:=by rw[hmm];split<;>omega
  have key:∀ i,i<len→∃ x:BA,x.size≤9223372036854775807∧w.cell? ⟨a.block,a.off+i,none⟩=some (.string x)∧a.add i=⟨a.block,a.off+i,none⟩:=by
   intro i hi'
   obtain⟨cs',hc,ht'⟩:=hi i (by omega)
   rw[hC] at hc
   obtain⟨_,hcl,hat⟩:=World.cells?_some hc
   obtain⟨s,hs,_,hsz⟩:=DataW.trod_string hE ht'
   have h0:=hat 0 (by omega)
   rw[hs,Nat.mul_one] at h0
   have h1:w.cell? (a.add i)=some (.string s):=by
    have e:(a.add i).add 0=a.add i:=by simp[Addr.add]
    rw[e] at h0;simpa using h0
   have h2:=tJ h1
   refine⟨s,by unfold maxLen at hsz;omega,by rw[←h2];exact h1,h2⟩
  obtain⟨l,hll,hlq⟩:=DM len key
  refine⟨some a,cap,l,by rw[hll];exact hcs,⟨by simp[strCells],fun hn=>?_⟩,fun x hx=>?_,by rw[hll];unfold maxLen at hm;omega,by rw[hll];exact hl⟩
  ·refine⟨a.block,a.off,?_,fun j u hu=>?_⟩
   ·have h2:=(hlq 0 _ (gG hn)).2.2
    simp only[Addr.add,if_pos,Nat.add_zero] at h2
    rw[←h2]
   ·simp only[strCells,List.getElem?_map,Option.map_eq_some_iff] at hu
    obtain⟨x,hx,rfl⟩:=hu
    exact(hlq j x hx).2.1
  ·obtain⟨i,hi',rfl⟩:=List.getElem_of_mem hx
   exact(hlq i _ (gG hi')).1
end
end
end Go.Proofs.YtkjdbpjglobbjaaGreatDoor
