/- A part of the proof of a law on dependencies in three formats. No condition. -/
import Derived.Test.YtkjdbpjglobbjaaGreatDoorE01
set_option maxRecDepth 100000
set_option maxHeartbeats 20000000
set_option linter.unusedVariables false
set_option linter.unusedSimpArgs false
namespace Go.Proofs.YtkjdbpjglobbjaaGreatDoor
section
open Go.RowKit
theorem Cs (n:Nat):decide (0<n)=(!decide (n=0)&&true):=by
 cases n<;>simp
end
theorem im (s:BA)(c:UInt8)(k:Nat)(h:k<s.size)(h0:((bl s).take k).contains c=false)(h1:(s[k]==c)=false):((bl s).take (k+1)).contains c=false:=by
 rw[tS (by rw[af];exact h),gL s k h]
 rw[Bool.eq_false_iff] at *;simp at *;exact⟨h0,fun h=>h1 h.symm⟩
theorem tV (s:BA)(c:UInt8)(k:Nat)(h:k<s.size)(h1:s[k]=c):(bl s).contains c=true:=by
 simp;rw[←h1,←gL s k h];exact List.getElem_mem _
section
open Go.RowKit
structure Bx (w wr:World) (vs:List Value):Prop where
 bel:Below w.heap.size w wr
 sz:w.heap.size<wr.heap.size
 cell:∀ (j:Nat)(u:Value),vs[j]?=some u→wr.cell? ⟨w.heap.size,j,none⟩=some u
 free:∀ j:Nat,j<vs.length→wr.frozen? ⟨w.heap.size,j,none⟩=false
theorem Bx.step {w w1 w2:World}{vs:List Value}(h:Bx w w1 vs)(hb:Below w1.heap.size w1 w2):Bx w w2 vs:=
 ⟨ah h.bel hb,Nat.lt_of_lt_of_le h.sz hb.size,fun j u hu=>(hb.cell (p:=⟨w.heap.size,j,none⟩) h.sz).trans (h.cell j u hu),fun j hj=>(hb.frozen (p:=⟨w.heap.size,j,none⟩) h.sz).trans (h.free j hj)⟩
theorem Bx.start (w:World)(vs:List Value)(t:TypeId):Bx w (w.alloc (.cells vs.toArray t)) vs:=
 ⟨bR.alloc lr _,by simp,fun j u hu=>by simp[hu],fun j _=>by simp⟩
end
def iq:LU→List (LU)
 | []=>[[]]
 | c::r=>if c=47 then []::iq r else ((c::(iq r).headD [])::(iq r).tail)
theorem Li:∀ l,iq l≠[]
 | []=>by simp[iq]
 | c::r=>by unfold iq;split<;>simp
theorem nr {c:UInt8}(h:c≠47)(r:LU):∃ p ps,iq r=p::ps∧iq (c::r)=(c::p)::ps:=by
 cases hr:iq r with
 | nil=>exact absurd hr (Li r)
 | cons p ps=>exact⟨p,ps,rfl,by rw[iq,if_neg h,hr];rfl⟩
theorem ua:∀ (l:LU),(47:UInt8) ∉ l→iq l=[l]
 | [],_=>rfl
 | c::r,h=>by
  have hc:c≠47:=fun e=>h (by rw[e];simp)
  obtain⟨p,ps,h1,h2⟩:=nr hc r
  rw[ua r (fun hm=>h (List.mem_cons_of_mem _ hm))] at h1
  injection h1 with h3 h4
  rw[h2,←h3,←h4]
theorem vM:∀ (k:Nat)(l:LU),(47:UInt8) ∉ l.take k→l[k]?=some 47→iq l=l.take k::iq (l.drop (k+1))
 | k,[],_,h=>by simp at h
 | 0,c::r,_,h=>by
  simp at h;subst h
  simp[iq]
 | k+1,c::r,hn,h=>by
  have hc:c≠47:=fun e=>hn (by rw[e];simp)
  obtain⟨p,ps,h1,h2⟩:=nr hc r
  rw[vM k r (fun hm=>hn (by rw[List.take_succ_cons];exact List.mem_cons_of_mem _ hm)) (by simpa using h)] at h1
  injection h1 with h3 h4
  rw[h2,←h3,←h4];simp
theorem pu:∀ (n:Nat)(l:LU),l.count 47=n→Lib.splitK [47] 0 n l=iq l
 | 0,l,h=>by
  rw[ua l (List.count_eq_zero.1 h)];rfl
 | n+1,l,h=>by
  have hm:(47:UInt8)∈l:=List.count_pos_iff.1 (by omega)
  unfold Lib.splitK
  rw[Lib.index_one]
  obtain⟨k,hk,hn,hg⟩:=indexByte_mem 47 l hm
  rw[hk,if_neg (by simp;try omega),vM k l hn hg]
  have e:((k:Int)).toNat=k:=by omega
  rw[e]
  congr 1
  simp only[List.length_singleton]
  refine pu n (l.drop (k+1)) ?_
  have hkl:k<l.length:=(gS hg).1
  have hd:l=l.take k++47::l.drop (k+1):=by
   have h47:l[k]=47:=(gS hg).2
   rw[←h47,←List.drop_eq_getElem_cons hkl,List.take_append_drop]
  rw[hd,List.count_append,List.count_eq_zero.2 hn,List.count_cons_self] at h
  simp at h ⊢
  omega
 where
 indexByte_mem (c:UInt8):∀ (l:LU),c∈l→∃ k:Nat,Lib.indexByte l c=k∧c ∉ l.take k∧l[k]?=some c
  | [],h=>by simp at h
  | b::r,h=>by
   by_cases hb:b=c
   ·subst hb;exact⟨0,by simp[Lib.indexByte],by simp,by simp⟩
   ·have hr:c∈r:=by rcases List.mem_cons.1 h with h | h;exact absurd h.symm hb;exact h
    obtain⟨k,h1,h2,h3⟩:=indexByte_mem c r hr
    refine⟨k+1,?_,?_,by simpa using h3⟩
    ·have:(b==c)=false:=by simp[hb]
     simp only[Lib.indexByte,this,h1]
     rw[if_neg (by simp),if_neg (by simp;try omega)];rfl
    ·rw[List.take_succ_cons];intro hm;rcases List.mem_cons.1 hm with hm | hm;exact hb hm.symm;exact h2 hm
section
open Go.RowKit
theorem Tn {n:Nat}{W w1:World}(hb:Below n W w1):(∀ b o,b<n→w1.cell? ⟨b,o,none⟩=W.cell? ⟨b,o,none⟩)∧(∀ b o,b<n→w1.frozen? ⟨b,o,none⟩=W.frozen? ⟨b,o,none⟩):=
 ⟨fun b o h=>hb.cell (p:=⟨b,o,none⟩) h,fun b o h=>hb.frozen (p:=⟨b,o,none⟩) h⟩
theorem Q9 {a b:Nat}(h:a=b):((a:Int) != (b:Int))=false:=by simp[h]
theorem Ra {a b:Nat}(h:¬ a=b):((a:Int) != (b:Int))=true:=by simp[bne];omega
end
end Go.Proofs.YtkjdbpjglobbjaaGreatDoor
