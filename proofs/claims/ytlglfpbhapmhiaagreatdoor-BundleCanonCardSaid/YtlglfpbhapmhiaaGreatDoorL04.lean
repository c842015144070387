/- A part of the proof. -/
import Derived.BigRegion
import Derived.Deep.RegionLaw
import Derived.Maps.Own
import Derived.Maps.OwnOps
import Derived.Maps.OwnSet
import Derived.Sort.KeysCollected
import Derived.StillTailTactics
import Derived.StringKeys
import Derived.Test.YtlglfpbhapmhiaaGreatDoorL02
import Derived.Test.YtlglfpbhapmhiaaGreatDoorL03
set_option maxRecDepth 100000
set_option maxHeartbeats 20000000
set_option linter.unusedVariables false
set_option linter.unusedSimpArgs false
namespace Go.Proofs.YtlglfpbhapmhiaaGreatDoor
variable{a:Act}{K:Act->World->Prop}{ops:Array Oper}{Q:Exit->Act->World->Prop}{xs:LV}{n sz:Nat}{A:OA}{o:Oper}{w:World}
def RQ (others:LU)(c:UInt8):Bool:=ll c||cN c||others.contains c
def bN (others l:LU):Bool:=!l.isEmpty&&l.all (RQ others)
def lV (l:LU):Bool:=!l.isEmpty&&l.all cN
def lW:LU->Bool
 | []=>false
 | c::_=>cN c
def dD (c:UInt8):LU->Option Nat
 | []=>none
 | x::r=>match dD c r with
  | some i=>some (i+1)
  | none=>if x=c then some 0 else none
theorem oJ (c:UInt8):∀ (l:LU)(i:Nat),l[i]?=some c->(∀ j:Nat,i<j->l[j]?≠some c)->dD c l=some i
 | [],i,h,_=>by simp at h
 | x::r,0,h,hn=>by
  have hr:dD c r=none:=by
   have key:∀ (r:LU),(∀ j:Nat,r[j]?≠some c)->dD c r=none:=by
    intro r
    induction r with
    | nil=>intro _;rfl
    | cons y t ih=>
     intro h;have:=ih (fun j=>by simpa using h (j+1));have h0:=h 0;simp at h0;simp[dD,this,h0]
   exact key r (fun j=>by simpa using hn (j+1) (by omega))
  simp at h;simp[dD,hr,h]
 | x::r,i+1,h,hn=>by
  have:=oJ c r i (by simpa using h) (fun j hj=>by simpa using hn (j+1) (by omega));simp[dD,this]
theorem tH (c:UInt8):∀ (r:LU),(∀ j:Nat,r[j]?≠some c)->dD c r=none
 | [],_=>rfl
 | y::t,h=>by
  have:=tH c t (fun j=>by simpa using h (j+1));have h0:=h 0;simp at h0;simp[dD,this,h0]
theorem pp (c:UInt8):∀ (l:LU)(i:Nat),dD c l=some i->i<l.length
 | [],_,h=>by simp[dD] at h
 | x::r,i,h=>by
  unfold dD at h;split at h
  ·rename_i k hk;have:=pp c r k hk;simp at h;simp;omega
  ·split at h
   ·simp at h;simp;omega
   ·simp at h
def lX (l:LU):Option (LU×LU):=
 if (Lib.cut l [58]).2.2=true then (if lV (Lib.cut l [58]).1=true/\(Lib.cut l [58]).1.length<=9 then some ((Lib.cut l [58]).1,(Lib.cut l [58]).2.1) else none) else some ([],l)
def mF (p:LU):Option (LU×LU):=
 match dD 45 p with
 | none=>if (bN [46,43,126,45] p&&lW p)=true then some (p,[]) else none
 | some i=>if bN [46,43,126] (p.drop (i+1))=true/\(bN [46,43,126,45] (p.take i)&&lW (p.take i))=true then some (p.take i,p.drop (i+1)) else none
def jl (l:LU):Option (LU×LU×LU):=
 match lX l with
 | none=>none
 | some (ep,p)=>(mF p).map fun r=>(ep,r.1,r.2)
def ir (s sep:BA):BA:=⟨(Lib.cut (bl s) (bl sep)).1.toArray⟩
def lY (s sep:BA):BA:=⟨(Lib.cut (bl s) (bl sep)).2.1.toArray⟩
def zc (s sep:BA):Bool:=(Lib.cut (bl s) (bl sep)).2.2
theorem eJ (s sep:BA):bl (ir s sep)=(Lib.cut (bl s) (bl sep)).1:=jB _
theorem gV (s sep:BA):bl (lY s sep)=(Lib.cut (bl s) (bl sep)).2.1:=jB _
theorem Le (l sep:LU):(Lib.cut l sep).1.length<=l.length/\(Lib.cut l sep).2.1.length<=l.length:=by
 unfold Lib.cut;split<;>simp;omega
theorem th (s sep:BA):(ir s sep).size<=s.size:=by
 rw[<-ah,<-ah,eJ];exact(Le _ _).1
theorem ti (s sep:BA):(lY s sep).size<=s.size:=by
 rw[<-ah,<-ah,gV];exact(Le _ _).2
theorem ek (s:BA)(k:Nat):bl (s.extract 0 k)=(bl s).take k:=by rw[iD];simp
theorem eI (s:BA)(h:0<s.size):lW (bl s)=cN s[0]:=by rw[gU s h];rfl
theorem nD (o:LU)(s:BA)(h:bN o (bl s)=true):0<s.size:=by
 rw[<-ah];unfold bN at h;cases hb:bl s with
 | nil=>rw[hb] at h;simp at h
 | cons c r=>simp
def cC:LU->List (LU)
 | []=>[[]]
 | c::r=>if c=47 then []::cC r else ((c::(cC r).headD [])::(cC r).tail)
theorem Ik:∀ l,cC l≠[]
 | []=>by simp[cC]
 | c::r=>by unfold cC;split<;>simp
theorem jR {c:UInt8}(h:c≠47)(r:LU):∃ p ps,cC r=p::ps/\cC (c::r)=(c::p)::ps:=by
 cases hr:cC r with
 | nil=>exact absurd hr (Ik r)
 | cons p ps=>exact⟨p,ps,rfl,by rw[cC,if_neg h,hr];rfl⟩
theorem mG:∀ (l:LU),(47:UInt8) ∉ l->cC l=[l]
 | [],_=>rfl
 | c::r,h=>by
  have hc:c≠47:=fun e=>h (by rw[e];simp);obtain⟨p,ps,h1,h2⟩:=jR hc r;rw[mG r (fun hm=>h (List.mem_cons_of_mem _ hm))] at h1;injection h1 with h3 h4;rw[h2,<-h3,<-h4]
theorem oK:∀ (k:Nat)(l:LU),(47:UInt8) ∉ l.take k->l[k]?=some 47->cC l=l.take k::cC (l.drop (k+1))
 | k,[],_,h=>by simp at h
 | 0,c::r,_,h=>by
  simp at h;subst h;simp[cC]
 | k+1,c::r,hn,h=>by
  have hc:c≠47:=fun e=>hn (by rw[e];simp);obtain⟨p,ps,h1,h2⟩:=jR hc r;rw[oK k r (fun hm=>hn (by rw[List.take_succ_cons];exact List.mem_cons_of_mem _ hm)) (by simpa using h)] at h1;injection h1 with h3 h4;rw[h2,<-h3,<-h4];simp
theorem od:∀ (n:Nat)(l:LU),l.count 47=n->Lib.splitK [47] 0 n l=cC l
 | 0,l,h=>by
  rw[mG l (List.count_eq_zero.1 h)];rfl
 | n+1,l,h=>by
  have hm:(47:UInt8)∈l:=List.count_pos_iff.1 (by omega);unfold Lib.splitK;rw[Lib.index_one];obtain⟨k,hk,hn,hg⟩:=indexByte_mem 47 l hm;rw[hk,if_neg (by simp;try omega),oK k l hn hg];have e:((k:Int)).toNat=k:=by omega
  rw[e];congr 1;simp only[List.length_singleton];refine od n (l.drop (k+1)) ?_;have hkl:k<l.length:=(gS hg).1;have hd:l=l.take k++47::l.drop (k+1):=by
   have h47:l[k]=47:=(gS hg).2;rw[<-h47,<-List.drop_eq_getElem_cons hkl,List.take_append_drop]
  rw[hd,List.count_append,List.count_eq_zero.2 hn,List.count_cons_self] at h;simp at h |-;omega
 where
 indexByte_mem (c:UInt8):∀ (l:LU),c∈l->∃ k:Nat,Lib.indexByte l c=k/\c ∉ l.take k/\l[k]?=some c
  | [],h=>by simp at h
  | b::r,h=>by
   by_cases hb:b=c
   ·subst hb;exact⟨0,by simp[Lib.indexByte],by simp,by simp⟩
   ·have hr:c∈r:=by rcases List.mem_cons.1 h with h | h;exact absurd h.symm hb;exact h
    obtain⟨k,h1,h2,h3⟩:=indexByte_mem c r hr;refine⟨k+1,?_,?_,by simpa using h3⟩
    ·have:(b==c)=false:=by simp[hb]
     simp only[Lib.indexByte,this,h1];rw[if_neg (by simp),if_neg (by simp;try omega)];rfl
    ·rw[List.take_succ_cons];intro hm;rcases List.mem_cons.1 hm with hm | hm;exact hb hm.symm;exact h2 hm
def tI (p:LU):Bool:=!(decide (p=[])||decide (p=[46])||decide (p=[46,46]))
def cR (l:LU):Bool:=decide (1<=l.length)&&decide (l.length<=200) && !l.contains 0&&(cC l).all tI
def gA (l:LU):Option (LU):=if cR l then (dD 47 l).map (l.take ·) else none
section
open Go.RowKit
theorem pw (a:Addr)(n:Nat):(a.add n).block=a.block:=by unfold Addr.add;split<;>rfl
theorem DS (a:Addr)(i j:Nat):(a.add i).add j=a.add (i+j):=by
 unfold Addr.add;by_cases hi:i=0<;>by_cases hj:j=0<;>simp[hi,hj,Nat.add_assoc]
def eQ (w:World)(B size:Nat)(A:OA)(n:Nat)(xs:LV):Prop:=
 xs.length=n*size/\(0<n->∃ ad,A=some ad/\ad.block<B/\∀ j u,xs[j]?=some u->w.cell? (ad.add j)=some u)
section
variable {w w' : World} {B B' size n : Nat} {A : OA} {xs : LV}
theorem eQ.keep (h:eQ w B size A n xs)(hk:∀ p:Addr,p.block<B->w'.cell? p=w.cell? p):eQ w' B size A n xs:=
 ⟨h.1,fun hn=>by
  obtain⟨ad,e,hb,hc⟩:=h.2 hn;exact⟨ad,e,hb,fun j u hu=>(hk _ (by rw[pw];exact hb)).trans (hc j u hu)⟩⟩
theorem eQ.below (h:eQ w B size A n xs)(hb:Below B w w'):eQ w' B size A n xs:=h.keep fun _ hp=>hb.cell hp
theorem eQ.cut (h:eQ w B size A n xs){k cap:Nat}(hk:k<=n)(hc:n<=cap):
  eQ w B size (if cap=k then A else A.map (·.add (k*size))) (n-k) (xs.drop (k*size)):=by
 refine⟨by rw[List.length_drop,h.1,Nat.sub_mul],fun hn=>?_⟩;obtain⟨ad,rfl,hb,hcell⟩:=h.2 (by omega);rw[if_neg (by omega)];refine⟨ad.add (k*size),rfl,by rw[pw];exact hb,fun j u hu=>?_⟩;rw[DS];exact hcell _ u (by rw[<-hu,List.getElem?_drop])
end
section
variable {P : Program} (w : World)
theorem px (base:Nat)(t ty e:TypeId)(i:TypeInfo)(size:Nat)(ht:P.underlying t=some (.slice e))(hi:P.info? e=some i)
  (v:Value)(n:Nat)(xs:LV)(hown:w.ownsRow base e size v n xs)(c:Nat):(Builtin.append_ #[t,t] ty #[v,.slice none 0 c]).run P w=.ok v w:=by
 rcases hown.2 with⟨rfl,rfl⟩ | ⟨g,cap,cur,rfl,_,_,hnc,_⟩
 ·simp[Builtin.append_,run_underlying ht,sizeOf,typeInfo,hi,Builtin.lenOf,Builtin.firstCells]
 ·simp[Builtin.append_,run_underlying ht,sizeOf,typeInfo,hi,Builtin.lenOf,Builtin.firstCells,hnc,storeCells]
theorem tR (base:Nat)(t ty e:TypeId)(i:TypeInfo)(z:Value)(size bytes:Nat)(ht:P.underlying t=some (.slice e))(hi:P.info? e=some i)(hz:i.zero=some z)
  (hsize:i.size=size)(hby:i.bytes=bytes)(hzs:z.cells.size=size)(hsz:0<size)
  (v:Value)(n:Nat)(xs:LV)(hown:w.ownsRow base e size v n xs)
  (B:Nat)(A:OA)(m c:Nat)(news:LV)(hr:eQ w B size A m news)(h1:∀ u∈news,u.oneCell'=true)
  (h63:n+m<=maxLen)(hbytes:(n+m)*bytes<=140737488355328)(hbase:base<=w.heap.size):
  ∃ v' w',(Builtin.append_ #[t,t] ty #[v,.slice A m c]).run P w=.ok v' w'/\w'.ownsRow base e size v' (n+m) (xs++news)/\w.grownBy w' v.ownBlock /\
   (v'.ownBlock=v.ownBlock\/v'.ownBlock=some w.heap.size):=by
 rcases A with _ | ad
 ·have hm:m=0:=by
   rcases Nat.eq_zero_or_pos m with h0 | h0
   ·exact h0
   ·obtain⟨ad,h,_⟩:=hr.2 h0;cases h
  subst hm;have hn:news=[]:=List.eq_nil_of_length_eq_zero (by simpa using hr.1);subst hn;exact⟨v,w,px w base t ty e i size ht hi v n xs hown c,by simpa using hown,World.grownBy.refl w _,.inl rfl⟩
 ·have hcells:∀ j u,news[j]?=some u->w.cell? (ad.add j)=some u:=by
   intro j u hu;rcases Nat.eq_zero_or_pos m with h0 | h0
   ·subst h0;have hn:news=[]:=List.eq_nil_of_length_eq_zero (by simpa using hr.1);subst hn;simp at hu
   ·obtain⟨ad',h,_,hc⟩:=hr.2 h0;injection h with h;subst h;exact hc j u hu
  obtain⟨v',w',hrun,h2,h3,_,h5⟩:=run_append_own_at (P:=P) w base t ty e i z size bytes ht hi hz hsize hby hzs hsz v n xs hown ad m c news hr.1 hcells h1 h63 hbytes hbase;exact⟨v',w',hrun,h2,h3,h5⟩
theorem om (s x:Operand)(t:TypeId)
  (ho:o.op=.call { callee:=.builtin .append,args:=#[s,x],argTypes:=#[t,t] })
  (base:Nat)(e:TypeId)(i:TypeInfo)(z:Value)(size bytes:Nat)(ht:P.underlying t=some (.slice e))(hi:P.info? e=some i)(hz:i.zero=some z)
  (hsize:i.size=size)(hby:i.bytes=bytes)(hzs:z.cells.size=size)(hsz:0<size)
  (v:Value)(n:Nat)(xs:LV)(hs:a.eval s=v)(hown:w.ownsRow base e size v n xs)
  (B:Nat)(A:OA)(m c:Nat)(news:LV)(hx:a.eval x=.slice A m c)(hr:eQ w B size A m news)(h1:∀ u∈news,u.oneCell'=true)
  (h63:n+m<=maxLen)(hbytes:(n+m)*bytes<=140737488355328)(hbase:base<=w.heap.size)
  (h:∀ v' w',w'.ownsRow base e size v' (n+m) (xs++news)->w.grownBy w' v.ownBlock->(v'.ownBlock=v.ownBlock\/v'.ownBlock=some w.heap.size)->K (a.put o.dst v') w'):o.wp P a w K Q:=by
 obtain⟨v',w',hrun,h2,h3,h4⟩:=tR (P:=P) w base t o.type e i z size bytes ht hi hz hsize hby hzs hsz v n xs hown B A m c news hr h1 h63 hbytes hbase;unfold Oper.wp execOp;simp only[ho,resolve,invoke,builtin,Sem.run_bind,Sem.run_pure,Result.andThen_ok,List.map_toArray,List.map_cons,List.map_nil,hs,hx,hrun];exact h v' w' h2 h3 h4
theorem au {rest:List Oper}(hgd:o.guard=none)(s x:Operand)(t:TypeId)
  (ho:o.op=.call { callee:=.builtin .append,args:=#[s,x],argTypes:=#[t,t] })
  (base:Nat)(e:TypeId)(i:TypeInfo)(z:Value)(size bytes:Nat)(ht:P.underlying t=some (.slice e))(hi:P.info? e=some i)(hz:i.zero=some z)
  (hsize:i.size=size)(hby:i.bytes=bytes)(hzs:z.cells.size=size)(hsz:0<size)
  (v:Value)(n:Nat)(xs:LV)(hs:a.eval s=v)(hown:w.ownsRow base e size v n xs)
  (B:Nat)(A:OA)(m c:Nat)(news:LV)(hx:a.eval x=.slice A m c)(hr:eQ w B size A m news)(h1:∀ u∈news,u.oneCell'=true)
  (h63:n+m<=maxLen)(hbytes:(n+m)*bytes<=140737488355328)(hbase:base<=w.heap.size)
  (h:∀ v' w',w'.ownsRow base e size v' (n+m) (xs++news)->w.grownBy w' v.ownBlock->(v'.ownBlock=v.ownBlock\/v'.ownBlock=some w.heap.size)->wpList P ops Q rest (a.put o.dst v') w'):wpList P ops Q (o::rest) a w:=
 wpList_plain hgd fun _ hK=>om w s x t ho base e i z size bytes ht hi hz hsize hby hzs hsz v n xs hs hown B A m c news hx hr h1 h63 hbytes hbase fun v' w' h2 h3 h4=>hK _ _ (h v' w' h2 h3 h4)
theorem dL {E:Prop}(hgd:o.guard=none)(s x:Operand)(t:TypeId)
  (ho:o.op=.call { callee:=.builtin .append,args:=#[s,x],argTypes:=#[t,t] })
  (base:Nat)(e:TypeId)(i:TypeInfo)(z:Value)(size bytes:Nat)(ht:P.underlying t=some (.slice e))(hi:P.info? e=some i)(hz:i.zero=some z)
  (hsize:i.size=size)(hby:i.bytes=bytes)(hzs:z.cells.size=size)(hsz:0<size)
  (v:Value)(n:Nat)(xs:LV)(hs:a.eval s=v)(hown:w.ownsRow base e size v n xs)
  (B:Nat)(A:OA)(m c:Nat)(news:LV)(hx:a.eval x=.slice A m c)(hr:eQ w B size A m news)(h1:∀ u∈news,u.oneCell'=true)
  (h63:n+m<=maxLen)(hbytes:(n+m)*bytes<=140737488355328)(hbase:base<=w.heap.size)
  (h:∀ v' w',w'.ownsRow base e size v' (n+m) (xs++news)->w.grownBy w' v.ownBlock->(v'.ownBlock=v.ownBlock\/v'.ownBlock=some w.heap.size)->K (a.put o.dst v') w'):
  if Region.wanted o (yielded ops a.tmps)=true then Oper.wp P o a w K Q else E:=by
 have hw:Region.wanted o (yielded ops a.tmps)=true:=by simp[Region.wanted,hgd]
 rw[if_pos hw];exact om w s x t ho base e i z size bytes ht hi hz hsize hby hzs hsz v n xs hs hown B A m c news hx hr h1 h63 hbytes hbase h
end
end
section
open Go.RowKit
theorem Rd.reads (h:Rd w sz A n xs)(hsz:0<sz):eQ w w.heap.size sz A n xs:=by
 refine⟨h.1,fun hn=>?_⟩;obtain⟨b,off,e,hc⟩:=h.2 hn;have hl:0<xs.length:=by rw[h.1];exact Nat.mul_pos hn hsz
 have h0:=hc 0 _ (gG hl);refine⟨_,e,World.block_lt_of_cell? _ _ h0,fun j u hu=>?_⟩;have:=hc j u hu;unfold Addr.add;split
 ·rename_i h;subst h;exact this
 ·exact this
def gI (w:World)(E:TypeId)(sz n:Nat)(xs:LV)(e:Ending)(w':World):Prop:=∃ v,e=.returned v/\w'.ownsRow w.heap.size E sz v n xs/\Below w.heap.size w w'
theorem zm:(Tryz.prog.info? 27).map (fun i=>(i.zero,i.size,i.bytes))=some (some (.agg #[.string ⟨#[]⟩,.string ⟨#[]⟩,.string ⟨#[]⟩,.string ⟨#[]⟩,.slice none 0 0,.slice none 0 0,.slice none 0 0,.slice none 0 0,.slice none 0 0]),9,184):=by kernel_rfl
theorem wO (A:OA)(n c:Nat)(xs:LV)(w:World)(hr:Rd w 9 A n xs)(h1:∀ u∈xs,u.oneCell'=true)(hn:n<=100000):Calls Tryz.prog 92 #[.slice A n c] w (gI w 27 9 n xs):=by
 obtain⟨i0,hi0,hz0,hz1,hz2⟩:=info_parts zm;have HR:=ae hr;clear hr;have H1:=ae h1;clear h1;go_in;go_wp2_with (at_builtin;refine au _ rfl (.const (.slice none 0 0)) (.tmp 3) _ rfl w.heap.size 27 i0 _ 9 184 Tryz.underlying71 hi0 hz0 hz1 hz2 rfl (by omega) (.slice none 0 0) 0 [] rfl ⟨by simp,.inl ⟨rfl,rfl⟩⟩ w.heap.size A n c xs rfl (HR.out.reads (by omega)) H1.out (by simp only[maxLen];omega) (by omega) lr ?_;intro v1 w1 hown1 hg1 hat1);go_ret;exact⟨v1,rfl,by simpa using hown1,bR.grown hg1 lr (by simp[Value.ownBlock])⟩
theorem ly:(Tryz.prog.info? 9).map (fun i=>(i.zero,i.size,i.bytes))=some (some (.string ⟨#[]⟩),1,16):=by kernel_rfl
theorem xM (A:OA)(n c:Nat)(xs:LV)(w:World)(hr:Rd w 1 A n xs)(h1:∀ u∈xs,u.oneCell'=true)(hn:n<=100000):Calls Tryz.prog 93 #[.slice A n c] w (gI w 9 1 n xs):=by
 obtain⟨i0,hi0,hz0,hz1,hz2⟩:=info_parts ly;have HR:=ae hr;clear hr;have H1:=ae h1;clear h1;go_in;go_wp2_with (at_builtin;refine au _ rfl (.const (.slice none 0 0)) (.tmp 3) _ rfl w.heap.size 9 i0 _ 1 16 Tryz.underlying22 hi0 hz0 hz1 hz2 rfl (by omega) (.slice none 0 0) 0 [] rfl ⟨by simp,.inl ⟨rfl,rfl⟩⟩ w.heap.size A n c xs rfl (HR.out.reads (by omega)) H1.out (by simp only[maxLen];omega) (by omega) lr ?_;intro v1 w1 hown1 hg1 hat1);go_ret;exact⟨v1,rfl,by simpa using hown1,bR.grown hg1 lr (by simp[Value.ownBlock])⟩
theorem Ir:(Tryz.prog.info? 81).map (fun i=>(i.zero,i.size,i.bytes))=some (some (.agg #[.string ⟨#[]⟩,.int .i64 0,.string ⟨#[]⟩]),3,40):=by kernel_rfl
theorem DT (A:OA)(n c:Nat)(xs:LV)(w:World)(hr:Rd w 3 A n xs)(h1:∀ u∈xs,u.oneCell'=true)(hn:n<=100000):Calls Tryz.prog 94 #[.slice A n c] w (gI w 81 3 n xs):=by
 obtain⟨i0,hi0,hz0,hz1,hz2⟩:=info_parts Ir;have HR:=ae hr;clear hr;have H1:=ae h1;clear h1;go_in;go_wp2_with (at_builtin;refine au _ rfl (.const (.slice none 0 0)) (.tmp 3) _ rfl w.heap.size 81 i0 _ 3 40 Tryz.underlying23 hi0 hz0 hz1 hz2 rfl (by omega) (.slice none 0 0) 0 [] rfl ⟨by simp,.inl ⟨rfl,rfl⟩⟩ w.heap.size A n c xs rfl (HR.out.reads (by omega)) H1.out (by simp only[maxLen];omega) (by omega) lr ?_;intro v1 w1 hown1 hg1 hat1);go_ret;exact⟨v1,rfl,by simpa using hown1,bR.grown hg1 lr (by simp[Value.ownBlock])⟩
theorem Is:(Tryz.prog.info? 56).map (fun i=>(i.zero,i.size,i.bytes))=some (some (.agg #[.string ⟨#[]⟩,.int .i64 0,.int .i64 0,.string ⟨#[]⟩,.string ⟨#[]⟩,.string ⟨#[]⟩,.string ⟨#[]⟩,.bool false]),8,104):=by kernel_rfl
theorem DV (A:OA)(n c:Nat)(xs:LV)(w:World)(hr:Rd w 8 A n xs)(h1:∀ u∈xs,u.oneCell'=true)(hn:n<=100000):Calls Tryz.prog 95 #[.slice A n c] w (gI w 56 8 n xs):=by
 obtain⟨i0,hi0,hz0,hz1,hz2⟩:=info_parts Is;have HR:=ae hr;clear hr;have H1:=ae h1;clear h1;go_in;go_wp2_with (at_builtin;refine au _ rfl (.const (.slice none 0 0)) (.tmp 3) _ rfl w.heap.size 56 i0 _ 8 104 Tryz.underlying24 hi0 hz0 hz1 hz2 rfl (by omega) (.slice none 0 0) 0 [] rfl ⟨by simp,.inl ⟨rfl,rfl⟩⟩ w.heap.size A n c xs rfl (HR.out.reads (by omega)) H1.out (by simp only[maxLen];omega) (by omega) lr ?_;intro v1 w1 hown1 hg1 hat1);go_ret;exact⟨v1,rfl,by simpa using hown1,bR.grown hg1 lr (by simp[Value.ownBlock])⟩
theorem A8:(Tryz.prog.info? 44).map (fun i=>(i.zero,i.size,i.bytes))=some (some (.agg #[.int .i64 0,.string ⟨#[]⟩]),2,24):=by kernel_rfl
theorem zn (A:OA)(n c:Nat)(xs:LV)(w:World)(hr:Rd w 2 A n xs)(h1:∀ u∈xs,u.oneCell'=true)(hn:n<=100000):Calls Tryz.prog 96 #[.slice A n c] w (gI w 44 2 n xs):=by
 obtain⟨i0,hi0,hz0,hz1,hz2⟩:=info_parts A8;have HR:=ae hr;clear hr;have H1:=ae h1;clear h1;go_in;go_wp2_with (at_builtin;refine au _ rfl (.const (.slice none 0 0)) (.tmp 3) _ rfl w.heap.size 44 i0 _ 2 24 Tryz.underlying25 hi0 hz0 hz1 hz2 rfl (by omega) (.slice none 0 0) 0 [] rfl ⟨by simp,.inl ⟨rfl,rfl⟩⟩ w.heap.size A n c xs rfl (HR.out.reads (by omega)) H1.out (by simp only[maxLen];omega) (by omega) lr ?_;intro v1 w1 hown1 hg1 hat1);go_ret;exact⟨v1,rfl,by simpa using hown1,bR.grown hg1 lr (by simp[Value.ownBlock])⟩
def zr (l:LU):Bool:=decide (1<=l.length)&&decide (l.length<=100)&&tO 32 l&&l.head? != some 32&&l.getLast? != some 32
theorem Oy (s:BA)(h:0<s.size):(bl s).head?=some s[0]:=by rw[gU s h];rfl
theorem Oz (s:BA)(h:0<s.size):(bl s).getLast?=some (s[s.size-1]):=by
 rw[List.getLast?_eq_getElem?,ah,dQ s (s.size-1) (by omega)]
theorem GS (a:UInt8):(((a.toNat:Nat):Int) != 32)=(some a != some 32):=by
 rw[bI];simp[<-UInt8.toNat_inj];omega
theorem oP (s:BA)(w:World)(hs:s.size<=9223372036854775807):Calls Tryz.prog 46 #[.string s] w fun e w'=>e=.returned (.bool (zr (bl s)))/\w=w':=by
 have HB:=ae (ah s);by_cases h1:1<=s.size
 ·by_cases h2:s.size<=100
  ·have hh:=ae (Oy s (by omega));have hl:=ae (Oz s (by omega));cases hw:tO 32 (bl s)
   ·go_in;go_wp2_with (go_at_call 78;refine(ma _ 32 _ hs).mono ?_;rintro e w' ⟨rfl,rfl⟩);go_ret;exact⟨af (by unfold zr;rw[hw];simp),rfl⟩
   ·go_in;go_wp2_with (go_at_call 78;refine(ma _ 32 _ hs).mono ?_;rintro e w' ⟨rfl,rfl⟩)
    all_goals go_ret
    all_goals (refine⟨af ?_,rfl⟩;unfold zr;rw[hw,HB.out,dT h1,dT h2,hh.out,hl.out])
    ·rw[<-GS,<-GS];simp[‹_=(32:Int)›]
    ·rw[<-GS,<-GS];simp
  ·go_in;go_wp2;go_ret;exact⟨af (by unfold zr;rw[HB.out,dF h2];simp),rfl⟩
 ·go_in;go_wp2;go_ret;exact⟨af (by unfold zr;rw[HB.out,dF h1];simp),rfl⟩
def GU (r:Option (LU×LU×LU)):Int:=if r.isSome then 0 else 3
structure wQ (p:Prop):Prop where
 out:¬ p
theorem dA:∀ (x y:LU),Op.bytesLess x y=decide (x<y)
 | [],[]=>by simp[Op.bytesLess]
 | _::_,[]=>by simp[Op.bytesLess]
 | [],_::_=>by simp[Op.bytesLess]
 | a::x,b::y=>by
  rw[Op.bytesLess,dA x y,bI];simp[List.cons_lt_cons_iff]
theorem Hm (s t:BA):Op.bytesLess s.toList t.toList=true↔bl s<bl t:=by rw[dA,aj,aj,decide_eq_true_eq]
theorem ri {base:Nat}{e:TypeId}{size c:Nat}(h:w.ownsRow base e size (.slice A n c) n xs):n<=c:=by
 rcases h.2 with⟨hv,rfl⟩ | ⟨g,cap,cur,hv,_,_,hc,_⟩
 ·exact z0
 ·injection hv with _ _ h3;omega
theorem yE {α:Type}{f:α->LV}{sz:Nat}(hf:∀ x,(f x).length=sz):∀ (l:List α)(k:Nat),(l.flatMap f).drop (k*sz)=(l.drop k).flatMap f
 | [],k=>by simp
 | a::r,0=>by simp
 | a::r,k+1=>by
  rw[List.flatMap_cons,List.drop_succ_cons,<-yE hf r k,List.drop_append,hf,List.drop_eq_nil_of_le (by rw[hf,Nat.add_mul];omega),List.nil_append];congr 1;rw[Nat.add_mul];omega
theorem Rd.take {α:Type}{f:α->LV}(hf:∀ x,(f x).length=sz){l:List α}(h:Rd w sz A l.length (l.flatMap f))(k:Nat):Rd w sz A (l.take k).length ((l.take k).flatMap f):=by
 refine⟨dw hf _,fun hn=>?_⟩;have hl:0<l.length:=by rw[List.length_take] at hn;omega
 obtain⟨b,off,e,hc⟩:=h.2 hl;refine⟨b,off,e,fun j u hu=>hc j u ?_⟩;have e2:l.flatMap f=(l.take k).flatMap f++(l.drop k).flatMap f:=by rw[<-List.flatMap_append,List.take_append_drop]
 rw[e2,List.getElem?_append_left (gS hu).1];exact hu
end
end Go.Proofs.YtlglfpbhapmhiaaGreatDoor
