/- A part of the proof of a law on dependencies in three formats. No condition. -/
import Derived.Test.YtkjdbpjglobbjaaGreatDoorE09
set_option maxRecDepth 100000
set_option maxHeartbeats 20000000
set_option linter.unusedVariables false
set_option linter.unusedSimpArgs false
namespace Go.Proofs.YtkjdbpjglobbjaaGreatDoor
structure aT where
 ep:Nat
 nums:List Nat
 lt:LU
 pre:LU
 pnum:Nat
 rev:Nat
def bu:List (LU):=[[97,108,112,104,97],[98,101,116,97],[112,114,101],[114,99]]
def jj (fmt:Int):UInt8:=if fmt=3 then 95 else 126
def bK (fmt:Int):LU:=if fmt=3 then [45,114] else [45]
def iE (fmt:Int)(c:aT):LU:=if fmt=3∨c.ep=0 then [] else aC c.ep++[58]
def fC (c:aT):LU:=bE 46 (c.nums.map aC)
def bM (fmt:Int)(c:aT):LU:=if c.pre=[] then [] else jj fmt::(c.pre++aC c.pnum)
def bi (fmt:Int)(c:aT):LU:=fC c++(c.lt++bM fmt c)
def aN (fmt:Int)(c:aT):LU:=iE fmt c++(bi fmt c++(bK fmt++aC c.rev))
structure aT.ok (c:aT):Prop where
 nums:c.nums≠[]
 each:∀ n∈c.nums,n≤999999999
 ep:c.ep≤999999999
 pnum:c.pnum≤999999999
 rev:c.rev≤999999999
 lt:c.lt=[]∨∃ b,c.lt=[b]∧be b=true
 pre:(c.pre=[]∧c.pnum=0)∨c.pre∈bu
 short:(aN 1 c).length≤64
theorem rn:aD 58=false:=by decide
theorem Tc:aD 45=false:=by decide
theorem fU (n:Nat){x:UInt8}(h:aD x=false):x ∉ aC n:=Q8 (cG n) h
theorem gf {w:LU}(h:w∈bu):w.all be=true:=by
 simp only[bu,List.mem_cons,List.not_mem_nil,or_false] at h
 rcases h with rfl | rfl | rfl | rfl<;>decide
theorem CO {w:LU}(h:w∈bu):w≠[]:=by
 simp only[bu,List.mem_cons,List.not_mem_nil,or_false] at h
 rcases h with rfl | rfl | rfl | rfl<;>simp
theorem Og {l:LU}(h:l.all be=true){x:UInt8}(hx:be x=false):x ∉ l:=by
 intro hm;rw[List.all_eq_true] at h;rw[h x hm] at hx;cases hx
theorem J3 (c:aT){x:UInt8}(h:aD x=false)(h46:x≠46):x ∉ fC c:=by
 intro hm
 rcases sN 46 _ x hm with e | ⟨l,hl,hx⟩
 ·exact h46 e
 ·obtain⟨n,_,rfl⟩:=List.mem_map.1 hl
  exact fU n h hx
theorem Td {c:aT}(ok:c.ok){x:UInt8}(h:be x=false):x ∉ c.lt:=by
 rcases ok.lt with e | ⟨b,e,hb⟩
 ·rw[e];simp
 ·rw[e];intro hm;rw[List.mem_singleton.1 hm] at h;rw[h] at hb;cases hb
theorem J4 {c:aT}(ok:c.ok):c.pre.all be=true:=by
 rcases ok.pre with⟨e,_⟩ | h
 ·rw[e];rfl
 ·exact gf h
theorem Rg {fmt:Int}{c:aT}(ok:c.ok){x:UInt8}(h:be x=false)(hd:aD x=false)(hs:x≠jj fmt):x ∉ bM fmt c:=by
 unfold bM
 split
 ·simp
 ·rw[List.mem_cons,List.mem_append]
  rintro(e | e | e)
  ·exact hs e
  ·exact Og (J4 ok) h e
  ·exact fU _ hd e
theorem CP (fmt:Int):jj fmt≠58∧jj fmt≠45∧jj fmt≠46∧aD (jj fmt)=false∧be (jj fmt)=false:=by
 unfold jj;split<;>decide
theorem J5 {fmt:Int}{c:aT}(ok:c.ok){x:UInt8}(h:be x=false)(hd:aD x=false)(hs:x≠jj fmt)(h46:x≠46):x ∉ bi fmt c:=by
 unfold bi
 rw[List.mem_append,List.mem_append]
 rintro(e | e | e)
 ·exact J3 c hd h46 e
 ·exact Td ok h e
 ·exact Rg ok h hd hs e
theorem ro {fmt:Int}{c:aT}(ok:c.ok):(58:UInt8) ∉ bi fmt c:=J5 ok (by decide) (by decide) (CP fmt).1.symm (by decide)
theorem J6 {fmt:Int}{c:aT}(ok:c.ok):(45:UInt8) ∉ bi fmt c:=J5 ok (by decide) (by decide) (CP fmt).2.1.symm (by decide)
theorem mB {x:UInt8}{a:LU}(b:LU)(h:x ∉ a):Lib.cut (a++x::b) [x]=(a,b,true):=by
 have:=vS (c:=x) (a++x::b) a.length (by simp[h]) (by simp)
 rw[this];simp
theorem vU {x:UInt8}{a:LU}(h:x ∉ a):Lib.cut a [x]=(a,[],false):=rm a (by simpa using h)
theorem ou {x:UInt8}(a b:LU)(h:x ∉ b):bU x (a++x::b)=some a.length:=by
 refine ky x _ _ (by simp) (fun j hj e=>?_)
 rw[List.getElem?_append_right (by omega)] at e
 have:(x::b)[j-a.length]?=some x:=e
 rw[show j-a.length=(j-a.length-1)+1 by omega,List.getElem?_cons_succ] at this
 exact h (gM this)
def vp (fmt:Int)(c:aT):LU:=if fmt=3∨c.ep=0 then [] else aC c.ep
theorem Tr {c:aT}(ok:c.ok){x:LU×LU×LU}(h:fg (aN 1 c)=some x):x=(vp 1 c,bi 1 c,aC c.rev):=by
 have hd:bK 1=[45]:=rfl
 have hrest:∀ y,gW (bi 1 c++(bK 1++aC c.rev))=some y→y=(bi 1 c,aC c.rev):=by
  intro y hy
  rw[hd,List.singleton_append] at hy
  unfold gW at hy
  rw[ou _ _ (fU _ Tc)] at hy
  simp only at hy
  split at hy
  ·injection hy with hy;rw[←hy];simp
  ·cases hy
 have h58:(58:UInt8) ∉ bi 1 c++(bK 1++aC c.rev):=by
  rw[List.mem_append,List.mem_append]
  rintro(e | e | e)
  ·exact ro ok e
  ·rw[hd] at e;simp at e
  ·exact fU _ rn e
 unfold fg at h
 by_cases he:c.ep=0
 ·have e1:iE 1 c=[]:=by unfold iE;rw[if_pos (.inr he)]
  have e2:vp 1 c=[]:=by unfold vp;rw[if_pos (.inr he)]
  have ho:cE (aN 1 c)=some ([],bi 1 c++(bK 1++aC c.rev)):=by
   unfold cE aN;rw[e1,List.nil_append,vU h58];simp
  rw[ho] at h
  simp only at h
  cases hr:gW (bi 1 c++(bK 1++aC c.rev)) with
  | none=>rw[hr] at h;cases h
  | some y=>rw[hr,hrest y hr] at h;simp only[Option.map_some,Option.some.injEq] at h;rw[←h,e2]
 ·have e1:iE 1 c=aC c.ep++[58]:=by unfold iE;rw[if_neg (by simp[he])]
  have e2:vp 1 c=aC c.ep:=by unfold vp;rw[if_neg (by simp[he])]
  have ho:∀ y,cE (aN 1 c)=some y→y=(aC c.ep,bi 1 c++(bK 1++aC c.rev)):=by
   intro y hy
   unfold cE aN at hy
   rw[e1,List.append_assoc,List.singleton_append,mB _ (fU _ rn)] at hy
   simp only[if_true] at hy
   split at hy
   ·injection hy with hy;exact hy.symm
   ·cases hy
  cases hq:cE (aN 1 c) with
  | none=>rw[hq] at h;cases h
  | some y=>
   rw[hq,ho y hq] at h
   simp only at h
   cases hr:gW (bi 1 c++(bK 1++aC c.rev)) with
   | none=>rw[hr] at h;cases h
   | some y=>rw[hr,hrest y hr] at h;simp only[Option.map_some,Option.some.injEq] at h;rw[←h,e2]
theorem Ts {c:aT}(ok:c.ok){x:LU×LU×LU}(h:fh (aN 2 c)=some x):x=(vp 2 c,bi 2 c,aC c.rev):=by
 have hd:bK 2=[45]:=rfl
 have hrest:∀ y,iJ (bi 2 c++(bK 2++aC c.rev))=some y→y=(bi 2 c,aC c.rev):=by
  intro y hy
  rw[hd,List.singleton_append] at hy
  unfold iJ at hy
  rw[mB _ (J6 ok)] at hy
  simp only at hy
  split at hy
  ·injection hy with hy;exact hy.symm
  ·cases hy
 have h58:(58:UInt8) ∉ bi 2 c++(bK 2++aC c.rev):=by
  rw[List.mem_append,List.mem_append]
  rintro(e | e | e)
  ·exact ro ok e
  ·rw[hd] at e;simp at e
  ·exact fU _ rn e
 unfold fh at h
 by_cases he:c.ep=0
 ·have e1:iE 2 c=[]:=by unfold iE;rw[if_pos (.inr he)]
  have e2:vp 2 c=[]:=by unfold vp;rw[if_pos (.inr he)]
  have ho:gN (aN 2 c)=some ([],bi 2 c++(bK 2++aC c.rev)):=by
   unfold gN aN;rw[e1,List.nil_append,vU h58];simp
  rw[ho] at h
  simp only at h
  cases hr:iJ (bi 2 c++(bK 2++aC c.rev)) with
  | none=>rw[hr] at h;cases h
  | some y=>rw[hr,hrest y hr] at h;simp only[Option.map_some,Option.some.injEq] at h;rw[←h,e2]
 ·have e1:iE 2 c=aC c.ep++[58]:=by unfold iE;rw[if_neg (by simp[he])]
  have e2:vp 2 c=aC c.ep:=by unfold vp;rw[if_neg (by simp[he])]
  have ho:∀ y,gN (aN 2 c)=some y→y=(aC c.ep,bi 2 c++(bK 2++aC c.rev)):=by
   intro y hy
   unfold gN aN at hy
   rw[e1,List.append_assoc,List.singleton_append,mB _ (fU _ rn)] at hy
   simp only[if_true] at hy
   split at hy
   ·injection hy with hy;exact hy.symm
   ·cases hy
  cases hq:gN (aN 2 c) with
  | none=>rw[hq] at h;cases h
  | some y=>
   rw[hq,ho y hq] at h
   simp only at h
   cases hr:iJ (bi 2 c++(bK 2++aC c.rev)) with
   | none=>rw[hr] at h;cases h
   | some y=>rw[hr,hrest y hr] at h;simp only[Option.map_some,Option.some.injEq] at h;rw[←h,e2]
theorem vV:∀ (L:List Nat)(k:Nat)(kind:Int)(acc:List Pc)(r:LU),L≠[]→L.length≤k→(∀ x,r.head?=some x→aD x=false∧x≠46) →
  ∃ acc',dS k kind acc (bE 46 (L.map aC)++r)=some (acc',r)
 | [],_,_,_,_,h,_,_=>absurd rfl h
 | _::_,0,_,_,_,_,h,_=>by simp at h
 | [n],k+1,kind,acc,r,_,_,hr=>by
  have hrn:au aD (aC n++r)=(aC n).length:=er (cG n) (fun x hx=>(hr x hx).1)
  have hp:=gY n
  simp only[List.map_cons,List.map_nil,bE]
  unfold dS
  rw[hrn,if_neg (by omega),List.drop_left,List.take_left]
  cases r with
  | nil=>exact⟨_,rfl⟩
  | cons x t=>
   have hx:=(hr x rfl).2
   split
   ·rename_i e;injection e with e1 _;exact absurd e1 hx
   ·exact⟨_,rfl⟩
 | n::m::L,k+1,kind,acc,r,_,hk,hr=>by
  have hp:=gY n
  simp only[List.map_cons,bE,List.append_assoc,List.cons_append]
  have hrn:au aD (aC n++46::(bE 46 (aC m::L.map aC)++r))=(aC n).length:=er (cG n) (fun x hx=>by
   simp only[List.head?_cons,Option.some.injEq] at hx;rw[←hx];decide)
  unfold dS
  rw[hrn,if_neg (by omega),List.drop_left,List.take_left]
  exact vV (m::L) k 6 _ r (by simp) (by simp at hk ⊢;omega) hr
theorem nw:∀ (L:List Nat),L.length≤(bE 46 (L.map aC)).length
 | []=>by simp
 | [n]=>by have:=gY n;simp[bE];omega
 | n::m::L=>by
  have:=nw (m::L)
  simp only[List.map_cons,bE,List.length_append,List.length_cons] at this ⊢
  omega
theorem ub {l r:LU}(h:l.all be=true)(hr:∀ c,r.head?=some c→be c=false):au be (l++r)=l.length:=by
 unfold au
 induction l with
 | nil=>
  cases r with
  | nil=>rfl
  | cons a t=>rw[List.nil_append,List.takeWhile_cons_of_neg (by rw[hr a rfl];simp)]
 | cons a t ih=>
  rw[List.all_cons,Bool.and_eq_true] at h
  rw[List.cons_append,List.takeWhile_cons_of_pos h.1,List.length_cons,ih h.2,List.length_cons]
theorem jk {x:UInt8}(h:aD x=true):be x=false:=by
 unfold aD at h;unfold be
 have:=dO h
 exact dF (by omega)
theorem jx (n:Nat)(r:LU):∀ x,(aC n++r).head?=some x→aD x=true:=by
 intro x hx
 have h:=cG n
 cases e:aC n with
 | nil=>exact absurd e (iI n)
 | cons a t=>
  rw[e] at hx h
  rw[List.all_cons,Bool.and_eq_true] at h
  simp only[List.cons_append,List.head?_cons,Option.some.injEq] at hx
  rw[←hx];exact h.1
theorem Ln {w:LU}(h:w∈bu):∃ i,dt w=some i:=by
 simp only[bu,List.mem_cons,List.not_mem_nil,or_false] at h
 rcases h with rfl | rfl | rfl | rfl
 ·exact⟨0,by decide⟩
 ·exact⟨1,by decide⟩
 ·exact⟨2,by decide⟩
 ·exact⟨3,by decide⟩
theorem Oh {c:aT}(ok:c.ok):cf (aN 3 c)=some ([],bi 3 c,aC c.rev):=by
 have e1:iE 3 c=[]:=by unfold iE;rw[if_pos (.inl rfl)]
 have hd:bK 3=[45,114]:=rfl
 generalize hR:bK 3++aC c.rev=R
 have hR':R=45::114::aC c.rev:=by rw[←hR,hd];rfl
 have hPR:∀ x,(bM 3 c++R).head?=some x→x=95∨x=45:=by
  intro x hx
  unfold bM at hx
  split at hx
  ·rw[hR'] at hx;simp at hx;exact .inr hx.symm
  ·simp[jj] at hx;exact .inl hx.symm
 have hLR:∀ x,(c.lt++(bM 3 c++R)).head?=some x→aD x=false∧x≠46:=by
  intro x hx
  rcases ok.lt with e | ⟨b,e,hb⟩
  ·rw[e,List.nil_append] at hx
   rcases hPR x hx with rfl | rfl<;>decide
  ·rw[e] at hx
   simp only[List.cons_append,List.head?_cons,Option.some.injEq] at hx
   subst hx
   constructor
   ·cases h:aD b with
    | false=>rfl
    | true=>rw[jk h] at hb;cases hb
   ·rintro rfl;revert hb;decide
 have hl:aN 3 c=fC c++(c.lt++(bM 3 c++R)):=by unfold aN bi;rw[e1,hR];simp
 obtain⟨acc,hn⟩:=vV c.nums ((aN 3 c).length+1) 7 [] (c.lt++(bM 3 c++R)) ok.nums (by
  have:=nw c.nums
  rw[hl,List.length_append];unfold fC;omega) hLR
 have hlett:∃ acc',fi acc (c.lt++(bM 3 c++R))=(acc',bM 3 c++R):=by
  rcases ok.lt with e | ⟨b,e,hb⟩
  ·rw[e,List.nil_append]
   cases hq:bM 3 c++R with
   | nil=>exact⟨acc,rfl⟩
   | cons x t=>
    have hx:be x=false:=by rcases hPR x (by rw[hq];rfl) with rfl | rfl<;>decide
    refine⟨acc,?_⟩
    unfold fi;simp only;rw[if_neg (by rw[hx];simp)]
  ·rw[e]
   refine⟨acc++[⟨5,[b],0⟩],?_⟩
   show fi acc (b::(bM 3 c++R))=_
   unfold fi;simp only;rw[if_pos hb]
 obtain⟨acc2,hlett⟩:=hlett
 have hend:∀ k acc,dU (k+1) acc R=some (acc,R):=by
  intro k acc;rw[hR'];unfold dU;simp
 have hsuf:∃ acc',dU ((bM 3 c++R).length+1) acc2 (bM 3 c++R)=some (acc',R):=by
  unfold bM
  split
  ·exact⟨_,hend _ _⟩
  ·rename_i hne
   have hw:c.pre∈bu:=by
    rcases ok.pre with⟨e,_⟩ | h
    ·exact absurd e hne
    ·exact h
   obtain⟨i,hi⟩:=Ln hw
   have hsg:jj 3=95:=rfl
   rw[hsg]
   simp only[List.cons_append,List.length_cons,List.append_assoc]
   have r1:au be (c.pre++(aC c.pnum++R))=c.pre.length:=ub (gf hw) (fun x hx=>jk (jx _ _ x hx))
   have r2:au aD (aC c.pnum++R)=(aC c.pnum).length:=er (cG _) (fun x hx=>by rw[hR'] at hx;simp at hx;rw[←hx];decide)
   unfold dU
   simp only[r1,List.take_left,List.drop_left,hi,r2]
   exact⟨_,hend _ _⟩
 obtain⟨acc3,hsuf⟩:=hsuf
 unfold cf kB
 rw[hl] at *
 unfold fC at *
 rw[hn]
 simp only[hlett,hsuf]
 have hfin:jA (bE 46 (c.nums.map aC)++(c.lt++(bM 3 c++R))) acc3 R=some (acc3++[⟨2,aC c.rev,0⟩]++[⟨1,[],0⟩],bi 3 c,aC c.rev):=by
  rw[hR']
  unfold jA
  simp only[oq,if_true]
  congr 3
  rw[←hR']
  have:bE 46 (c.nums.map aC)++(c.lt++(bM 3 c++R))=bi 3 c++R:=by unfold bi fC;simp
  rw[this,List.length_append,Nat.add_sub_cancel,List.take_left]
 rw[hfin];rfl
theorem uc {fmt:Int}(hf:fmt=1∨fmt=2∨fmt=3){c:aT}(ok:c.ok){x:LU×LU×LU}(h:bC fmt (aN fmt c)=some x):x=(vp fmt c,bi fmt c,aC c.rev):=by
 rcases hf with rfl | rfl | rfl
 ·exact Tr ok h
 ·exact Ts ok h
 ·have h2:bC 3 (aN 3 c)=cf (aN 3 c):=rfl
  rw[h2,Oh ok] at h
  injection h with h
  rw[←h];unfold vp;rw[if_pos (.inl rfl)]
def eQ:LU→LU→Bool
 | _,[]=>true
 | [],_::_=>false
 | a::l,b::w=>a==b&&eQ l w
def jR (l:LU):LU:=match l.getLast? with
 | some b=>if be b=true then [b] else []
 | none=>[]
def ud (l:LU):LU:=if jR l=[] then l else l.dropLast
def vW (tail:LU)(a:LU×Nat)(w:LU):LU×Nat:=if eQ tail w=true then (w,(dq (tail.drop w.length)).toNat) else a
def nx (fmt:Int)(x:LU×LU×LU):aT where
 ep:=if x.1=[] then 0 else (dq x.1).toNat
 nums:=(cX 46 (ud (Lib.cut x.2.1 [jj fmt]).1)).map fun d=>(dq d).toNat
 lt:=jR (Lib.cut x.2.1 [jj fmt]).1
 pre:=(bu.foldl (vW (Lib.cut x.2.1 [jj fmt]).2.1) ([],0)).1
 pnum:=(bu.foldl (vW (Lib.cut x.2.1 [jj fmt]).2.1) ([],0)).2
 rev:=(dq x.2.2).toNat
theorem rp {n:Nat}(h:n≤999999999):(dq (aC n)).toNat=n:=by
 have:=(Hw (n:=n) (by unfold lL;omega)).1
 rw[this];simp
theorem CQ {l:LU}(hne:l≠[])(h:l.all aD=true):∃ b,l.getLast?=some b∧aD b=true:=by
 cases e:l.getLast? with
 | none=>rw[List.getLast?_eq_none_iff] at e;exact absurd e hne
 | some b=>
  refine⟨b,rfl,?_⟩
  rw[List.all_eq_true] at h
  exact h b (List.mem_of_getLast? e)
theorem Lo {c:aT}(h:c.nums≠[]):∃ b,(fC c).getLast?=some b∧aD b=true:=by
 obtain⟨L,n,e⟩:∃ L n,c.nums=L++[n]:=by
  cases hl:c.nums.getLast? with
  | none=>rw[List.getLast?_eq_none_iff] at hl;exact absurd hl h
  | some n=>obtain⟨L,e⟩:=List.getLast?_eq_some_iff.1 hl;exact⟨L,n,e⟩
 unfold fC
 rw[e,List.map_append,List.map_singleton,my]
 obtain⟨b,hb,hd⟩:=CQ (iI n) (cG n)
 refine⟨b,?_,hd⟩
 rw[List.getLast?_append,hb];rfl
theorem Lp {c:aT}(ok:c.ok):jR (fC c++c.lt)=c.lt∧ud (fC c++c.lt)=fC c:=by
 have key:jR (fC c++c.lt)=c.lt:=by
  unfold jR
  rcases ok.lt with e | ⟨b,e,hb⟩
  ·obtain⟨b,hb,hd⟩:=Lo ok.nums
   rw[e,List.append_nil,hb]
   simp only
   rw[jk hd,if_neg (by simp)]
  ·rw[e,List.getLast?_append]
   simp[hb]
 refine⟨key,?_⟩
 unfold ud
 rw[key]
 rcases ok.lt with e | ⟨b,e,hb⟩
 ·rw[if_pos e,e,List.append_nil]
 ·rw[if_neg (by rw[e];simp),e];simp
theorem Lq {w:LU}(hw:w∈bu){n:Nat}(hn:n≤999999999):bu.foldl (vW (w++aC n)) ([],0)=(w,n):=by
 have h1:=rp hn
 have h2:=jx n []
 rw[List.append_nil] at h2
 simp only[bu,List.mem_cons,List.not_mem_nil,or_false] at hw
 rcases hw with rfl | rfl | rfl | rfl
 all_goals
  simp only[bu,List.foldl_cons,List.foldl_nil,vW,List.cons_append,List.nil_append,eQ]
  cases e:aC n with
  | nil=>exact absurd e (iI n)
  | cons a t=>rw[e] at h1;simp[eQ,h1]
theorem H8 {fmt:Int}{c:aT}(ok:c.ok)(h3:fmt=3→c.ep=0):nx fmt (vp fmt c,bi fmt c,aC c.rev)=c:=by
 have hno:jj fmt ∉ fC c++c.lt:=by
  obtain⟨_,_,s3,s4,s5⟩:=CP fmt
  rw[List.mem_append]
  rintro(h | h)
  ·exact J3 c s4 s3 h
  ·exact Td ok s5 h
 have hcut:(Lib.cut (bi fmt c) [jj fmt]).1=fC c++c.lt∧bu.foldl (vW (Lib.cut (bi fmt c) [jj fmt]).2.1) ([],0)=(c.pre,c.pnum):=by
  unfold bi bM
  rw[←List.append_assoc]
  rcases ok.pre with⟨e,en⟩ | h
  ·rw[if_pos e,List.append_nil,vU hno,e,en]
   exact⟨rfl,(show bu.foldl (vW []) ([],0)=([],0) from by decide)⟩
  ·rw[if_neg (CO h),mB _ hno]
   exact⟨rfl,Lq h ok.pnum⟩
 have hh:=Lp ok
 have hep:(if vp fmt c=[] then 0 else (dq (vp fmt c)).toNat)=c.ep:=by
  unfold vp
  by_cases e:fmt=3∨c.ep=0
  ·rw[if_pos e,if_pos rfl]
   rcases e with e | e
   ·exact(h3 e).symm
   ·exact e.symm
  ·rw[if_neg e,if_neg (iI _)];exact rp ok.ep
 have hnums:(cX 46 (fC c)).map (fun d=>(dq d).toNat)=c.nums:=by
  unfold fC
  rw[qW 46 _ (by simpa using ok.nums) (fun l hl=>by obtain⟨n,_,rfl⟩:=List.mem_map.1 hl;exact fU n (by decide)),List.map_map]
  have:∀ (L:List Nat),(∀ n∈L,n≤999999999)→L.map ((fun d=>(dq d).toNat) ∘ aC)=L:=by
   intro L
   induction L with
   | nil=>intro _;rfl
   | cons a r ih=>intro h;rw[List.map_cons,ih (fun n hn=>h n (List.mem_cons_of_mem _ hn))];congr 1;exact rp (h a (by simp))
  exact this _ ok.each
 unfold nx
 rw[hcut.1,hcut.2,hh.1,hh.2,hep,hnums,rp ok.rev]
section
open Go.RowKit
theorem AQ {fmt:Int}{s:BA}(h:aV fmt s=0):s.size≤64:=by
 unfold aV at h
 split at h
 ·simp at h
 ·split at h
  ·simp at h
  ·omega
theorem L6 {l:LU}(h:eB l=true):l.length≤64:=by
 rw[LH] at h;simp at h;omega
theorem dR.right.sizes {x:dR}(h:x.right):x.name.length≤64∧x.ver.length≤64:=by
 obtain⟨h1,h2,h3,h4⟩:=h
 refine⟨L6 h1,?_⟩
 by_cases o0:x.op=0
 ·rw[h3 o0];simp
 ·have:=AQ (h4 (by omega));rw[bQ] at this;exact this
theorem Iz (x:dR)(hx:x.right)(w:World)(hG:Gl w):
  Calls Tryz.prog 107 #[.agg #[.string (bz x.name),.int .i64 x.op,.string (bz x.ver)]] w fun e w'=>e=.returned (.int .i64 0)∧Below w.heap.size w w':=by
 obtain⟨z1,z2⟩:=hx.sizes
 obtain⟨h1,h2,h3,h4⟩:=hx
 have HG:=ae hG;clear hG
 have hn:eB (bl (bz x.name))=true:=by rw[cH];exact h1
 have s1:(bz x.name).size≤64:=by rw[bQ];exact z1
 have s2:(bz x.ver).size≤64:=by rw[bQ];exact z2
 have hN:=fun W=>Ax (bz x.name) W (by omega)
 rw[hn] at hN
 clear hn h1 z1 z2
 generalize bz x.name=N at *
 by_cases o0:x.op=0
 ·have hv:bz x.ver=⟨#[]⟩:=by rw[h3 o0];rfl
  rw[hv,o0]
  clear h2 h3 h4 s2 hv o0
  go_enter Tryz.func107,Tryz.ntmps107
  go_wp2_with fail
  refine(hN _).mono ?_;rintro e w' ⟨rfl,rfl⟩
  go_wp2_with fail
  go_ret
  exact⟨rfl,bR.alloc lr _⟩
 ·have hv:=h4 (by omega)
  have o1:decide ((x.op:Int)<0)=false:=dF (by omega)
  have o2:decide ((6:Int)<(x.op:Int))=false:=dF (by omega)
  have o3:((x.op:Int)==0)=false:=by simp;omega
  have hC:=fun W hW=>bh 3 (bz x.ver) W hW (by omega)
  rw[hv] at hC
  clear h2 h3 h4 hv
  generalize bz x.ver=V at *
  go_enter Tryz.func107,Tryz.ntmps107
  go_wp2_with fail
  refine(hN _).mono ?_;rintro e w' ⟨rfl,rfl⟩
  go_wp2_with fail
  refine(hC _ (HG.out.alloc _)).mono ?_;rintro e w1 ⟨rfl,hb1⟩
  go_wp2_with fail
  go_ret
  exact⟨rfl,(bR.alloc lr _).trans (hb1.mono (by simp))⟩
theorem IA (A:Option Addr)(c:Nat)(L:List dR)(hL:∀ x∈L,x.right)(h64:L.length≤64)(w:World)(hG:Gl w)(hr:Rd w 4 A L.length (L.flatMap dR.cells)):
  Calls Tryz.prog 66 #[.slice A L.length c] w fun e w'=>e=.returned (.int .i64 0)∧Below w.heap.size w w':=by
 have HG:=ae hG;have HR:=ae hr;have HL:=ae hL
 clear hG hr hL
 go_enter Tryz.func66,Tryz.ntmps66
 go_wp2_with fail
 go_loopw [11] (fun i wr=>∃ k:Nat,k≤L.length∧i=.int .i64 k∧Hid (Below w.heap.size w wr)) (fun i _=>L.length-(intOf i).toNat)
 case atStart=>exact⟨0,z0,rfl,bR⟩
 case round=>
  obtain⟨k,hk,rfl,HB⟩:=hrel
  by_cases hlt:k<L.length
  ·obtain⟨x,hx⟩:∃ x,L[k]?=some x:=⟨_,gG hlt⟩
   obtain⟨b,off,hA,he⟩:=(HR.out.below HB.out).elem vq k x hx
   have e0:=he 0 _ rfl
   have e1:=he 1 _ rfl
   have e2:=he 2 _ rfl
   have e3:=he 3 _ rfl
   simp only[Nat.add_zero] at e0
   have hix:=fun W=>aH (T:=71) (E:=86) (sz:=4) (c:=c) Tryz.underlying71 rfl Tryz.sizeOf86 hA hlt W
   have HX:=ae (HL.out x (gM hx))
   clear hx he hA
   go_wp2_with fail
   have B1:=ae (HB.out.alloc HB.out.size (.cells #[.bool x.no,.string (bz x.name),.int .i64 x.op,.string (bz x.ver)] 86))
   refine(Iz x HX.out _ (HG.out.below B1.out)).mono ?_;rintro e w1 ⟨rfl,hb1⟩
   have B2:Hid (Below w.heap.size w w1):=ah B1.out hb1
   clear hb1 e0 e1 e2 e3 hix
   go_wp2_with fail
   go_roundw
   case rel=>exact⟨k+1,by omega,by go_num,B2⟩
   case measure=>simp[intOf];omega
  ·go_wp2_with fail
   go_ret
   exact⟨rfl,HB.out⟩
theorem rE (A:Option Addr)(c:Nat)(xs:List BA)(sep:BA)(w:World)(hr:Rd w 1 A xs.length (strCells xs))(hc:xs.length≤c)(hn:xs.length≤140737488355328)(hlen:(Lib.join (xs.map bl) (bl sep)).length≤140737488355328):
  Calls Tryz.prog 63 #[.slice A xs.length c,.string sep] w fun e w'=>e=.returned (.string (bz (Lib.join (xs.map bl) (bl sep))))∧Below w.heap.size w w':=by
 by_cases h0:xs.length=0
 ·have:xs=[]:=List.length_eq_zero_iff.1 h0
  subst this
  exact(Tryz.strings_Join_none A c sep w).mono fun _ _ ⟨he,hw⟩=>⟨he,by rw[hw];exact bR⟩
 ·obtain⟨b,off,rfl,hcell⟩:=hr.2 (by omega)
  have hb:b<w.heap.size:=by
   have h1:=hcell 0 (.string xs[0]) (by simp[strCells])
   exact World.block_lt_of_cell? _ _ h1
  exact(Tryz.strings_Join b off c xs sep w (fun j x hx=>hcell j _ (by simp[strCells,hx])) hb hn hc hlen).mono fun _ _ ⟨he,hw⟩=>⟨he,hw⟩
end
end Go.Proofs.YtkjdbpjglobbjaaGreatDoor
