/- A part of the proof. -/
import Derived.LaidEqlPtr
import Derived.Laws.StructEq
import Derived.MapKept
import Derived.Test.YtlglfpbhapmhiaaGreatDoorK18
import Derived.Test.YtlglfpbhapmhiaaGreatDoorK22
set_option maxRecDepth 100000
set_option maxHeartbeats 20000000
set_option linter.unusedVariables false
set_option linter.unusedSimpArgs false
namespace Go.Proofs.YtlglfpbhapmhiaaGreatDoor
section
open Go.RowKit
structure dn.good (t:dn):Prop where
 right:t.right=true
 op:t.op≤5
 ver:t.op=0→t.ver=[]
 few:t.archs.length≤1000000
structure dn.shape (t:dn) (n:Nat):Prop where
 op:t.op≤5
 ver:t.op=0→t.ver=[]
 few:t.archs.length≤n
theorem Lv (l:LU):(qt l).1≤5:=by
 unfold qt;repeat' split
 all_goals simp
theorem Hd {n op:Nat}{l v r:LU}(h:bX n l=some (op,v,r)):op=n∧n≠0∧r.length≤l.length:=by
 unfold bX at h
 split at h
 ·cases h
 ·rename_i h0
  split at h
  ·cases h
  ·rename_i a b ht
   unfold jL at h
   split at h
   ·injection h with h;injection h with h1 h;injection h with h2 h3
    refine⟨h1.symm,h0,?_⟩
    rw[←h3]
    have a1:=we ht
    have a2:=dy l
    have a3:=dy b
    have a4:=dy ((aK b).drop 1)
    rw[List.length_drop] at a4
    omega
   ·cases h
theorem JG (l:LU):(qt l).2.length≤l.length:=by
 unfold qt;repeat' split
 all_goals simp
 all_goals omega
theorem yv {op:Nat}{l v r:LU}(h:jn l=some (op,v,r)):op≤5∧(op=0→v=[])∧r.length≤l.length:=by
 unfold jn at h
 split at h
 ·unfold tO at h
  obtain⟨h1,h2,h3⟩:=Hd h
  refine⟨by rw[h1];exact Lv _,fun h0=>absurd (h1.symm.trans h0) h2,?_⟩
  have a1:=JG (aK (l.drop 1))
  have a2:=dy (l.drop 1)
  rw[List.length_drop] at a2
  omega
 ·injection h with h;injection h with h1 h;injection h with h2 h3
  exact⟨by omega,fun _=>h2.symm,by rw[h3];exact Nat.le_refl _⟩
theorem uW (l:LU):(bW l).length≤l.length:=by unfold bW;split<;>simp
theorem rR:∀ (f:Nat)(l r:LU)(L:List (LU)),eA f l=some (L,r)→L.length≤l.length∧r.length≤l.length
 | 0,l,r,L,h=>by simp[eA] at h
 | f+1,l,r,L,h=>by
  unfold eA at h
  split at h
  ·cases h
  ·rename_i a b ha
   obtain⟨x,h1,_,_⟩:=pC ha
   have a1:=we h1
   have a2:=uW l
   have a3:=dy b
   split at h
   ·injection h with h;injection h with h2 h3
    have a4:=dy ((aK b).drop 1)
    rw[List.length_drop] at a4
    subst h2;subst h3
    constructor
    ·simp;omega
    ·omega
   ·split at h
    ·obtain⟨⟨M,q⟩,h4,h5⟩:=Option.map_eq_some_iff.1 h
     injection h5 with h5 h6
     obtain⟨b1,b2⟩:=rR f (aK b) q M h4
     subst h5;subst h6
     constructor
     ·simp;omega
     ·show q.length≤_;omega
    ·cases h
theorem yw {t:dn}{l r:LU}(h:fT l=some (t,r)):t.shape l.length∧r.length<l.length:=by
 unfold fT at h
 split at h
 ·cases h
 ·rename_i nm r0 h0
  have a0:=we h0
  split at h
  ·cases h
  ·rename_i q r1 h1
   have a1:r1.length≤r0.length:=by
    unfold jM at h1
    split at h1
    ·have:=we h1;rw[List.length_drop] at this;omega
    ·injection h1 with h1;injection h1 with _ h1;rw[h1];exact Nat.le_refl _
   have a2:=dy r1
   split at h
   ·cases h
   ·rename_i op v r2 h2
    obtain⟨b1,b2,b3⟩:=yv h2
    split at h
    ·cases h
    ·rename_i ar r3 h3
     have a4:ar.length≤r2.length∧r3.length≤r2.length:=by
      unfold ib at h3
      split at h3
      ·obtain⟨c1,c2⟩:=rR _ _ _ _ h3
       have:=dy (r2.drop 1);rw[List.length_drop] at this;constructor<;>omega
      ·injection h3 with h3;injection h3 with h3 h4;subst h3;subst h4;simp
     injection h with h;injection h with h5 h6
     subst h5;subst h6
     exact⟨⟨b1,b2,by show ar.length≤_;omega⟩,by omega⟩
theorem mN {t:dn}{n m:Nat}(h:t.shape n)(hn:n≤m):t.shape m:=⟨h.op,h.ver,Nat.le_trans h.few hn⟩
theorem nY:∀ (f:Nat)(l r:LU)(g:List dn),dY f l=some (g,r)→g≠[]∧(∀ t∈g,t.shape l.length)∧r.length≤l.length
 | 0,l,r,g,h=>by simp[dY] at h
 | f+1,l,r,g,h=>by
  unfold dY at h
  split at h
  ·cases h
  ·rename_i t r0 h0
   obtain⟨a1,a2⟩:=yw h0
   split at h
   ·obtain⟨⟨M,q⟩,h4,h5⟩:=Option.map_eq_some_iff.1 h
    injection h5 with h5 h6
    obtain⟨b1,b2,b3⟩:=nY f _ q M h4
    have a3:=dy (r0.drop 1)
    rw[List.length_drop] at a3
    subst h5;subst h6
    refine⟨by simp,fun x hx=>?_,by show q.length≤_;omega⟩
    rcases List.mem_cons.1 hx with rfl | hx
    ·exact a1
    ·exact mN (b2 x hx) (by omega)
   ·injection h with h;injection h with h5 h6
    subst h5;subst h6
    refine⟨by simp,fun x hx=>?_,by omega⟩
    obtain rfl:=List.mem_singleton.1 hx
    exact a1
theorem mu:∀ (f:Nat)(l:LU)(L:List (List dn)),fU f l=some L→∀ g∈L,g≠[]∧∀ t∈g,t.shape l.length
 | 0,l,L,h=>by simp[fU] at h
 | f+1,l,L,h=>by
  unfold fU at h
  split at h
  ·cases h
  ·rename_i g0 r0 h0
   obtain⟨a1,a2,a3⟩:=nY _ _ _ _ h0
   split at h
   ·injection h with h;subst h
    intro g hg;obtain rfl:=List.mem_singleton.1 hg;exact⟨a1,a2⟩
   ·split at h
    ·obtain⟨M,h4,rfl⟩:=Option.map_eq_some_iff.1 h
     have a4:=dy (r0.drop 1)
     rw[List.length_drop] at a4
     intro g hg
     rcases List.mem_cons.1 hg with rfl | hg
     ·exact⟨a1,a2⟩
     ·obtain⟨b1,b2⟩:=mu f _ M h4 g hg
      exact⟨b1,fun t ht=>mN (b2 t ht) (by omega)⟩
    ·cases h
theorem yx {l:LU}{L:List (List dn)}(h:kV l=some L):∀ g∈L,g≠[]∧∀ t∈g,t.shape l.length:=by
 unfold kV at h
 split at h
 ·injection h with h;subst h;simp
 ·intro g hg
  obtain⟨b1,b2⟩:=mu _ _ _ h g hg
  exact⟨b1,fun t ht=>mN (b2 t ht) (dy _)⟩
structure ko (L:List (List dn)):Prop where
 ne:∀ g∈L,g≠[]
 good:∀ g∈L,∀ t∈g,t.good
 sum:(L.map List.length).sum≤64
theorem AQ {l:LU}{L:List (List dn)}(h:gw l=some L)(hl:l.length≤1000000):ko L:=by
 unfold gw at h
 split at h
 ·cases h
 ·rename_i M hM
  split at h
  ·rename_i ha
   injection h with h;subst h
   have hs:=yx hM
   unfold tP at ha
   simp only[Bool.and_eq_true,List.all_eq_true,decide_eq_true_eq] at ha
   refine⟨fun g hg=>(hs g hg).1,fun g hg t ht=>?_,ha.2⟩
   have h1:=(hs g hg).2 t ht
   exact⟨ha.1 g hg t ht,h1.op,h1.ver,Nat.le_trans h1.few hl⟩
  ·cases h
theorem ko.nil:ko []:=⟨by simp,by simp,by simp⟩
theorem Lw {L:List (List dn)}{g:List dn}(h:g∈L):g.length≤(L.map List.length).sum:=by
 induction L with
 | nil=>simp at h
 | cons a r ih=>
  rcases List.mem_cons.1 h with rfl | h
  ·simp
  ·have:=ih h;simp;omega
theorem ko.few {L:List (List dn)}(h:ko L):L.length≤64:=by
 have h1:=h.sum
 have:∀ (M:List (List dn)),(∀ g∈M,g≠[])→M.length≤(M.map List.length).sum:=by
  intro M
  induction M with
  | nil=>simp
  | cons a r ih=>
   intro hM
   have h2:=ih (fun g hg=>hM g (List.mem_cons_of_mem _ hg))
   have h3:0<a.length:=List.length_pos_iff.2 (hM a (by simp))
   simp;omega
 have:=this L h.ne
 omega
theorem Ec {l:LU}(h:dX l=true):l.length≤64:=by unfold dX at h;simp at h;omega
theorem uX {l:LU}(h:cQ l=true):l.length≤32:=by unfold cQ at h;simp at h;omega
theorem Ed (l:LU):l.length≤(bW l).length+1:=by unfold bW;split<;>simp;omega
structure dn.sizes (t:dn):Prop where
 nm:t.name.length≤64
 qual:t.qual.length≤32
 ver:t.ver.length≤64
 archs:∀ x∈t.archs,x.length≤33
structure dn.parts (t:dn):Prop where
 nm:dX t.name=true
 qual:t.qual=[]∨cQ t.qual=true
 archs:∀ x∈t.archs,cQ (bW x)=true
 ver:0<t.op→cJ 1 (bG t.ver)=0
theorem dn.good.parts {t:dn}(h:t.good):t.parts:=by
 have h1:=h.right
 unfold dn.right at h1
 simp only[Bool.and_eq_true,Bool.or_eq_true,List.all_eq_true,decide_eq_true_eq,List.isEmpty_iff] at h1
 obtain⟨⟨⟨a1,a2⟩,a3⟩,a4⟩:=h1
 exact⟨a1,a2,a3,fun h0=>by rcases a4 with a4 | a4;· omega
                           ·exact a4⟩
theorem dn.good.sizes {t:dn}(h:t.good):t.sizes:=by
 have p:=h.parts
 refine⟨Ec p.nm,?_,?_,fun x hx=>?_⟩
 ·rcases p.qual with h0 | h0
  ·rw[h0];simp
  ·exact uX h0
 ·by_cases h0:t.op=0
  ·rw[h.ver h0];simp
  ·have:=uQ (p.ver (by omega));rw[bV] at this;exact this
 ·have:=uX (p.archs x hx);have:=Ed x;omega
end
section
open Go.RowKit
inductive ow where
 | atom (name:LU) (op:Nat) (ver:LU)
 | node (op:LU) (kids:List ow)
def ik:Nat→LU→Nat
 | _,[]=>0
 | o,c::r=>if c==32 then 0 else if c==40 then ik (o+1) r+1 else if c==41 then (if o=0 then 0 else ik (o-1) r+1) else ik o r+1
def KH (c:UInt8):Bool:=c==40||c==41
def oS:LU→Nat
 | []=>0
 | c::r=>if KH c then 1 else ik 0 (c::r)
def aV (l:LU):LU:=(aK l).take (oS (aK l))
def bd (l:LU):LU:=(aK l).drop (oS (aK l))
theorem qu:∀ (l:LU)(o:Nat),ik o l≤l.length
 | [],_=>by simp[ik]
 | c::r,o=>by
  unfold ik
  have h1:=qu r (o+1)
  have h2:=qu r (o-1)
  have h3:=qu r o
  repeat' split
  all_goals simp
  all_goals omega
theorem wA (l:LU):oS l≤l.length:=by
 cases l with
 | nil=>simp[oS]
 | cons c r=>
  show(if KH c then 1 else ik 0 (c::r))≤(c::r).length
  split
  ·simp
  ·exact qu _ _
theorem Eg {l r:LU}{c:UInt8}(h:aK l=c::r):(c==32)=false:=by
 have h1:=DC l
 rw[h,lF] at h1
 cases hc:aS c with
 | true=>rw[hc] at h1;simp at h1
 | false=>exact hc
theorem rZ {l:LU}(h:aK l≠[]):0<oS (aK l):=by
 cases hs:aK l with
 | nil=>exact absurd hs h
 | cons c r=>
  have h0:=Eg hs
  show 0<(if KH c then 1 else ik 0 (c::r))
  split
  ·omega
  ·rename_i hb
   have h1:(c==40)=false:=by unfold KH at hb;cases h:(c==40) with
    | false=>rfl
    | true=>rw[h] at hb;simp at hb
   have h2:(c==41)=false:=by unfold KH at hb;cases h:(c==41) with
    | false=>rfl
    | true=>rw[h] at hb;simp at hb
   show 0<(if c==32 then 0 else if c==40 then ik (0+1) r+1 else if c==41 then (if 0=0 then 0 else ik (0-1) r+1) else ik 0 r+1)
   rw[h0,h1,h2];simp
theorem Hj {l:LU}(h:aK l≠[]):(bd l).length<l.length:=by
 have h1:=rZ h
 have h2:=wA (aK l)
 have h3:=dy l
 unfold bd;rw[List.length_drop];omega
theorem oT {l:LU}:aV l=[]↔aK l=[]:=by
 constructor
 ·intro h
  by_cases h0:aK l=[]
  ·exact h0
  ·have h1:=rZ h0
   have h2:=wA (aK l)
   unfold aV at h
   have:=congrArg List.length h
   rw[List.length_take,List.length_nil] at this;omega
 ·intro h;unfold aV;rw[h];rfl
def AT (p:LU):Nat:=if p=[60] then 1 else if p=[60,61] then 2 else if p=[61] then 3 else if p=[62,61] then 4 else if p=[62] then 5 else 0
def eV:LU:=[97,110,100]
def mw:LU:=[111,114]
def mx:LU:=[105,102]
def bj:LU:=[117,110,108,101,115,115]
def dQ:LU:=[119,105,116,104]
def bC:LU:=[119,105,116,104,111,117,116]
def pD:LU:=[101,108,115,101]
def eD (p:LU):Bool:=decide (p=eV∨p=mw∨p=mx∨p=bj∨p=dQ∨p=bC)
def aI (op:LU)(n:Nat)(p:LU):Bool:=
 if n=1 then eD p else decide ((op=eV∨op=mw)∧p=op∨(op=mx∨op=bj)∧n=2∧p=pD)
def jA (name:LU)(op n:Nat)(l:LU):Option (ow×LU×Nat):=
 if aV l=[]∨aV l=[40]∨aV l=[41] then none else if cJ 2 (bG (aV l))=0 then some (.atom name op (aV l),bd l,n) else none
def la (name:LU)(n:Nat)(l:LU):Option (ow×LU×Nat):=
 if AT (aV l)=0 then some (.atom name 0 [],l,n) else jA name (AT (aV l)) n (bd l)
def ir (n:Nat)(l:LU):Option (ow×LU×Nat):=
 if n=64 then none else if di (aV l) then la (aV l) (n+1) (bd l) else none
mutual
def gA:Nat→Nat→Nat→LU→Option (ow×LU×Nat)
 | 0,_,_,_=>none
 | f+1,deep,n,l=>
  if aV l=[]∨aV l=[41] then none
  else if aV l=[40] then (if deep=32 then none else jR f (deep+1) n [] [] (bd l))
  else ir n l
def jR:Nat→Nat→Nat→List ow→LU→LU→Option (ow×LU×Nat)
 | 0,_,_,_,_,_=>none
 | f+1,deep,n,acc,op,l=>match gA f deep n l with
  | none=>none
  | some (k,l1,n1)=>
   if aV l1=[41]∧acc≠[] then some (.node op (acc++[k]),bd l1,n1)
   else if aI op (acc.length+1) (aV l1) then jR f deep n1 (acc++[k]) (if acc=[] then aV l1 else op) (bd l1)
   else none
end
def fj (l:LU):Option ow:=match gA (2*l.length+2) 0 0 l with
 | none=>none
 | some (d,r,_)=>if aV r=[] then some d else none
def MU:Nat→LU
 | 1=>[60]
 | 2=>[60,61]
 | 3=>[61]
 | 4=>[62,61]
 | 5=>[62]
 | _=>[]
def JJ (op:LU)(i:Nat):LU:=if 2≤i∧(op=mx∨op=bj) then pD else op
mutual
def dR:ow→LU
 | .atom nm op v=>if op=0 then nm else nm++[32]++MU op++[32]++v
 | .node op ks=>[40]++fW op 0 ks++[41]
def fW (op:LU):Nat→List ow→LU
 | _,[]=>[]
 | i,k::r=>(if i=0 then [] else [32]++JJ op i++[32])++dR k++fW op (i+1) r
end
def iV (l:LU):Bool:=!l.isEmpty&&(match fj l with | some d=>decide (dR d=l) | none=>false)
end
section
open Go.RowKit
inductive ak where
 | mk (op nm:BA) (aop:Nat) (ver:BA) (ka:OA) (kc:Nat) (kids:List ak)
def ak.op:ak→BA | .mk op _ _ _ _ _ _=>op
def ak.nm:ak→BA | .mk _ nm _ _ _ _ _=>nm
def ak.aop:ak→Nat | .mk _ _ a _ _ _ _=>a
def ak.ver:ak→BA | .mk _ _ _ v _ _ _=>v
def ak.ka:ak→OA | .mk _ _ _ _ a _ _=>a
def ak.kc:ak→Nat | .mk _ _ _ _ _ c _=>c
def ak.kids:ak→List ak | .mk _ _ _ _ _ _ k=>k
def ak.cells (t:ak):LV:=[.string t.op,.string t.nm,.int .i64 t.aop,.string t.ver,.slice t.ka t.kids.length t.kc]
def ak.val (t:ak):Value:=.agg #[.string t.op,.string t.nm,.int .i64 t.aop,.string t.ver,.slice t.ka t.kids.length t.kc]
theorem wC (t:ak):t.cells.length=5:=rfl
theorem ak.eta (t:ak):t=.mk t.op t.nm t.aop t.ver t.ka t.kc t.kids:=by cases t;rfl
mutual
def ak.pl:ak→ow
 | .mk op nm aop ver _ _ kids=>if bl op=[] then .atom (bl nm) aop (bl ver) else .node (bl op) (kE kids)
def kE:List ak→List ow
 | []=>[]
 | t::r=>t.pl::kE r
end
theorem ix (l:List ak):kE l=l.map ak.pl:=by
 induction l with
 | nil=>simp[kE]
 | cons a r ih=>simp[kE,ih]
mutual
def ak.ht:ak→Nat
 | .mk _ _ _ _ _ _ kids=>yA kids
def yA:List ak→Nat
 | []=>0
 | t::r=>max (t.ht+1) (yA r)
end
mutual
def ak.cnt:ak→Nat
 | .mk _ _ _ _ _ _ []=>1
 | .mk _ _ _ _ _ _ (t::r)=>t.cnt+cE r
def cE:List ak→Nat
 | []=>0
 | t::r=>t.cnt+cE r
end
theorem va (t:ak):t.ht=yA t.kids:=by cases t;simp[ak.ht,ak.kids]
theorem Hk {t:ak}(h:t.kids=[]):t.cnt=1:=by cases t;simp only[ak.kids] at h;subst h;simp[ak.cnt]
theorem eW {t:ak}(h:t.kids≠[]):t.cnt=cE t.kids:=by
 obtain⟨_,_,_,_,_,_,ks⟩:=t
 cases ks with
 | nil=>exact absurd rfl h
 | cons a r=>simp[ak.cnt,ak.kids,cE]
theorem JK {l:List ak}{t:ak}(h:t∈l):t.ht+1≤yA l:=by
 induction l with
 | nil=>simp at h
 | cons a r ih=>
  simp only[yA]
  rcases List.mem_cons.1 h with rfl | h
  ·omega
  ·have:=ih h;omega
theorem wD {l:List ak}(h:l≠[]):∃ t∈l,t.ht+1=yA l:=by
 induction l with
 | nil=>exact absurd rfl h
 | cons a r ih=>
  simp only[yA]
  by_cases hr:r=[]
  ·subst hr;exact⟨a,by simp,by simp[yA]⟩
  ·obtain⟨t,ht,he⟩:=ih hr
   by_cases hm:yA r≤a.ht+1
   ·exact⟨a,by simp,by omega⟩
   ·exact⟨t,by simp[ht],by omega⟩
theorem Hl {t k:ak}(h:k∈t.kids):k.ht+1≤t.ht:=by rw[va t];exact JK h
theorem Cs {t:ak}:t.ht=0↔t.kids=[]:=by
 rw[va]
 constructor
 ·intro h
  by_cases hk:t.kids=[]
  ·exact hk
  ·obtain⟨k,_,he⟩:=wD hk;omega
 ·intro h;rw[h];rfl
theorem de (a b:List ak):cE (a++b)=cE a+cE b:=by
 induction a with
 | nil=>simp[cE]
 | cons x r ih=>simp[cE,ih];omega
theorem Ct (t:ak):0<t.cnt:=by
 match t with
 | .mk _ _ _ _ _ _ []=>simp[ak.cnt]
 | .mk _ _ _ _ _ _ (a::r)=>have:=Ct a;simp[ak.cnt];omega
theorem fX (l:List ak):l.length≤cE l:=by
 induction l with
 | nil=>simp
 | cons a r ih=>have:=Ct a;simp[cE];omega
theorem iW {l:List ak}{t:ak}(h:t∈l):t.cnt≤cE l:=by
 induction l with
 | nil=>simp at h
 | cons a r ih=>
  simp only[cE]
  rcases List.mem_cons.1 h with rfl | h
  ·omega
  ·have:=ih h;omega
theorem vc {l:List ak}{k:Nat}{t:ak}(h:l[k]?=some t):cE (l.take (k+1))=cE (l.take k)+t.cnt:=by
 obtain⟨hk,hg⟩:=gS h
 rw[tS hk,hg,de];simp[cE]
theorem iy (l:List ak)(k:Nat):cE (l.take k)≤cE l:=by
 conv=>rhs;rw[←List.take_append_drop k l,de]
 omega
inductive bE (w:World) (lo:Nat) (bad:Option Nat):ak→Prop
 | mk (t:ak) (row:w.ownsRow lo 170 5 (.slice t.ka t.kids.length t.kc) t.kids.length (t.kids.flatMap ak.cells)) (ne:∀ g,(Value.slice t.ka t.kids.length t.kc).ownBlock=some g→some g≠bad) (kids:∀ k∈t.kids,bE w lo bad k):bE w lo bad t
theorem bE.row {w:World}{lo:Nat}{bad:Option Nat}{t:ak}(h:bE w lo bad t):w.ownsRow lo 170 5 (.slice t.ka t.kids.length t.kc) t.kids.length (t.kids.flatMap ak.cells):=by cases h;assumption
theorem bE.kids {w:World}{lo:Nat}{bad:Option Nat}{t:ak}(h:bE w lo bad t):∀ k∈t.kids,bE w lo bad k:=by cases h;assumption
theorem bE.low {w w':World}{lo:Nat}{bad:Option Nat}{t:ak}(h:bE w lo bad t)(hb:Below w.heap.size w w'):bE w' lo bad t:=by
 induction h with
 | mk t row ne _ ih=>exact .mk t (aD row hb) ne ih
theorem bE.kept {w w':World}{lo g:Nat}{bad:Option Nat}{t:ak}(h:bE w lo bad t)(hlo:g<lo)(hg:w.grownBy w' (some g)):bE w' lo bad t:=by
 induction h with
 | mk t row ne _ ih=>exact .mk t (aJ row hlo hg) ne ih
theorem bE.grown {w w':World}{lo:Nat}{bad:Option Nat}{t:ak}(h:bE w lo bad t)(hg:w.grownBy w' bad):bE w' lo bad t:=by
 induction h with
 | mk t row ne _ ih=>
  refine .mk t (row.kept hg ?_) ne ih
  cases hb:(Value.slice t.ka t.kids.length t.kc).ownBlock with
  | none=>exact .inl rfl
  | some g=>exact .inr (ne g hb)
theorem bE.base {w:World}{lo lo':Nat}{bad:Option Nat}{t:ak}(h:bE w lo bad t)(hl:lo'≤lo):bE w lo' bad t:=by
 induction h with
 | mk t row ne _ ih=>exact .mk t (aN row hl) ne ih
theorem bE.any {w:World}{lo:Nat}{bad:Option Nat}{t:ak}(h:bE w lo bad t):bE w lo none t:=by
 induction h with
 | mk t row _ _ ih=>exact .mk t row (fun g _=>by simp) ih
theorem bE.old {w:World}{lo:Nat}{bad bad':Option Nat}{t:ak}(h:bE w lo bad t)(hb:∀ g,bad'=some g→g<lo∨w.heap.size≤g):bE w lo bad' t:=by
 induction h with
 | mk t row ne _ ih=>
  refine .mk t row (fun g hg e=>?_) ih
  have h1:=row.lt g hg
  rcases hb g e.symm with h2 | h2<;>omega
inductive FS (w:World):ak→Prop
 | mk (t:ak) (row:Rd w 5 t.ka t.kids.length (t.kids.flatMap ak.cells)) (kids:∀ k∈t.kids,FS w k):FS w t
theorem FS.row {w:World}{t:ak}(h:FS w t):Rd w 5 t.ka t.kids.length (t.kids.flatMap ak.cells):=by cases h;assumption
theorem FS.kids {w:World}{t:ak}(h:FS w t):∀ k∈t.kids,FS w k:=by cases h;assumption
theorem bE.rd {w:World}{lo:Nat}{bad:Option Nat}{t:ak}(h:bE w lo bad t):FS w t:=by
 induction h with
 | mk t row _ _ ih=>exact .mk t (cP row) ih
theorem FS.cell {w:World}{t:ak}(h:FS w t)(i:Nat)(k:ak)(hi:t.kids[i]?=some k):∃ b off,t.ka=some ⟨b,off,none⟩∧∀ (j:Nat)(u:Value),k.cells[j]?=some u→w.cell? ⟨b,off+i*5+j,none⟩=some u:=h.row.elem wC i k hi
theorem Eh {w:World}{t:ak}(h:FS w t):∀ u:ak,FS w u→t.ka=u.ka→t.kids.length=u.kids.length→t.kids=u.kids:=by
 induction h with
 | mk t row kids ih=>
  intro u hu ha hl
  apply List.ext_getElem hl
  intro i h1 h2
  obtain⟨x,hx⟩:∃ x,t.kids[i]?=some x:=⟨_,gG h1⟩
  obtain⟨y,hy⟩:∃ y,u.kids[i]?=some y:=⟨_,gG h2⟩
  obtain⟨b,off,e1,c1⟩:=row.elem wC i x hx
  obtain⟨b',off',e2,c2⟩:=hu.row.elem wC i y hy
  rw[ha,e2] at e1
  injection e1 with e1;injection e1 with eb eo _
  subst eb eo
  have f0:=(c1 0 _ rfl).symm.trans (c2 0 _ rfl)
  have f1:=(c1 1 _ rfl).symm.trans (c2 1 _ rfl)
  have f2:=(c1 2 _ rfl).symm.trans (c2 2 _ rfl)
  have f3:=(c1 3 _ rfl).symm.trans (c2 3 _ rfl)
  have f4:=(c1 4 _ rfl).symm.trans (c2 4 _ rfl)
  simp only[Option.some.injEq,Value.string.injEq,Value.int.injEq,Value.slice.injEq,true_and] at f0 f1 f2 f3 f4
  have hk:=ih x (gM hx) y (hu.kids y (gM hy)) f4.1 f4.2.1
  have:x=y:=by rw[ak.eta x,ak.eta y,f0,f1,f3,f4.1,f4.2.2,hk,show x.aop=y.aop by omega]
  rw[gG h1] at hx
  rw[gG h2] at hy
  injection hx with hx;injection hy with hy
  rw[hx,hy,this]
end
section
open Go.RowKit Go.Deep
theorem JM (s:BA)(k o:Nat)(h:k<s.size)(d:UInt8)(hd:s[k]=d):ik o ((bl s).drop k)=if d==32 then 0 else if d==40 then ik (o+1) ((bl s).drop (k+1))+1 else if d==41 then (if o=0 then 0 else ik (o-1) ((bl s).drop (k+1))+1) else ik o ((bl s).drop (k+1))+1:=by
 rw[cU s k h,hd];rfl
theorem Ei (s:BA)(k o:Nat)(h:¬ k<s.size):ik o ((bl s).drop k)=0:=by rw[jN s k h];rfl
theorem wE (s:BA)(p:Nat)(w:World)(hp:p≤s.size)(hs:s.size≤4294967280):
  Calls Tryz.prog 210 #[.string s,.int .i64 p] w fun e w'=>e=.returned (.int .i64 ((p+ik 0 ((bl s).drop p):Nat):Int))∧w=w':=by
 obtain⟨R,hR⟩:∃ R,p+ik 0 ((bl s).drop p)=R:=⟨_,rfl⟩
 rw[hR]
 have HR0:=ae hR
 clear hR
 go_enter Tryz.func210,Tryz.ntmps210
 go_wp2_with fail
 go_loop [1,4,5] (fun i s4 o=>∃ k n:Nat,i=.int .i64 k∧s4=.int .i64 0∧o=.int .i64 n∧k≤s.size∧n≤k∧Hid (k+ik n ((bl s).drop k)=R)) (fun i _ _=>s.size-(intOf i).toNat)
 case atStart=>exact⟨p,0,rfl,rfl,rfl,hp,z0,HR0⟩
 case round=>
  clear HR0
  obtain⟨k,n,rfl,rfl,rfl,hk,hn,HE⟩:=hrel
  by_cases hlt:k<s.size
  ·obtain⟨d,hd⟩:∃ d:UInt8,s[k]=d:=⟨_,rfl⟩
   have ST:=ae (JM s k n hlt d hd)
   have d0:decide ((k:Int)<(s.size:Int))=true:=dT (by omega)
   cases h32:(d==32) with
   | true=>
    have e32:((d.toNat:Int) != 32)=false:=by rw[bne,show((d.toNat:Int)==32)=true from(dx d 32).trans h32];rfl
    have E:Hid (k=R):=by have h1:=HE.out;rw[ST.out,h32] at h1;exact h1
    clear h32
    go_wp2_with fail
    go_ret
    exact⟨aE (by rw[←E.out]),rfl⟩
   | false=>
    have e32:((d.toNat:Int) != 32)=true:=by rw[bne,show((d.toNat:Int)==32)=false from(dx d 32).trans h32];rfl
    cases h40:(d==40) with
    | true=>
     have e40:((d.toNat:Int)==40)=true:=(dx d 40).trans h40
     have HN:Hid ((k+1)+ik (n+1) ((bl s).drop (k+1))=R):=by have h1:=HE.out;rw[ST.out,h32,h40] at h1;simp at h1;show _=_;omega
     clear h32 h40
     go_wp2_with fail
     go_round
     case rel=>exact⟨k+1,n+1,by go_num,rfl,by go_num,by omega,by omega,HN⟩
     case measure=>simp[intOf];omega
    | false=>
     have e40:((d.toNat:Int)==40)=false:=(dx d 40).trans h40
     cases h41:(d==41) with
     | true=>
      have e41:((d.toNat:Int)==41)=true:=(dx d 41).trans h41
      by_cases n0:n=0
      ·have E:Hid (k=R):=by have h1:=HE.out;rw[ST.out,h32,h40,h41,if_neg (by decide),if_neg (by decide),if_pos rfl,if_pos n0] at h1;exact h1
       subst n0
       clear h32 h40 h41
       go_wp2_with fail
       go_ret
       exact⟨aE (by rw[←E.out]),rfl⟩
      ·have HN:Hid ((k+1)+ik (n-1) ((bl s).drop (k+1))=R):=by have h1:=HE.out;rw[ST.out,h32,h40,h41,if_neg (by decide),if_neg (by decide),if_pos rfl,if_neg n0] at h1;show _=_;omega
       have en:((n:Int)==0)=false:=by simp;omega
       clear h32 h40 h41
       go_wp2_with fail
       go_round
       case rel=>exact⟨k+1,n-1,by go_num,rfl,by congr 1;omega,by omega,by omega,HN⟩
       case measure=>simp[intOf];omega
     | false=>
      have e41:((d.toNat:Int)==41)=false:=(dx d 41).trans h41
      have HN:Hid ((k+1)+ik n ((bl s).drop (k+1))=R):=by have h1:=HE.out;rw[ST.out,h32,h40,h41,if_neg (by decide),if_neg (by decide),if_neg (by decide)] at h1;show _=_;omega
      clear h32 h40 h41
      go_wp2_with fail
      go_round
      case rel=>exact⟨k+1,n,by go_num,rfl,rfl,by omega,by omega,HN⟩
      case measure=>simp[intOf];omega
  ·have d0:decide ((k:Int)<(s.size:Int))=false:=dF (by omega)
   have E:Hid (k=R):=by have h1:=HE.out;rw[Ei s k n hlt] at h1;exact h1
   go_wp2_with fail
   go_ret
   exact⟨aE (by rw[←E.out]),rfl⟩
def dS:Nat→LU→List (LU)
 | 0,_=>[[]]
 | f+1,l=>if aK l=[] then [[]] else aV l::dS f (bd l)
theorem AU (r:LU):aK (32::r)=aK r:=by unfold aK;rw[gJ (by rfl)];rfl
theorem yB {c:UInt8}{r:LU}(h:(c==32)=false):aK (c::r)=c::r:=by
 unfold aK;rw[eK (show aS c=false from h)];rfl
theorem yC (f:Nat)(r:LU):dS f (32::r)=dS f r:=by
 cases f with
 | zero=>rfl
 | succ f=>unfold dS aV bd;rw[AU]
theorem Ej (f:Nat):dS (f+1) []=[[]]:=rfl
theorem yD (f:Nat)(s:BA)(k:Nat)(h:k<s.size)(d:UInt8)(hd:s[k]=d)(h32:(d==32)=false):dS (f+1) ((bl s).drop k)=((bl s).drop k).take (oS ((bl s).drop k))::dS f ((bl s).drop (k+oS ((bl s).drop k))):=by
 have hs:aK ((bl s).drop k)=(bl s).drop k:=by rw[cU s k h,hd];exact yB h32
 show(if aK ((bl s).drop k)=[] then [[]] else aV ((bl s).drop k)::dS f (bd ((bl s).drop k)))=_
 rw[if_neg (by rw[hs,cU s k h];simp)]
 unfold aV bd
 rw[hs,List.drop_drop]
theorem JN (s:BA)(k:Nat)(h:k<s.size)(d:UInt8)(hd:s[k]=d):oS ((bl s).drop k)=if KH d then 1 else ik 0 ((bl s).drop k):=by
 rw[cU s k h,hd];rfl
theorem Ek (s:BA)(k:Nat)(h:k<s.size)(d:UInt8)(hd:s[k]=d)(h32:(d==32)=false):0<oS ((bl s).drop k)∧k+oS ((bl s).drop k)≤s.size:=by
 have hs:aK ((bl s).drop k)=(bl s).drop k:=by rw[cU s k h,hd];exact yB h32
 have h1:=rZ (l:=(bl s).drop k) (by rw[hs,cU s k h];simp)
 rw[hs] at h1
 have h2:=wA ((bl s).drop k)
 rw[List.length_drop,ah] at h2
 exact⟨h1,by omega⟩
structure vd where
 text:BA
 at_:Nat
def vd.cells (x:vd):LV:=[.string x.text,.int .i64 x.at_]
theorem JO (x:vd):x.cells.length=2:=rfl
theorem El:(Tryz.prog.info? 221).map (fun i=>(i.zero,i.size,i.bytes))=some (some (.agg #[.string ⟨#[]⟩,.int .i64 0]),2,24):=by kernel_rfl
structure vf (w wr:World) (xs:List vd) (A:OA) (n c:Nat):Prop where
 len:xs.length=n
 row:wr.ownsRow w.heap.size 221 2 (.slice A n c) n (xs.flatMap vd.cells)
 bel:Below w.heap.size w wr
theorem vf.grow {w wr w2:World}{xs:List vd}{A A1:OA}{n c c1:Nat}{o:Obj}{x:vd}(h:vf w wr xs A n c)
  (hr:w2.ownsRow w.heap.size 221 2 (.slice A1 (n+1) c1) (n+1) (xs.flatMap vd.cells++x.cells))
  (hg:(wr.alloc o).grownBy w2 (Value.slice A n c).ownBlock):vf w w2 (xs++[x]) A1 (n+1) c1:=by
 refine⟨by simp[h.len],by rw[List.flatMap_append];simpa using hr,?_⟩
 exact(h.bel.alloc h.bel.size o).grown hg (by have:=h.bel.size;simp;omega) (fun j hj=>by have:=(h.row.lt j hj).1;omega)
theorem yE (w:World)(t:TypeId)(x y:Value):ji (w.alloc (.cells #[x,y] t)) (w.heap.size+1) 2 (some ⟨w.heap.size,0,none⟩) 1 [x,y]:=by
 refine⟨rfl,fun _=>⟨_,rfl,by simp,fun j u hu=>?_⟩⟩
 match j,hu with
 | 0,hu=>simp at hu;subst hu;simp[Addr.add]
 | 1,hu=>simp at hu;subst hu;simp[Addr.add]
 | j+2,hu=>simp at hu
def JP (s:BA)(w:World)(e:Ending)(w':World):Prop:=
 ∃ (A:OA) (n c:Nat) (xs:List vd),e=.returned (.slice A n c)∧vf w w' xs A n c∧n≤s.size+1∧xs.map (fun x=>bl x.text)=dS (s.size+1) (bl s)∧∀ x∈xs,x.text.size≤s.size
theorem AV (s:BA)(w:World)(hs:s.size≤4294967280):
  Calls Tryz.prog 175 #[.string s] w (JP s w):=by
 obtain⟨i0,hi0,hz0,hz1,hz2⟩:=info_parts El
 go_enter Tryz.func175,Tryz.ntmps175
 go_wp2_with fail
 go_loopw [3,4] (fun l i wr=>∃ (k f n c:Nat) (A:OA) (xs:List vd),l=.slice A n c∧i=.int .i64 k∧k≤s.size∧n≤k∧Hid (vf w wr xs A n c)∧Hid (xs.map (fun x=>bl x.text)++dS (f+1) ((bl s).drop k)=dS (s.size+1) (bl s))∧Hid (s.size-k≤f)∧Hid (∀ x∈xs,x.text.size≤s.size)) (fun _ i _=>s.size-(intOf i).toNat)
 case atStart=>exact⟨0,s.size,0,0,none,[],rfl,rfl,z0,lr,⟨rfl,World.ownsRow_nil _ _ _ _,bR⟩,rfl,lr,by simp[Hid]⟩
 case round=>
  obtain⟨k,f,n,c,A,xs,rfl,rfl,hk,hn,HR,HT,HF,HZ⟩:=hrel
  by_cases hlt:k<s.size
  ·obtain⟨d,hd⟩:∃ d:UInt8,s[k]=d:=⟨_,rfl⟩
   cases h32:(d==32) with
   | true=>
    have e32:((d.toNat:Int)==32)=true:=(dx d 32).trans h32
    have HT2:Hid (xs.map (fun x=>bl x.text)++dS (f+1) ((bl s).drop (k+1))=dS (s.size+1) (bl s)):=by
     have h1:=HT.out;rw[cU s k hlt,hd,show d=32 by simpa using h32,yC] at h1;exact h1
    have HF2:Hid (s.size-(k+1)≤f):=by have:=HF.out;show _≤_;omega
    clear h32
    go_wp2_with fail
    go_roundw
    case rel=>exact⟨k+1,f,n,c,A,xs,rfl,by go_num,by omega,by omega,HR,HT2,HF2,HZ⟩
    case measure=>simp[intOf];omega
   | false=>
    have e32:((d.toNat:Int)==32)=false:=(dx d 32).trans h32
    obtain⟨hl1,hl2⟩:=Ek s k hlt d hd h32
    have TA:=ae (yD (f-1) s k hlt d hd h32)
    have TB:=ae (yD f s k hlt d hd h32)
    have LA:=ae (JN s k hlt d hd)
    obtain⟨m,hm⟩:∃ m,k+oS ((bl s).drop k)=m:=⟨_,rfl⟩
    have HM:=ae hm
    rw[hm] at TA TB hl2
    have hkm:k<m:=by omega
    clear hm hl1
    obtain⟨b1,hb1⟩:∃ b1,((d.toNat:Int) != 40)=b1:=⟨_,rfl⟩
    obtain⟨b2,hb2⟩:∃ b2,((d.toNat:Int) != 41)=b2:=⟨_,rfl⟩
    have HBR:Hid (KH d=!(b1&&b2)):=by
     show _=_;rw[←hb1,←hb2,bne,bne,show((d.toNat:Int)==40)=(d==40) from dx d 40,show((d.toNat:Int)==41)=(d==41) from dx d 41];unfold KH;simp
    obtain⟨bp,hbp⟩:∃ bp,(b1&&b2)=bp:=⟨_,rfl⟩
    have HBP:=ae hbp
    clear hbp
    go_upto_region 7 with(fail)
    go_cut [27] (fun v wx=>v=.bool bp∧wr=wx)
    case first=>
     cases b1 with
     | false=>
      have E:Hid (bp=false):=HBP.out.symm
      go_wp2_with fail
      go_meet
      exact⟨by rw[E.out],rfl⟩
     | true=>
      have E:Hid (bp=b2):=HBP.out.symm
      go_wp2_with fail
      go_meet
      exact⟨by rw[E.out],rfl⟩
    case rest=>
    obtain⟨rfl,rfl⟩:=hcut
    clear hb1 hb2
    go_upto_if 27 with(fail)
    go_cut [5] (fun v wx=>v=.int .i64 m∧wr=wx)
    case first=>
     have hPE:=wE s k wr (by omega) hs
     cases bp with
     | false=>
      have E:Hid (m=k+1):=by have h1:=HM.out;rw[LA.out,HBR.out,HBP.out] at h1;exact h1.symm
      go_wp2_with fail
      go_meet
      exact⟨by rw[E.out];rfl,rfl⟩
     | true=>
      have E:k+ik 0 ((bl s).drop k)=m:=by have h1:=HM.out;rw[LA.out,HBR.out,HBP.out] at h1;exact h1
      rw[E] at hPE
      clear E
      go_wp2_with fail
      refine hPE.mono ?_;rintro e w' ⟨rfl,rfl⟩
      go_wp2_with fail
      go_meet
      exact⟨rfl,rfl⟩
    case rest=>
    obtain⟨rfl,rfl⟩:=hcut
    clear HBR LA h32
    obtain⟨Y,hY⟩:∃ Y,s.extract k m=Y:=⟨_,rfl⟩
    have HYB:Hid (bl Y=((bl s).drop k).take (oS ((bl s).drop k))):=by show _=_;rw[←hY,jW];congr 1;have:=HM.out;omega
    have HYZ:Hid (Y.size≤s.size):=by show _≤_;rw[←ah,HYB.out,List.length_take,List.length_drop,ah];omega
    have HT2:Hid ((xs++[(⟨Y,k⟩:vd)]).map (fun x=>bl x.text)++dS (f-1+1) ((bl s).drop m)=dS (s.size+1) (bl s)):=by
     have h1:=HT.out;have hf:=HF.out
     have ef:f-1+1=f:=by omega
     have h2:=TA.out
     rw[ef] at h2
     have h3:dS (f+1) ((bl s).drop k)=((bl s).drop k).take (oS ((bl s).drop k))::dS f ((bl s).drop m):=TB.out
     show _=_
     rw[ef,←h1,h3,List.map_append,List.append_assoc];simp[HYB.out]
    have HF2:Hid (s.size-m≤f-1):=by have:=HF.out;show _≤_;omega
    have HZ2:Hid (∀ x∈xs++[(⟨Y,k⟩:vd)],x.text.size≤s.size):=by
     intro x hx
     rcases List.mem_append.1 hx with hx | hx
     ·exact HZ.out x hx
     ·obtain rfl:=List.mem_singleton.1 hx;exact HYZ.out
    have hnn:n≤4294967280:=by omega
    have hkm1:(k:Int)≤(m:Int):=by omega
    have hkm2:(m:Int)≤(s.size:Int):=by omega
    go_wp2_with (at_builtin;refine au _ rfl _ _ _ rfl w.heap.size 221 i0 _ 2 24 Tryz.underlying215 hi0 hz0 hz1 hz2 rfl (by omega) (.slice A n c) n _ rfl (HR.out.row.alloc _) (wr.heap.size+1) (some ⟨wr.heap.size,0,none⟩) 1 1 [.string Y,.int .i64 k] rfl (yE wr _ _ _) (by simp[Value.oneCell']) (by simp only[maxLen];omega) (by omega) (by simp;have:=HR.out.bel.size;omega) ?_;intro v1 w3 o1 g1 a1)
    obtain⟨A3,c3,rfl⟩:=aL o1
    have R3:=ae (HR.out.grow (x:=⟨Y,k⟩) o1 g1)
    clear o1 g1 a1
    go_wp2_with fail
    go_roundw
    case rel=>exact⟨m,f-1,n+1,c3,A3,xs++[⟨Y,k⟩],rfl,rfl,hl2,by omega,R3,HT2,HF2,HZ2⟩
    case measure=>simp[intOf];omega
  ·have HT2:Hid ((xs++[(⟨⟨#[]⟩,s.size⟩:vd)]).map (fun x=>bl x.text)=dS (s.size+1) (bl s)):=by
    have h1:=HT.out;rw[jN s k hlt,Ej] at h1;show _=_;rw[←h1,List.map_append];rfl
   have HZ2:Hid (∀ x∈xs++[(⟨⟨#[]⟩,s.size⟩:vd)],x.text.size≤s.size):=by
    intro x hx
    rcases List.mem_append.1 hx with hx | hx
    ·exact HZ.out x hx
    ·obtain rfl:=List.mem_singleton.1 hx;exact z0
   have hnn:n≤4294967280:=by omega
   go_wp2_with (at_builtin;refine au _ rfl _ _ _ rfl w.heap.size 221 i0 _ 2 24 Tryz.underlying215 hi0 hz0 hz1 hz2 rfl (by omega) (.slice A n c) n _ rfl (HR.out.row.alloc _) (wr.heap.size+1) (some ⟨wr.heap.size,0,none⟩) 1 1 [.string ⟨#[]⟩,.int .i64 s.size] rfl (yE wr _ _ _) (by simp[Value.oneCell']) (by simp only[maxLen];omega) (by omega) (by simp;have:=HR.out.bel.size;omega) ?_;intro v1 w3 o1 g1 a1)
   obtain⟨A3,c3,rfl⟩:=aL o1
   have R3:=ae (HR.out.grow (x:=⟨⟨#[]⟩,s.size⟩) o1 g1)
   clear o1 g1 a1
   go_wp2_with fail
   go_ret
   exact⟨A3,n+1,c3,xs++[⟨⟨#[]⟩,s.size⟩],rfl,R3.out,by omega,HT2.out,HZ2.out⟩
end
section
open Go.RowKit
def bm (op:LU)(n:Nat):Bool:=decide ((op=eV∨op=mw)∧2≤n∨(op=mx∨op=bj)∧(n=2∨n=3)∨(op=dQ∨op=bC)∧n=2)
def Cu (n:Nat)(op:LU):Prop:=(n=0∧op=[])∨(1≤n∧((op=eV∨op=mw)∨(op=mx∨op=bj)∧n≤2∨(op=dQ∨op=bC)∧n=1))
theorem Cu.start:Cu 0 []:=.inl ⟨rfl,rfl⟩
theorem iX {p:LU}:eD p=true↔p=eV∨p=mw∨p=mx∨p=bj∨p=dQ∨p=bC:=by unfold eD;simp
theorem Cu.close {n:Nat}{op:LU}(h:Cu n op):bm op (n+1)=decide (n≠0):=by
 unfold bm
 rcases h with⟨rfl,rfl⟩ | ⟨h1,h2⟩
 ·simp[eV,mw,mx,bj,dQ,bC]
 ·rw[dT (show n≠0 by omega)]
  apply dT
  rcases h2 with h2 | ⟨h2,h3⟩ | ⟨h2,h3⟩
  ·exact .inl ⟨h2,by omega⟩
  ·exact .inr (.inl ⟨h2,by omega⟩)
  ·exact .inr (.inr ⟨h2,by omega⟩)
theorem Cu.next {n:Nat}{op p:LU}(h:Cu n op)(hf:aI op (n+1) p=true):Cu (n+1) (if n=0 then p else op):=by
 unfold aI at hf
 rcases h with⟨rfl,rfl⟩ | ⟨h1,h2⟩
 ·rw[if_pos rfl] at hf
  rw[if_pos rfl]
  refine .inr ⟨by omega,?_⟩
  rcases iX.1 hf with h | h | h | h | h | h
  ·exact .inl (.inl h)
  ·exact .inl (.inr h)
  ·exact .inr (.inl ⟨.inl h,by omega⟩)
  ·exact .inr (.inl ⟨.inr h,by omega⟩)
  ·exact .inr (.inr ⟨.inl h,rfl⟩)
  ·exact .inr (.inr ⟨.inr h,rfl⟩)
 ·rw[if_neg (by omega)] at hf
  rw[if_neg (by omega)]
  refine .inr ⟨by omega,?_⟩
  rcases dO hf with⟨h,_⟩ | ⟨h,h3,_⟩
  ·exact .inl h
  ·exact .inr (.inl ⟨h,by omega⟩)
theorem Cu.word {n:Nat}{op:LU}(h:Cu n op)(hn:n≠0):eD op=true:=by
 rcases h with⟨rfl,rfl⟩ | ⟨_,h2⟩
 ·exact absurd rfl hn
 ·rw[iX]
  rcases h2 with(h2 | h2) | ⟨h2 | h2,_⟩ | ⟨h2 | h2,_⟩
  ·exact .inl h2
  ·exact .inr (.inl h2)
  ·exact .inr (.inr (.inl h2))
  ·exact .inr (.inr (.inr (.inl h2)))
  ·exact .inr (.inr (.inr (.inr (.inl h2))))
  ·exact .inr (.inr (.inr (.inr (.inr h2))))
theorem Cu.nil {n:Nat}{op:LU}(h:Cu n op):op=[]↔n=0:=by
 constructor
 ·intro e;subst e
  by_cases hn:n=0
  ·exact hn
  ·have:=h.word hn;rw[iX] at this;revert this;simp[eV,mw,mx,bj,dQ,bC]
 ·rintro rfl
  rcases h with⟨_,h⟩ | ⟨h,_⟩
  ·exact h
  ·omega
theorem kq {op:LU}{n:Nat}(h:bm op n=true):2≤n:=by
 rcases dO h with⟨_,h⟩ | ⟨_,h⟩ | ⟨_,h⟩<;>omega
theorem kr {op:LU}(h:eD op=true):op≠[]∧op.length≤7:=by
 rcases iX.1 h with h | h | h | h | h | h<;>rw[h]<;>simp[eV,mw,mx,bj,dQ,bC]
inductive fC:ak→Prop
 | atom (nm:BA) (aop:Nat) (ver:BA) (hn:di (bl nm)=true) (ho:aop≤5) (hv0:aop=0→ver.size=0) (hv:0<aop→cJ 2 ver=0):fC (.mk ⟨#[]⟩ nm aop ver none 0 [])
 | node (op:BA) (ka:OA) (kc:Nat) (kids:List ak) (ho:eD (bl op)=true) (hc:bm (bl op) kids.length=true) (hk:∀ k∈kids,fC k):fC (.mk op ⟨#[]⟩ 0 ⟨#[]⟩ ka kc kids)
theorem sf {s:BA}{f:Int}(h:cJ f s=0):s.size≤64:=by
 unfold cJ at h
 split at h
 ·simp at h
 ·split at h
  ·simp at h
  ·omega
theorem lH {s:BA}(h:di (bl s)=true):1≤s.size∧s.size≤64:=by
 by_cases hz:1≤s.size∧s.size≤64
 ·exact hz
 ·rw[mL s hz] at h;cases h
theorem Cv:∀ n:Nat,(MU n).length≤2
 | 0=>by decide
 | 1=>by decide
 | 2=>by decide
 | 3=>by decide
 | 4=>by decide
 | 5=>by decide
 | _+6=>by simp[MU]
theorem JQ {op:LU}{i:Nat}(h:op.length≤7):(JJ op i).length≤7:=by
 unfold JJ
 split
 ·decide
 ·exact h
theorem oU (op:LU)(ho:op.length≤7):∀ (ks:List ak)(i:Nat),(∀ k∈ks,(dR k.pl).length+60≤200*k.cnt)→(fW op i (kE ks)).length+51*ks.length≤200*cE ks
 | [],i,_=>by simp[kE,fW,cE]
 | k::r,i,h=>by
  have h1:=h k (by simp)
  have h2:=oU op ho r (i+1) (fun x hx=>h x (by simp[hx]))
  have h3:=JQ (i:=i) ho
  simp only[kE,fW,cE,List.length_append,List.length_cons]
  split
  ·simp;omega
  ·simp;omega
theorem qv (op nm:BA)(aop:Nat)(ver:BA)(ka:OA)(kc:Nat)(kids:List ak)(h:bl op=[]):(ak.mk op nm aop ver ka kc kids).pl=.atom (bl nm) aop (bl ver):=by simp[ak.pl,h]
theorem wF (op nm:BA)(aop:Nat)(ver:BA)(ka:OA)(kc:Nat)(kids:List ak)(h:bl op≠[]):(ak.mk op nm aop ver ka kc kids).pl=.node (bl op) (kE kids):=by simp[ak.pl,h]
theorem fC.text {t:ak}(h:fC t):(dR t.pl).length+60≤200*t.cnt:=by
 induction h with
 | atom nm aop ver hn ho hv0 hv=>
  rw[qv _ _ _ _ _ _ _ rfl]
  have h1:=lH hn
  have h2:ver.size≤64:=by
   by_cases h:aop=0
   ·have:=hv0 h;omega
   ·exact sf (hv (by omega))
  have h3:=Cv aop
  simp only[dR,ak.cnt]
  split
  ·rw[ah];omega
  ·simp[ah];omega
 | node op ka kc kids ho hc hk ih=>
  rw[wF _ _ _ _ _ _ _ (kr ho).1]
  have h1:=oU (bl op) (kr ho).2 kids 0 ih
  have h2:=kq hc
  rw[eW (t:=.mk op ⟨#[]⟩ 0 ⟨#[]⟩ ka kc kids) (by simp[ak.kids];intro h;rw[h] at h2;simp at h2)]
  simp only[dR,ak.kids,List.length_append,List.length_cons,List.length_nil]
  omega
def ld:ak:=.mk ⟨#[]⟩ ⟨#[]⟩ 0 ⟨#[]⟩ none 0 []
theorem Hm (l:LU):(bd l).length≤l.length:=by
 have:=dy l;unfold bd;rw[List.length_drop];omega
theorem iY {l:LU}(h:aV l≠[]):(bd l).length<l.length:=Hj (fun e=>h (oT.2 e))
theorem mO (f:Nat)(l:LU):∃ r,dS (f+1) l=aV l::r∧(aV l≠[]→r=dS f (bd l)):=by
 by_cases h:aK l=[]
 ·refine⟨[],?_,fun h2=>absurd (oT.2 h) h2⟩
  show(if aK l=[] then [[]] else aV l::dS f (bd l))=_
  rw[if_pos h,oT.2 h]
 ·refine⟨dS f (bd l),?_,fun _=>rfl⟩
  show(if aK l=[] then [[]] else aV l::dS f (bd l))=_
  rw[if_neg h]
end
section
open Go.RowKit Go.MapKept
def ak.key (t:ak):Value:=.agg #[.pointer t.ka,.int .i64 t.kids.length]
theorem oV:(Tryz.prog.info? 170).map (fun i=>(i.zero,i.size,i.bytes))=some (some (.agg #[.string ⟨#[]⟩,.string ⟨#[]⟩,.int .i64 0,.string ⟨#[]⟩,.slice none 0 0]),5,80):=by kernel_rfl
theorem lf {w:World}{lo:Nat}{bad:Option Nat}{t:ak}(h:bE w lo bad t)(hk:t.kids≠[]):∃ g cur,t.ka=some ⟨g,0,none⟩∧w.heap[g]?=some (.cells cur 170 (0,0))∧lo≤g:=by
 rcases h.row.2 with⟨_,h0⟩ | ⟨g,cap,cur,hv,h1,h2,_⟩
 ·exact absurd (List.length_eq_zero_iff.1 h0) hk
 ·injection hv with hv
  exact⟨g,cur,hv,h2,h1⟩
theorem Hn (w:World)(d:Nat)(a:Addr):(Op.equalIn (d+1) 286 (.pointer (some a)) (.pointer (some a))).run Tryz.prog w=.ok true w:=by
 obtain⟨i0,hi0,_,hz,_⟩:=info_parts oV
 simp[Op.equalIn,run_underlying Tryz.underlying286,sizeOf,typeInfo,hi0,run_sameAddr_same]
theorem Em (w:World)(d:Nat){a b:Addr}{ca cb:Array Value}{ta tb:TypeId}(hne:a≠b)(ha:w.heap[a.block]?=some (.cells ca ta (0,0)))(hb:w.heap[b.block]?=some (.cells cb tb (0,0))):(Op.equalIn (d+1) 286 (.pointer (some a)) (.pointer (some b))).run Tryz.prog w=.ok false w:=by
 obtain⟨i0,hi0,_,hz,_⟩:=info_parts oV
 simp[Op.equalIn,run_underlying Tryz.underlying286,sizeOf,typeInfo,hi0,hz,run_sameAddr_other w hne ha hb]
theorem En {w:World}{t u:ak}(ht:bE w 0 none t)(hu:bE w 0 none u)(kt:t.kids≠[])(ku:u.kids≠[]):
  (Op.equal 288 t.key u.key).run Tryz.prog w=.ok (decide (t.ka=u.ka∧t.kids.length=u.kids.length)) w:=by
 obtain⟨g1,c1,e1,h1,_⟩:=lf ht kt
 obtain⟨g2,c2,e2,h2,_⟩:=lf hu ku
 unfold ak.key Op.equal Op.maxDepth
 rw[e1,e2]
 by_cases hg:g1=g2
 ·subst hg
  have hp:=fun d=>Hn w d ⟨g1,0,none⟩
  simp[go_sem,hp]
  by_cases hl:t.kids.length=u.kids.length
  ·simp[hl]
  ·simp[hl];omega
 ·have hp:=fun d=>Em w d (a:=⟨g1,0,none⟩) (b:=⟨g2,0,none⟩) (fun e=>hg (by injection e)) h1 h2
  simp[go_sem,hp,hg]
theorem lI (w:World)(em:Bool)(t:ak):(Instr.checkKey em 10000 288 t.key).run Tryz.prog w=.ok () w:=by
 have h:∀ d:Nat,(Instr.checkKey em (d+1+1) 288 t.key).run Tryz.prog w=.ok () w:=by
  intro d
  unfold ak.key
  simp[Instr.checkKey,run_underlying Tryz.underlying288,go_sem]
 exact h 9998
theorem Eo (w:World){t u:ak}(h1:t.ka=u.ka)(h2:t.kids.length=u.kids.length):(Instr.keyThatStays t.key u.key).run Tryz.prog w=.ok u.key w:=by
 have:t.key=u.key:=by unfold ak.key;rw[h1,h2]
 rw[this]
 unfold ak.key
 simp[Instr.keyThatStays,Instr.sameBits]
theorem lJ (w:World)(k:Value)(es:List MapEntry):(Instr.findKey 288 k es).run Tryz.prog w=(Instr.findAsking 288 k es 0).run Tryz.prog w:=by
 cases es with
 | nil=>simp[Instr.findKey,Instr.findAsking,Instr.findNow,run_underlying Tryz.underlying288]
 | cons e r=>simp[Instr.findKey,Instr.findNow,Instr.sameNow,run_underlying Tryz.underlying288]
structure eu (w:World) (b:Nat) (ms:List (ak×Nat)):Prop where
 ex:∃ es clock,w.heap[b]?=some (.map es clock)∧es.toList.map (fun e=>(e.key,e.val))=ms.map (fun p=>(p.1.key,Value.int .i64 p.2))
 own:∀ p∈ms,bE w 0 none p.1∧p.1.kids≠[]
theorem sg {w:World}{t:ak}(ht:bE w 0 none t)(hk:t.kids≠[]):∀ (es:List MapEntry)(ms:List (ak×Nat))(i:Nat),es.map (fun e=>(e.key,e.val))=ms.map (fun p=>(p.1.key,Value.int .i64 p.2))→(∀ p∈ms,bE w 0 none p.1∧p.1.kids≠[]) →
  ((Instr.findAsking 288 t.key es i).run Tryz.prog w=.ok none w) ∨
  ∃ j p,(Instr.findAsking 288 t.key es i).run Tryz.prog w=.ok (some (i+j,Value.int .i64 p.2)) w∧ms[j]?=some p∧p.1.ka=t.ka∧p.1.kids=t.kids
 | [],ms,i,_,_=>.inl (by simp[Instr.findAsking])
 | e::es,[],i,h,_=>by simp at h
 | e::es,p::ms,i,h,ho=>by
  simp only[List.map_cons,List.cons.injEq,Prod.mk.injEq] at h
  obtain⟨⟨h1,h2⟩,h3⟩:=h
  obtain⟨o1,o2⟩:=ho p (by simp)
  have hq:=En ht o1 hk o2
  by_cases he:t.ka=p.1.ka∧t.kids.length=p.1.kids.length
  ·right
   refine⟨0,p,?_,rfl,he.1.symm,(Eh ht.rd p.1 o1.rd he.1 he.2).symm⟩
   rw[dT he] at hq
   simp[Instr.findAsking,h1,h2,hq]
  ·rw[dF he] at hq
   rcases sg ht hk es ms (i+1) h3 (fun q hq=>ho q (by simp[hq])) with h4 | ⟨j,q,h4,h5,h6⟩
   ·left;simp[Instr.findAsking,h1,hq,h4]
   ·right;exact⟨j+1,q,by simp[Instr.findAsking,h1,hq,h4,Nat.add_assoc,Nat.add_comm 1 j],by simpa using h5,h6⟩
theorem eu.look {w:World}{b:Nat}{ms:List (ak×Nat)}(h:eu w b ms){t:ak}(ht:bE w 0 none t)(hk:t.kids≠[]):
  ((Instr.lookup 262 (.map (some b)) t.key true).run Tryz.prog w=.ok (.tuple #[.int .i64 0,.bool false]) w) ∨
  ∃ p∈ms,p.1.kids=t.kids∧(Instr.lookup 262 (.map (some b)) t.key true).run Tryz.prog w=.ok (.tuple #[.int .i64 p.2,.bool true]) w:=by
 obtain⟨es,clock,hb,hm⟩:=h.ex
 rcases sg ht hk es.toList ms 0 hm h.own with h1 | ⟨j,p,h1,h2,h3,h4⟩
 ·left;simp[Instr.lookup,run_underlying Tryz.underlying262,MapKept.run_getObj_map hb,lI,lJ,h1,go_sem]
 ·right;exact⟨p,gM h2,h4,by simp[Instr.lookup,run_underlying Tryz.underlying262,MapKept.run_getObj_map hb,lI,lJ,h1]⟩
theorem bE.off {w:World}{lo b:Nat}{bad:Option Nat}{t:ak}{es:Array MapEntry}{c:Nat}(h:bE w lo bad t)(hb:w.heap[b]?=some (.map es c)):bE w lo (some b) t:=by
 induction h with
 | mk t row ne _ ih=>
  refine .mk t row (fun g hg e=>?_) ih
  injection e with e;subst e
  rcases row.2 with⟨hv,_⟩ | ⟨g',cap,cur,hv,_,h2,_⟩
  ·rw[hv] at hg;simp[Value.ownBlock] at hg
  ·rw[hv] at hg;simp[Value.ownBlock] at hg;subst hg;rw[hb] at h2;simp at h2
theorem eu.tree {w w':World}{lo b:Nat}{ms:List (ak×Nat)}{t:ak}(h:eu w b ms)(ht:bE w lo none t)(hg:w.grownBy w' (some b)):bE w' lo none t:=by
 obtain⟨es,clock,hb,_⟩:=h.ex
 exact((ht.off hb).grown hg).any
theorem eu.below {w w':World}{b:Nat}{ms:List (ak×Nat)}(h:eu w b ms)(hb:Below w.heap.size w w'):eu w' b ms:=by
 obtain⟨es,clock,h1,h2⟩:=h.ex
 exact⟨⟨es,clock,(hb.block b (Array.getElem?_eq_some_iff.1 h1).1).trans h1,h2⟩,fun p hp=>⟨(h.own p hp).1.low hb,(h.own p hp).2⟩⟩
theorem eu.lt {w:World}{b:Nat}{ms:List (ak×Nat)}(h:eu w b ms):b<w.heap.size:=by
 obtain⟨es,clock,h1,h2⟩:=h.ex;exact(Array.getElem?_eq_some_iff.1 h1).1
theorem eu.made (w:World):eu (w.alloc (.map #[] 0)) w.heap.size []:=⟨⟨#[],0,heap_alloc_new w _,by simp⟩,by simp⟩
theorem eu.put {w:World}{b:Nat}{ms:List (ak×Nat)}(h:eu w b ms){t:ak}(ht:bE w 0 none t)(hk:t.kids≠[])(v:Nat):
  ∃ w' ms',(Instr.mapUpdate 262 (.map (some b)) t.key (.int .i64 v)).run Tryz.prog w=.ok () w'∧eu w' b ms'∧w.grownBy w' (some b)∧w'.heap.size=w.heap.size ∧
   (∀ p∈ms',(∃ q∈ms,q=p)∨p.1.kids=t.kids∧p.2=v)∧(∀ p∈ms,∃ q∈ms',q.1=p.1)∧∃ q∈ms',q.1.kids=t.kids:=by
 obtain⟨es,clock,hb,hm⟩:=h.ex
 have hlt:=h.lt
 have grow:∀ o,w.grownBy { w with heap:=w.heap.setIfInBounds b o } (some b):=fun o=>⟨rfl,rfl,rfl,by simp,fun k hk hne=>(heap_set hb).2 k (fun e=>hne (by rw[e]))⟩
 rcases sg ht hk es.toList ms 0 hm h.own with h1 | ⟨j,p,h1,h2,h3,h4⟩
 ·refine⟨{ w with heap:=w.heap.setIfInBounds b (.map (es.push { key:=t.key,val:=.int .i64 v,born:=clock }) (clock+1)) },ms++[(t,v)],?_,⟨⟨_,_,(heap_set hb).1,by simp[hm]⟩,fun p hp=>?_⟩,grow _,by simp,fun p hp=>?_,fun p hp=>⟨p,by simp[hp],rfl⟩,⟨(t,v),by simp,rfl⟩⟩
  ·simp[Instr.mapUpdate,run_underlying Tryz.underlying262,MapKept.run_getObj_map hb,lI,lJ,h1,MapKept.run_setObj_map _ hb]
  ·rcases List.mem_append.1 hp with hp | hp
   ·exact⟨h.tree (h.own p hp).1 (grow _),(h.own p hp).2⟩
   ·obtain rfl:=List.mem_singleton.1 hp
    exact⟨h.tree ht (grow _),hk⟩
  ·rcases List.mem_append.1 hp with hp | hp
   ·exact .inl ⟨p,hp,rfl⟩
   ·obtain rfl:=List.mem_singleton.1 hp
    exact .inr ⟨rfl,rfl⟩
 ·simp only[Nat.zero_add] at h1
  obtain⟨hj,hpj⟩:=gS h2
  have hlen:es.size=ms.length:=by have:=congrArg List.length hm;simpa using this
  have hek:es[j]?.map (fun e=>e.key)=some p.1.key:=by
   have:=congrArg (fun l=>l[j]?) hm
   simp[h2] at this
   obtain⟨e,he,h5,h6⟩:=this
   rw[he];simp[h5]
  have hst:=Eo w (t:=p.1) (u:=t) h3 (by rw[h4])
  have hkey:p.1.key=t.key:=by unfold ak.key;rw[h3,h4]
  refine⟨{ w with heap:=w.heap.setIfInBounds b (.map (es.modify j fun e=>{ e with key:=t.key,val:=.int .i64 v }) clock) },ms.set j (p.1,v),?_,⟨⟨_,_,(heap_set hb).1,?_⟩,fun q hq=>?_⟩,grow _,by simp,fun q hq=>?_,fun q hq=>?_,⟨(p.1,v),List.mem_set hj _,h4⟩⟩
  ·simp[Instr.mapUpdate,run_underlying Tryz.underlying262,MapKept.run_getObj_map hb,lI,lJ,h1,MapKept.run_setObj_map _ hb,hek,hst]
  ·apply List.ext_getElem?
   intro i
   have hi:=congrArg (fun l=>l[i]?) hm
   simp only[List.getElem?_map,Array.getElem?_toList] at hi
   simp only[List.getElem?_map,Array.getElem?_toList,Array.getElem?_modify,List.getElem?_set]
   by_cases hij:j=i
   ·subst hij
    obtain⟨e,he⟩:∃ e,es[j]?=some e:=⟨_,Array.getElem?_eq_getElem (by rw[hlen];exact hj)⟩
    simp[hj,he,hkey]
   ·simp[hij,hi]
  ·rcases List.mem_or_eq_of_mem_set hq with hq | rfl
   ·exact⟨h.tree (h.own q hq).1 (grow _),(h.own q hq).2⟩
   ·exact⟨h.tree (h.own p (gM h2)).1 (grow _),(h.own p (gM h2)).2⟩
  ·rcases List.mem_or_eq_of_mem_set hq with hq | rfl
   ·exact .inl ⟨q,hq,rfl⟩
   ·exact .inr ⟨h4,rfl⟩
  ·obtain⟨i,hi⟩:=List.getElem?_of_mem hq
   by_cases hij:j=i
   ·subst hij;rw[h2] at hi;injection hi with hi;subst hi
    exact⟨(p.1,v),List.mem_set hj _,rfl⟩
   ·exact⟨q,gM (i:=i) (by rw[List.getElem?_set_ne hij];exact hi),rfl⟩
theorem pE (f:ak→Nat):∀ (m:Nat)(l:List (ak×Nat)),(∀ i,i<m→∃ p∈l,f p.1=i)→m≤l.length
 | 0,_,_=>z0
 | m+1,l,h=>by
  obtain⟨p,hp,hf⟩:=h m (by omega)
  have h1:=pE f m (l.filter fun q=>decide (f q.1≠m)) (fun i hi=>by
   obtain⟨q,hq,hfq⟩:=h i (by omega)
   exact⟨q,List.mem_filter.2 ⟨hq,by simp;omega⟩,hfq⟩)
  have h2:(l.filter fun q=>decide (f q.1≠m)).length<l.length:=List.length_filter_lt_length_iff_exists.2 ⟨p,hp,by simp[hf]⟩
  omega
end
section
open Go.RowKit Go.Deep
def ak.sl (t:ak):Value:=.slice t.ka t.kids.length t.kc
inductive dI:ak→Prop
 | mk (t:ak) (leaf:t.kids=[]→t.op.size=0) (node:t.kids≠[]→t.op.size≠0) (kids:∀ k∈t.kids,dI k):dI t
theorem dI.leaf {t:ak}(h:dI t):t.kids=[]→t.op.size=0:=by cases h;assumption
theorem dI.node {t:ak}(h:dI t):t.kids≠[]→t.op.size≠0:=by cases h;assumption
theorem dI.kids {t:ak}(h:dI t):∀ k∈t.kids,dI k:=by cases h;assumption
theorem fC.shape {t:ak}(h:fC t):dI t:=by
 induction h with
 | atom nm aop ver _ _ _ _=>exact .mk _ (fun _=>rfl) (fun h=>absurd rfl h) (by simp[ak.kids])
 | node op ka kc kids ho hc hk ih=>
  refine .mk _ (fun e=>?_) (fun _ e=>?_) ih
  ·have h2:=kq hc
   simp only[ak.kids] at e
   rw[e] at h2;simp at h2
  ·simp only[ak.op] at e
   exact(kr ho).1 (bL op e)
theorem dI.zero:dI ld:=.mk _ (fun _=>rfl) (fun h=>absurd rfl h) (by simp[ld,ak.kids])
def yF (w:World)(row:Option Nat):Prop:=∀ g cs fr,row=some g→w.heap[g]?≠some (.cells cs 170 fr)
theorem yF.map {w:World}{b:Nat}{ms:List (ak×Nat)}(h:eu w b ms):yF w (some b):=by
 intro g cs fr e h2
 injection e with e;subst e
 obtain⟨es,clock,hb,_⟩:=h.ex
 rw[hb] at h2;simp at h2
theorem yF.row {w:World}{lo n:Nat}{v:Value}{xs:LV}(h:w.ownsRow lo 168 1 v n xs):yF w v.ownBlock:=by
 intro g cs fr e h2
 rcases h.2 with⟨hv,_⟩ | ⟨g',cap,cur,hv,_,hg,_⟩
 ·rw[hv] at e;simp[Value.ownBlock] at e
 ·rw[hv] at e;simp[Value.ownBlock] at e
  subst e
  rw[hg] at h2
  injection h2 with h2
  injection h2 with _ h2 _
  exact absurd h2 (by decide)
theorem bE.tame {w w':World}{lo:Nat}{row:Option Nat}{t:ak}(h:bE w lo none t)(ht:yF w row)(hg:w.grownBy w' row):bE w' lo none t:=by
 induction h with
 | mk t r ne _ ih=>
  refine .mk t (r.kept hg ?_) (fun g _=>by simp) ih
  rcases r.2 with⟨hv,_⟩ | ⟨g',cap,cur,hv,_,hg',_⟩
  ·left;rw[hv];rfl
  ·right;rw[hv];intro e
   exact ht g' _ _ e.symm hg'
theorem eu.tame {w w':World}{b:Nat}{row:Option Nat}{ms:List (ak×Nat)}(h:eu w b ms)(ht:yF w row)(hne:some b≠row)(hg:w.grownBy w' row):eu w' b ms:=by
 obtain⟨es,clock,h1,h2⟩:=h.ex
 exact⟨⟨es,clock,(hg.block b h.lt hne).trans h1,h2⟩,fun p hp=>⟨(h.own p hp).1.tame ht hg,(h.own p hp).2⟩⟩
theorem eu.ne_row {w:World}{b lo n size:Nat}{e:TypeId}{ms:List (ak×Nat)}{v:Value}{xs:LV}(h:eu w b ms)(r:w.ownsRow lo e size v n xs):some b≠v.ownBlock:=by
 intro he
 obtain⟨es,clock,h1,h2⟩:=h.ex
 rcases r.2 with⟨hv,_⟩ | ⟨g',cap,cur,hv,_,hg,_⟩
 ·rw[hv] at he;simp[Value.ownBlock] at he
 ·rw[hv] at he;simp[Value.ownBlock] at he
  subst he;rw[h1] at hg;simp at hg
structure Cw (lo:Nat) (wr:World) (A:OA) (n c:Nat) (xs:List ak):Prop where
 len:xs.length=n
 row:wr.ownsRow lo 168 1 (.slice A n c) n (xs.map ak.sl)
 own:∀ x∈xs,bE wr 0 none x
 ne:∀ x∈xs,x.kids≠[]
 shape:∀ x∈xs,∀ k∈x.kids,dI k
theorem Cw.nil (lo:Nat)(wr:World):Cw lo wr none 0 0 []:=⟨rfl,World.ownsRow_nil _ _ _ _,by simp,by simp,by simp⟩
theorem Cw.tame {lo:Nat}{wr w':World}{A:OA}{n c:Nat}{xs:List ak}{row:Option Nat}(h:Cw lo wr A n c xs)(ht:yF wr row)(hne:(Value.slice A n c).ownBlock=none∨(Value.slice A n c).ownBlock≠row)(hg:wr.grownBy w' row):Cw lo w' A n c xs:=
 ⟨h.len,h.row.kept hg hne,fun x hx=>(h.own x hx).tame ht hg,h.ne,h.shape⟩
theorem Cw.below {lo:Nat}{wr w':World}{A:OA}{n c:Nat}{xs:List ak}(h:Cw lo wr A n c xs)(hb:Below wr.heap.size wr w'):Cw lo w' A n c xs:=
 ⟨h.len,aD h.row hb,fun x hx=>(h.own x hx).low hb,h.ne,h.shape⟩
theorem Cw.map {lo:Nat}{wr w':World}{A:OA}{n c b:Nat}{xs:List ak}{ms:List (ak×Nat)}(h:Cw lo wr A n c xs)(hm:eu wr b ms)(hg:wr.grownBy w' (some b)):Cw lo w' A n c xs:=
 h.tame (.map hm) (.inr (hm.ne_row h.row).symm) hg
def iZ (L ys:List ak)(ms:List (ak×Nat)):Prop:=∀ t∈L,t.kids≠[]→(∃ y∈ys,y.kids=t.kids)∧∃ q∈ms,q.1.kids=t.kids
theorem iZ.nil (ys:List ak)(ms:List (ak×Nat)):iZ [] ys ms:=by intro t ht;simp at ht
theorem iZ.leaf {L ys:List ak}{ms:List (ak×Nat)}{t:ak}(h:iZ L ys ms)(ht:t.kids=[]):iZ (L++[t]) ys ms:=by
 intro x hx hk
 rcases List.mem_append.1 hx with hx | hx
 ·exact h x hx hk
 ·obtain rfl:=List.mem_singleton.1 hx;exact absurd ht hk
structure AW (s0:Nat) (wr:World) (mb hb h k:Nat) (A:OA) (n c:Nat) (xs:List ak) (B:OA) (m cB:Nat) (ys:List ak) (ms hs:List (ak×Nat)):Prop where
 lev:Cw 0 wr A n c xs
 old:∀ g,(Value.slice A n c).ownBlock=some g→g<s0
 new:Cw s0 wr B m cB ys
 met:eu wr mb ms
 here:eu wr hb hs
 hne:mb≠hb
 xh:∀ x∈xs,x.ht+k≤h+1
 yh:∀ y∈ys,y.ht+k≤h
 hsy:∀ p∈hs,(∃ y∈ys,y.kids=p.1.kids)∧∃ q∈ms,q.1.kids=p.1.kids
 mok:∀ i,i<k→∃ p∈ms,p.1.ht+i=h
 top:∃ x∈xs,x.ht+k=h+1
theorem AW.below {s0:Nat}{wr w':World}{mb hb h k:Nat}{A:OA}{n c:Nat}{xs:List ak}{B:OA}{m cB:Nat}{ys:List ak}{ms hs:List (ak×Nat)}(d:AW s0 wr mb hb h k A n c xs B m cB ys ms hs)(b:Below wr.heap.size wr w'):AW s0 w' mb hb h k A n c xs B m cB ys ms hs:=
 ⟨d.lev.below b,d.old,d.new.below b,d.met.below b,d.here.below b,d.hne,d.xh,d.yh,d.hsy,d.mok,d.top⟩
theorem AW.hit {s0:Nat}{wr:World}{mb hb h k:Nat}{A:OA}{n c:Nat}{xs:List ak}{B:OA}{m cB:Nat}{ys:List ak}{ms hs:List (ak×Nat)}(d:AW s0 wr mb hb h k A n c xs B m cB ys ms hs){L:List ak}(hl:iZ L ys ms){t:ak}{p:ak×Nat}(hp:p∈hs)(e:p.1.kids=t.kids):iZ (L++[t]) ys ms:=by
 intro x hx hk
 rcases List.mem_append.1 hx with hx | hx
 ·exact hl x hx hk
 ·obtain rfl:=List.mem_singleton.1 hx
  rw[←e];exact d.hsy p hp
theorem AW.grow {s0:Nat}{wr w1 w2 wb w3:World}{mb hb h k v:Nat}{A:OA}{n c:Nat}{xs:List ak}{B B1:OA}{m cB c1:Nat}{ys:List ak}{ms hs ms' hs':List (ak×Nat)}{t:ak}
  (d:AW s0 wr mb hb h k A n c xs B m cB ys ms hs)(ht:bE wr 0 none t)(tk:t.kids≠[])(tsh:∀ x∈t.kids,dI x)(tht:t.ht+k≤h)
  (k1:eu w1 hb hs')(g1:wr.grownBy w1 (some hb))(f1:∀ p∈hs',(∃ q∈hs,q=p)∨p.1.kids=t.kids∧p.2=v)
  (k2:eu w2 mb ms')(g2:w1.grownBy w2 (some mb))(f2:∀ p∈ms,∃ q∈ms',q.1=p.1)(f3:∃ q∈ms',q.1.kids=t.kids)
  (b:Below w2.heap.size w2 wb)(o:w3.ownsRow s0 168 1 (.slice B1 (m+1) c1) (m+1) (ys.map ak.sl++[t.sl]))(g3:wb.grownBy w3 (Value.slice B m cB).ownBlock):
  AW s0 w3 mb hb h k A n c xs B1 (m+1) c1 (ys++[t]) ms' hs':=by
 have m1:eu w1 mb ms:=d.met.tame (.map d.here) (fun e=>d.hne (by injection e)) g1
 have t1:=ht.tame (.map d.here) g1
 have l1:=d.lev.map d.here g1
 have n1:=d.new.map d.here g1
 have t2:=t1.tame (.map m1) g2
 have l2:=l1.map m1 g2
 have n2:=n1.map m1 g2
 have h2:eu w2 hb hs':=k1.tame (.map m1) (fun e=>d.hne (by injection e with e;exact e.symm)) g2
 have tb:=t2.low b
 have lb:=l2.below b
 have nb:=n2.below b
 have hb':=h2.below b
 have mb':=k2.below b
 have tm:yF wb (Value.slice B m cB).ownBlock:=.row nb.row
 refine⟨lb.tame tm ?_ g3,d.old,⟨by simp[nb.len],by simpa using o,fun x hx=>?_,fun x hx=>?_,fun x hx=>?_⟩,mb'.tame tm (mb'.ne_row nb.row) g3,hb'.tame tm (hb'.ne_row nb.row) g3,d.hne,d.xh,fun y hy=>?_,fun p hp=>?_,fun i hi=>?_,d.top⟩
 ·cases e:(Value.slice A n c).ownBlock with
  | none=>exact .inl rfl
  | some g=>
   right;intro e2
   have:=d.old g e
   have:=(nb.row.lt g e2.symm).1
   omega
 ·rcases List.mem_append.1 hx with hx | hx
  ·exact(nb.own x hx).tame tm g3
  ·obtain rfl:=List.mem_singleton.1 hx;exact tb.tame tm g3
 ·rcases List.mem_append.1 hx with hx | hx
  ·exact nb.ne x hx
  ·obtain rfl:=List.mem_singleton.1 hx;exact tk
 ·rcases List.mem_append.1 hx with hx | hx
  ·exact nb.shape x hx
  ·obtain rfl:=List.mem_singleton.1 hx;exact tsh
 ·rcases List.mem_append.1 hy with hy | hy
  ·exact d.yh y hy
  ·obtain rfl:=List.mem_singleton.1 hy;exact tht
 ·rcases f1 p hp with⟨q,hq,rfl⟩ | ⟨e,_⟩
  ·obtain⟨⟨y,hy,ey⟩,q2,hq2,eq2⟩:=d.hsy q hq
   obtain⟨q3,hq3,e3⟩:=f2 q2 hq2
   exact⟨⟨y,by simp[hy],ey⟩,q3,hq3,by rw[e3,eq2]⟩
  ·obtain⟨q3,hq3,e3⟩:=f3
   exact⟨⟨t,by simp,e.symm⟩,q3,hq3,by rw[e3,e]⟩
 ·obtain⟨p,hp,e⟩:=d.mok i hi
  obtain⟨q,hq,e2⟩:=f2 p hp
  exact⟨q,hq,by rw[e2];exact e⟩
theorem iZ.grow {L ys:List ak}{ms ms':List (ak×Nat)}{t:ak}(h:iZ L ys ms)(f2:∀ p∈ms,∃ q∈ms',q.1=p.1)(f3:∃ q∈ms',q.1.kids=t.kids):iZ (L++[t]) (ys++[t]) ms':=by
 intro x hx hk
 rcases List.mem_append.1 hx with hx | hx
 ·obtain⟨⟨y,hy,ey⟩,q,hq,eq⟩:=h x hx hk
  obtain⟨q3,hq3,e3⟩:=f2 q hq
  exact⟨⟨y,by simp[hy],ey⟩,q3,hq3,by rw[e3,eq]⟩
 ·obtain rfl:=List.mem_singleton.1 hx
  exact⟨⟨x,by simp,rfl⟩,f3⟩
theorem sh {a b:ak}(h:a.kids=b.kids):a.ht=b.ht:=by rw[va,va,h]
theorem AW.next {s0:Nat}{wr:World}{mb hb h k:Nat}{A:OA}{n c:Nat}{xs:List ak}{B:OA}{m cB:Nat}{ys:List ak}{ms hs:List (ak×Nat)}(d:AW s0 wr mb hb h k A n c xs B m cB ys ms hs)(hs:iZ (xs.flatMap ak.kids) ys ms)(hm:0<m):
  k<ms.length∧k+1≤h∧(∀ i,i<k+1→∃ p∈ms,p.1.ht+i=h)∧∃ y∈ys,y.ht+(k+1)=h+1:=by
 obtain⟨y,hy⟩:∃ y,y∈ys:=by
  have:=d.new.len
  cases ys with
  | nil=>simp at this;omega
  | cons a r=>exact⟨a,by simp⟩
 have y1:=d.yh y hy
 have y2:y.ht≠0:=fun e=>d.new.ne y hy (Cs.1 e)
 obtain⟨x,hx,xe⟩:=d.top
 obtain⟨t,ht,te⟩:=wD (d.lev.ne x hx)
 rw[←va] at te
 have tk:t.kids≠[]:=fun e=>by have:=Cs.2 e;omega
 obtain⟨⟨z,hz,ez⟩,q,hq,eq⟩:=hs t (List.mem_flatMap.2 ⟨x,hx,ht⟩) tk
 have ezh:=sh ez
 have eqh:=sh eq
 have mk:∀ i,i<k+1→∃ p∈ms,p.1.ht+i=h:=by
  intro i hi
  rcases(by omega:i<k∨i=k) with hi | rfl
  ·exact d.mok i hi
  ·exact⟨q,hq,by omega⟩
 refine⟨?_,by omega,mk,z,hz,by omega⟩
 refine pE (fun t=>h-t.ht) (k+1) ms (fun i hi=>?_)
 obtain⟨p,hp,e⟩:=mk i hi
 exact⟨p,hp,by show h-p.1.ht=i;omega⟩
theorem Mz (k:Nat)(hk:k<6)(x:Nat→BA)(w:World):(Instr.index 250 (.agg #[.string (x 0),.string (x 1),.string (x 2),.string (x 3),.string (x 4),.string (x 5)]) (.int .i64 k)).run Tryz.prog w=.ok (.string (x k)) w:=by
 rcases(by omega:k=0∨k=1∨k=2∨k=3∨k=4∨k=5) with rfl | rfl | rfl | rfl | rfl | rfl<;>kernel_rfl
def Et (x:Nat→BA)(l:LU):Nat→Prop:=fun k=>∀ j,j<k→bl (x j)≠l
theorem si (k:Nat)(hk:k<6):bl (ni k)=MU k:=by
 rcases(by omega:k=0∨k=1∨k=2∨k=3∨k=4∨k=5) with rfl | rfl | rfl | rfl | rfl | rfl<;>rfl
theorem Eu {l:LU}{k:Nat}(hk:k<6)(h:bl (ni k)=l):AT l=k:=by
 subst h
 rcases(by omega:k=0∨k=1∨k=2∨k=3∨k=4∨k=5) with rfl | rfl | rfl | rfl | rfl | rfl<;>rfl
theorem Hp {l:LU}(h:Et ni l 6):AT l=0:=by
 have h1:=h 1 (by omega);have h2:=h 2 (by omega);have h3:=h 3 (by omega);have h4:=h 4 (by omega);have h5:=h 5 (by omega)
 rw[si _ (by omega)] at h1 h2 h3 h4 h5
 unfold AT
 rw[if_neg (fun e=>h1 e.symm),if_neg (fun e=>h2 e.symm),if_neg (fun e=>h3 e.symm),if_neg (fun e=>h4 e.symm),if_neg (fun e=>h5 e.symm)]
theorem vi {x:Nat→BA}{l:LU}{k:Nat}(h:Et x l k)(hn:bl (x k)≠l):Et x l (k+1):=by
 intro j hj
 rcases(by omega:j<k∨j=k) with h1 | rfl
 ·exact h j h1
 ·exact hn
theorem yG {l:LU}{k:Nat}(hk:k<6)(h:bl (ux k)=l):eD l=true:=by
 subst h
 rcases(by omega:k=0∨k=1∨k=2∨k=3∨k=4∨k=5) with rfl | rfl | rfl | rfl | rfl | rfl<;>rfl
theorem A5 {l:LU}(h:Et ux l 6):eD l=false:=by
 have h0:=h 0 (by omega);have h1:=h 1 (by omega);have h2:=h 2 (by omega);have h3:=h 3 (by omega);have h4:=h 4 (by omega);have h5:=h 5 (by omega)
 apply dF
 rintro(e | e | e | e | e | e)
 ·exact h0 e.symm
 ·exact h1 e.symm
 ·exact h2 e.symm
 ·exact h3 e.symm
 ·exact h4 e.symm
 ·exact h5 e.symm
theorem ue (s:BA)(w:World)(hG:Gl w):
  Calls Tryz.prog 241 #[.string s] w fun e w'=>e=.returned (.int .i64 (AT (bl s)))∧w=w':=by
 have g0:=hG.rsg 0 (by omega)
 have g1:=hG.rsg 1 (by omega)
 have g2:=hG.rsg 2 (by omega)
 have g3:=hG.rsg 3 (by omega)
 have g4:=hG.rsg 4 (by omega)
 have g5:=hG.rsg 5 (by omega)
 clear hG
 go_enter Tryz.func241,Tryz.ntmps241
 go_wp2_with fail
 clear g0 g1 g2 g3 g4 g5
 go_loop [6] (fun i=>∃ k:Nat,k≤6∧i=.int .i64 k∧Hid (Et ni (bl s) k)) (fun i=>6-(intOf i).toNat)
 case atStart=>exact⟨0,by omega,rfl,fun j hj=>by omega⟩
 case round=>
  obtain⟨k,hk,rfl,HR⟩:=hrel
  by_cases hlt:k<6
  ·have hix:=fun W=>Mz k hlt ni W
   cases hq:((ni k).toList==s.toList) with
   | true=>
    have E:Hid (AT (bl s)=k):=Eu hlt (by rw[fi] at hq;rw[dO hq])
    go_wp2_with fail
    go_ret
    exact⟨aE (by rw[E.out]),rfl⟩
   | false=>
    have HN:=ae (vi HR.out (k:=k) (by rw[fi] at hq;exact fun e=>of_decide_eq_false hq (eM e)))
    go_wp2_with fail
    go_round
    case rel=>exact⟨k+1,by omega,by go_num,HN⟩
    case measure=>simp[intOf];omega
  ·have E:Hid (AT (bl s)=0):=Hp (by have:=HR.out;rwa [show k=6 by omega] at this)
   go_wp2_with fail
   go_ret
   exact⟨aE (by rw[E.out];rfl),rfl⟩
theorem sj (s:BA)(w:World)(hG:Gl w):
  Calls Tryz.prog 243 #[.string s] w fun e w'=>e=.returned (.bool (eD (bl s)))∧w=w':=by
 have g0:=hG.rwd 0 (by omega)
 have g1:=hG.rwd 1 (by omega)
 have g2:=hG.rwd 2 (by omega)
 have g3:=hG.rwd 3 (by omega)
 have g4:=hG.rwd 4 (by omega)
 have g5:=hG.rwd 5 (by omega)
 clear hG
 go_enter Tryz.func243,Tryz.ntmps243
 go_wp2_with fail
 clear g0 g1 g2 g3 g4 g5
 go_loop [6] (fun i=>∃ k:Nat,k≤6∧i=.int .i64 k∧Hid (Et ux (bl s) k)) (fun i=>6-(intOf i).toNat)
 case atStart=>exact⟨0,by omega,rfl,fun j hj=>by omega⟩
 case round=>
  obtain⟨k,hk,rfl,HR⟩:=hrel
  by_cases hlt:k<6
  ·have hix:=fun W=>Mz k hlt ux W
   cases hq:((ux k).toList==s.toList) with
   | true=>
    have E:Hid (eD (bl s)=true):=yG hlt (by rw[fi] at hq;rw[dO hq])
    go_wp2_with fail
    go_ret
    exact⟨af E.out.symm,rfl⟩
   | false=>
    have HN:=ae (vi HR.out (k:=k) (by rw[fi] at hq;exact fun e=>of_decide_eq_false hq (eM e)))
    go_wp2_with fail
    go_round
    case rel=>exact⟨k+1,by omega,by go_num,HN⟩
    case measure=>simp[intOf];omega
  ·have E:Hid (eD (bl s)=false):=A5 (by have:=HR.out;rwa [show k=6 by omega] at this)
   go_wp2_with fail
   go_ret
   exact⟨af E.out.symm,rfl⟩
structure PR (w:World) (a hi:Nat) (l:LU) (n m:Nat):Prop where
 blk:∃ (b off c f:Nat) (xs:List vd),av w a [.slice (some ⟨b,off,none⟩) m c,.int .i64 n]∧Rd w 2 (some ⟨b,off,none⟩) m (xs.flatMap vd.cells)∧xs.length=m∧xs.map (fun x=>bl x.text)=dS (f+1) l∧l.length≤f∧b≠a∧b<hi∧m≤c∧c≤maxLen∧∀ x∈xs,x.text.size≤4294967280
 lt:a<hi
 hz:hi≤w.heap.size
structure Nd (w:World) (a b off m c n:Nat) (T:BA) (p:Nat):Prop where
 c0:w.cell? ⟨a,0,none⟩=some (.slice (some ⟨b,off,none⟩) m c)
 c1:w.cell? ⟨a,1,none⟩=some (.int .i64 n)
 f0:w.frozen? ⟨a,0,none⟩=false
 f1:w.frozen? ⟨a,1,none⟩=false
 t0:w.cell? ⟨b,off,none⟩=some (.string T)
 t1:w.cell? ⟨b,off+1,none⟩=some (.int .i64 p)
 ne:b≠a
 m1:1≤m
 mc:m≤c
 cz:c≤maxLen
 tz:T.size≤4294967280
theorem PR.cells {w:World}{a hi n m:Nat}{l:LU}(h:PR w a hi l n m):∃ b off c T p,Nd w a b off m c n T p∧bl T=aV l∧(aV l≠[]→2≤m∧PR (w.setCell ⟨a,0,none⟩ (.slice (some ⟨b,off+2,none⟩) ((m-1:Nat)) ((c-1:Nat)))) a hi (bd l) n (m-1)):=by
 obtain⟨b,off,c,f,xs,k,hr,hm,hx,hf,hne,hbh,hmc,hcz,hz⟩:=h.blk
 obtain⟨r,h1,h2⟩:=mO f l
 rw[h1] at hx
 cases xs with
 | nil=>simp at hx
 | cons x xs=>
  simp only[List.map_cons,List.cons.injEq] at hx
  obtain⟨hx0,hx1⟩:=hx
  have hm1:0<m:=by rw[←hm];simp
  obtain⟨b',off',e,hc⟩:=hr.2 hm1
  injection e with e;injection e with eb eo _
  subst eb eo
  have u0:=hc 0 (.string x.text) rfl
  have u1:=hc 1 (.int .i64 x.at_) rfl
  refine⟨b,off,c,x.text,x.at_,⟨k.cell 0 _ rfl,k.cell 1 _ rfl,k.free 0 (by simp),k.free 1 (by simp),u0,u1,hne,hm1,hmc,hcz,hz x (by simp)⟩,hx0,fun hl=>?_⟩
  have hr2:=h2 hl
  have hf2:∃ f',f=f'+1:=⟨f-1,by have:=iY hl;omega⟩
  obtain⟨f',rfl⟩:=hf2
  obtain⟨r',h3,_⟩:=mO f' (bd l)
  have hm2:2≤m:=by
   rw[←hm,List.length_cons]
   have:xs.length=r.length:=by rw[←hx1,List.length_map]
   rw[hr2,h3] at this;simp at this;omega
  refine⟨hm2,⟨b,off+2,c-1,f',xs,k.set 0 (by simp) _,?_,?_,?_,?_,hne,hbh,by omega,by omega,fun y hy=>hz y (by simp[hy])⟩,h.lt,by simpa using h.hz⟩
  ·have hk:∀ p:Addr,p.block=b→(w.setCell ⟨a,0,none⟩ (.slice (some ⟨b,off+2,none⟩) (m-1) (c-1))).cell? p=w.cell? p:=fun p hp=>World.cell?_setCell_other _ _ _ _ (by intro h;apply hne;rw[←hp,←h])
   refine⟨?_,fun _=>⟨b,off+2,rfl,fun j u hu=>?_⟩⟩
   ·have:=hr.1;rw[List.flatMap_cons,List.length_append,JO] at this;omega
   ·rw[hk _ rfl]
    have:=hc (j+2) u (by rw[List.flatMap_cons,List.getElem?_append_right (by simp[vd.cells])];simpa [vd.cells] using hu)
    rw[show off+2+j=off+(j+2) by omega];exact this
  ·rw[←hm];simp
  ·rw[hx1,hr2]
  ·have:=iY hl;omega
theorem PR.grown {w w':World}{a hi n m:Nat}{l:LU}{row:Option Nat}(h:PR w a hi l n m)(hg:w.grownBy w' row)(hne:∀ j,row=some j→hi≤j):PR w' a hi l n m:=by
 obtain⟨b,off,c,f,xs,k,hr,hm,hx,hf,hba,hbh,h1⟩:=h.blk
 have hn:∀ j,j<hi→some j≠row:=fun j hj e=>by have:=hne j e.symm;omega
 refine⟨⟨b,off,c,f,xs,k.grownBy hg (hn a h.lt),?_,hm,hx,hf,hba,hbh,h1⟩,h.lt,Nat.le_trans h.hz hg.size⟩
 refine⟨hr.1,fun h0=>?_⟩
 obtain⟨b',off',e,hc⟩:=hr.2 h0
 injection e with e;injection e with e1 e2 _
 subst e1 e2
 exact⟨b,off,rfl,fun j u hu=>hg.cell (hc j u hu) (hn b hbh)⟩
theorem PR.below {w w':World}{a hi n m:Nat}{l:LU}(h:PR w a hi l n m)(hb:Below w.heap.size w w'):PR w' a hi l n m:=h.grown (dd hb none) (by simp)
theorem PR.sz {w:World}{a hi n m:Nat}{l:LU}(h:PR w a hi l n m):a<w.heap.size:=Nat.lt_of_lt_of_le h.lt h.hz
theorem PR.alloc {w:World}{a hi n m:Nat}{l:LU}(h:PR w a hi l n m)(o:Obj):PR (w.alloc o) a hi l n m:=h.below (bR.alloc lr o)
theorem PR.far {w:World}{a hi n m b j:Nat}{l:LU}(h:PR w a hi l n m)(hb:hi≤b)(v:Value):PR (w.setCell ⟨b,j,none⟩ v) a hi l n m:=h.grown (aR v) (fun j e=>by injection e with e;omega)
theorem PR.count {w:World}{a hi n m:Nat}{l:LU}(h:PR w a hi l n m)(v:Nat):PR (w.setCell ⟨a,1,none⟩ (.int .i64 v)) a hi l v m:=by
 obtain⟨b,off,c,f,xs,k,hr,hm,hx,hf,hne,h1⟩:=h.blk
 refine⟨⟨b,off,c,f,xs,k.set 1 (by simp) _,?_,hm,hx,hf,hne,h1⟩,h.lt,by simpa using h.hz⟩
 refine⟨hr.1,fun h0=>?_⟩
 obtain⟨b',off',e,hc⟩:=hr.2 h0
 refine⟨b',off',e,fun j u hu=>?_⟩
 rw[World.cell?_setCell_other (h:=by injection e with e;injection e with e1;intro h;apply hne;rw[e1];injection h with h;exact h.symm)]
 exact hc j u hu
theorem dJ (t:BA)(q c:Int)(w:World):
  Calls Tryz.prog 177 #[.agg #[.string t,.int .i64 q],.int .i64 c] w fun e w'=>e=.returned (ed ⟨#[]⟩ q c)∧Below w.heap.size w w':=by
 go_enter Tryz.func177,Tryz.ntmps177
 go_wp2_with fail
 refine bodyPost_ret (v:=ed ⟨#[]⟩ q c) (by simp[results,Tryz.results177,go_sem,ed]) rfl ?_
 refine⟨rfl,?_⟩
 repeat' refine ag ?_ (by omega) _
 exact(bR.alloc lr _).alloc (by simp) _
theorem gB (a hi n m:Nat)(l:LU)(w:World)(h:PR w a hi l n m)(hl:aV l≠[]):
  Calls Tryz.prog 211 #[.pointer (some ⟨a,0,none⟩)] w fun e w'=>e=.returned (.tuple #[])∧PR w' a hi (bd l) n (m-1)∧w.grownBy w' (some a)∧2≤m:=by
 obtain⟨b,off,c,T,p,k,hT,h2⟩:=h.cells
 obtain⟨h2,h3⟩:=h2 hl
 have HR:=ae h3
 obtain⟨c0,c1,f0,f1,t0,t1,ne,m1,mc,cz,tz⟩:=k
 simp only[maxLen] at cz
 clear h3 h hl hT
 go_enter Tryz.func211,Tryz.ntmps211
 go_wp2_with fail
 go_end0
 exact⟨rfl,HR.out,aR _,h2⟩
abbrev jB (W:World) (s:Nat) (v0 v1 v2 v3 v4 u0 u1 u2:Value):World:=
 (((((((W.setCell ⟨s,0,none⟩ v0).setCell ⟨s,1,none⟩ v1).setCell ⟨s,2,none⟩ v2).setCell ⟨s,3,none⟩ v3).setCell ⟨s,4,none⟩ v4).setCell ⟨s+1,0,none⟩ u0).setCell ⟨s+1,1,none⟩ u1).setCell ⟨s+1,2,none⟩ u2
theorem cg {w W:World}{a s:Nat}(h:w.grownBy W (some a))(hs:w.heap.size≤s)(v0 v1 v2 v3 v4 u0 u1 u2:Value):w.grownBy (jB W s v0 v1 v2 v3 v4 u0 u1 u2) (some a):=by
 unfold jB
 repeat' refine an ?_ (.inr (by simp only;omega)) _
 exact h
theorem qw {W:World}{a hi n m s:Nat}{l:LU}(h:PR W a hi l n m)(hs:hi≤s)(v0 v1 v2 v3 v4 u0 u1 u2:Value):PR (jB W s v0 v1 v2 v3 v4 u0 u1 u2) a hi l n m:=by
 unfold jB
 repeat' refine PR.far ?_ (by omega) _
 exact h
theorem sw {W:World}{lo s:Nat}{bad:Option Nat}{T:ak}(h:bE W lo bad T)(hs:s+1<lo)(v0 v1 v2 v3 v4 u0 u1 u2:Value):bE (jB W s v0 v1 v2 v3 v4 u0 u1 u2) lo bad T:=by
 unfold jB
 repeat' refine bE.kept ?_ (by omega) (aR _)
 exact h
structure vj (W:World) (s:Nat):Prop where
 b0:av W s [.string ⟨#[]⟩,.string ⟨#[]⟩,.int .i64 0,.string ⟨#[]⟩,.slice none 0 0]
 b1:av W (s+1) [.string ⟨#[]⟩,.int .i64 0,.int .i64 0]
structure Bc (W:World) (s:Nat):Prop where
 x0:W.cell? ⟨s,0,none⟩=some (.string ⟨#[]⟩)
 x1:W.cell? ⟨s,1,none⟩=some (.string ⟨#[]⟩)
 x2:W.cell? ⟨s,2,none⟩=some (.int .i64 0)
 x3:W.cell? ⟨s,3,none⟩=some (.string ⟨#[]⟩)
 x4:W.cell? ⟨s,4,none⟩=some (.slice none 0 0)
 y0:W.cell? ⟨s+1,0,none⟩=some (.string ⟨#[]⟩)
 y1:W.cell? ⟨s+1,1,none⟩=some (.int .i64 0)
 y2:W.cell? ⟨s+1,2,none⟩=some (.int .i64 0)
 f0:W.frozen? ⟨s,0,none⟩=false
 f1:W.frozen? ⟨s,1,none⟩=false
 f2:W.frozen? ⟨s,2,none⟩=false
 f3:W.frozen? ⟨s,3,none⟩=false
 f4:W.frozen? ⟨s,4,none⟩=false
 g0:W.frozen? ⟨s+1,0,none⟩=false
 g1:W.frozen? ⟨s+1,1,none⟩=false
 g2:W.frozen? ⟨s+1,2,none⟩=false
theorem vj.c {W:World}{s:Nat}(h:vj W s):Bc W s:=
 ⟨h.b0.cell 0 _ rfl,h.b0.cell 1 _ rfl,h.b0.cell 2 _ rfl,h.b0.cell 3 _ rfl,h.b0.cell 4 _ rfl,h.b1.cell 0 _ rfl,h.b1.cell 1 _ rfl,h.b1.cell 2 _ rfl,h.b0.free 0 (by simp),h.b0.free 1 (by simp),h.b0.free 2 (by simp),h.b0.free 3 (by simp),h.b0.free 4 (by simp),h.b1.free 0 (by simp),h.b1.free 1 (by simp),h.b1.free 2 (by simp)⟩
theorem vj.step {W W':World}{s a:Nat}(h:vj W s)(hg:W.grownBy W' (some a))(hs:a<s):vj W' s:=
 ⟨h.b0.grownBy hg (by simp;omega),h.b1.grownBy hg (by simp;omega)⟩
theorem vj.below {W W':World}{s:Nat}(h:vj W s)(hb:Below W.heap.size W W'):vj W' s:=⟨h.b0.below hb,h.b1.below hb⟩
theorem vj.new (w:World)(t t':TypeId):vj ((w.alloc (.cells #[.string ⟨#[]⟩,.string ⟨#[]⟩,.int .i64 0,.string ⟨#[]⟩,.slice none 0 0] t)).alloc (.cells #[.string ⟨#[]⟩,.int .i64 0,.int .i64 0] t')) w.heap.size:=by
 refine⟨(av.new w _ t).alloc _,?_⟩
 have:=av.new (w.alloc (.cells #[.string ⟨#[]⟩,.string ⟨#[]⟩,.int .i64 0,.string ⟨#[]⟩,.slice none 0 0] t)) [.string ⟨#[]⟩,.int .i64 0,.int .i64 0] t'
 simpa using this
theorem jS (tmps:Array Value){W:World}{s:Nat}(h:Bc W s)(h2:tmps[2]?=some (.pointer (some ⟨s,0,none⟩)))(h3:tmps[3]?=some (.pointer (some ⟨s+1,0,none⟩)))(v0 v1 v2 v3 v4 u0 u1 u2:Value)
  (hv:v0.oneCell'=true∧v1.oneCell'=true∧v2.oneCell'=true∧v3.oneCell'=true∧v4.oneCell'=true∧u0.oneCell'=true∧u1.oneCell'=true∧u2.oneCell'=true):
  (results Tryz.f213 tmps).run Tryz.prog (jB W s v0 v1 v2 v3 v4 u0 u1 u2)=.ok (.tuple #[.agg #[v0,v1,v2,v3,v4],.agg #[u0,u1,u2]]) (jB W s v0 v1 v2 v3 v4 u0 u1 u2):=by
 obtain⟨x0,x1,x2,x3,x4,y0,y1,y2,_,_,_,_,_,_,_,_⟩:=h
 simp(maxDischargeDepth:=10) [results,Tryz.results213,h2,h3,go_sem,x0,x1,x2,x3,x4,y0,y1,y2]
end
end Go.Proofs.YtlglfpbhapmhiaaGreatDoor
