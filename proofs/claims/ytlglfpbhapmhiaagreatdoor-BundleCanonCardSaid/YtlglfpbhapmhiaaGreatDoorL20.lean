/- A part of the proof. -/
import Derived.Test.YtlglfpbhapmhiaaGreatDoorL12
import Derived.Test.YtlglfpbhapmhiaaGreatDoorL17
set_option maxRecDepth 100000
set_option maxHeartbeats 20000000
set_option linter.unusedVariables false
set_option linter.unusedSimpArgs false
namespace Go.Proofs.YtlglfpbhapmhiaaGreatDoor
variable{fmt:Int}{l p r v:LU}{xs:LV}{a b c1 cB h hb hi k lo m mb n s s0:Nat}{A B:OA}{bad:Option Nat}{W W' w w' w2 wr:World}
section
open Go.RowKit
structure ee.good (t:ee):Prop where
 right:t.right=true
 op:t.op<=5
 ver:t.op=0->t.ver=[]
 few:t.archs.length<=1000000
structure ee.shape (t:ee) (n:Nat):Prop where
 op:t.op<=5
 ver:t.op=0->t.ver=[]
 few:t.archs.length<=n
theorem QX (l:LU):(tr l).1<=5:=by
 unfold tr;repeat' split
 all_goals simp
theorem Mj {op:Nat}(h:cF n l=some (op,v,r)):op=n/\n≠0/\r.length<=l.length:=by
 unfold cF at h;split at h
 ·cases h
 ·rename_i h0;split at h
  ·cases h
  ·rename_i a b ht;unfold lG at h;split at h
   ·injection h with h;injection h with h1 h;injection h with h2 h3;refine⟨h1.symm,h0,?_⟩;rw[<-h3];have a1:=zD ht;have a2:=eB l;have a3:=eB b;have a4:=eB ((aO b).drop 1);rw[List.length_drop] at a4;omega
   ·cases h
theorem OV (l:LU):(tr l).2.length<=l.length:=by
 unfold tr;repeat' split
 all_goals simp
 all_goals omega
theorem BY {op:Nat}(h:kK l=some (op,v,r)):op<=5/\(op=0->v=[])/\r.length<=l.length:=by
 unfold kK at h;split at h
 ·unfold wX at h;obtain⟨h1,h2,h3⟩:=Mj h;refine⟨by rw[h1];exact QX _,fun h0=>absurd (h1.symm.trans h0) h2,?_⟩;have a1:=OV (aO (l.drop 1));have a2:=eB (l.drop 1);rw[List.length_drop] at a2;omega
 ·injection h with h;injection h with h1 h;injection h with h2 h3;exact⟨by omega,fun _=>h2.symm,by rw[h3];exact Nat.le_refl _⟩
theorem yq (l:LU):(cE l).length<=l.length:=by unfold cE;split<;>simp
theorem uQ:∀ (f:Nat)(l r:LU)(L:List (LU)),fF f l=some (L,r)->L.length<=l.length/\r.length<=l.length
 | 0,l,r,L,h=>by simp[fF] at h
 | f+1,l,r,L,h=>by
  unfold fF at h;split at h
  ·cases h
  ·rename_i a b ha;obtain⟨x,h1,_,_⟩:=rT ha;have a1:=zD h1;have a2:=yq l;have a3:=eB b;split at h
   ·injection h with h;injection h with h2 h3;have a4:=eB ((aO b).drop 1);rw[List.length_drop] at a4;subst h2;subst h3;constructor
    ·simp;omega
    ·omega
   ·split at h
    ·obtain⟨⟨M,q⟩,h4,h5⟩:=Option.map_eq_some_iff.1 h;injection h5 with h5 h6;obtain⟨b1,b2⟩:=uQ f (aO b) q M h4;subst h5;subst h6;constructor
     ·simp;omega
     ·show q.length<=_;omega
    ·cases h
theorem BZ {t:ee}(h:ib l=some (t,r)):t.shape l.length/\r.length<l.length:=by
 unfold ib at h;split at h
 ·cases h
 ·rename_i nm r0 h0;have a0:=zD h0;split at h
  ·cases h
  ·rename_i q r1 h1;have a1:r1.length<=r0.length:=by
    unfold lH at h1;split at h1
    ·have:=zD h1;rw[List.length_drop] at this;omega
    ·injection h1 with h1;injection h1 with _ h1;rw[h1];exact Nat.le_refl _
   have a2:=eB r1;split at h
   ·cases h
   ·rename_i op v r2 h2;obtain⟨b1,b2,b3⟩:=BY h2;split at h
    ·cases h
    ·rename_i ar r3 h3;have a4:ar.length<=r2.length/\r3.length<=r2.length:=by
      unfold jr at h3;split at h3
      ·obtain⟨c1,c2⟩:=uQ _ _ _ _ h3;have:=eB (r2.drop 1);rw[List.length_drop] at this;constructor<;>omega
      ·injection h3 with h3;injection h3 with h3 h4;subst h3;subst h4;simp
     injection h with h;injection h with h5 h6;subst h5;subst h6;exact⟨⟨b1,b2,by show ar.length<=_;omega⟩,by omega⟩
theorem oX {t:ee}(h:t.shape n)(hn:n<=m):t.shape m:=⟨h.op,h.ver,Nat.le_trans h.few hn⟩
theorem qb:∀ (f:Nat)(l r:LU)(g:List ee),fh f l=some (g,r)->g≠[]/\(∀ t∈g,t.shape l.length)/\r.length<=l.length
 | 0,l,r,g,h=>by simp[fh] at h
 | f+1,l,r,g,h=>by
  unfold fh at h;split at h
  ·cases h
  ·rename_i t r0 h0;obtain⟨a1,a2⟩:=BZ h0;split at h
   ·obtain⟨⟨M,q⟩,h4,h5⟩:=Option.map_eq_some_iff.1 h;injection h5 with h5 h6;obtain⟨b1,b2,b3⟩:=qb f _ q M h4;have a3:=eB (r0.drop 1);rw[List.length_drop] at a3;subst h5;subst h6;refine⟨by simp,fun x hx=>?_,by show q.length<=_;omega⟩;rcases List.mem_cons.1 hx with rfl | hx
    ·exact a1
    ·exact oX (b2 x hx) (by omega)
   ·injection h with h;injection h with h5 h6;subst h5;subst h6;refine⟨by simp,fun x hx=>?_,by omega⟩;obtain rfl:=List.mem_singleton.1 hx;exact a1
theorem oD:∀ (f:Nat)(l:LU)(L:List (List ee)),ic f l=some L->∀ g∈L,g≠[]/\∀ t∈g,t.shape l.length
 | 0,l,L,h=>by simp[ic] at h
 | f+1,l,L,h=>by
  unfold ic at h;split at h
  ·cases h
  ·rename_i g0 r0 h0;obtain⟨a1,a2,a3⟩:=qb _ _ _ _ h0;split at h
   ·injection h with h;subst h;intro g hg;obtain rfl:=List.mem_singleton.1 hg;exact⟨a1,a2⟩
   ·split at h
    ·obtain⟨M,h4,rfl⟩:=Option.map_eq_some_iff.1 h;have a4:=eB (r0.drop 1);rw[List.length_drop] at a4;intro g hg;rcases List.mem_cons.1 hg with rfl | hg
     ·exact⟨a1,a2⟩
     ·obtain⟨b1,b2⟩:=oD f _ M h4 g hg;exact⟨b1,fun t ht=>oX (b2 t ht) (by omega)⟩
    ·cases h
theorem Ca {L:List (List ee)}(h:mS l=some L):∀ g∈L,g≠[]/\∀ t∈g,t.shape l.length:=by
 unfold mS at h;split at h
 ·injection h with h;subst h;simp
 ·intro g hg;obtain⟨b1,b2⟩:=oD _ _ _ h g hg;exact⟨b1,fun t ht=>oX (b2 t ht) (eB _)⟩
structure mi (L:List (List ee)):Prop where
 ne:∀ g∈L,g≠[]
 good:∀ g∈L,∀ t∈g,t.good
 sum:(L.map List.length).sum<=64
theorem Fi {L:List (List ee)}(h:iK l=some L)(hl:l.length<=1000000):mi L:=by
 unfold iK at h;split at h
 ·cases h
 ·rename_i M hM;split at h
  ·rename_i ha;injection h with h;subst h;have hs:=Ca hM;unfold wY at ha;simp only[Bool.and_eq_true,List.all_eq_true,decide_eq_true_eq] at ha;refine⟨fun g hg=>(hs g hg).1,fun g hg t ht=>?_,ha.2⟩;have h1:=(hs g hg).2 t ht;exact⟨ha.1 g hg t ht,h1.op,h1.ver,Nat.le_trans h1.few hl⟩
  ·cases h
theorem mi.nil:mi []:=⟨by simp,by simp,by simp⟩
theorem QY {L:List (List ee)}{g:List ee}(h:g∈L):g.length<=(L.map List.length).sum:=by
 induction L with
 | nil=>simp at h
 | cons a r ih=>
  rcases List.mem_cons.1 h with rfl | h
  ·simp
  ·have:=ih h;simp;omega
theorem mi.few {L:List (List ee)}(h:mi L):L.length<=64:=by
 have h1:=h.sum;have:∀ (M:List (List ee)),(∀ g∈M,g≠[])->M.length<=(M.map List.length).sum:=by
  intro M
  induction M with
  | nil=>simp
  | cons a r ih=>
   intro hM;have h2:=ih (fun g hg=>hM g (List.mem_cons_of_mem _ hg));have h3:0<a.length:=List.length_pos_iff.2 (hM a (by simp));simp;omega
 have:=this L h.ne;omega
theorem Jl (h:fg l=true):l.length<=64:=by unfold fg at h;simp at h;omega
theorem yr (h:dI l=true):l.length<=32:=by unfold dI at h;simp at h;omega
theorem Jm (l:LU):l.length<=(cE l).length+1:=by unfold cE;split<;>simp;omega
structure ee.sizes (t:ee):Prop where
 nm:t.name.length<=64
 qual:t.qual.length<=32
 ver:t.ver.length<=64
 archs:∀ x∈t.archs,x.length<=33
structure ee.parts (t:ee):Prop where
 nm:fg t.name=true
 qual:t.qual=[]\/dI t.qual=true
 archs:∀ x∈t.archs,dI (cE x)=true
 ver:0<t.op->dm 1 (bU t.ver)=0
theorem ee.good.parts {t:ee}(h:t.good):t.parts:=by
 have h1:=h.right;unfold ee.right at h1;simp only[Bool.and_eq_true,Bool.or_eq_true,List.all_eq_true,decide_eq_true_eq,List.isEmpty_iff] at h1;obtain⟨⟨⟨a1,a2⟩,a3⟩,a4⟩:=h1
 exact⟨a1,a2,a3,fun h0=>by rcases a4 with a4 | a4;· omega
                           ·exact a4⟩
theorem ee.good.sizes {t:ee}(h:t.good):t.sizes:=by
 have p:=h.parts;refine⟨Jl p.nm,?_,?_,fun x hx=>?_⟩
 ·rcases p.qual with h0 | h0
  ·rw[h0];simp
  ·exact yr h0
 ·by_cases h0:t.op=0
  ·rw[h.ver h0];simp
  ·have:=yl (p.ver (by omega));rw[cA] at this;exact this
 ·have:=yr (p.archs x hx);have:=Jm x;omega
end
section
open Go.RowKit
inductive qD where
 | atom (name:LU) (op:Nat) (ver:LU)
 | node (op:LU) (kids:List qD)
def jw:Nat->LU->Nat
 | _,[]=>0
 | o,c::r=>if c==32 then 0 else if c==40 then jw (o+1) r+1 else if c==41 then (if o=0 then 0 else jw (o-1) r+1) else jw o r+1
def Qm (c:UInt8):Bool:=c==40||c==41
def qZ:LU->Nat
 | []=>0
 | c::r=>if Qm c then 1 else jw 0 (c::r)
def bd (l:LU):LU:=(aO l).take (qZ (aO l))
def bw (l:LU):LU:=(aO l).drop (qZ (aO l))
theorem tv:∀ (l:LU)(o:Nat),jw o l<=l.length
 | [],_=>by simp[jw]
 | c::r,o=>by
  unfold jw;have h1:=tv r (o+1);have h2:=tv r (o-1);have h3:=tv r o
  repeat' split
  all_goals simp
  all_goals omega
theorem zT (l:LU):qZ l<=l.length:=by
 cases l with
 | nil=>simp[qZ]
 | cons c r=>
  show(if Qm c then 1 else jw 0 (c::r))<=(c::r).length;split
  ·simp
  ·exact tv _ _
theorem Jp {c:UInt8}(h:aO l=c::r):(c==32)=false:=by
 have h1:=IR l;rw[h,nI] at h1;cases hc:aX c with
 | true=>rw[hc] at h1;simp at h1
 | false=>exact hc
theorem uY (h:aO l≠[]):0<qZ (aO l):=by
 cases hs:aO l with
 | nil=>exact absurd hs h
 | cons c r=>
  have h0:=Jp hs;show 0<(if Qm c then 1 else jw 0 (c::r));split
  ·omega
  ·rename_i hb
   have h1:(c==40)=false:=by unfold Qm at hb;cases h:(c==40) with
    | false=>rfl
    | true=>rw[h] at hb;simp at hb
   have h2:(c==41)=false:=by unfold Qm at hb;cases h:(c==41) with
    | false=>rfl
    | true=>rw[h] at hb;simp at hb
   show 0<(if c==32 then 0 else if c==40 then jw (0+1) r+1 else if c==41 then (if 0=0 then 0 else jw (0-1) r+1) else jw 0 r+1);rw[h0,h1,h2];simp
theorem Mp (h:aO l≠[]):(bw l).length<l.length:=by
 have h1:=uY h;have h2:=zT (aO l);have h3:=eB l;unfold bw;rw[List.length_drop];omega
theorem ra :bd l=[]↔aO l=[]:=by
 constructor
 ·intro h;by_cases h0:aO l=[]
  ·exact h0
  ·have h1:=uY h0;have h2:=zT (aO l);unfold bd at h;have:=congrArg List.length h;rw[List.length_take,List.length_nil] at this;omega
 ·intro h;unfold bd;rw[h];rfl
def Fl (p:LU):Nat:=if p=[60] then 1 else if p=[60,61] then 2 else if p=[61] then 3 else if p=[62,61] then 4 else if p=[62] then 5 else 0
def gt:LU:=[97,110,100]
def oF:LU:=[111,114]
def oG:LU:=[105,102]
def bE:LU:=[117,110,108,101,115,115]
def eU:LU:=[119,105,116,104]
def bO:LU:=[119,105,116,104,111,117,116]
def rV:LU:=[101,108,115,101]
def fI (p:LU):Bool:=decide (p=gt\/p=oF\/p=oG\/p=bE\/p=eU\/p=bO)
def aM (op:LU)(n:Nat)(p:LU):Bool:=
 if n=1 then fI p else decide ((op=gt\/op=oF)/\p=op\/(op=oG\/op=bE)/\n=2/\p=rV)
def kX (name:LU)(op n:Nat)(l:LU):Option (qD×LU×Nat):=
 if bd l=[]\/bd l=[40]\/bd l=[41] then none else if dm 2 (bU (bd l))=0 then some (.atom name op (bd l),bw l,n) else none
def mW (name:LU)(n:Nat)(l:LU):Option (qD×LU×Nat):=
 if Fl (bd l)=0 then some (.atom name 0 [],l,n) else kX name (Fl (bd l)) n (bw l)
def jE (n:Nat)(l:LU):Option (qD×LU×Nat):=
 if n=64 then none else if ed (bd l) then mW (bd l) (n+1) (bw l) else none
mutual
def iN:Nat->Nat->Nat->LU->Option (qD×LU×Nat)
 | 0,_,_,_=>none
 | f+1,deep,n,l=>
  if bd l=[]\/bd l=[41] then none
  else if bd l=[40] then (if deep=32 then none else lM f (deep+1) n [] [] (bw l))
  else jE n l
def lM:Nat->Nat->Nat->List qD->LU->LU->Option (qD×LU×Nat)
 | 0,_,_,_,_,_=>none
 | f+1,deep,n,acc,op,l=>match iN f deep n l with
  | none=>none
  | some (k,l1,n1)=>
   if bd l1=[41]/\acc≠[] then some (.node op (acc++[k]),bw l1,n1)
   else if aM op (acc.length+1) (bd l1) then lM f deep n1 (acc++[k]) (if acc=[] then bd l1 else op) (bw l1)
   else none
end
def gF (l:LU):Option qD:=match iN (2*l.length+2) 0 0 l with
 | none=>none
 | some (d,r,_)=>if bd r=[] then some d else none
def Sw:Nat->LU
 | 1=>[60]
 | 2=>[60,61]
 | 3=>[61]
 | 4=>[62,61]
 | 5=>[62]
 | _=>[]
def OZ (op:LU)(i:Nat):LU:=if 2<=i/\(op=oG\/op=bE) then rV else op
mutual
def eV:qD->LU
 | .atom nm op v=>if op=0 then nm else nm++[32]++Sw op++[32]++v
 | .node op ks=>[40]++ii op 0 ks++[41]
def ii (op:LU):Nat->List qD->LU
 | _,[]=>[]
 | i,k::r=>(if i=0 then [] else [32]++OZ op i++[32])++eV k++ii op (i+1) r
end
def ko (l:LU):Bool:=!l.isEmpty&&(match gF l with | some d=>decide (eV d=l) | none=>false)
end
section
open Go.RowKit
inductive an where
 | mk (op nm:BA) (aop:Nat) (ver:BA) (ka:OA) (kc:Nat) (kids:List an)
def an.op:an->BA | .mk op _ _ _ _ _ _=>op
def an.nm:an->BA | .mk _ nm _ _ _ _ _=>nm
def an.aop:an->Nat | .mk _ _ a _ _ _ _=>a
def an.ver:an->BA | .mk _ _ _ v _ _ _=>v
def an.ka:an->OA | .mk _ _ _ _ a _ _=>a
def an.kc:an->Nat | .mk _ _ _ _ _ c _=>c
def an.kids:an->List an | .mk _ _ _ _ _ _ k=>k
def an.cells (t:an):LV:=[.string t.op,.string t.nm,.int .i64 t.aop,.string t.ver,.slice t.ka t.kids.length t.kc]
def an.val (t:an):Value:=.agg #[.string t.op,.string t.nm,.int .i64 t.aop,.string t.ver,.slice t.ka t.kids.length t.kc]
theorem zU (t:an):t.cells.length=5:=rfl
theorem an.eta (t:an):t=.mk t.op t.nm t.aop t.ver t.ka t.kc t.kids:=by cases t;rfl
mutual
def an.pl:an->qD
 | .mk op nm aop ver _ _ kids=>if bl op=[] then .atom (bl nm) aop (bl ver) else .node (bl op) (mE kids)
def mE:List an->List qD
 | []=>[]
 | t::r=>t.pl::mE r
end
theorem jH (l:List an):mE l=l.map an.pl:=by
 induction l with
 | nil=>simp[mE]
 | cons a r ih=>simp[mE,ih]
mutual
def an.ht:an->Nat
 | .mk _ _ _ _ _ _ kids=>Cc kids
def Cc:List an->Nat
 | []=>0
 | t::r=>max (t.ht+1) (Cc r)
end
mutual
def an.cnt:an->Nat
 | .mk _ _ _ _ _ _ []=>1
 | .mk _ _ _ _ _ _ (t::r)=>t.cnt+cZ r
def cZ:List an->Nat
 | []=>0
 | t::r=>t.cnt+cZ r
end
theorem yv (t:an):t.ht=Cc t.kids:=by cases t;simp[an.ht,an.kids]
theorem Mq {t:an}(h:t.kids=[]):t.cnt=1:=by cases t;simp only[an.kids] at h;subst h;simp[an.cnt]
theorem gu {t:an}(h:t.kids≠[]):t.cnt=cZ t.kids:=by
 obtain⟨_,_,_,_,_,_,ks⟩:=t;cases ks with
 | nil=>exact absurd rfl h
 | cons a r=>simp[an.cnt,an.kids,cZ]
theorem O0 {l:List an}{t:an}(h:t∈l):t.ht+1<=Cc l:=by
 induction l with
 | nil=>simp at h
 | cons a r ih=>
  simp only[Cc];rcases List.mem_cons.1 h with rfl | h
  ·omega
  ·have:=ih h;omega
theorem zV {l:List an}(h:l≠[]):∃ t∈l,t.ht+1=Cc l:=by
 induction l with
 | nil=>exact absurd rfl h
 | cons a r ih=>
  simp only[Cc];by_cases hr:r=[]
  ·subst hr;exact⟨a,by simp,by simp[Cc]⟩
  ·obtain⟨t,ht,he⟩:=ih hr;by_cases hm:Cc r<=a.ht+1
   ·exact⟨a,by simp,by omega⟩
   ·exact⟨t,by simp[ht],by omega⟩
theorem Mr {t k:an}(h:k∈t.kids):k.ht+1<=t.ht:=by rw[yv t];exact O0 h
theorem He {t:an}:t.ht=0↔t.kids=[]:=by
 rw[yv];constructor
 ·intro h;by_cases hk:t.kids=[]
  ·exact hk
  ·obtain⟨k,_,he⟩:=zV hk;omega
 ·intro h;rw[h];rfl
theorem dX (a b:List an):cZ (a++b)=cZ a+cZ b:=by
 induction a with
 | nil=>simp[cZ]
 | cons x r ih=>simp[cZ,ih];omega
theorem Hf (t:an):0<t.cnt:=by
 match t with
 | .mk _ _ _ _ _ _ []=>simp[an.cnt]
 | .mk _ _ _ _ _ _ (a::r)=>have:=Hf a;simp[an.cnt];omega
theorem ij (l:List an):l.length<=cZ l:=by
 induction l with
 | nil=>simp
 | cons a r ih=>have:=Hf a;simp[cZ];omega
theorem kq {l:List an}{t:an}(h:t∈l):t.cnt<=cZ l:=by
 induction l with
 | nil=>simp at h
 | cons a r ih=>
  simp only[cZ];rcases List.mem_cons.1 h with rfl | h
  ·omega
  ·have:=ih h;omega
theorem yw {l:List an}{t:an}(h:l[k]?=some t):cZ (l.take (k+1))=cZ (l.take k)+t.cnt:=by
 obtain⟨hk,hg⟩:=gS h;rw[tS hk,hg,dX];simp[cZ]
theorem jI (l:List an)(k:Nat):cZ (l.take k)<=cZ l:=by
 conv=>rhs;rw[<-List.take_append_drop k l,dX]
 omega
inductive bT (w:World) (lo:Nat) (bad:Option Nat):an->Prop
 | mk (t:an) (row:w.ownsRow lo 170 5 (.slice t.ka t.kids.length t.kc) t.kids.length (t.kids.flatMap an.cells)) (ne:∀ g,(Value.slice t.ka t.kids.length t.kc).ownBlock=some g->some g≠bad) (kids:∀ k∈t.kids,bT w lo bad k):bT w lo bad t
theorem bT.row {t:an}(h:bT w lo bad t):w.ownsRow lo 170 5 (.slice t.ka t.kids.length t.kc) t.kids.length (t.kids.flatMap an.cells):=by cases h;assumption
theorem bT.kids {t:an}(h:bT w lo bad t):∀ k∈t.kids,bT w lo bad k:=by cases h;assumption
theorem bT.low {t:an}(h:bT w lo bad t)(hb:Below w.heap.size w w'):bT w' lo bad t:=by
 induction h with
 | mk t row ne _ ih=>exact .mk t (aL row hb) ne ih
theorem bT.kept {g:Nat}{t:an}(h:bT w lo bad t)(hlo:g<lo)(hg:w.grownBy w' (some g)):bT w' lo bad t:=by
 induction h with
 | mk t row ne _ ih=>exact .mk t (aP row hlo hg) ne ih
theorem bT.grown {t:an}(h:bT w lo bad t)(hg:w.grownBy w' bad):bT w' lo bad t:=by
 induction h with
 | mk t row ne _ ih=>
  refine .mk t (row.kept hg ?_) ne ih;cases hb:(Value.slice t.ka t.kids.length t.kc).ownBlock with
  | none=>exact .inl rfl
  | some g=>exact .inr (ne g hb)
theorem bT.base {lo':Nat}{t:an}(h:bT w lo bad t)(hl:lo'<=lo):bT w lo' bad t:=by
 induction h with
 | mk t row ne _ ih=>exact .mk t (aY row hl) ne ih
theorem bT.any {t:an}(h:bT w lo bad t):bT w lo none t:=by
 induction h with
 | mk t row _ _ ih=>exact .mk t row (fun g _=>by simp) ih
theorem bT.old {bad':Option Nat}{t:an}(h:bT w lo bad t)(hb:∀ g,bad'=some g->g<lo\/w.heap.size<=g):bT w lo bad' t:=by
 induction h with
 | mk t row ne _ ih=>
  refine .mk t row (fun g hg e=>?_) ih;have h1:=row.lt g hg;rcases hb g e.symm with h2 | h2<;>omega
inductive La (w:World):an->Prop
 | mk (t:an) (row:Rd w 5 t.ka t.kids.length (t.kids.flatMap an.cells)) (kids:∀ k∈t.kids,La w k):La w t
theorem La.row {t:an}(h:La w t):Rd w 5 t.ka t.kids.length (t.kids.flatMap an.cells):=by cases h;assumption
theorem La.kids {t:an}(h:La w t):∀ k∈t.kids,La w k:=by cases h;assumption
theorem bT.rd {t:an}(h:bT w lo bad t):La w t:=by
 induction h with
 | mk t row _ _ ih=>exact .mk t (bD row) ih
theorem La.cell {t:an}(h:La w t)(i:Nat)(k:an)(hi:t.kids[i]?=some k):∃ b off,t.ka=some ⟨b,off,none⟩/\∀ (j:Nat)(u:Value),k.cells[j]?=some u->w.cell? ⟨b,off+i*5+j,none⟩=some u:=h.row.elem zU i k hi
theorem Jq {t:an}(h:La w t):∀ u:an,La w u->t.ka=u.ka->t.kids.length=u.kids.length->t.kids=u.kids:=by
 induction h with
 | mk t row kids ih=>
  intro u hu ha hl;apply List.ext_getElem hl;intro i h1 h2;obtain⟨x,hx⟩:∃ x,t.kids[i]?=some x:=⟨_,gG h1⟩
  obtain⟨y,hy⟩:∃ y,u.kids[i]?=some y:=⟨_,gG h2⟩
  obtain⟨b,off,e1,c1⟩:=row.elem zU i x hx;obtain⟨b',off',e2,c2⟩:=hu.row.elem zU i y hy;rw[ha,e2] at e1;injection e1 with e1;injection e1 with eb eo _;subst eb eo;have f0:=(c1 0 _ rfl).symm.trans (c2 0 _ rfl);have f1:=(c1 1 _ rfl).symm.trans (c2 1 _ rfl);have f2:=(c1 2 _ rfl).symm.trans (c2 2 _ rfl);have f3:=(c1 3 _ rfl).symm.trans (c2 3 _ rfl);have f4:=(c1 4 _ rfl).symm.trans (c2 4 _ rfl);simp only[Option.some.injEq,Value.string.injEq,Value.int.injEq,Value.slice.injEq,true_and] at f0 f1 f2 f3 f4;have hk:=ih x (gM hx) y (hu.kids y (gM hy)) f4.1 f4.2.1;have:x=y:=by rw[an.eta x,an.eta y,f0,f1,f3,f4.1,f4.2.2,hk,show x.aop=y.aop by omega]
  rw[gG h1] at hx;rw[gG h2] at hy;injection hx with hx;injection hy with hy;rw[hx,hy,this]
end
section
open Go.RowKit Go.Deep
theorem O7 (s:BA)(k o:Nat)(h:k<s.size)(d:UInt8)(hd:s[k]=d):jw o ((bl s).drop k)=if d==32 then 0 else if d==40 then jw (o+1) ((bl s).drop (k+1))+1 else if d==41 then (if o=0 then 0 else jw (o-1) ((bl s).drop (k+1))+1) else jw o ((bl s).drop (k+1))+1:=by
 rw[dN s k h,hd];rfl
theorem Jr (s:BA)(k o:Nat)(h:¬ k<s.size):jw o ((bl s).drop k)=0:=by rw[lI s k h];rfl
theorem zX (s:BA)(p:Nat)(w:World)(hp:p<=s.size)(hs:s.size<=4294967280):Calls Tryz.prog 210 #[.string s,.int .i64 p] w fun e w'=>e=.returned (.int .i64 ((p+jw 0 ((bl s).drop p):Nat):Int))/\w=w':=by
 obtain⟨R,hR⟩:∃ R,p+jw 0 ((bl s).drop p)=R:=⟨_,rfl⟩
 rw[hR];have HR0:=ae hR;clear hR;go_in;go_wp2;go_loop [1,4,5] (fun i s4 o=>∃ k n:Nat,i=.int .i64 k/\s4=.int .i64 0/\o=.int .i64 n/\k<=s.size/\n<=k/\Hid (k+jw n ((bl s).drop k)=R)) (fun i _ _=>s.size-(intOf i).toNat)
 case atStart=>exact⟨p,0,rfl,rfl,rfl,hp,z0,HR0⟩
 case round=>
  clear HR0;obtain⟨k,n,rfl,rfl,rfl,hk,hn,HE⟩:=hrel;by_cases hlt:k<s.size
  ·obtain⟨d,hd⟩:∃ d:UInt8,s[k]=d:=⟨_,rfl⟩
   have ST:=ae (O7 s k n hlt d hd);have d0:decide ((k:Int)<(s.size:Int))=true:=dT (by omega);cases h32:(d==32) with
   | true=>
    have e32:((d.toNat:Int) != 32)=false:=by rw[bne,show((d.toNat:Int)==32)=true from(eA d 32).trans h32];rfl
    have E:Hid (k=R):=by have h1:=HE.out;rw[ST.out,h32] at h1;exact h1
    clear h32;go_wp2;go_ret;exact⟨aI (by rw[<-E.out]),rfl⟩
   | false=>
    have e32:((d.toNat:Int) != 32)=true:=by rw[bne,show((d.toNat:Int)==32)=false from(eA d 32).trans h32];rfl
    cases h40:(d==40) with
    | true=>
     have e40:((d.toNat:Int)==40)=true:=(eA d 40).trans h40;have HN:Hid ((k+1)+jw (n+1) ((bl s).drop (k+1))=R):=by have h1:=HE.out;rw[ST.out,h32,h40] at h1;simp at h1;show _=_;omega
     clear h32 h40;go_wp2;go_round
     case rel=>exact⟨k+1,n+1,by go_num,rfl,by go_num,by omega,by omega,HN⟩
     case measure=>simp[intOf];omega
    | false=>
     have e40:((d.toNat:Int)==40)=false:=(eA d 40).trans h40;cases h41:(d==41) with
     | true=>
      have e41:((d.toNat:Int)==41)=true:=(eA d 41).trans h41;by_cases n0:n=0
      ·have E:Hid (k=R):=by have h1:=HE.out;rw[ST.out,h32,h40,h41,if_neg (by decide),if_neg (by decide),if_pos rfl,if_pos n0] at h1;exact h1
       subst n0;clear h32 h40 h41;go_wp2;go_ret;exact⟨aI (by rw[<-E.out]),rfl⟩
      ·have HN:Hid ((k+1)+jw (n-1) ((bl s).drop (k+1))=R):=by have h1:=HE.out;rw[ST.out,h32,h40,h41,if_neg (by decide),if_neg (by decide),if_pos rfl,if_neg n0] at h1;show _=_;omega
       have en:((n:Int)==0)=false:=by simp;omega
       clear h32 h40 h41;go_wp2;go_round
       case rel=>exact⟨k+1,n-1,by go_num,rfl,by congr 1;omega,by omega,by omega,HN⟩
       case measure=>simp[intOf];omega
     | false=>
      have e41:((d.toNat:Int)==41)=false:=(eA d 41).trans h41;have HN:Hid ((k+1)+jw n ((bl s).drop (k+1))=R):=by have h1:=HE.out;rw[ST.out,h32,h40,h41,if_neg (by decide),if_neg (by decide),if_neg (by decide)] at h1;show _=_;omega
      clear h32 h40 h41;go_wp2;go_round
      case rel=>exact⟨k+1,n,by go_num,rfl,rfl,by omega,by omega,HN⟩
      case measure=>simp[intOf];omega
  ·have d0:decide ((k:Int)<(s.size:Int))=false:=dF (by omega);have E:Hid (k=R):=by have h1:=HE.out;rw[Jr s k n hlt] at h1;exact h1
   go_wp2;go_ret;exact⟨aI (by rw[<-E.out]),rfl⟩
def eW:Nat->LU->List (LU)
 | 0,_=>[[]]
 | f+1,l=>if aO l=[] then [[]] else bd l::eW f (bw l)
theorem Fm (r:LU):aO (32::r)=aO r:=by unfold aO;rw[iZ (by rfl)];rfl
theorem Cd {c:UInt8}(h:(c==32)=false):aO (c::r)=c::r:=by
 unfold aO;rw[fU (show aX c=false from h)];rfl
theorem Ce (f:Nat)(r:LU):eW f (32::r)=eW f r:=by
 cases f with
 | zero=>rfl
 | succ f=>unfold eW bd bw;rw[Fm]
theorem Js (f:Nat):eW (f+1) []=[[]]:=rfl
theorem Cf (f:Nat)(s:BA)(k:Nat)(h:k<s.size)(d:UInt8)(hd:s[k]=d)(h32:(d==32)=false):eW (f+1) ((bl s).drop k)=((bl s).drop k).take (qZ ((bl s).drop k))::eW f ((bl s).drop (k+qZ ((bl s).drop k))):=by
 have hs:aO ((bl s).drop k)=(bl s).drop k:=by rw[dN s k h,hd];exact Cd h32
 show(if aO ((bl s).drop k)=[] then [[]] else bd ((bl s).drop k)::eW f (bw ((bl s).drop k)))=_;rw[if_neg (by rw[hs,dN s k h];simp)];unfold bd bw;rw[hs,List.drop_drop]
theorem O9 (s:BA)(k:Nat)(h:k<s.size)(d:UInt8)(hd:s[k]=d):qZ ((bl s).drop k)=if Qm d then 1 else jw 0 ((bl s).drop k):=by
 rw[dN s k h,hd];rfl
theorem Jt (s:BA)(k:Nat)(h:k<s.size)(d:UInt8)(hd:s[k]=d)(h32:(d==32)=false):0<qZ ((bl s).drop k)/\k+qZ ((bl s).drop k)<=s.size:=by
 have hs:aO ((bl s).drop k)=(bl s).drop k:=by rw[dN s k h,hd];exact Cd h32
 have h1:=uY (l:=(bl s).drop k) (by rw[hs,dN s k h];simp);rw[hs] at h1;have h2:=zT ((bl s).drop k);rw[List.length_drop,ah] at h2;exact⟨h1,by omega⟩
structure yx where
 text:BA
 at_:Nat
def yx.cells (x:yx):LV:=[.string x.text,.int .i64 x.at_]
theorem Pa (x:yx):x.cells.length=2:=rfl
theorem Ju:(Tryz.prog.info? 221).map (fun i=>(i.zero,i.size,i.bytes))=some (some (.agg #[.string ⟨#[]⟩,.int .i64 0]),2,24):=by kernel_rfl
structure yy (w wr:World) (xs:List yx) (A:OA) (n c:Nat):Prop where
 len:xs.length=n
 row:wr.ownsRow w.heap.size 221 2 (.slice A n c) n (xs.flatMap yx.cells)
 bel:Below w.heap.size w wr
theorem yy.grow {xs:List yx}{A1:OA}{c:Nat}{o:Obj}{x:yx}(h:yy w wr xs A n c)
  (hr:w2.ownsRow w.heap.size 221 2 (.slice A1 (n+1) c1) (n+1) (xs.flatMap yx.cells++x.cells))
  (hg:(wr.alloc o).grownBy w2 (Value.slice A n c).ownBlock):yy w w2 (xs++[x]) A1 (n+1) c1:=by
 refine⟨by simp[h.len],by rw[List.flatMap_append];simpa using hr,?_⟩;exact(h.bel.alloc h.bel.size o).grown hg (by have:=h.bel.size;simp;omega) (fun j hj=>by have:=(h.row.lt j hj).1;omega)
theorem Cg (w:World)(t:TypeId)(x y:Value):eQ (w.alloc (.cells #[x,y] t)) (w.heap.size+1) 2 (some ⟨w.heap.size,0,none⟩) 1 [x,y]:=by
 refine⟨rfl,fun _=>⟨_,rfl,by simp,fun j u hu=>?_⟩⟩
 match j,hu with
 | 0,hu=>simp at hu;subst hu;simp[Addr.add]
 | 1,hu=>simp at hu;subst hu;simp[Addr.add]
 | j+2,hu=>simp at hu
def Pb (s:BA)(w:World)(e:Ending)(w':World):Prop:=
 ∃ (A:OA) (n c:Nat) (xs:List yx),e=.returned (.slice A n c)/\yy w w' xs A n c/\n<=s.size+1/\xs.map (fun x=>bl x.text)=eW (s.size+1) (bl s)/\∀ x∈xs,x.text.size<=s.size
theorem Fo (s:BA)(w:World)(hs:s.size<=4294967280):Calls Tryz.prog 175 #[.string s] w (Pb s w):=by
 obtain⟨i0,hi0,hz0,hz1,hz2⟩:=info_parts Ju;go_in;go_wp2;go_loopw [3,4] (fun l i wr=>∃ (k f n c:Nat) (A:OA) (xs:List yx),l=.slice A n c/\i=.int .i64 k/\k<=s.size/\n<=k/\Hid (yy w wr xs A n c)/\Hid (xs.map (fun x=>bl x.text)++eW (f+1) ((bl s).drop k)=eW (s.size+1) (bl s))/\Hid (s.size-k<=f)/\Hid (∀ x∈xs,x.text.size<=s.size)) (fun _ i _=>s.size-(intOf i).toNat)
 case atStart=>exact⟨0,s.size,0,0,none,[],rfl,rfl,z0,lr,⟨rfl,World.ownsRow_nil _ _ _ _,bR⟩,rfl,lr,by simp[Hid]⟩
 case round=>
  obtain⟨k,f,n,c,A,xs,rfl,rfl,hk,hn,HR,HT,HF,HZ⟩:=hrel;by_cases hlt:k<s.size
  ·obtain⟨d,hd⟩:∃ d:UInt8,s[k]=d:=⟨_,rfl⟩
   cases h32:(d==32) with
   | true=>
    have e32:((d.toNat:Int)==32)=true:=(eA d 32).trans h32;have HT2:Hid (xs.map (fun x=>bl x.text)++eW (f+1) ((bl s).drop (k+1))=eW (s.size+1) (bl s)):=by
     have h1:=HT.out;rw[dN s k hlt,hd,show d=32 by simpa using h32,Ce] at h1;exact h1
    have HF2:Hid (s.size-(k+1)<=f):=by have:=HF.out;show _<=_;omega
    clear h32;go_wp2;go_roundw
    case rel=>exact⟨k+1,f,n,c,A,xs,rfl,by go_num,by omega,by omega,HR,HT2,HF2,HZ⟩
    case measure=>simp[intOf];omega
   | false=>
    have e32:((d.toNat:Int)==32)=false:=(eA d 32).trans h32;obtain⟨hl1,hl2⟩:=Jt s k hlt d hd h32;have TA:=ae (Cf (f-1) s k hlt d hd h32);have TB:=ae (Cf f s k hlt d hd h32);have LA:=ae (O9 s k hlt d hd);obtain⟨m,hm⟩:∃ m,k+qZ ((bl s).drop k)=m:=⟨_,rfl⟩
    have HM:=ae hm;rw[hm] at TA TB hl2;have hkm:k<m:=by omega
    clear hm hl1;obtain⟨b1,hb1⟩:∃ b1,((d.toNat:Int) != 40)=b1:=⟨_,rfl⟩
    obtain⟨b2,hb2⟩:∃ b2,((d.toNat:Int) != 41)=b2:=⟨_,rfl⟩
    have HBR:Hid (Qm d=!(b1&&b2)):=by
     show _=_;rw[<-hb1,<-hb2,bne,bne,show((d.toNat:Int)==40)=(d==40) from eA d 40,show((d.toNat:Int)==41)=(d==41) from eA d 41];unfold Qm;simp
    obtain⟨bp,hbp⟩:∃ bp,(b1&&b2)=bp:=⟨_,rfl⟩
    have HBP:=ae hbp;clear hbp;go_upto_region 7 with(fail)
    go_cut [27] (fun v wx=>v=.bool bp/\wr=wx)
    case first=>
     cases b1 with
     | false=>
      have E:Hid (bp=false):=HBP.out.symm;go_wp2;go_meet;exact⟨by rw[E.out],rfl⟩
     | true=>
      have E:Hid (bp=b2):=HBP.out.symm;go_wp2;go_meet;exact⟨by rw[E.out],rfl⟩
    case rest=>
    obtain⟨rfl,rfl⟩:=hcut;clear hb1 hb2;go_upto_if 27 with(fail)
    go_cut [5] (fun v wx=>v=.int .i64 m/\wr=wx)
    case first=>
     have hPE:=zX s k wr (by omega) hs;cases bp with
     | false=>
      have E:Hid (m=k+1):=by have h1:=HM.out;rw[LA.out,HBR.out,HBP.out] at h1;exact h1.symm
      go_wp2;go_meet;exact⟨by rw[E.out];rfl,rfl⟩
     | true=>
      have E:k+jw 0 ((bl s).drop k)=m:=by have h1:=HM.out;rw[LA.out,HBR.out,HBP.out] at h1;exact h1
      rw[E] at hPE;clear E;go_wp2_with fail;refine hPE.mono ?_;rintro e w' ⟨rfl,rfl⟩;go_wp2;go_meet;exact⟨rfl,rfl⟩
    case rest=>
    obtain⟨rfl,rfl⟩:=hcut;clear HBR LA h32;obtain⟨Y,hY⟩:∃ Y,s.extract k m=Y:=⟨_,rfl⟩
    have HYB:Hid (bl Y=((bl s).drop k).take (qZ ((bl s).drop k))):=by show _=_;rw[<-hY,iD];congr 1;have:=HM.out;omega
    have HYZ:Hid (Y.size<=s.size):=by show _<=_;rw[<-ah,HYB.out,List.length_take,List.length_drop,ah];omega
    have HT2:Hid ((xs++[(⟨Y,k⟩:yx)]).map (fun x=>bl x.text)++eW (f-1+1) ((bl s).drop m)=eW (s.size+1) (bl s)):=by
     have h1:=HT.out;have hf:=HF.out;have ef:f-1+1=f:=by omega
     have h2:=TA.out;rw[ef] at h2;have h3:eW (f+1) ((bl s).drop k)=((bl s).drop k).take (qZ ((bl s).drop k))::eW f ((bl s).drop m):=TB.out;show _=_;rw[ef,<-h1,h3,List.map_append,List.append_assoc];simp[HYB.out]
    have HF2:Hid (s.size-m<=f-1):=by have:=HF.out;show _<=_;omega
    have HZ2:Hid (∀ x∈xs++[(⟨Y,k⟩:yx)],x.text.size<=s.size):=by
     intro x hx;rcases List.mem_append.1 hx with hx | hx
     ·exact HZ.out x hx
     ·obtain rfl:=List.mem_singleton.1 hx;exact HYZ.out
    have hnn:n<=4294967280:=by omega
    have hkm1:(k:Int)<=(m:Int):=by omega
    have hkm2:(m:Int)<=(s.size:Int):=by omega
    go_wp2_with (at_builtin;refine au _ rfl _ _ _ rfl w.heap.size 221 i0 _ 2 24 Tryz.underlying215 hi0 hz0 hz1 hz2 rfl (by omega) (.slice A n c) n _ rfl (HR.out.row.alloc _) (wr.heap.size+1) (some ⟨wr.heap.size,0,none⟩) 1 1 [.string Y,.int .i64 k] rfl (Cg wr _ _ _) (by simp[Value.oneCell']) (by simp only[maxLen];omega) (by omega) (by simp;have:=HR.out.bel.size;omega) ?_;intro v1 w3 o1 g1 a1);obtain⟨A3,c3,rfl⟩:=aN o1;have R3:=ae (HR.out.grow (x:=⟨Y,k⟩) o1 g1);clear o1 g1 a1;go_wp2;go_roundw
    case rel=>exact⟨m,f-1,n+1,c3,A3,xs++[⟨Y,k⟩],rfl,rfl,hl2,by omega,R3,HT2,HF2,HZ2⟩
    case measure=>simp[intOf];omega
  ·have HT2:Hid ((xs++[(⟨⟨#[]⟩,s.size⟩:yx)]).map (fun x=>bl x.text)=eW (s.size+1) (bl s)):=by
    have h1:=HT.out;rw[lI s k hlt,Js] at h1;show _=_;rw[<-h1,List.map_append];rfl
   have HZ2:Hid (∀ x∈xs++[(⟨⟨#[]⟩,s.size⟩:yx)],x.text.size<=s.size):=by
    intro x hx;rcases List.mem_append.1 hx with hx | hx
    ·exact HZ.out x hx
    ·obtain rfl:=List.mem_singleton.1 hx;exact z0
   have hnn:n<=4294967280:=by omega
   go_wp2_with (at_builtin;refine au _ rfl _ _ _ rfl w.heap.size 221 i0 _ 2 24 Tryz.underlying215 hi0 hz0 hz1 hz2 rfl (by omega) (.slice A n c) n _ rfl (HR.out.row.alloc _) (wr.heap.size+1) (some ⟨wr.heap.size,0,none⟩) 1 1 [.string ⟨#[]⟩,.int .i64 s.size] rfl (Cg wr _ _ _) (by simp[Value.oneCell']) (by simp only[maxLen];omega) (by omega) (by simp;have:=HR.out.bel.size;omega) ?_;intro v1 w3 o1 g1 a1);obtain⟨A3,c3,rfl⟩:=aN o1;have R3:=ae (HR.out.grow (x:=⟨⟨#[]⟩,s.size⟩) o1 g1);clear o1 g1 a1;go_wp2;go_ret;exact⟨A3,n+1,c3,xs++[⟨⟨#[]⟩,s.size⟩],rfl,R3.out,by omega,HT2.out,HZ2.out⟩
end
section
open Go.RowKit
def bG (op:LU)(n:Nat):Bool:=decide ((op=gt\/op=oF)/\2<=n\/(op=oG\/op=bE)/\(n=2\/n=3)\/(op=eU\/op=bO)/\n=2)
def Hg (n:Nat)(op:LU):Prop:=(n=0/\op=[])\/(1<=n/\((op=gt\/op=oF)\/(op=oG\/op=bE)/\n<=2\/(op=eU\/op=bO)/\n=1))
theorem Hg.start:Hg 0 []:=.inl ⟨rfl,rfl⟩
theorem kr :fI p=true↔p=gt\/p=oF\/p=oG\/p=bE\/p=eU\/p=bO:=by unfold fI;simp
theorem Hg.close {op:LU}(h:Hg n op):bG op (n+1)=decide (n≠0):=by
 unfold bG;rcases h with⟨rfl,rfl⟩ | ⟨h1,h2⟩
 ·simp[gt,oF,oG,bE,eU,bO]
 ·rw[dT (show n≠0 by omega)];apply dT;rcases h2 with h2 | ⟨h2,h3⟩ | ⟨h2,h3⟩
  ·exact .inl ⟨h2,by omega⟩
  ·exact .inr (.inl ⟨h2,by omega⟩)
  ·exact .inr (.inr ⟨h2,by omega⟩)
theorem Hg.next {op:LU}(h:Hg n op)(hf:aM op (n+1) p=true):Hg (n+1) (if n=0 then p else op):=by
 unfold aM at hf;rcases h with⟨rfl,rfl⟩ | ⟨h1,h2⟩
 ·rw[if_pos rfl] at hf;rw[if_pos rfl];refine .inr ⟨by omega,?_⟩;rcases kr.1 hf with h | h | h | h | h | h
  ·exact .inl (.inl h)
  ·exact .inl (.inr h)
  ·exact .inr (.inl ⟨.inl h,by omega⟩)
  ·exact .inr (.inl ⟨.inr h,by omega⟩)
  ·exact .inr (.inr ⟨.inl h,rfl⟩)
  ·exact .inr (.inr ⟨.inr h,rfl⟩)
 ·rw[if_neg (by omega)] at hf;rw[if_neg (by omega)];refine .inr ⟨by omega,?_⟩;rcases dO hf with⟨h,_⟩ | ⟨h,h3,_⟩
  ·exact .inl h
  ·exact .inr (.inl ⟨h,by omega⟩)
theorem Hg.word {op:LU}(h:Hg n op)(hn:n≠0):fI op=true:=by
 rcases h with⟨rfl,rfl⟩ | ⟨_,h2⟩
 ·exact absurd rfl hn
 ·rw[kr];rcases h2 with(h2 | h2) | ⟨h2 | h2,_⟩ | ⟨h2 | h2,_⟩
  ·exact .inl h2
  ·exact .inr (.inl h2)
  ·exact .inr (.inr (.inl h2))
  ·exact .inr (.inr (.inr (.inl h2)))
  ·exact .inr (.inr (.inr (.inr (.inl h2))))
  ·exact .inr (.inr (.inr (.inr (.inr h2))))
theorem Hg.nil {op:LU}(h:Hg n op):op=[]↔n=0:=by
 constructor
 ·intro e;subst e;by_cases hn:n=0
  ·exact hn
  ·have:=h.word hn;rw[kr] at this;revert this;simp[gt,oF,oG,bE,eU,bO]
 ·rintro rfl;rcases h with⟨_,h⟩ | ⟨h,_⟩
  ·exact h
  ·omega
theorem mj {op:LU}(h:bG op n=true):2<=n:=by
 rcases dO h with⟨_,h⟩ | ⟨_,h⟩ | ⟨_,h⟩<;>omega
theorem mo {op:LU}(h:fI op=true):op≠[]/\op.length<=7:=by
 rcases kr.1 h with h | h | h | h | h | h<;>rw[h]<;>simp[gt,oF,oG,bE,eU,bO]
inductive gL:an->Prop
 | atom (nm:BA) (aop:Nat) (ver:BA) (hn:ed (bl nm)=true) (ho:aop<=5) (hv0:aop=0->ver.size=0) (hv:0<aop->dm 2 ver=0):gL (.mk ⟨#[]⟩ nm aop ver none 0 [])
 | node (op:BA) (ka:OA) (kc:Nat) (kids:List an) (ho:fI (bl op)=true) (hc:bG (bl op) kids.length=true) (hk:∀ k∈kids,gL k):gL (.mk op ⟨#[]⟩ 0 ⟨#[]⟩ ka kc kids)
theorem uZ {s:BA}{f:Int}(h:dm f s=0):s.size<=64:=by
 unfold dm at h;split at h
 ·simp at h
 ·split at h
  ·simp at h
  ·omega
theorem nK {s:BA}(h:ed (bl s)=true):1<=s.size/\s.size<=64:=by
 by_cases hz:1<=s.size/\s.size<=64
 ·exact hz
 ·rw[oU s hz] at h;cases h
theorem Hh:∀ n:Nat,(Sw n).length<=2
 | 0=>by decide
 | 1=>by decide
 | 2=>by decide
 | 3=>by decide
 | 4=>by decide
 | 5=>by decide
 | _+6=>by simp[Sw]
theorem Pd {op:LU}{i:Nat}(h:op.length<=7):(OZ op i).length<=7:=by
 unfold OZ;split
 ·decide
 ·exact h
theorem rb (op:LU)(ho:op.length<=7):∀ (ks:List an)(i:Nat),(∀ k∈ks,(eV k.pl).length+60<=200*k.cnt)->(ii op i (mE ks)).length+51*ks.length<=200*cZ ks
 | [],i,_=>by simp[mE,ii,cZ]
 | k::r,i,h=>by
  have h1:=h k (by simp);have h2:=rb op ho r (i+1) (fun x hx=>h x (by simp[hx]));have h3:=Pd (i:=i) ho;simp only[mE,ii,cZ,List.length_append,List.length_cons];split
  ·simp;omega
  ·simp;omega
theorem tx (op nm:BA)(aop:Nat)(ver:BA)(ka:OA)(kc:Nat)(kids:List an)(h:bl op=[]):(an.mk op nm aop ver ka kc kids).pl=.atom (bl nm) aop (bl ver):=by simp[an.pl,h]
theorem zY (op nm:BA)(aop:Nat)(ver:BA)(ka:OA)(kc:Nat)(kids:List an)(h:bl op≠[]):(an.mk op nm aop ver ka kc kids).pl=.node (bl op) (mE kids):=by simp[an.pl,h]
theorem gL.text {t:an}(h:gL t):(eV t.pl).length+60<=200*t.cnt:=by
 induction h with
 | atom nm aop ver hn ho hv0 hv=>
  rw[tx _ _ _ _ _ _ _ rfl];have h1:=nK hn;have h2:ver.size<=64:=by
   by_cases h:aop=0
   ·have:=hv0 h;omega
   ·exact uZ (hv (by omega))
  have h3:=Hh aop;simp only[eV,an.cnt];split
  ·rw[ah];omega
  ·simp[ah];omega
 | node op ka kc kids ho hc hk ih=>
  rw[zY _ _ _ _ _ _ _ (mo ho).1];have h1:=rb (bl op) (mo ho).2 kids 0 ih;have h2:=mj hc;rw[gu (t:=.mk op ⟨#[]⟩ 0 ⟨#[]⟩ ka kc kids) (by simp[an.kids];intro h;rw[h] at h2;simp at h2)];simp only[eV,an.kids,List.length_append,List.length_cons,List.length_nil];omega
def mX:an:=.mk ⟨#[]⟩ ⟨#[]⟩ 0 ⟨#[]⟩ none 0 []
theorem Ms (l:LU):(bw l).length<=l.length:=by
 have:=eB l;unfold bw;rw[List.length_drop];omega
theorem kw (h:bd l≠[]):(bw l).length<l.length:=Mp (fun e=>h (ra.2 e))
theorem oY (f:Nat)(l:LU):∃ r,eW (f+1) l=bd l::r/\(bd l≠[]->r=eW f (bw l)):=by
 by_cases h:aO l=[]
 ·refine⟨[],?_,fun h2=>absurd (ra.2 h) h2⟩;show(if aO l=[] then [[]] else bd l::eW f (bw l))=_;rw[if_pos h,ra.2 h]
 ·refine⟨eW f (bw l),?_,fun _=>rfl⟩;show(if aO l=[] then [[]] else bd l::eW f (bw l))=_;rw[if_neg h]
end
section
open Go.RowKit Go.MapKept
def an.key (t:an):Value:=.agg #[.pointer t.ka,.int .i64 t.kids.length]
theorem rc:(Tryz.prog.info? 170).map (fun i=>(i.zero,i.size,i.bytes))=some (some (.agg #[.string ⟨#[]⟩,.string ⟨#[]⟩,.int .i64 0,.string ⟨#[]⟩,.slice none 0 0]),5,80):=by kernel_rfl
theorem mY {t:an}(h:bT w lo bad t)(hk:t.kids≠[]):∃ g cur,t.ka=some ⟨g,0,none⟩/\w.heap[g]?=some (.cells cur 170 (0,0))/\lo<=g:=by
 rcases h.row.2 with⟨_,h0⟩ | ⟨g,cap,cur,hv,h1,h2,_⟩
 ·exact absurd (List.length_eq_zero_iff.1 h0) hk
 ·injection hv with hv;exact⟨g,cur,hv,h2,h1⟩
theorem Mt (w:World)(d:Nat)(a:Addr):(Op.equalIn (d+1) 286 (.pointer (some a)) (.pointer (some a))).run Tryz.prog w=.ok true w:=by
 obtain⟨i0,hi0,_,hz,_⟩:=info_parts rc;simp[Op.equalIn,run_underlying Tryz.underlying286,sizeOf,typeInfo,hi0,run_sameAddr_same]
theorem Jv (w:World)(d:Nat){a b:Addr}{ca cb:Array Value}{ta tb:TypeId}(hne:a≠b)(ha:w.heap[a.block]?=some (.cells ca ta (0,0)))(hb:w.heap[b.block]?=some (.cells cb tb (0,0))):(Op.equalIn (d+1) 286 (.pointer (some a)) (.pointer (some b))).run Tryz.prog w=.ok false w:=by
 obtain⟨i0,hi0,_,hz,_⟩:=info_parts rc;simp[Op.equalIn,run_underlying Tryz.underlying286,sizeOf,typeInfo,hi0,hz,run_sameAddr_other w hne ha hb]
theorem Jw {t u:an}(ht:bT w 0 none t)(hu:bT w 0 none u)(kt:t.kids≠[])(ku:u.kids≠[]):
  (Op.equal 288 t.key u.key).run Tryz.prog w=.ok (decide (t.ka=u.ka/\t.kids.length=u.kids.length)) w:=by
 obtain⟨g1,c1,e1,h1,_⟩:=mY ht kt;obtain⟨g2,c2,e2,h2,_⟩:=mY hu ku;unfold an.key Op.equal Op.maxDepth;rw[e1,e2];by_cases hg:g1=g2
 ·subst hg;have hp:=fun d=>Mt w d ⟨g1,0,none⟩;simp[go_sem,hp];by_cases hl:t.kids.length=u.kids.length
  ·simp[hl]
  ·simp[hl];omega
 ·have hp:=fun d=>Jv w d (a:=⟨g1,0,none⟩) (b:=⟨g2,0,none⟩) (fun e=>hg (by injection e)) h1 h2;simp[go_sem,hp,hg]
theorem nL (w:World)(em:Bool)(t:an):(Instr.checkKey em 10000 288 t.key).run Tryz.prog w=.ok () w:=by
 have h:∀ d:Nat,(Instr.checkKey em (d+1+1) 288 t.key).run Tryz.prog w=.ok () w:=by
  intro d;unfold an.key;simp[Instr.checkKey,run_underlying Tryz.underlying288,go_sem]
 exact h 9998
theorem Jx (w:World){t u:an}(h1:t.ka=u.ka)(h2:t.kids.length=u.kids.length):(Instr.keyThatStays t.key u.key).run Tryz.prog w=.ok u.key w:=by
 have:t.key=u.key:=by unfold an.key;rw[h1,h2]
 rw[this];unfold an.key;simp[Instr.keyThatStays,Instr.sameBits]
theorem nM (w:World)(k:Value)(es:List MapEntry):(Instr.findKey 288 k es).run Tryz.prog w=(Instr.findAsking 288 k es 0).run Tryz.prog w:=by
 cases es with
 | nil=>simp[Instr.findKey,Instr.findAsking,Instr.findNow,run_underlying Tryz.underlying288]
 | cons e r=>simp[Instr.findKey,Instr.findNow,Instr.sameNow,run_underlying Tryz.underlying288]
structure fC (w:World) (b:Nat) (ms:List (an×Nat)):Prop where
 ex:∃ es clock,w.heap[b]?=some (.map es clock)/\es.toList.map (fun e=>(e.key,e.val))=ms.map (fun p=>(p.1.key,Value.int .i64 p.2))
 own:∀ p∈ms,bT w 0 none p.1/\p.1.kids≠[]
theorem vf {w:World}{t:an}(ht:bT w 0 none t)(hk:t.kids≠[]):∀ (es:List MapEntry)(ms:List (an×Nat))(i:Nat),es.map (fun e=>(e.key,e.val))=ms.map (fun p=>(p.1.key,Value.int .i64 p.2))->(∀ p∈ms,bT w 0 none p.1/\p.1.kids≠[]) ->
  ((Instr.findAsking 288 t.key es i).run Tryz.prog w=.ok none w) \/
  ∃ j p,(Instr.findAsking 288 t.key es i).run Tryz.prog w=.ok (some (i+j,Value.int .i64 p.2)) w/\ms[j]?=some p/\p.1.ka=t.ka/\p.1.kids=t.kids
 | [],ms,i,_,_=>.inl (by simp[Instr.findAsking])
 | e::es,[],i,h,_=>by simp at h
 | e::es,p::ms,i,h,ho=>by
  simp only[List.map_cons,List.cons.injEq,Prod.mk.injEq] at h;obtain⟨⟨h1,h2⟩,h3⟩:=h;obtain⟨o1,o2⟩:=ho p (by simp);have hq:=Jw ht o1 hk o2;by_cases he:t.ka=p.1.ka/\t.kids.length=p.1.kids.length
  ·right;refine⟨0,p,?_,rfl,he.1.symm,(Jq ht.rd p.1 o1.rd he.1 he.2).symm⟩;rw[dT he] at hq;simp[Instr.findAsking,h1,h2,hq]
  ·rw[dF he] at hq;rcases vf ht hk es ms (i+1) h3 (fun q hq=>ho q (by simp[hq])) with h4 | ⟨j,q,h4,h5,h6⟩
   ·left;simp[Instr.findAsking,h1,hq,h4]
   ·right;exact⟨j+1,q,by simp[Instr.findAsking,h1,hq,h4,Nat.add_assoc,Nat.add_comm 1 j],by simpa using h5,h6⟩
theorem fC.look {ms:List (an×Nat)}(h:fC w b ms){t:an}(ht:bT w 0 none t)(hk:t.kids≠[]):
  ((Instr.lookup 262 (.map (some b)) t.key true).run Tryz.prog w=.ok (.tuple #[.int .i64 0,.bool false]) w) \/
  ∃ p∈ms,p.1.kids=t.kids/\(Instr.lookup 262 (.map (some b)) t.key true).run Tryz.prog w=.ok (.tuple #[.int .i64 p.2,.bool true]) w:=by
 obtain⟨es,clock,hb,hm⟩:=h.ex;rcases vf ht hk es.toList ms 0 hm h.own with h1 | ⟨j,p,h1,h2,h3,h4⟩
 ·left;simp[Instr.lookup,run_underlying Tryz.underlying262,MapKept.run_getObj_map hb,nL,nM,h1,go_sem]
 ·right;exact⟨p,gM h2,h4,by simp[Instr.lookup,run_underlying Tryz.underlying262,MapKept.run_getObj_map hb,nL,nM,h1]⟩
theorem bT.off {t:an}{es:Array MapEntry}{c:Nat}(h:bT w lo bad t)(hb:w.heap[b]?=some (.map es c)):bT w lo (some b) t:=by
 induction h with
 | mk t row ne _ ih=>
  refine .mk t row (fun g hg e=>?_) ih;injection e with e;subst e;rcases row.2 with⟨hv,_⟩ | ⟨g',cap,cur,hv,_,h2,_⟩
  ·rw[hv] at hg;simp[Value.ownBlock] at hg
  ·rw[hv] at hg;simp[Value.ownBlock] at hg;subst hg;rw[hb] at h2;simp at h2
theorem fC.tree {ms:List (an×Nat)}{t:an}(h:fC w b ms)(ht:bT w lo none t)(hg:w.grownBy w' (some b)):bT w' lo none t:=by
 obtain⟨es,clock,hb,_⟩:=h.ex;exact((ht.off hb).grown hg).any
theorem fC.below {ms:List (an×Nat)}(h:fC w b ms)(hb:Below w.heap.size w w'):fC w' b ms:=by
 obtain⟨es,clock,h1,h2⟩:=h.ex;exact⟨⟨es,clock,(hb.block b (Array.getElem?_eq_some_iff.1 h1).1).trans h1,h2⟩,fun p hp=>⟨(h.own p hp).1.low hb,(h.own p hp).2⟩⟩
theorem fC.lt {ms:List (an×Nat)}(h:fC w b ms):b<w.heap.size:=by
 obtain⟨es,clock,h1,h2⟩:=h.ex;exact(Array.getElem?_eq_some_iff.1 h1).1
theorem fC.made (w:World):fC (w.alloc (.map #[] 0)) w.heap.size []:=⟨⟨#[],0,heap_alloc_new w _,by simp⟩,by simp⟩
theorem fC.put {ms:List (an×Nat)}(h:fC w b ms){t:an}(ht:bT w 0 none t)(hk:t.kids≠[])(v:Nat):
  ∃ w' ms',(Instr.mapUpdate 262 (.map (some b)) t.key (.int .i64 v)).run Tryz.prog w=.ok () w'/\fC w' b ms'/\w.grownBy w' (some b)/\w'.heap.size=w.heap.size /\
   (∀ p∈ms',(∃ q∈ms,q=p)\/p.1.kids=t.kids/\p.2=v)/\(∀ p∈ms,∃ q∈ms',q.1=p.1)/\∃ q∈ms',q.1.kids=t.kids:=by
 obtain⟨es,clock,hb,hm⟩:=h.ex;have hlt:=h.lt;have grow:∀ o,w.grownBy { w with heap:=w.heap.setIfInBounds b o } (some b):=fun o=>⟨rfl,rfl,rfl,by simp,fun k hk hne=>(heap_set hb).2 k (fun e=>hne (by rw[e]))⟩
 rcases vf ht hk es.toList ms 0 hm h.own with h1 | ⟨j,p,h1,h2,h3,h4⟩
 ·refine⟨{ w with heap:=w.heap.setIfInBounds b (.map (es.push { key:=t.key,val:=.int .i64 v,born:=clock }) (clock+1)) },ms++[(t,v)],?_,⟨⟨_,_,(heap_set hb).1,by simp[hm]⟩,fun p hp=>?_⟩,grow _,by simp,fun p hp=>?_,fun p hp=>⟨p,by simp[hp],rfl⟩,⟨(t,v),by simp,rfl⟩⟩
  ·simp[Instr.mapUpdate,run_underlying Tryz.underlying262,MapKept.run_getObj_map hb,nL,nM,h1,MapKept.run_setObj_map _ hb]
  ·rcases List.mem_append.1 hp with hp | hp
   ·exact⟨h.tree (h.own p hp).1 (grow _),(h.own p hp).2⟩
   ·obtain rfl:=List.mem_singleton.1 hp;exact⟨h.tree ht (grow _),hk⟩
  ·rcases List.mem_append.1 hp with hp | hp
   ·exact .inl ⟨p,hp,rfl⟩
   ·obtain rfl:=List.mem_singleton.1 hp;exact .inr ⟨rfl,rfl⟩
 ·simp only[Nat.zero_add] at h1;obtain⟨hj,hpj⟩:=gS h2;have hlen:es.size=ms.length:=by have:=congrArg List.length hm;simpa using this
  have hek:es[j]?.map (fun e=>e.key)=some p.1.key:=by
   have:=congrArg (fun l=>l[j]?) hm;simp[h2] at this;obtain⟨e,he,h5,h6⟩:=this;rw[he];simp[h5]
  have hst:=Jx w (t:=p.1) (u:=t) h3 (by rw[h4]);have hkey:p.1.key=t.key:=by unfold an.key;rw[h3,h4]
  refine⟨{ w with heap:=w.heap.setIfInBounds b (.map (es.modify j fun e=>{ e with key:=t.key,val:=.int .i64 v }) clock) },ms.set j (p.1,v),?_,⟨⟨_,_,(heap_set hb).1,?_⟩,fun q hq=>?_⟩,grow _,by simp,fun q hq=>?_,fun q hq=>?_,⟨(p.1,v),List.mem_set hj _,h4⟩⟩
  ·simp[Instr.mapUpdate,run_underlying Tryz.underlying262,MapKept.run_getObj_map hb,nL,nM,h1,MapKept.run_setObj_map _ hb,hek,hst]
  ·apply List.ext_getElem?;intro i;have hi:=congrArg (fun l=>l[i]?) hm;simp only[List.getElem?_map,Array.getElem?_toList] at hi;simp only[List.getElem?_map,Array.getElem?_toList,Array.getElem?_modify,List.getElem?_set];by_cases hij:j=i
   ·subst hij;obtain⟨e,he⟩:∃ e,es[j]?=some e:=⟨_,Array.getElem?_eq_getElem (by rw[hlen];exact hj)⟩
    simp[hj,he,hkey]
   ·simp[hij,hi]
  ·rcases List.mem_or_eq_of_mem_set hq with hq | rfl
   ·exact⟨h.tree (h.own q hq).1 (grow _),(h.own q hq).2⟩
   ·exact⟨h.tree (h.own p (gM h2)).1 (grow _),(h.own p (gM h2)).2⟩
  ·rcases List.mem_or_eq_of_mem_set hq with hq | rfl
   ·exact .inl ⟨q,hq,rfl⟩
   ·exact .inr ⟨h4,rfl⟩
  ·obtain⟨i,hi⟩:=List.getElem?_of_mem hq;by_cases hij:j=i
   ·subst hij;rw[h2] at hi;injection hi with hi;subst hi;exact⟨(p.1,v),List.mem_set hj _,rfl⟩
   ·exact⟨q,gM (i:=i) (by rw[List.getElem?_set_ne hij];exact hi),rfl⟩
theorem rW (f:an->Nat):∀ (m:Nat)(l:List (an×Nat)),(∀ i,i<m->∃ p∈l,f p.1=i)->m<=l.length
 | 0,_,_=>z0
 | m+1,l,h=>by
  obtain⟨p,hp,hf⟩:=h m (by omega);have h1:=rW f m (l.filter fun q=>decide (f q.1≠m)) (fun i hi=>by
   obtain⟨q,hq,hfq⟩:=h i (by omega);exact⟨q,List.mem_filter.2 ⟨hq,by simp;omega⟩,hfq⟩)
  have h2:(l.filter fun q=>decide (f q.1≠m)).length<l.length:=List.length_filter_lt_length_iff_exists.2 ⟨p,hp,by simp[hf]⟩;omega
end
section
open Go.RowKit Go.Deep
def an.sl (t:an):Value:=.slice t.ka t.kids.length t.kc
inductive eM:an->Prop
 | mk (t:an) (leaf:t.kids=[]->t.op.size=0) (node:t.kids≠[]->t.op.size≠0) (kids:∀ k∈t.kids,eM k):eM t
theorem eM.leaf {t:an}(h:eM t):t.kids=[]->t.op.size=0:=by cases h;assumption
theorem eM.node {t:an}(h:eM t):t.kids≠[]->t.op.size≠0:=by cases h;assumption
theorem eM.kids {t:an}(h:eM t):∀ k∈t.kids,eM k:=by cases h;assumption
theorem gL.shape {t:an}(h:gL t):eM t:=by
 induction h with
 | atom nm aop ver _ _ _ _=>exact .mk _ (fun _=>rfl) (fun h=>absurd rfl h) (by simp[an.kids])
 | node op ka kc kids ho hc hk ih=>
  refine .mk _ (fun e=>?_) (fun _ e=>?_) ih
  ·have h2:=mj hc;simp only[an.kids] at e;rw[e] at h2;simp at h2
  ·simp only[an.op] at e;exact(mo ho).1 (bX op e)
theorem eM.zero:eM mX:=.mk _ (fun _=>rfl) (fun h=>absurd rfl h) (by simp[mX,an.kids])
def Ch (w:World)(row:Option Nat):Prop:=∀ g cs fr,row=some g->w.heap[g]?≠some (.cells cs 170 fr)
theorem Ch.map {ms:List (an×Nat)}(h:fC w b ms):Ch w (some b):=by
 intro g cs fr e h2;injection e with e;subst e;obtain⟨es,clock,hb,_⟩:=h.ex;rw[hb] at h2;simp at h2
theorem Ch.row {v:Value}(h:w.ownsRow lo 168 1 v n xs):Ch w v.ownBlock:=by
 intro g cs fr e h2;rcases h.2 with⟨hv,_⟩ | ⟨g',cap,cur,hv,_,hg,_⟩
 ·rw[hv] at e;simp[Value.ownBlock] at e
 ·rw[hv] at e;simp[Value.ownBlock] at e;subst e;rw[hg] at h2;injection h2 with h2;injection h2 with _ h2 _;exact absurd h2 (by decide)
theorem bT.tame {row:Option Nat}{t:an}(h:bT w lo none t)(ht:Ch w row)(hg:w.grownBy w' row):bT w' lo none t:=by
 induction h with
 | mk t r ne _ ih=>
  refine .mk t (r.kept hg ?_) (fun g _=>by simp) ih;rcases r.2 with⟨hv,_⟩ | ⟨g',cap,cur,hv,_,hg',_⟩
  ·left;rw[hv];rfl
  ·right;rw[hv];intro e;exact ht g' _ _ e.symm hg'
theorem fC.tame {row:Option Nat}{ms:List (an×Nat)}(h:fC w b ms)(ht:Ch w row)(hne:some b≠row)(hg:w.grownBy w' row):fC w' b ms:=by
 obtain⟨es,clock,h1,h2⟩:=h.ex;exact⟨⟨es,clock,(hg.block b h.lt hne).trans h1,h2⟩,fun p hp=>⟨(h.own p hp).1.tame ht hg,(h.own p hp).2⟩⟩
theorem fC.ne_row {size:Nat}{e:TypeId}{ms:List (an×Nat)}{v:Value}(h:fC w b ms)(r:w.ownsRow lo e size v n xs):some b≠v.ownBlock:=by
 intro he;obtain⟨es,clock,h1,h2⟩:=h.ex;rcases r.2 with⟨hv,_⟩ | ⟨g',cap,cur,hv,_,hg,_⟩
 ·rw[hv] at he;simp[Value.ownBlock] at he
 ·rw[hv] at he;simp[Value.ownBlock] at he;subst he;rw[h1] at hg;simp at hg
structure Hi (lo:Nat) (wr:World) (A:OA) (n c:Nat) (xs:List an):Prop where
 len:xs.length=n
 row:wr.ownsRow lo 168 1 (.slice A n c) n (xs.map an.sl)
 own:∀ x∈xs,bT wr 0 none x
 ne:∀ x∈xs,x.kids≠[]
 shape:∀ x∈xs,∀ k∈x.kids,eM k
theorem Hi.nil (lo:Nat)(wr:World):Hi lo wr none 0 0 []:=⟨rfl,World.ownsRow_nil _ _ _ _,by simp,by simp,by simp⟩
theorem Hi.tame {c:Nat}{xs:List an}{row:Option Nat}(h:Hi lo wr A n c xs)(ht:Ch wr row)(hne:(Value.slice A n c).ownBlock=none\/(Value.slice A n c).ownBlock≠row)(hg:wr.grownBy w' row):Hi lo w' A n c xs:=
 ⟨h.len,h.row.kept hg hne,fun x hx=>(h.own x hx).tame ht hg,h.ne,h.shape⟩
theorem Hi.below {c:Nat}{xs:List an}(h:Hi lo wr A n c xs)(hb:Below wr.heap.size wr w'):Hi lo w' A n c xs:=
 ⟨h.len,aL h.row hb,fun x hx=>(h.own x hx).low hb,h.ne,h.shape⟩
theorem Hi.map {c:Nat}{xs:List an}{ms:List (an×Nat)}(h:Hi lo wr A n c xs)(hm:fC wr b ms)(hg:wr.grownBy w' (some b)):Hi lo w' A n c xs:=
 h.tame (.map hm) (.inr (hm.ne_row h.row).symm) hg
def kx (L ys:List an)(ms:List (an×Nat)):Prop:=∀ t∈L,t.kids≠[]->(∃ y∈ys,y.kids=t.kids)/\∃ q∈ms,q.1.kids=t.kids
theorem kx.nil (ys:List an)(ms:List (an×Nat)):kx [] ys ms:=by intro t ht;simp at ht
theorem kx.leaf {L ys:List an}{ms:List (an×Nat)}{t:an}(h:kx L ys ms)(ht:t.kids=[]):kx (L++[t]) ys ms:=by
 intro x hx hk;rcases List.mem_append.1 hx with hx | hx
 ·exact h x hx hk
 ·obtain rfl:=List.mem_singleton.1 hx;exact absurd ht hk
structure Fp (s0:Nat) (wr:World) (mb hb h k:Nat) (A:OA) (n c:Nat) (xs:List an) (B:OA) (m cB:Nat) (ys:List an) (ms hs:List (an×Nat)):Prop where
 lev:Hi 0 wr A n c xs
 old:∀ g,(Value.slice A n c).ownBlock=some g->g<s0
 new:Hi s0 wr B m cB ys
 met:fC wr mb ms
 here:fC wr hb hs
 hne:mb≠hb
 xh:∀ x∈xs,x.ht+k<=h+1
 yh:∀ y∈ys,y.ht+k<=h
 hsy:∀ p∈hs,(∃ y∈ys,y.kids=p.1.kids)/\∃ q∈ms,q.1.kids=p.1.kids
 mok:∀ i,i<k->∃ p∈ms,p.1.ht+i=h
 top:∃ x∈xs,x.ht+k=h+1
theorem Fp.below {c:Nat}{xs:List an}{ys:List an}{ms hs:List (an×Nat)}(d:Fp s0 wr mb hb h k A n c xs B m cB ys ms hs)(b:Below wr.heap.size wr w'):Fp s0 w' mb hb h k A n c xs B m cB ys ms hs:=
 ⟨d.lev.below b,d.old,d.new.below b,d.met.below b,d.here.below b,d.hne,d.xh,d.yh,d.hsy,d.mok,d.top⟩
theorem Fp.hit {c:Nat}{xs:List an}{ys:List an}{ms hs:List (an×Nat)}(d:Fp s0 wr mb hb h k A n c xs B m cB ys ms hs){L:List an}(hl:kx L ys ms){t:an}{p:an×Nat}(hp:p∈hs)(e:p.1.kids=t.kids):kx (L++[t]) ys ms:=by
 intro x hx hk;rcases List.mem_append.1 hx with hx | hx
 ·exact hl x hx hk
 ·obtain rfl:=List.mem_singleton.1 hx;rw[<-e];exact d.hsy p hp
theorem Fp.grow {w1 wb w3:World}{v:Nat}{c:Nat}{xs:List an}{B1:OA}{ys:List an}{ms hs ms' hs':List (an×Nat)}{t:an}
  (d:Fp s0 wr mb hb h k A n c xs B m cB ys ms hs)(ht:bT wr 0 none t)(tk:t.kids≠[])(tsh:∀ x∈t.kids,eM x)(tht:t.ht+k<=h)
  (k1:fC w1 hb hs')(g1:wr.grownBy w1 (some hb))(f1:∀ p∈hs',(∃ q∈hs,q=p)\/p.1.kids=t.kids/\p.2=v)
  (k2:fC w2 mb ms')(g2:w1.grownBy w2 (some mb))(f2:∀ p∈ms,∃ q∈ms',q.1=p.1)(f3:∃ q∈ms',q.1.kids=t.kids)
  (b:Below w2.heap.size w2 wb)(o:w3.ownsRow s0 168 1 (.slice B1 (m+1) c1) (m+1) (ys.map an.sl++[t.sl]))(g3:wb.grownBy w3 (Value.slice B m cB).ownBlock):
  Fp s0 w3 mb hb h k A n c xs B1 (m+1) c1 (ys++[t]) ms' hs':=by
 have m1:fC w1 mb ms:=d.met.tame (.map d.here) (fun e=>d.hne (by injection e)) g1;have t1:=ht.tame (.map d.here) g1;have l1:=d.lev.map d.here g1;have n1:=d.new.map d.here g1;have t2:=t1.tame (.map m1) g2;have l2:=l1.map m1 g2;have n2:=n1.map m1 g2;have h2:fC w2 hb hs':=k1.tame (.map m1) (fun e=>d.hne (by injection e with e;exact e.symm)) g2;have tb:=t2.low b;have lb:=l2.below b;have nb:=n2.below b;have hb':=h2.below b;have mb':=k2.below b;have tm:Ch wb (Value.slice B m cB).ownBlock:=.row nb.row;refine⟨lb.tame tm ?_ g3,d.old,⟨by simp[nb.len],by simpa using o,fun x hx=>?_,fun x hx=>?_,fun x hx=>?_⟩,mb'.tame tm (mb'.ne_row nb.row) g3,hb'.tame tm (hb'.ne_row nb.row) g3,d.hne,d.xh,fun y hy=>?_,fun p hp=>?_,fun i hi=>?_,d.top⟩
 ·cases e:(Value.slice A n c).ownBlock with
  | none=>exact .inl rfl
  | some g=>
   right;intro e2;have:=d.old g e;have:=(nb.row.lt g e2.symm).1;omega
 ·rcases List.mem_append.1 hx with hx | hx
  ·exact(nb.own x hx).tame tm g3
  ·obtain rfl:=List.mem_singleton.1 hx;exact tb.tame tm g3
 ·rcases List.mem_append.1 hx with hx | hx
  ·exact nb.ne x hx
  ·obtain rfl:=List.mem_singleton.1 hx;exact tk
 ·rcases List.mem_append.1 hx with hx | hx
  ·exact nb.shape x hx
  ·obtain rfl:=List.mem_singleton.1 hx;exact tsh
 ·rcases List.mem_append.1 hy with hy | hy
  ·exact d.yh y hy
  ·obtain rfl:=List.mem_singleton.1 hy;exact tht
 ·rcases f1 p hp with⟨q,hq,rfl⟩ | ⟨e,_⟩
  ·obtain⟨⟨y,hy,ey⟩,q2,hq2,eq2⟩:=d.hsy q hq;obtain⟨q3,hq3,e3⟩:=f2 q2 hq2;exact⟨⟨y,by simp[hy],ey⟩,q3,hq3,by rw[e3,eq2]⟩
  ·obtain⟨q3,hq3,e3⟩:=f3;exact⟨⟨t,by simp,e.symm⟩,q3,hq3,by rw[e3,e]⟩
 ·obtain⟨p,hp,e⟩:=d.mok i hi;obtain⟨q,hq,e2⟩:=f2 p hp;exact⟨q,hq,by rw[e2];exact e⟩
theorem kx.grow {L ys:List an}{ms ms':List (an×Nat)}{t:an}(h:kx L ys ms)(f2:∀ p∈ms,∃ q∈ms',q.1=p.1)(f3:∃ q∈ms',q.1.kids=t.kids):kx (L++[t]) (ys++[t]) ms':=by
 intro x hx hk;rcases List.mem_append.1 hx with hx | hx
 ·obtain⟨⟨y,hy,ey⟩,q,hq,eq⟩:=h x hx hk;obtain⟨q3,hq3,e3⟩:=f2 q hq;exact⟨⟨y,by simp[hy],ey⟩,q3,hq3,by rw[e3,eq]⟩
 ·obtain rfl:=List.mem_singleton.1 hx;exact⟨⟨x,by simp,rfl⟩,f3⟩
theorem vg {a b:an}(h:a.kids=b.kids):a.ht=b.ht:=by rw[yv,yv,h]
theorem Fp.next {c:Nat}{xs:List an}{ys:List an}{ms hs:List (an×Nat)}(d:Fp s0 wr mb hb h k A n c xs B m cB ys ms hs)(hs:kx (xs.flatMap an.kids) ys ms)(hm:0<m):
  k<ms.length/\k+1<=h/\(∀ i,i<k+1->∃ p∈ms,p.1.ht+i=h)/\∃ y∈ys,y.ht+(k+1)=h+1:=by
 obtain⟨y,hy⟩:∃ y,y∈ys:=by
  have:=d.new.len;cases ys with
  | nil=>simp at this;omega
  | cons a r=>exact⟨a,by simp⟩
 have y1:=d.yh y hy;have y2:y.ht≠0:=fun e=>d.new.ne y hy (He.1 e);obtain⟨x,hx,xe⟩:=d.top;obtain⟨t,ht,te⟩:=zV (d.lev.ne x hx);rw[<-yv] at te;have tk:t.kids≠[]:=fun e=>by have:=He.2 e;omega
 obtain⟨⟨z,hz,ez⟩,q,hq,eq⟩:=hs t (List.mem_flatMap.2 ⟨x,hx,ht⟩) tk;have ezh:=vg ez;have eqh:=vg eq;have mk:∀ i,i<k+1->∃ p∈ms,p.1.ht+i=h:=by
  intro i hi;rcases(by omega:i<k\/i=k) with hi | rfl
  ·exact d.mok i hi
  ·exact⟨q,hq,by omega⟩
 refine⟨?_,by omega,mk,z,hz,by omega⟩;refine rW (fun t=>h-t.ht) (k+1) ms (fun i hi=>?_);obtain⟨p,hp,e⟩:=mk i hi;exact⟨p,hp,by show h-p.1.ht=i;omega⟩
theorem Sk (k:Nat)(hk:k<6)(x:Nat->BA)(w:World):(Instr.index 250 (.agg #[.string (x 0),.string (x 1),.string (x 2),.string (x 3),.string (x 4),.string (x 5)]) (.int .i64 k)).run Tryz.prog w=.ok (.string (x k)) w:=by
 rcases(by omega:k=0\/k=1\/k=2\/k=3\/k=4\/k=5) with rfl | rfl | rfl | rfl | rfl | rfl<;>kernel_rfl
def JB (x:Nat->BA)(l:LU):Nat->Prop:=fun k=>∀ j,j<k->bl (x j)≠l
theorem vh (k:Nat)(hk:k<6):bl (pq k)=Sw k:=by
 rcases(by omega:k=0\/k=1\/k=2\/k=3\/k=4\/k=5) with rfl | rfl | rfl | rfl | rfl | rfl<;>rfl
theorem JC (hk:k<6)(h:bl (pq k)=l):Fl l=k:=by
 subst h;rcases(by omega:k=0\/k=1\/k=2\/k=3\/k=4\/k=5) with rfl | rfl | rfl | rfl | rfl | rfl<;>rfl
theorem Mv (h:JB pq l 6):Fl l=0:=by
 have h1:=h 1 (by omega);have h2:=h 2 (by omega);have h3:=h 3 (by omega);have h4:=h 4 (by omega);have h5:=h 5 (by omega);rw[vh _ (by omega)] at h1 h2 h3 h4 h5;unfold Fl;rw[if_neg (fun e=>h1 e.symm),if_neg (fun e=>h2 e.symm),if_neg (fun e=>h3 e.symm),if_neg (fun e=>h4 e.symm),if_neg (fun e=>h5 e.symm)]
theorem yC {x:Nat->BA}(h:JB x l k)(hn:bl (x k)≠l):JB x l (k+1):=by
 intro j hj;rcases(by omega:j<k\/j=k) with h1 | rfl
 ·exact h j h1
 ·exact hn
theorem Ci (hk:k<6)(h:bl (xL k)=l):fI l=true:=by
 subst h;rcases(by omega:k=0\/k=1\/k=2\/k=3\/k=4\/k=5) with rfl | rfl | rfl | rfl | rfl | rfl<;>rfl
theorem Ft (h:JB xL l 6):fI l=false:=by
 have h0:=h 0 (by omega);have h1:=h 1 (by omega);have h2:=h 2 (by omega);have h3:=h 3 (by omega);have h4:=h 4 (by omega);have h5:=h 5 (by omega);apply dF;rintro(e | e | e | e | e | e)
 ·exact h0 e.symm
 ·exact h1 e.symm
 ·exact h2 e.symm
 ·exact h3 e.symm
 ·exact h4 e.symm
 ·exact h5 e.symm
theorem xt (s:BA)(w:World)(hG:Gl w):Calls Tryz.prog 241 #[.string s] w fun e w'=>e=.returned (.int .i64 (Fl (bl s)))/\w=w':=by
 have g0:=hG.rsg 0 (by omega);have g1:=hG.rsg 1 (by omega);have g2:=hG.rsg 2 (by omega);have g3:=hG.rsg 3 (by omega);have g4:=hG.rsg 4 (by omega);have g5:=hG.rsg 5 (by omega);clear hG;go_in;go_wp2_with fail;clear g0 g1 g2 g3 g4 g5;go_loop [6] (fun i=>∃ k:Nat,k<=6/\i=.int .i64 k/\Hid (JB pq (bl s) k)) (fun i=>6-(intOf i).toNat)
 case atStart=>exact⟨0,by omega,rfl,fun j hj=>by omega⟩
 case round=>
  obtain⟨k,hk,rfl,HR⟩:=hrel;by_cases hlt:k<6
  ·have hix:=fun W=>Sk k hlt pq W;cases hq:((pq k).toList==s.toList) with
   | true=>
    have E:Hid (Fl (bl s)=k):=JC hlt (by rw[et] at hq;rw[dO hq]);go_wp2;go_ret;exact⟨aI (by rw[E.out]),rfl⟩
   | false=>
    have HN:=ae (yC HR.out (k:=k) (by rw[et] at hq;exact fun e=>of_decide_eq_false hq (dC e)));go_wp2;go_round
    case rel=>exact⟨k+1,by omega,by go_num,HN⟩
    case measure=>simp[intOf];omega
  ·have E:Hid (Fl (bl s)=0):=Mv (by have:=HR.out;rwa [show k=6 by omega] at this);go_wp2;go_ret;exact⟨aI (by rw[E.out];rfl),rfl⟩
theorem vj (s:BA)(w:World)(hG:Gl w):Calls Tryz.prog 243 #[.string s] w fun e w'=>e=.returned (.bool (fI (bl s)))/\w=w':=by
 have g0:=hG.rwd 0 (by omega);have g1:=hG.rwd 1 (by omega);have g2:=hG.rwd 2 (by omega);have g3:=hG.rwd 3 (by omega);have g4:=hG.rwd 4 (by omega);have g5:=hG.rwd 5 (by omega);clear hG;go_in;go_wp2_with fail;clear g0 g1 g2 g3 g4 g5;go_loop [6] (fun i=>∃ k:Nat,k<=6/\i=.int .i64 k/\Hid (JB xL (bl s) k)) (fun i=>6-(intOf i).toNat)
 case atStart=>exact⟨0,by omega,rfl,fun j hj=>by omega⟩
 case round=>
  obtain⟨k,hk,rfl,HR⟩:=hrel;by_cases hlt:k<6
  ·have hix:=fun W=>Sk k hlt xL W;cases hq:((xL k).toList==s.toList) with
   | true=>
    have E:Hid (fI (bl s)=true):=Ci hlt (by rw[et] at hq;rw[dO hq]);go_wp2;go_ret;exact⟨af E.out.symm,rfl⟩
   | false=>
    have HN:=ae (yC HR.out (k:=k) (by rw[et] at hq;exact fun e=>of_decide_eq_false hq (dC e)));go_wp2;go_round
    case rel=>exact⟨k+1,by omega,by go_num,HN⟩
    case measure=>simp[intOf];omega
  ·have E:Hid (fI (bl s)=false):=Ft (by have:=HR.out;rwa [show k=6 by omega] at this);go_wp2;go_ret;exact⟨af E.out.symm,rfl⟩
theorem Fu (n:Nat):bG gt n=decide (2<=n):=by simp[bG,gt,oF,oG,bE,eU,bO]
theorem JD (n:Nat):bG oF n=decide (2<=n):=by simp[bG,gt,oF,oG,bE,eU,bO]
theorem JE (n:Nat):bG oG n=(decide (n=2)||decide (n=3)):=by simp[bG,gt,oF,oG,bE,eU,bO]
theorem xu (n:Nat):bG bE n=(decide (n=2)||decide (n=3)):=by simp[bG,gt,oF,oG,bE,eU,bO]
theorem Cj (n:Nat):bG eU n=decide (n=2):=by simp[bG,gt,oF,oG,bE,eU,bO]
theorem vl (n:Nat):bG bO n=decide (n=2):=by simp[bG,gt,oF,oG,bE,eU,bO]
theorem Ck {op:LU}(h:fI op=false)(n:Nat):bG op n=false:=by
 unfold bG;apply dF;have h1:=of_decide_eq_false h;rintro(⟨h2 | h2,_⟩ | ⟨h2 | h2,_⟩ | ⟨h2 | h2,_⟩)<;>exact h1 (by simp[h2])
theorem vm (op:LU):op=gt\/op=oF\/op=oG\/op=bE\/op=eU\/op=bO\/fI op=false:=by
 cases h:fI op with
 | false=>simp
 | true=>rcases kr.1 h with h | h | h | h | h | h<;>simp[h]
theorem Cl {s:BA}(h:fI (bl s)=false):(s.toList == [97,110,100])=false/\(s.toList == [111,114])=false/\(s.toList == [105,102])=false/\(s.toList == [117,110,108,101,115,115])=false/\(s.toList == [119,105,116,104])=false/\(s.toList == [119,105,116,104,111,117,116])=false:=by
 rw[aj];have h1:=of_decide_eq_false h;refine⟨?_,?_,?_,?_,?_,?_⟩<;>rw[bF]<;>intro e<;>apply h1<;>rw[e]<;>simp[gt,oF,oG,bE,eU,bO]
theorem sR (op:BA)(n:Nat)(w:World)(h:bl op=gt):Calls Tryz.prog 239 #[.string op,.int .i64 n] w fun e w'=>e=.returned (.bool (bG (bl op) n))/\w=w':=by
 have E:op.toList=[97,110,100]:=by rw[aj];exact h
 have R:Hid (bG (bl op) n=decide (2<=n)):=by show _=_;rw[h];exact Fu n
 clear h;go_in;go_wp2;go_ret;exact⟨af (by rw[R.out,bI];simp;omega),rfl⟩
theorem vo (op:BA)(n:Nat)(w:World)(h:bl op=oF):Calls Tryz.prog 239 #[.string op,.int .i64 n] w fun e w'=>e=.returned (.bool (bG (bl op) n))/\w=w':=by
 have E:op.toList=[111,114]:=by rw[aj];exact h
 have R:Hid (bG (bl op) n=decide (2<=n)):=by show _=_;rw[h];exact JD n
 clear h;go_in;go_wp2;go_ret;exact⟨af (by rw[R.out,bI];simp;omega),rfl⟩
theorem vq (op:BA)(n:Nat)(w:World)(h:bl op=oG):Calls Tryz.prog 239 #[.string op,.int .i64 n] w fun e w'=>e=.returned (.bool (bG (bl op) n))/\w=w':=by
 have E:op.toList=[105,102]:=by rw[aj];exact h
 have R:Hid (bG (bl op) n=(decide (n=2)||decide (n=3))):=by show _=_;rw[h];exact JE n
 clear h;by_cases n2:n=2
 ·subst n2;go_in;go_wp2;go_ret;exact⟨af (by rw[R.out];rfl),rfl⟩
 ·have q2:((n:Int)==2)=false:=by simp;omega
  by_cases n3:n=3
  ·subst n3;go_in;go_wp2;go_ret;exact⟨af (by rw[R.out];rfl),rfl⟩
  ·have q3:((n:Int)==3)=false:=by simp;omega
   go_in;go_wp2;go_ret;exact⟨af (by rw[R.out];simp[n2,n3]),rfl⟩
theorem oZ (op:BA)(n:Nat)(w:World)(h:bl op=bE):Calls Tryz.prog 239 #[.string op,.int .i64 n] w fun e w'=>e=.returned (.bool (bG (bl op) n))/\w=w':=by
 have E:op.toList=[117,110,108,101,115,115]:=by rw[aj];exact h
 have R:Hid (bG (bl op) n=(decide (n=2)||decide (n=3))):=by show _=_;rw[h];exact xu n
 clear h;by_cases n2:n=2
 ·subst n2;go_in;go_wp2;go_ret;exact⟨af (by rw[R.out];rfl),rfl⟩
 ·have q2:((n:Int)==2)=false:=by simp;omega
  by_cases n3:n=3
  ·subst n3;go_in;go_wp2;go_ret;exact⟨af (by rw[R.out];rfl),rfl⟩
  ·have q3:((n:Int)==3)=false:=by simp;omega
   go_in;go_wp2;go_ret;exact⟨af (by rw[R.out];simp[n2,n3]),rfl⟩
theorem re (op:BA)(n:Nat)(w:World)(h:bl op=eU):Calls Tryz.prog 239 #[.string op,.int .i64 n] w fun e w'=>e=.returned (.bool (bG (bl op) n))/\w=w':=by
 have E:op.toList=[119,105,116,104]:=by rw[aj];exact h
 have R:Hid (bG (bl op) n=decide (n=2)):=by show _=_;rw[h];exact Cj n
 clear h;go_in;go_wp2;go_ret;exact⟨af (by rw[R.out];rw[bI];simp;omega),rfl⟩
theorem nZ (op:BA)(n:Nat)(w:World)(h:bl op=bO):Calls Tryz.prog 239 #[.string op,.int .i64 n] w fun e w'=>e=.returned (.bool (bG (bl op) n))/\w=w':=by
 have E:op.toList=[119,105,116,104,111,117,116]:=by rw[aj];exact h
 have R:Hid (bG (bl op) n=decide (n=2)):=by show _=_;rw[h];exact vl n
 clear h;go_in;go_wp2;go_ret;exact⟨af (by rw[R.out];rw[bI];simp;omega),rfl⟩
theorem rX (op:BA)(n:Nat)(w:World):Calls Tryz.prog 239 #[.string op,.int .i64 n] w fun e w'=>e=.returned (.bool (bG (bl op) n))/\w=w':=by
 rcases vm (bl op) with h | h | h | h | h | h | h
 ·exact sR op n w h
 ·exact vo op n w h
 ·exact vq op n w h
 ·exact oZ op n w h
 ·exact re op n w h
 ·exact nZ op n w h
 ·obtain⟨h1,h2,h3,h4,h5,h6⟩:=Cl h;have R:Hid (bG (bl op) n=false):=Ck h n;clear h;go_in;go_wp2;go_ret;exact⟨af R.out.symm,rfl⟩
theorem Cm (hn:n≠1)(p:LU):aM gt n p=decide (p=gt):=by
 unfold aM;rw[if_neg hn];by_cases hp:p=gt
 ·subst hp;simp[gt,oF,oG,bE,eU,bO]
 ·rw[dF hp];apply dF;rintro(⟨_,h⟩ | ⟨h,_⟩)
  ·exact hp h
  ·revert h;simp[gt,oF,oG,bE]
theorem Fv (hn:n≠1)(p:LU):aM oF n p=decide (p=oF):=by
 unfold aM;rw[if_neg hn];by_cases hp:p=oF
 ·subst hp;simp[gt,oF,oG,bE,eU,bO]
 ·rw[dF hp];apply dF;rintro(⟨_,h⟩ | ⟨h,_⟩)
  ·exact hp h
  ·revert h;simp[gt,oF,oG,bE]
theorem Fw (hn:n≠1)(p:LU):aM oG n p=(decide (n=2)&&decide (p=rV)):=by
 unfold aM;rw[if_neg hn];simp[gt,oF,oG,bE,eU,bO]
theorem vr (hn:n≠1)(p:LU):aM bE n p=(decide (n=2)&&decide (p=rV)):=by
 unfold aM;rw[if_neg hn];simp[gt,oF,oG,bE,eU,bO]
theorem zZ (hn:n≠1)(p:LU):aM eU n p=false:=by
 unfold aM;rw[if_neg hn];simp[gt,oF,oG,bE,eU,bO]
theorem sS (hn:n≠1)(p:LU):aM bO n p=false:=by
 unfold aM;rw[if_neg hn];simp[gt,oF,oG,bE,eU,bO]
theorem Aa {op:LU}(h:fI op=false)(hn:n≠1)(p:LU):aM op n p=false:=by
 unfold aM;rw[if_neg hn];apply dF;have h1:=of_decide_eq_false h;rintro(⟨h2 | h2,_⟩ | ⟨h2 | h2,_⟩)<;>exact h1 (by simp[h2])
theorem rg (op:BA)(n:Nat)(p:BA)(w:World)(h:bl op=gt)(hn:n≠1):Calls Tryz.prog 240 #[.string op,.int .i64 n,.string p] w fun e w'=>e=.returned (.bool (aM (bl op) n (bl p)))/\w=w':=by
 have E:op.toList=[97,110,100]:=by rw[aj];exact h
 have R:Hid (aM (bl op) n (bl p)=decide (bl p=gt)):=by show _=_;rw[h];exact Cm hn _
 have q1:((n:Int)==1)=false:=by simp;omega
 clear h;cases hp:(p.toList==([97,110,100]:LU)) with
 | true=>
  have F:p.toList=[97,110,100]:=by simpa using hp
  have R2:Hid (aM (bl op) n (bl p)=true):=by show _=_;rw[R.out,<-aj,F];rfl
  clear hp;go_in;go_wp2;go_ret;exact⟨af R2.out.symm,rfl⟩
 | false=>
  have R2:Hid (aM (bl op) n (bl p)=false):=by show _=_;rw[R.out,<-aj];exact dF (by rw[bF] at hp;exact hp)
  go_in;go_wp2;go_ret;exact⟨af R2.out.symm,rfl⟩
theorem sT (op:BA)(n:Nat)(p:BA)(w:World)(h:bl op=oF)(hn:n≠1):Calls Tryz.prog 240 #[.string op,.int .i64 n,.string p] w fun e w'=>e=.returned (.bool (aM (bl op) n (bl p)))/\w=w':=by
 have E:op.toList=[111,114]:=by rw[aj];exact h
 have R:Hid (aM (bl op) n (bl p)=decide (bl p=oF)):=by show _=_;rw[h];exact Fv hn _
 have q1:((n:Int)==1)=false:=by simp;omega
 clear h;cases hp:(p.toList==([111,114]:LU)) with
 | true=>
  have F:p.toList=[111,114]:=by simpa using hp
  have R2:Hid (aM (bl op) n (bl p)=true):=by show _=_;rw[R.out,<-aj,F];rfl
  clear hp;go_in;go_wp2;go_ret;exact⟨af R2.out.symm,rfl⟩
 | false=>
  have R2:Hid (aM (bl op) n (bl p)=false):=by show _=_;rw[R.out,<-aj];exact dF (by rw[bF] at hp;exact hp)
  go_in;go_wp2;go_ret;exact⟨af R2.out.symm,rfl⟩
theorem sU (op:BA)(n:Nat)(p:BA)(w:World)(h:bl op=oG)(hn:n≠1):Calls Tryz.prog 240 #[.string op,.int .i64 n,.string p] w fun e w'=>e=.returned (.bool (aM (bl op) n (bl p)))/\w=w':=by
 have E:op.toList=[105,102]:=by rw[aj];exact h
 have R:Hid (aM (bl op) n (bl p)=(decide (n=2)&&decide (bl p=rV))):=by show _=_;rw[h];exact Fw hn _
 have q1:((n:Int)==1)=false:=by simp;omega
 clear h;by_cases n2:n=2
 ·subst n2;cases hp:(p.toList==([101,108,115,101]:LU)) with
  | true=>
   have F:p.toList=[101,108,115,101]:=by simpa using hp
   have R2:Hid (aM (bl op) 2 (bl p)=true):=by show _=_;rw[R.out,<-aj,F];rfl
   clear hp;go_in;go_wp2;go_ret;exact⟨af R2.out.symm,rfl⟩
  | false=>
   have R2:Hid (aM (bl op) 2 (bl p)=false):=by show _=_;rw[R.out,<-aj];simp only[decide_true,Bool.true_and];exact dF (by rw[bF] at hp;exact hp)
   go_in;go_wp2;go_ret;exact⟨af R2.out.symm,rfl⟩
 ·have q2:((n:Int)==2)=false:=by simp;omega
  have R2:Hid (aM (bl op) n (bl p)=false):=by show _=_;rw[R.out,dF n2];rfl
  go_in;go_wp2;go_ret;exact⟨af R2.out.symm,rfl⟩
theorem oa (op:BA)(n:Nat)(p:BA)(w:World)(h:bl op=bE)(hn:n≠1):Calls Tryz.prog 240 #[.string op,.int .i64 n,.string p] w fun e w'=>e=.returned (.bool (aM (bl op) n (bl p)))/\w=w':=by
 have E:op.toList=[117,110,108,101,115,115]:=by rw[aj];exact h
 have R:Hid (aM (bl op) n (bl p)=(decide (n=2)&&decide (bl p=rV))):=by show _=_;rw[h];exact vr hn _
 have q1:((n:Int)==1)=false:=by simp;omega
 clear h;by_cases n2:n=2
 ·subst n2;cases hp:(p.toList==([101,108,115,101]:LU)) with
  | true=>
   have F:p.toList=[101,108,115,101]:=by simpa using hp
   have R2:Hid (aM (bl op) 2 (bl p)=true):=by show _=_;rw[R.out,<-aj,F];rfl
   clear hp;go_in;go_wp2;go_ret;exact⟨af R2.out.symm,rfl⟩
  | false=>
   have R2:Hid (aM (bl op) 2 (bl p)=false):=by show _=_;rw[R.out,<-aj];simp only[decide_true,Bool.true_and];exact dF (by rw[bF] at hp;exact hp)
   go_in;go_wp2;go_ret;exact⟨af R2.out.symm,rfl⟩
 ·have q2:((n:Int)==2)=false:=by simp;omega
  have R2:Hid (aM (bl op) n (bl p)=false):=by show _=_;rw[R.out,dF n2];rfl
  go_in;go_wp2;go_ret;exact⟨af R2.out.symm,rfl⟩
theorem qd (op:BA)(n:Nat)(p:BA)(w:World)(h:bl op=eU)(hn:n≠1):Calls Tryz.prog 240 #[.string op,.int .i64 n,.string p] w fun e w'=>e=.returned (.bool (aM (bl op) n (bl p)))/\w=w':=by
 have E:op.toList=[119,105,116,104]:=by rw[aj];exact h
 have R:Hid (aM (bl op) n (bl p)=false):=by show _=_;rw[h];exact zZ hn _
 have q1:((n:Int)==1)=false:=by simp;omega
 clear h;go_in;go_wp2;go_ret;exact⟨af R.out.symm,rfl⟩
theorem nf (op:BA)(n:Nat)(p:BA)(w:World)(h:bl op=bO)(hn:n≠1):Calls Tryz.prog 240 #[.string op,.int .i64 n,.string p] w fun e w'=>e=.returned (.bool (aM (bl op) n (bl p)))/\w=w':=by
 have E:op.toList=[119,105,116,104,111,117,116]:=by rw[aj];exact h
 have R:Hid (aM (bl op) n (bl p)=false):=by show _=_;rw[h];exact sS hn _
 have q1:((n:Int)==1)=false:=by simp;omega
 clear h;go_in;go_wp2;go_ret;exact⟨af R.out.symm,rfl⟩
theorem Ab (op:BA)(n:Nat)(p:BA)(w:World)(hG:Gl w):Calls Tryz.prog 240 #[.string op,.int .i64 n,.string p] w fun e w'=>e=.returned (.bool (aM (bl op) n (bl p)))/\w=w':=by
 by_cases n1:n=1
 ·subst n1;have R:Hid (aM (bl op) 1 (bl p)=fI (bl p)):=rfl;have hK:=vj p w hG;clear hG;go_in;go_wp2_with fail;refine hK.mono ?_;rintro e w' ⟨rfl,rfl⟩;go_wp2;go_ret;exact⟨af R.out.symm,rfl⟩
 rcases vm (bl op) with h | h | h | h | h | h | h
 ·exact rg op n p w h n1
 ·exact sT op n p w h n1
 ·exact sU op n p w h n1
 ·exact oa op n p w h n1
 ·exact qd op n p w h n1
 ·exact nf op n p w h n1
 ·obtain⟨h1,h2,h3,h4,h5,h6⟩:=Cl h;have R:Hid (aM (bl op) n (bl p)=false):=Aa h n1 _;have q1:((n:Int)==1)=false:=by simp;omega
  clear h hG n1;go_in;go_wp2;go_ret;exact⟨af R.out.symm,rfl⟩
theorem qe (op:LU):∀ (a:List qD)(i:Nat)(b:List qD),ii op i (a++b)=ii op i a++ii op (i+a.length) b
 | [],i,b=>by simp[ii]
 | x::r,i,b=>by
  have h:=qe op r (i+1) b;simp only[List.cons_append,ii,h,List.length_cons];rw[show i+1+r.length=i+(r.length+1) by omega];simp[List.append_assoc]
theorem Co (a b:List an):mE (a++b)=mE a++mE b:=by rw[jH,jH,jH,List.map_append]
theorem Cp (a:List an):(mE a).length=a.length:=by rw[jH];simp
theorem Mw (op:LU)(k:an):ii op 0 (mE [k])=eV k.pl:=by simp[mE,ii]
theorem JF (op:LU)(ks:List an)(i:Nat)(t:an)(ht:ks[i+1]?=some t):ii op 0 (mE (ks.take (i+2)))=ii op 0 (mE (ks.take (i+1)))++([32]++OZ op (i+1)++[32]++eV t.pl):=by
 obtain⟨hk,hg⟩:=gS ht;rw[show i+2=i+1+1 from rfl,tS hk,hg,Co,qe,Cp,List.length_take,Nat.min_eq_left (by omega)];simp[mE,ii]
theorem Cq (op:LU)(i:Nat):OZ op (i+1)=if 0<i/\(op=oG\/op=bE) then rV else op:=by
 unfold OZ;congr 1;apply propext;constructor<;>rintro⟨h1,h2⟩<;>exact⟨by omega,h2⟩
def SJ (T:an):Prop:=∀ w:World,Gl w->bT w 0 none T->T.cnt<=64->Calls Tryz.prog 179 #[T.val] w fun e w'=>e=.returned (.string (bU (eV T.pl)))/\Below w.heap.size w w'
theorem JG {T:an}(h:gL T):SJ T:=by
 induction h with
 | atom nm aop ver hn ho hv0 hv=>
  intro w hG _ _;have HG:=ae hG;have hnz:=(nK hn).2;have HV:=ae hv;rw[tx _ _ _ _ _ _ _ rfl];clear hn hv0 hv hG;obtain⟨W1,hW1⟩:∃ W1,w.alloc (.cells #[.string ⟨#[]⟩,.string nm,.int .i64 aop,.string ver,.slice none 0 0] 170)=W1:=⟨_,rfl⟩
  have B1:Hid (Below w.heap.size w W1):=by rw[<-hW1];exact bR.alloc lr _
  have K1:Hid (ax W1 w.heap.size [.string ⟨#[]⟩,.string nm,.int .i64 aop,.string ver,.slice none 0 0]):=by rw[<-hW1];exact ax.new w [.string ⟨#[]⟩,.string nm,.int .i64 aop,.string ver,.slice none 0 0] _
  have k0:=K1.out.cell 0 _ rfl;have k1:=K1.out.cell 1 _ rfl;have k2:=K1.out.cell 2 _ rfl;have k3:=K1.out.cell 3 _ rfl;show Calls Tryz.prog 179 #[.agg #[.string ⟨#[]⟩,.string nm,.int .i64 aop,.string ver,.slice none 0 0]] w _;by_cases a0:aop=0
  ·have q0:((aop:Int)==0)=true:=by simp[a0]
   have E:Hid (bl nm=eV (.atom (bl nm) aop (bl ver))):=by show _=_;simp[eV,a0]
   clear a0;go_in;go_wp2;go_ret;exact⟨by rw[<-xS E.out];rfl,B1.out⟩
  ·have q0:((aop:Int)==0)=false:=by simp;omega
   have hvz:=uZ (HV.out (by omega));have hsg:=(HG.out.below B1.out).rsg aop (by omega);have hsz:(pq aop).size<=2:=by rw[<-ah,vh aop (by omega)];exact Hh _
   have E:Hid (bl (nm++⟨#[32]⟩++pq aop++⟨#[32]⟩++ver)=eV (.atom (bl nm) aop (bl ver))):=by
    show _=_;simp only[cK];unfold eV;rw[if_neg a0,vh aop (by omega)];rfl
   have o2:(aop:Int)<6:=by omega
   have o3:(0:Int)<=(aop:Int):=by omega
   clear a0;go_in;go_wp2;go_quiet (fail);go_wp2;go_ret;exact⟨by rw[<-xS E.out];rfl,am B1.out _⟩
 | node op ka kc kids ho hc hk ih=>
  intro w hG hO hcn;have HG:=ae hG;have HO:=ae hO;have HIH:=ae ih;have HGD:=ae hk;obtain⟨hw,hw7⟩:=mo ho;have HW7:=ae hw7;have hop7:op.size<=7:=by rw[<-ah];exact hw7
  have o0:(op.toList==([]:LU))=false:=by rw[aj,bF];exact hw
  have o2:¬ op.toList=[]:=by rw[aj];exact hw
  have o1:op.toList.isEmpty=false:=by rw[List.isEmpty_eq_false_iff];exact o2
  obtain⟨tl,htl⟩:∃ tl,kids.length=tl:=⟨_,rfl⟩
  have HTL:=ae htl;have ht2:2<=tl:=by have:=mj hc;omega
  have CNE:=ae (gu (t:=.mk op ⟨#[]⟩ 0 ⟨#[]⟩ ka kc kids) (by intro e;simp only[an.kids] at e;rw[e] at htl;simp at htl;omega));have HCN:Hid (cZ kids<=64):=by have h1:=CNE.out;simp only[an.kids] at h1;show _<=_;omega
  have htl9:tl<=64:=by have h1:=ij kids;have:=HCN.out;omega
  have hkc:tl<=kc:=by have:=mV hO.row;simp only[an.kids,an.kc] at this;omega
  have hkm:kc<=9223372036854775807:=by
   rcases hO.row.2 with⟨hv,_⟩ | ⟨g,cap,cur,hv,_,_,_,h5,_⟩
   ·injection hv with _ _ h3;simp only[an.kc] at h3;omega
   ·injection hv with _ _ h3;simp only[an.kc] at h3;simp only[maxLen] at h5;omega
  obtain⟨g,cur,hA,hg,-⟩:=mY hO (by intro e;simp only[an.kids] at e;rw[e] at htl;simp at htl;omega);simp only[an.ka] at hA;subst hA;obtain⟨W1,hW1⟩:∃ W1,w.alloc (.cells #[.string op,.string ⟨#[]⟩,.int .i64 0,.string ⟨#[]⟩,.slice (some ⟨g,0,none⟩) tl kc] 170)=W1:=⟨_,rfl⟩
  have B1:Hid (Below w.heap.size w W1):=by rw[<-hW1];exact bR.alloc lr _
  have K1:Hid (ax W1 w.heap.size [.string op,.string ⟨#[]⟩,.int .i64 0,.string ⟨#[]⟩,.slice (some ⟨g,0,none⟩) tl kc]):=by rw[<-hW1];exact ax.new w [.string op,.string ⟨#[]⟩,.int .i64 0,.string ⟨#[]⟩,.slice (some ⟨g,0,none⟩) tl kc] _
  have k0:=K1.out.cell 0 _ rfl;have k4:=K1.out.cell 4 _ rfl;have O1:Hid (bT W1 0 none (.mk op ⟨#[]⟩ 0 ⟨#[]⟩ (some ⟨g,0,none⟩) kc kids)):=HO.out.low B1.out
  -- the texts are short
  have TS:Hid (∀ t∈kids,(bU (eV t.pl)).size<=12800):=fun t ht=>by
   have h1:=(HGD.out t ht).text;have h2:=kq ht;have:=HCN.out;rw[cA];omega
  have PS:Hid (∀ i,(ii (bl op) 0 (mE (kids.take i))).length<=12800):=fun i=>by
   have h1:=rb (bl op) HW7.out (kids.take i) 0 (fun k hk=>(HGD.out k (List.mem_of_mem_take hk)).text);have h2:=jI kids i;have:=HCN.out;omega
  obtain⟨t0,ht0⟩:∃ t,kids[0]?=some t:=⟨_,gG (by omega)⟩
  have HT0:=ae ht0;have hm0:Hid (t0∈kids):=gM ht0;obtain⟨b',off,hA,he⟩:=O1.out.rd.cell 0 t0 ht0;simp only[an.ka] at hA;injection hA with hA;injection hA with hb ho' _;subst hb ho';have e0:=he 0 _ rfl;have e1:=he 1 _ rfl;have e2:=he 2 _ rfl;have e3:=he 3 _ rfl;have e4:=he 4 _ rfl;simp only[Nat.zero_mul,Nat.add_zero,Nat.zero_add] at e0 e1 e2 e3 e4;have hcall:=HIH.out t0 hm0.out W1 (HG.out.below B1.out) (O1.out.kids t0 hm0.out) (by have h1:=kq hm0.out;have:=HCN.out;omega);have hz0:=TS.out t0 hm0.out;obtain⟨X0,hX0⟩:∃ X0,bU (eV t0.pl)=X0:=⟨_,rfl⟩
  rw[hX0] at hcall hz0;have HX0:Hid (bl X0=eV t0.pl):=by show _=_;rw[<-hX0,fA]
  unfold an.val at hcall;rw[zY _ _ _ _ _ _ _ hw];have hix:=fun W=>aB (T:=168) (E:=170) (sz:=5) (n:=tl) (c:=kc) (k:=0) (A:=some ⟨g,0,none⟩) Tryz.underlying168 rfl Tryz.sizeOf170 rfl (by omega) W;simp only[Nat.zero_mul,Nat.add_zero] at hix;clear ho hc hk ih hG hO hw hw7 htl hcn CNE hg he ht0 hX0;show Calls Tryz.prog 179 #[.agg #[.string op,.string ⟨#[]⟩,.int .i64 0,.string ⟨#[]⟩,.slice (some ⟨g,0,none⟩) kids.length kc]] w _;rw[HTL.out];go_in;go_wp2_with fail;refine hcall.mono ?_;rintro e w2 ⟨rfl,hb⟩;have B2:=ae (aq B1.out hb);have K2:=ae (K1.out.below hb);have O2:=ae (O1.out.low hb);clear hcall hb e0 e1 e2 e3 e4 k0 k4 hix hW1;have k0:=K2.out.cell 0 _ rfl;have k4:=K2.out.cell 4 _ rfl;have S0:Hid (bl (⟨#[40]⟩++X0)=[40]++ii (bl op) 0 (mE (kids.take 1))):=by
   show _=_;obtain⟨hk',hg'⟩:=gS HT0.out;rw[tS hk',hg'];simp only[List.take_zero,List.nil_append];rw[Mw,cK,HX0.out];rfl
  go_wp2_with fail;obtain⟨rl,hrl⟩:∃ rl,tl-1=rl:=⟨_,rfl⟩
  have RL:Hid (kids.length=rl+1):=by have:=HTL.out;show _=_;omega
  rw[hrl];have hrl64:rl<=64:=by omega
  have HSZ:Hid (w.heap.size<w2.heap.size):=K2.out.sz;have hs0:(⟨#[40]⟩++X0:BA).size<=12900:=by rw[<-ah,S0.out,List.length_append];have:=PS.out 1;simp;omega
  clear hrl k0 k4 hkc hkm ht2 htl9 hz0;go_loopw [3,42] (fun sv iv wr=>∃ (i:Nat) (S:BA),sv=.string S/\iv=.int .i64 i/\i<=rl/\S.size<=12900/\Hid (bl S=[40]++ii (bl op) 0 (mE (kids.take (i+1))))/\Hid (Below w.heap.size w wr)/\Hid (ax wr w.heap.size [.string op,.string ⟨#[]⟩,.int .i64 0,.string ⟨#[]⟩,.slice (some ⟨g,0,none⟩) tl kc])) (fun _ iv _=>rl-(intOf iv).toNat)
  case atStart=>exact⟨0,_,rfl,rfl,z0,hs0,S0,B2,K2⟩
  case round=>
   clear hs0 S0 K2;obtain⟨i,S,rfl,rfl,hi,hS,HS,HB,HK⟩:=hrel;by_cases hlt:i<rl
   ·obtain⟨t,ht⟩:∃ t,kids[i+1]?=some t:=⟨_,gG (by rw[RL.out];omega)⟩
    have HT:=ae ht;have htm:Hid (t∈kids):=gM ht;have O3:=HO.out.low HB.out;obtain⟨b',off,hA,he⟩:=O3.rd.cell (i+1) t ht;simp only[an.ka] at hA;injection hA with hA;injection hA with hb ho' _;subst hb ho';have e0:=he 0 _ rfl;have e1:=he 1 _ rfl;have e2:=he 2 _ rfl;have e3:=he 3 _ rfl;have e4:=he 4 _ rfl;have hoff:0+(i+1)*5=5+i*5:=by omega
    rw[hoff] at e0 e1 e2 e3 e4;simp only[Nat.add_zero] at e0;have hix:=fun W=>aB (T:=168) (E:=170) (sz:=5) (n:=rl) (c:=kc-1) (k:=i) (A:=some ⟨g,5,none⟩) Tryz.underlying168 rfl Tryz.sizeOf170 rfl hlt W;obtain⟨W3,hW3⟩:∃ W3,wr.alloc (.cells #[.string t.op,.string t.nm,.int .i64 t.aop,.string t.ver,.slice t.ka t.kids.length t.kc] 170)=W3:=⟨_,rfl⟩
    have B3:Hid (Below wr.heap.size wr W3):=by rw[<-hW3];exact bR.alloc lr _
    have K3:Hid (ax W3 wr.heap.size t.cells):=by rw[<-hW3];exact ax.new wr t.cells _
    have B4:=ae (aq HB.out B3.out);have HK3:=ae (HK.out.below B3.out);have hcall:=HIH.out t htm.out W3 (HG.out.below B4.out) ((O3.low B3.out).kids t htm.out) (by have h1:=kq htm.out;have:=HCN.out;omega);have hz:=TS.out t htm.out;obtain⟨X,hX⟩:∃ X,bU (eV t.pl)=X:=⟨_,rfl⟩
    rw[hX] at hcall hz;have HX:Hid (bl X=eV t.pl):=by show _=_;rw[<-hX,fA]
    unfold an.val at hcall;have a0:=K3.out.cell 0 _ rfl;have a1:=K3.out.cell 1 _ rfl;have a2:=K3.out.cell 2 _ rfl;have a3:=K3.out.cell 3 _ rfl;have a4:=K3.out.cell 4 _ rfl;have b0:=HK3.out.cell 0 _ rfl;clear ht he O3 hX hoff;go_upto_region 10 with(fail)
    clear hW3 e0 e1 e2 e3 e4 hix;obtain⟨bb,hbb⟩:∃ bb:Bool,decide (0<i/\(bl op=oG\/bl op=bE))=bb:=⟨_,rfl⟩
    have HBB:=ae hbb;clear hbb;go_cut [58] (fun v wx=>v=.bool bb/\W3=wx)
    case first=>
     clear hcall;by_cases i0:0<i
     ·have q1:decide ((0:Int)<(i:Int))=true:=dT (by omega);have q2:decide (0<i)=true:=dT i0;by_cases w1:bl op=oG
      ·have F1:op.toList=[105,102]:=by rw[aj];exact w1
       have E2:Hid (bb=true):=by show _=_;rw[<-HBB.out];exact dT ⟨i0,.inl w1⟩
       clear w1 o0 o1 o2;go_wp2;go_meet;exact⟨by rw[E2.out],rfl⟩
      ·have F1:(op.toList==([105,102]:LU))=false:=by rw[aj,bF];exact w1
       by_cases w2:bl op=bE
       ·have F2:op.toList=[117,110,108,101,115,115]:=by rw[aj];exact w2
        have E2:Hid (bb=true):=by show _=_;rw[<-HBB.out];exact dT ⟨i0,.inr w2⟩
        clear w1 w2 o0 o1 o2 F1;go_wp2;go_meet;exact⟨by rw[E2.out],rfl⟩
       ·have F2:(op.toList==([117,110,108,101,115,115]:LU))=false:=by rw[aj,bF];exact w2
        have E2:Hid (bb=false):=by show _=_;rw[<-HBB.out];exact dF (by rintro⟨_,h | h⟩<;>contradiction)
        clear w1 w2 o0 o1 o2;go_wp2;go_meet;exact⟨by rw[E2.out],rfl⟩
     ·have q1:decide ((0:Int)<(i:Int))=false:=dF (by omega);have q2:decide (0<i)=false:=dF i0;have E2:Hid (bb=false):=by show _=_;rw[<-HBB.out];exact dF (fun h=>i0 h.1)
      go_wp2;go_meet;exact⟨by rw[E2.out],rfl⟩
    case rest=>
    obtain⟨rfl,rfl⟩:=hcut;go_upto_if 58 with(fail)
    go_cut [6] (fun v wx=>∃ Wd:BA,v=.string Wd/\Wd.size<=7/\Hid (bl Wd=OZ (bl op) (i+1))/\W3=wx)
    case first=>
     cases bb with
     | true=>
      have E:Hid (bl ⟨#[101,108,115,101]⟩=OZ (bl op) (i+1)):=by show _=_;rw[Cq,if_pos (dO HBB.out)];rfl
      go_wp2;go_meet;exact⟨_,rfl,by decide,E,rfl⟩
     | false=>
      have E:Hid (bl op=OZ (bl op) (i+1)):=by show _=_;rw[Cq,if_neg (of_decide_eq_false HBB.out)]
      go_wp2;go_meet;exact⟨_,rfl,hop7,E,rfl⟩
    case rest=>
    obtain⟨Wd,rfl,hWd,EW,rfl⟩:=hcut;have SN:Hid (bl (S++(⟨#[32]⟩++Wd++⟨#[32]⟩++X))=[40]++ii (bl op) 0 (mE (kids.take (i+2)))):=by
     show _=_;rw[JF _ _ _ _ HT.out];simp only[cK];rw[HS.out,EW.out,HX.out];simp[List.append_assoc];rfl
    have hsn:(S++(⟨#[32]⟩++Wd++⟨#[32]⟩++X):BA).size<=12900:=by rw[<-ah,SN.out,List.length_append];have:=PS.out (i+2);simp;omega
    have HSN:Hid ((S++(⟨#[32]⟩++Wd++⟨#[32]⟩++X):BA).size<=12900):=hsn;clear hsn;have a0:=K3.out.cell 0 _ rfl;have a1:=K3.out.cell 1 _ rfl;have a2:=K3.out.cell 2 _ rfl;have a3:=K3.out.cell 3 _ rfl;have a4:=K3.out.cell 4 _ rfl;go_wp2_with fail;refine hcall.mono ?_;rintro e w4 ⟨rfl,hb⟩;have B5:=ae (aq B4.out hb);have HK5:=ae (HK3.out.below hb);clear hcall hb a0 a1 a2 a3 a4 b0;go_wp2;go_roundw
    case rel=>exact⟨i+1,_,rfl,by go_num,by omega,HSN.out,SN,B5,HK5⟩
    case measure=>simp[intOf];omega
   ·have E:Hid (bl (S++⟨#[41]⟩)=eV (.node (bl op) (mE kids))):=by
     have h1:=HS.out;rw[tL (by rw[RL.out];omega)] at h1;show _=_;rw[cK,h1];rfl
    go_wp2;go_ret;exact⟨by rw[<-xS E.out];rfl,HB.out⟩
structure PR (w:World) (a hi:Nat) (l:LU) (n m:Nat):Prop where
 blk:∃ (b off c f:Nat) (xs:List yx),ax w a [.slice (some ⟨b,off,none⟩) m c,.int .i64 n]/\Rd w 2 (some ⟨b,off,none⟩) m (xs.flatMap yx.cells)/\xs.length=m/\xs.map (fun x=>bl x.text)=eW (f+1) l/\l.length<=f/\b≠a/\b<hi/\m<=c/\c<=maxLen/\∀ x∈xs,x.text.size<=4294967280
 lt:a<hi
 hz:hi<=w.heap.size
structure SL (w:World) (a b off m c n:Nat) (T:BA) (p:Nat):Prop where
 c0:w.cell? ⟨a,0,none⟩=some (.slice (some ⟨b,off,none⟩) m c)
 c1:w.cell? ⟨a,1,none⟩=some (.int .i64 n)
 f0:w.frozen? ⟨a,0,none⟩=false
 f1:w.frozen? ⟨a,1,none⟩=false
 t0:w.cell? ⟨b,off,none⟩=some (.string T)
 t1:w.cell? ⟨b,off+1,none⟩=some (.int .i64 p)
 ne:b≠a
 m1:1<=m
 mc:m<=c
 cz:c<=maxLen
 tz:T.size<=4294967280
theorem PR.cells (h:PR w a hi l n m):∃ b off c T p,SL w a b off m c n T p/\bl T=bd l/\(bd l≠[]->2<=m/\PR (w.setCell ⟨a,0,none⟩ (.slice (some ⟨b,off+2,none⟩) ((m-1:Nat)) ((c-1:Nat)))) a hi (bw l) n (m-1)):=by
 obtain⟨b,off,c,f,xs,k,hr,hm,hx,hf,hne,hbh,hmc,hcz,hz⟩:=h.blk;obtain⟨r,h1,h2⟩:=oY f l;rw[h1] at hx;cases xs with
 | nil=>simp at hx
 | cons x xs=>
  simp only[List.map_cons,List.cons.injEq] at hx;obtain⟨hx0,hx1⟩:=hx;have hm1:0<m:=by rw[<-hm];simp
  obtain⟨b',off',e,hc⟩:=hr.2 hm1;injection e with e;injection e with eb eo _;subst eb eo;have u0:=hc 0 (.string x.text) rfl;have u1:=hc 1 (.int .i64 x.at_) rfl;refine⟨b,off,c,x.text,x.at_,⟨k.cell 0 _ rfl,k.cell 1 _ rfl,k.free 0 (by simp),k.free 1 (by simp),u0,u1,hne,hm1,hmc,hcz,hz x (by simp)⟩,hx0,fun hl=>?_⟩;have hr2:=h2 hl;have hf2:∃ f',f=f'+1:=⟨f-1,by have:=kw hl;omega⟩
  obtain⟨f',rfl⟩:=hf2;obtain⟨r',h3,_⟩:=oY f' (bw l);have hm2:2<=m:=by
   rw[<-hm,List.length_cons];have:xs.length=r.length:=by rw[<-hx1,List.length_map]
   rw[hr2,h3] at this;simp at this;omega
  refine⟨hm2,⟨b,off+2,c-1,f',xs,k.set 0 (by simp) _,?_,?_,?_,?_,hne,hbh,by omega,by omega,fun y hy=>hz y (by simp[hy])⟩,h.lt,by simpa using h.hz⟩
  ·have hk:∀ p:Addr,p.block=b->(w.setCell ⟨a,0,none⟩ (.slice (some ⟨b,off+2,none⟩) (m-1) (c-1))).cell? p=w.cell? p:=fun p hp=>World.cell?_setCell_other _ _ _ _ (by intro h;apply hne;rw[<-hp,<-h]);refine⟨?_,fun _=>⟨b,off+2,rfl,fun j u hu=>?_⟩⟩
   ·have:=hr.1;rw[List.flatMap_cons,List.length_append,Pa] at this;omega
   ·rw[hk _ rfl];have:=hc (j+2) u (by rw[List.flatMap_cons,List.getElem?_append_right (by simp[yx.cells])];simpa [yx.cells] using hu);rw[show off+2+j=off+(j+2) by omega];exact this
  ·rw[<-hm];simp
  ·rw[hx1,hr2]
  ·have:=kw hl;omega
theorem PR.grown {row:Option Nat}(h:PR w a hi l n m)(hg:w.grownBy w' row)(hne:∀ j,row=some j->hi<=j):PR w' a hi l n m:=by
 obtain⟨b,off,c,f,xs,k,hr,hm,hx,hf,hba,hbh,h1⟩:=h.blk;have hn:∀ j,j<hi->some j≠row:=fun j hj e=>by have:=hne j e.symm;omega
 refine⟨⟨b,off,c,f,xs,k.grownBy hg (hn a h.lt),?_,hm,hx,hf,hba,hbh,h1⟩,h.lt,Nat.le_trans h.hz hg.size⟩;refine⟨hr.1,fun h0=>?_⟩;obtain⟨b',off',e,hc⟩:=hr.2 h0;injection e with e;injection e with e1 e2 _;subst e1 e2;exact⟨b,off,rfl,fun j u hu=>hg.cell (hc j u hu) (hn b hbh)⟩
theorem PR.below (h:PR w a hi l n m)(hb:Below w.heap.size w w'):PR w' a hi l n m:=h.grown (dW hb none) (by simp)
theorem PR.sz (h:PR w a hi l n m):a<w.heap.size:=Nat.lt_of_lt_of_le h.lt h.hz
theorem PR.alloc (h:PR w a hi l n m)(o:Obj):PR (w.alloc o) a hi l n m:=h.below (bR.alloc lr o)
theorem PR.far {j:Nat}(h:PR w a hi l n m)(hb:hi<=b)(v:Value):PR (w.setCell ⟨b,j,none⟩ v) a hi l n m:=h.grown (aW v) (fun j e=>by injection e with e;omega)
theorem PR.count (h:PR w a hi l n m)(v:Nat):PR (w.setCell ⟨a,1,none⟩ (.int .i64 v)) a hi l v m:=by
 obtain⟨b,off,c,f,xs,k,hr,hm,hx,hf,hne,h1⟩:=h.blk;refine⟨⟨b,off,c,f,xs,k.set 1 (by simp) _,?_,hm,hx,hf,hne,h1⟩,h.lt,by simpa using h.hz⟩;refine⟨hr.1,fun h0=>?_⟩;obtain⟨b',off',e,hc⟩:=hr.2 h0;refine⟨b',off',e,fun j u hu=>?_⟩;rw[World.cell?_setCell_other (h:=by injection e with e;injection e with e1;intro h;apply hne;rw[e1];injection h with h;exact h.symm)];exact hc j u hu
theorem eO (t:BA)(q c:Int)(w:World):Calls Tryz.prog 177 #[.agg #[.string t,.int .i64 q],.int .i64 c] w fun e w'=>e=.returned (fj ⟨#[]⟩ q c)/\Below w.heap.size w w':=by
 go_in;go_wp2_with fail;refine bodyPost_ret (v:=fj ⟨#[]⟩ q c) (by simp[results,Tryz.results177,go_sem,fj]) rfl ?_;refine⟨rfl,?_⟩
 repeat' refine ai ?_ (by omega) _
 exact(bR.alloc lr _).alloc (by simp) _
theorem iO (a hi n m:Nat)(l:LU)(w:World)(h:PR w a hi l n m)(hl:bd l≠[]):Calls Tryz.prog 211 #[.pointer (some ⟨a,0,none⟩)] w fun e w'=>e=.returned (.tuple #[])/\PR w' a hi (bw l) n (m-1)/\w.grownBy w' (some a)/\2<=m:=by
 obtain⟨b,off,c,T,p,k,hT,h2⟩:=h.cells;obtain⟨h2,h3⟩:=h2 hl;have HR:=ae h3;obtain⟨c0,c1,f0,f1,t0,t1,ne,m1,mc,cz,tz⟩:=k;simp only[maxLen] at cz;clear h3 h hl hT;go_in;go_wp2;go_end0;exact⟨rfl,HR.out,aW _,h2⟩
abbrev kY (W:World) (s:Nat) (v0 v1 v2 v3 v4 u0 u1 u2:Value):World:=
 (((((((W.setCell ⟨s,0,none⟩ v0).setCell ⟨s,1,none⟩ v1).setCell ⟨s,2,none⟩ v2).setCell ⟨s,3,none⟩ v3).setCell ⟨s,4,none⟩ v4).setCell ⟨s+1,0,none⟩ u0).setCell ⟨s+1,1,none⟩ u1).setCell ⟨s+1,2,none⟩ u2
theorem cH (h:w.grownBy W (some a))(hs:w.heap.size<=s)(v0 v1 v2 v3 v4 u0 u1 u2:Value):w.grownBy (kY W s v0 v1 v2 v3 v4 u0 u1 u2) (some a):=by
 unfold kY
 repeat' refine ap ?_ (.inr (by simp only;omega)) _
 exact h
theorem tA (h:PR W a hi l n m)(hs:hi<=s)(v0 v1 v2 v3 v4 u0 u1 u2:Value):PR (kY W s v0 v1 v2 v3 v4 u0 u1 u2) a hi l n m:=by
 unfold kY
 repeat' refine PR.far ?_ (by omega) _
 exact h
theorem vu {T:an}(h:bT W lo bad T)(hs:s+1<lo)(v0 v1 v2 v3 v4 u0 u1 u2:Value):bT (kY W s v0 v1 v2 v3 v4 u0 u1 u2) lo bad T:=by
 unfold kY
 repeat' refine bT.kept ?_ (by omega) (aW _)
 exact h
structure yD (W:World) (s:Nat):Prop where
 b0:ax W s [.string ⟨#[]⟩,.string ⟨#[]⟩,.int .i64 0,.string ⟨#[]⟩,.slice none 0 0]
 b1:ax W (s+1) [.string ⟨#[]⟩,.int .i64 0,.int .i64 0]
structure Fy (W:World) (s:Nat):Prop where
 x0:W.cell? ⟨s,0,none⟩=some (.string ⟨#[]⟩)
 x1:W.cell? ⟨s,1,none⟩=some (.string ⟨#[]⟩)
 x2:W.cell? ⟨s,2,none⟩=some (.int .i64 0)
 x3:W.cell? ⟨s,3,none⟩=some (.string ⟨#[]⟩)
 x4:W.cell? ⟨s,4,none⟩=some (.slice none 0 0)
 y0:W.cell? ⟨s+1,0,none⟩=some (.string ⟨#[]⟩)
 y1:W.cell? ⟨s+1,1,none⟩=some (.int .i64 0)
 y2:W.cell? ⟨s+1,2,none⟩=some (.int .i64 0)
 f0:W.frozen? ⟨s,0,none⟩=false
 f1:W.frozen? ⟨s,1,none⟩=false
 f2:W.frozen? ⟨s,2,none⟩=false
 f3:W.frozen? ⟨s,3,none⟩=false
 f4:W.frozen? ⟨s,4,none⟩=false
 g0:W.frozen? ⟨s+1,0,none⟩=false
 g1:W.frozen? ⟨s+1,1,none⟩=false
 g2:W.frozen? ⟨s+1,2,none⟩=false
theorem yD.c (h:yD W s):Fy W s:=
 ⟨h.b0.cell 0 _ rfl,h.b0.cell 1 _ rfl,h.b0.cell 2 _ rfl,h.b0.cell 3 _ rfl,h.b0.cell 4 _ rfl,h.b1.cell 0 _ rfl,h.b1.cell 1 _ rfl,h.b1.cell 2 _ rfl,h.b0.free 0 (by simp),h.b0.free 1 (by simp),h.b0.free 2 (by simp),h.b0.free 3 (by simp),h.b0.free 4 (by simp),h.b1.free 0 (by simp),h.b1.free 1 (by simp),h.b1.free 2 (by simp)⟩
theorem yD.step (h:yD W s)(hg:W.grownBy W' (some a))(hs:a<s):yD W' s:=
 ⟨h.b0.grownBy hg (by simp;omega),h.b1.grownBy hg (by simp;omega)⟩
theorem yD.below (h:yD W s)(hb:Below W.heap.size W W'):yD W' s:=⟨h.b0.below hb,h.b1.below hb⟩
theorem yD.new (w:World)(t t':TypeId):yD ((w.alloc (.cells #[.string ⟨#[]⟩,.string ⟨#[]⟩,.int .i64 0,.string ⟨#[]⟩,.slice none 0 0] t)).alloc (.cells #[.string ⟨#[]⟩,.int .i64 0,.int .i64 0] t')) w.heap.size:=by
 refine⟨(ax.new w _ t).alloc _,?_⟩;have:=ax.new (w.alloc (.cells #[.string ⟨#[]⟩,.string ⟨#[]⟩,.int .i64 0,.string ⟨#[]⟩,.slice none 0 0] t)) [.string ⟨#[]⟩,.int .i64 0,.int .i64 0] t';simpa using this
theorem lN (tmps:Array Value)(h:Fy W s)(h2:tmps[2]?=some (.pointer (some ⟨s,0,none⟩)))(h3:tmps[3]?=some (.pointer (some ⟨s+1,0,none⟩)))(v0 v1 v2 v3 v4 u0 u1 u2:Value)
  (hv:v0.oneCell'=true/\v1.oneCell'=true/\v2.oneCell'=true/\v3.oneCell'=true/\v4.oneCell'=true/\u0.oneCell'=true/\u1.oneCell'=true/\u2.oneCell'=true):
  (results Tryz.f213 tmps).run Tryz.prog (kY W s v0 v1 v2 v3 v4 u0 u1 u2)=.ok (.tuple #[.agg #[v0,v1,v2,v3,v4],.agg #[u0,u1,u2]]) (kY W s v0 v1 v2 v3 v4 u0 u1 u2):=by
 obtain⟨x0,x1,x2,x3,x4,y0,y1,y2,_,_,_,_,_,_,_,_⟩:=h;simp(maxDischargeDepth:=10) [results,Tryz.results213,h2,h3,go_sem,x0,x1,x2,x3,x4,y0,y1,y2]
end
section
open Go.RowKit
def vC (fmt:Int)(l:LU):Bool:=if fmt=1 then fg l else if fmt=2 then ed l else dJ l
theorem sW (fmt:Int)(s:BA)(w:World)(hs:s.size<=9223372036854775807):Calls Tryz.prog 85 #[.int .i64 fmt,.string s] w fun e w'=>e=.returned (.bool (vC fmt (bl s)))/\w=w':=by
 by_cases h1:fmt=1
 ·subst h1;have E:Hid (vC 1 (bl s)=fg (bl s)):=rfl;go_in;go_wp2_with fail;refine(nG s _ hs).mono ?_;rintro e w' ⟨rfl,rfl⟩;go_wp2;go_ret;exact⟨af E.out.symm,rfl⟩
 have g1:(fmt==1)=false:=by simpa using h1
 by_cases h2:fmt=2
 ·subst h2;have E:Hid (vC 2 (bl s)=ed (bl s)):=rfl;clear h1 g1;go_in;go_wp2_with fail;refine(nN s _ hs).mono ?_;rintro e w' ⟨rfl,rfl⟩;go_wp2;go_ret;exact⟨af E.out.symm,rfl⟩
 have g2:(fmt==2)=false:=by simpa using h2
 have E:Hid (vC fmt (bl s)=dJ (bl s)):=by show _=_;unfold vC;rw[if_neg h1,if_neg h2]
 clear h1 h2;go_in;go_wp2_with fail;refine(qL s _ hs).mono ?_;rintro e w' ⟨rfl,rfl⟩;go_wp2;go_ret;exact⟨af E.out.symm,rfl⟩
def nh (fmt:Int)(x:cS):Bool:=vC fmt (bl x.nm)&&(if x.op=0 then decide (x.ver.size=0) else decide (x.op=3)&&decide (dm fmt x.ver=0))
def mq (fmt:Int)(l:List cS):Bool:=decide (l.length<=32)&&l.all (nh fmt)
theorem Cy {l:List cS}(h:32<l.length):mq fmt l=false:=by
 unfold mq;rw[dF];rfl
theorem JP {l:List cS}{x:cS}(h:x∈l)(hx:nh fmt x=false):mq fmt l=false:=by
 unfold mq;have:l.all (nh fmt)=false:=by rw[List.all_eq_false];exact⟨x,h,by rw[hx];simp⟩
 rw[this];simp
theorem FI {l:List cS}(h:¬ 32<l.length)(hx:∀ (j:Nat) x,l[j]?=some x->nh fmt x=true):mq fmt l=true:=by
 unfold mq;have:l.all (nh fmt)=true:=by rw[List.all_eq_true];intro x hm;obtain⟨j,hj⟩:=List.getElem?_of_mem hm;exact hx j x hj
 rw[this,dT];rfl
theorem rh (fmt:Int)(A:OA)(c:Nat)(l:List cS)(w:World)(hG:Gl w)(hr:Rd w 3 A l.length (l.flatMap cS.cells))(hn:l.length<=9223372036854775807)(hf:∀ x∈l,x.nm.size<=4294967280/\x.ver.size<=4294967280):Calls Tryz.prog 48 #[.int .i64 fmt,.slice A l.length c] w fun e w'=>e=.returned (.bool (mq fmt l))/\Below w.heap.size w w':=by
 have HG:=ae hG;have HR:=ae hr;have HF:=ae hf;clear hG hr hf;by_cases h32:32<l.length
 ·have E:=ae (Cy (fmt:=fmt) h32);go_in;go_wp2;go_ret;exact⟨af E.out.symm,bR⟩
 go_in;go_wp2;go_loopw [12] (fun i wr=>∃ k:Nat,k<=l.length/\i=.int .i64 k/\Hid (Below w.heap.size w wr)/\Hid (∀ (j:Nat) x,j<k->l[j]?=some x->nh fmt x=true)) (fun i _=>l.length-(intOf i).toNat)
 case atStart=>exact⟨0,z0,rfl,bR,fun j x h=>absurd h (Nat.not_lt_zero _)⟩
 case round=>
  obtain⟨k,hk,rfl,HB,HA⟩:=hrel;by_cases hlt:k<l.length
  ·obtain⟨x,hx⟩:∃ x,l[k]?=some x:=⟨_,gG hlt⟩
   obtain⟨b,off,hA,he⟩:=(HR.out.below HB.out).elem lm k x hx;have e0:=he 0 _ rfl;have e1:=he 1 _ rfl;have e2:=he 2 _ rfl;simp only[Nat.add_zero] at e0;have hix:=fun W=>aB (T:=23) (E:=81) (sz:=3) (c:=c) Tryz.underlying23 rfl Tryz.sizeOf81 hA hlt W;obtain⟨z1,z2⟩:=HF.out x (gM hx);have BAD:=ae (fun h=>JP (fmt:=fmt) (gM hx) h);have GOOD:Hid (nh fmt x=true->∀ (j:Nat) y,j<k+1->l[j]?=some y->nh fmt y=true):=by
    intro h j y hj hy;by_cases e:j=k
    ·subst e;rw[hx] at hy;injection hy with hy;rw[<-hy];exact h
    ·exact HA.out j y (by omega) hy
   clear hx he hA;have hN:=fun W=>sW fmt x.nm W (by omega);have B1:Hid (Below w.heap.size w (wr.alloc (.cells #[.string x.nm,.int .i64 x.op,.string x.ver] 81))):=HB.out.alloc HB.out.size _;cases hnm:vC fmt (bl x.nm) with
   | false=>
    have E:=ae (BAD.out (by unfold nh;rw[hnm];rfl));rw[hnm] at hN;clear hnm;go_wp2_with fail;refine(hN _).mono ?_;rintro e w' ⟨rfl,rfl⟩;go_wp2;go_ret;exact⟨af E.out.symm,B1.out⟩
   | true=>
    rw[hnm] at hN;have GB:Hid (nh fmt x=if x.op=0 then decide (x.ver.size=0) else decide (x.op=3)&&decide (dm fmt x.ver=0)):=by show _=_;unfold nh;rw[hnm];rfl
    clear hnm;by_cases o0:x.op=0
    ·have q0:(x.op==0)=true:=by simpa using o0
     by_cases hv:x.ver.size=0
     ·have hv1:x.ver.toList=[]:=by rw[aj,bX _ hv]
      have hv2:x.ver.toList.isEmpty=true:=by rw[hv1];rfl
      have G:=ae (GOOD.out (by rw[GB.out,if_pos o0,dT hv]));clear o0 hv;go_wp2_with fail;refine(hN _).mono ?_;rintro e w' ⟨rfl,rfl⟩;go_wp2;go_roundw
      case rel=>exact⟨k+1,by omega,by go_num,B1,G⟩
      case measure=>simp[intOf];omega
     ·have hv2:x.ver.toList.isEmpty=false:=by rw[aj,bj];exact dF hv
      have hv1:¬ x.ver.toList=[]:=by intro h;rw[h] at hv2;simp at hv2
      have E:=ae (BAD.out (by rw[GB.out,if_pos o0,dF hv]));clear o0 hv;go_wp2_with fail;refine(hN _).mono ?_;rintro e w' ⟨rfl,rfl⟩;go_wp2;go_ret;exact⟨af E.out.symm,B1.out⟩
    have q0:(x.op==0)=false:=by simpa using o0
    by_cases o3:x.op=3
    ·have q3:(x.op==3)=true:=by simpa using o3
     by_cases hv:dm fmt x.ver=0
     ·have hv2:(dm fmt x.ver != 0)=false:=by simp[hv]
      have G:=ae (GOOD.out (by rw[GB.out,if_neg o0,dT o3,dT hv];rfl));clear o0 o3 hv;go_wp2_with fail;refine(hN _).mono ?_;rintro e w' ⟨rfl,rfl⟩;go_wp2_with fail;refine(aZ fmt x.ver _ (HG.out.below B1.out) (by omega)).mono ?_;rintro e w1 ⟨rfl,hb1⟩;have B2:Hid (Below w.heap.size w w1):=aq B1.out hb1;clear hb1;go_wp2;go_roundw
      case rel=>exact⟨k+1,by omega,by go_num,B2,G⟩
      case measure=>simp[intOf];omega
     ·have hv2:(dm fmt x.ver != 0)=true:=by simp[hv]
      have E:=ae (BAD.out (by rw[GB.out,if_neg o0,dT o3,dF hv];rfl));clear o0 o3 hv;go_wp2_with fail;refine(hN _).mono ?_;rintro e w' ⟨rfl,rfl⟩;go_wp2_with fail;refine(aZ fmt x.ver _ (HG.out.below B1.out) (by omega)).mono ?_;rintro e w1 ⟨rfl,hb1⟩;have B2:Hid (Below w.heap.size w w1):=aq B1.out hb1;clear hb1;go_wp2;go_ret;exact⟨af E.out.symm,B2.out⟩
    ·have q3:(x.op==3)=false:=by simpa using o3
     have E:=ae (BAD.out (by rw[GB.out,if_neg o0,dF o3];rfl));clear o0 o3;go_wp2_with fail;refine(hN _).mono ?_;rintro e w' ⟨rfl,rfl⟩;go_wp2;go_ret;exact⟨af E.out.symm,B1.out⟩
  ·have E:=ae (FI (fmt:=fmt) h32 (fun j x hj=>HA.out j x (by have:=(gS hj).1;omega) hj));go_wp2;go_ret;exact⟨af E.out.symm,HB.out⟩
end
end Go.Proofs.YtlglfpbhapmhiaaGreatDoor
