/- A part of the proof of a law on dependencies in three formats. No condition. -/
import Derived.Test.YtkjdbpjglobbjaaGreatDoorE66
set_option maxRecDepth 100000
set_option maxHeartbeats 20000000
set_option linter.unusedVariables false
set_option linter.unusedSimpArgs false
namespace Go.Proofs.YtkjdbpjglobbjaaGreatDoor
section
open Go.RowKit
def mp (p q:Pc):Int:=
 if p.kind≠q.kind then Lib.compareInt p.kind q.kind
 else if p.kind=0∨p.kind=4 then Lib.compareInt p.word q.word
 else if p.kind=5∨(p.kind=6∧(cQ p.text=true∨cQ q.text=true)) then Lib.compareBytes p.text q.text
 else iG p.text q.text
def gx:List Pc→List Pc→Int
 | [],[]=>0
 | [],_::_=>-1
 | _::_,[]=>1
 | p::ps,q::qs=>if mp p q≠0 then mp p q else gx ps qs
def mq:Int→List Nat→List Pc
 | _,[]=>[]
 | k,n::r=>⟨k,aC n,0⟩::mq 6 r
def sC (l:LU):List Pc:=match l with
 | []=>[]
 | b::_=>[⟨5,[b],0⟩]
def iC (w:LU)(n:Nat):List Pc:=if w=[] then [] else [⟨0,w,((dt w).getD 0:Nat)⟩,⟨3,aC n,0⟩]
def mr (n:Nat):List Pc:=[⟨2,aC n,0⟩,⟨1,[],0⟩]
def Hc (c:aT):List Pc:=mq 7 c.nums++(sC c.lt++(iC c.pre c.pnum++mr c.rev))
theorem uB:∀ (L:List Nat)(k:Nat)(kind:Int)(acc:List Pc)(r:LU),L≠[]→L.length≤k→(∀ x,r.head?=some x→aD x=false∧x≠46) →
  dS k kind acc (bE 46 (L.map aC)++r)=some (acc++mq kind L,r)
 | [],_,_,_,_,h,_,_=>absurd rfl h
 | _::_,0,_,_,_,_,h,_=>by simp at h
 | [n],k+1,kind,acc,r,_,_,hr=>by
  have hrn:au aD (aC n++r)=(aC n).length:=er (cG n) (fun x hx=>(hr x hx).1)
  have hp:=gY n
  simp only[List.map_cons,List.map_nil,bE]
  unfold dS
  rw[hrn,if_neg (by omega),List.drop_left,List.take_left]
  cases r with
  | nil=>rfl
  | cons x t=>
   have hx:=(hr x rfl).2
   split
   ·rename_i e;injection e with e1 _;exact absurd e1 hx
   ·rfl
 | n::m::L,k+1,kind,acc,r,_,hk,hr=>by
  have hp:=gY n
  simp only[List.map_cons,bE,List.append_assoc,List.cons_append]
  have hrn:au aD (aC n++46::(bE 46 (aC m::L.map aC)++r))=(aC n).length:=er (cG n) (fun x hx=>by
   simp only[List.head?_cons,Option.some.injEq] at hx;rw[←hx];decide)
  unfold dS
  rw[hrn,if_neg (by omega),List.drop_left,List.take_left]
  have:=uB (m::L) k 6 (acc++[⟨kind,aC n,0⟩]) r (by simp) (by simp at hk ⊢;omega) hr
  simp only[List.map_cons] at this
  refine Eq.trans this ?_
  simp[mq]
theorem SQ:∀ w∈bu,∃ i,dt w=some i∧i<4:=by
 intro w hw
 unfold bu at hw
 simp only[List.mem_cons,List.not_mem_nil,or_false] at hw
 rcases hw with rfl | rfl | rfl | rfl<;>first | exact⟨0,by decide,by decide⟩ | exact⟨1,by decide,by decide⟩ | exact⟨2,by decide,by decide⟩ | exact⟨3,by decide,by decide⟩
theorem NA {c:aT}(ok:c.ok):∃ x,kB (aN 3 c)=some (Hc c,x):=by
 have e1:iE 3 c=[]:=by unfold iE;rw[if_pos (.inl rfl)]
 have hd:bK 3=[45,114]:=rfl
 generalize hR:bK 3++aC c.rev=R
 have hR':R=45::114::aC c.rev:=by rw[←hR,hd];rfl
 have hPR:∀ x,(bM 3 c++R).head?=some x→x=95∨x=45:=by
  intro x hx
  unfold bM at hx
  split at hx
  ·rw[hR'] at hx;simp at hx;exact .inr hx.symm
  ·simp[jj] at hx;exact .inl hx.symm
 have hLR:∀ x,(c.lt++(bM 3 c++R)).head?=some x→aD x=false∧x≠46:=by
  intro x hx
  rcases ok.lt with e | ⟨b,e,hb⟩
  ·rw[e,List.nil_append] at hx
   rcases hPR x hx with rfl | rfl<;>decide
  ·rw[e] at hx
   simp only[List.cons_append,List.head?_cons,Option.some.injEq] at hx
   subst hx
   constructor
   ·cases h:aD b with
    | false=>rfl
    | true=>rw[jk h] at hb;cases hb
   ·rintro rfl;revert hb;decide
 have hl:aN 3 c=fC c++(c.lt++(bM 3 c++R)):=by unfold aN bi;rw[e1,hR];simp
 have hn:=uB c.nums ((aN 3 c).length+1) 7 [] (c.lt++(bM 3 c++R)) ok.nums (by
  have:=nw c.nums
  rw[hl,List.length_append];unfold fC;omega) hLR
 rw[List.nil_append] at hn
 have hlett:fi (mq 7 c.nums) (c.lt++(bM 3 c++R))=(mq 7 c.nums++sC c.lt,bM 3 c++R):=by
  rcases ok.lt with e | ⟨b,e,hb⟩
  ·rw[e,List.nil_append]
   cases hq:bM 3 c++R with
   | nil=>simp[sC,fi]
   | cons x t=>
    have hx:be x=false:=by rcases hPR x (by rw[hq];rfl) with rfl | rfl<;>decide
    unfold fi;simp only;rw[if_neg (by rw[hx];simp)];simp[sC]
  ·rw[e]
   show fi _ (b::(bM 3 c++R))=_
   unfold fi;simp only;rw[if_pos hb];rfl
 have hend:∀ k acc,dU (k+1) acc R=some (acc,R):=by
  intro k acc;rw[hR'];unfold dU;simp
 have hsuf:∀ acc,dU ((bM 3 c++R).length+1) acc (bM 3 c++R)=some (acc++iC c.pre c.pnum,R):=by
  intro acc
  unfold bM iC
  by_cases hne:c.pre=[]
  ·rw[if_pos hne,if_pos hne,List.nil_append,List.append_nil];exact hend _ _
  ·rw[if_neg hne,if_neg hne]
   have hw:c.pre∈bu:=(qM ok).resolve_left hne
   obtain⟨i,hi,hi4⟩:=SQ _ hw
   have hsg:jj 3=95:=rfl
   rw[hsg]
   simp only[List.cons_append,List.length_cons,List.append_assoc]
   have r1:au be (c.pre++(aC c.pnum++R))=c.pre.length:=ub (gf hw) (fun x hx=>jk (jx _ _ x hx))
   have r2:au aD (aC c.pnum++R)=(aC c.pnum).length:=er (cG _) (fun x hx=>by rw[hR'] at hx;simp at hx;rw[←hx];decide)
   have hp:=gY c.pnum
   unfold dU
   simp only[r1,List.take_left,List.drop_left,hi,r2,Option.getD_some]
   rw[if_neg (by omega),if_pos hp,hend]
   simp
 unfold kB
 rw[hl] at *
 unfold fC at *
 rw[hn]
 simp only[hlett,hsuf]
 have hfin:∃ x,jA (bE 46 (c.nums.map aC)++(c.lt++(bM 3 c++R))) (mq 7 c.nums++sC c.lt++iC c.pre c.pnum) R=some (Hc c,x):=by
  rw[hR']
  unfold jA
  simp only[oq,if_true]
  refine⟨_,congrArg some (Prod.ext ?_ rfl)⟩
  unfold Hc mr
  simp
 obtain⟨x,hfin⟩:=hfin
 exact⟨x,hfin⟩
theorem uC (n:Nat):cQ (aC n)=false:=by
 by_cases h:n=0
 ·subst h;rw[cK (by omega)];rfl
 ·exact wu h
theorem mt (k:Int)(h:k=2∨k=3∨k=6∨k=7)(n m:Nat):mp ⟨k,aC n,0⟩ ⟨k,aC m,0⟩=cI n m:=by
 unfold mp
 simp only
 rw[if_neg (by simp),if_neg (by omega),if_neg (by rw[uC,uC];rintro(h1 | ⟨_,h1 | h1⟩);(· omega);(· cases h1);(· cases h1)),sw]
def QM (l:List Pc):Prop:=∃ p r,l=p::r∧p.kind<6
theorem SR {p q:Pc}(h:p.kind<q.kind):mp p q=-1∧mp q p=1:=by
 unfold mp Lib.compareInt
 rw[if_pos (by omega),if_pos h,if_pos (by omega),if_neg (by omega),if_pos (by omega)]
 exact⟨rfl,rfl⟩
theorem mu {p q : Pc} {ps qs : List Pc} (h : p.kind < q.kind) : gx (p :: ps) (q :: qs) = -1 ∧ gx (q :: qs) (p :: ps) = 1 := by
  obtain ⟨h1, h2⟩ := SR h
  unfold gx
  rw [h1, h2]
  exact ⟨if_pos (by decide), if_pos (by decide)⟩
theorem Lc:∀ (ns ms:List Nat)(k:Int)(s t:List Pc),ns≠[]→ms≠[]→(k=6∨k=7)→QM s→QM t→gx (mq k ns++s) (mq k ms++t)=iW ns ms (gx s t)
 | [],_,_,_,_,h,_,_,_,_=>absurd rfl h
 | _::_,[],_,_,_,_,h,_,_,_=>absurd rfl h
 | [n],[m],k,s,t,_,_,hk,_,_=>by
  show gx (⟨k,aC n,0⟩::s) (⟨k,aC m,0⟩::t)=_
  rw[gx,mt k (by omega)];rfl
 | [n],m::m'::ms,k,s,t,_,_,hk,hs,_=>by
  obtain⟨p,r,e,hp⟩:=hs
  show gx (⟨k,aC n,0⟩::s) (⟨k,aC m,0⟩::(⟨6,aC m',0⟩::(mq 6 ms++t)))=_
  rw[gx,mt k (by omega),e,(mu (p:=p) (q:=⟨6,aC m',0⟩) hp).1];rfl
 | n::n'::ns,[m],k,s,t,_,_,hk,_,ht=>by
  obtain⟨p,r,e,hp⟩:=ht
  show gx (⟨k,aC n,0⟩::(⟨6,aC n',0⟩::(mq 6 ns++s))) (⟨k,aC m,0⟩::t)=_
  rw[gx,mt k (by omega),e,(mu (p:=p) (q:=⟨6,aC n',0⟩) hp).2];rfl
 | n::n'::ns,m::m'::ms,k,s,t,_,_,hk,hs,ht=>by
  show gx (⟨k,aC n,0⟩::(mq 6 (n'::ns)++s)) (⟨k,aC m,0⟩::(mq 6 (m'::ms)++t))=_
  rw[gx,mt k (by omega),Lc (n'::ns) (m'::ms) 6 s t (by simp) (by simp) (.inl rfl) hs ht];rfl
theorem sD:∀ (ns ms:List Nat)(t u:Int),ns≠[]→ms≠[]→iW ns ms (if t≠0 then t else u)=if iW ns ms t≠0 then iW ns ms t else u
 | [],_,_,_,h,_=>absurd rfl h
 | _::_,[],_,_,_,h=>absurd rfl h
 | n::ns,m::ms,t,u,_,_=>by
  unfold iW
  by_cases h1:cI n m≠0
  ·rw[if_pos h1,if_pos h1,if_pos h1]
  ·rw[if_neg h1,if_neg h1]
   match ns,ms with
   | [],[]=>rfl
   | [],_::_=>exact(if_pos (show(-1:Int)≠0 by decide)).symm
   | _::_,[]=>exact(if_pos (show(1:Int)≠0 by decide)).symm
   | n'::ns,m'::ms=>exact sD (n'::ns) (m'::ms) t u (by simp) (by simp)
theorem QN (n m:Nat):gx (mr n) (mr m)=cI n m:=by
 unfold mr
 rw[gx,mt 2 (.inl rfl)]
 by_cases h:cI n m≠0
 ·rw[if_pos h]
 ·rw[if_neg h,Decidable.not_not.1 h]
  rfl
theorem SS (n:Nat):QM (mr n):=⟨_,_,rfl,by show(2:Int)<6;decide⟩
theorem QO (w:LU)(n r:Nat):QM (iC w n++mr r):=by
 unfold iC
 split
 ·exact SS r
 ·exact⟨_,_,rfl,by simp⟩
theorem Hd (l w:LU)(n r:Nat):QM (sC l++(iC w n++mr r)):=by
 unfold sC
 cases l with
 | nil=>exact QO w n r
 | cons b t=>exact⟨_,_,rfl,by simp⟩
theorem QP:∀ w∈bu,∀ v∈bu,Lib.compareInt (((dt w).getD 0:Nat):Int) (((dt v).getD 0:Nat):Int)=Lib.compareBytes w v:=by
 intro w hw v hv
 unfold bu at hw hv
 simp only[List.mem_cons,List.not_mem_nil,or_false] at hw hv
 rcases hw with rfl | rfl | rfl | rfl<;>rcases hv with rfl | rfl | rfl | rfl<;>decide
theorem SU {w v:LU}(n m r s:Nat)(hw:w=[]∨w∈bu)(hv:v=[]∨v∈bu):gx (iC w n++mr r) (iC v m++mr s)=if mO w n v m≠0 then mO w n v m else cI r s:=by
 unfold iC mO
 by_cases h1:w=[]
 ·rw[if_pos h1,if_pos h1]
  by_cases h2:v=[]
  ·rw[if_pos h2,if_pos h2,List.nil_append,List.nil_append,QN];rfl
  ·rw[if_neg h2,if_neg h2,if_pos (by decide)]
   exact(mu (p:=⟨0,v,((dt v).getD 0:Nat)⟩) (q:=⟨2,aC r,0⟩) (by show(0:Int)<2;decide)).2
 ·rw[if_neg h1,if_neg h1]
  by_cases h2:v=[]
  ·rw[if_pos h2,if_pos h2,if_pos (by decide)]
   exact(mu (p:=⟨0,w,((dt w).getD 0:Nat)⟩) (q:=⟨2,aC s,0⟩) (by show(0:Int)<2;decide)).1
  ·rw[if_neg h2,if_neg h2]
   have hc:=QP w (hw.resolve_left h1) v (hv.resolve_left h2)
   show gx (⟨0,w,((dt w).getD 0:Nat)⟩ :: ⟨3,aC n,0⟩::mr r) (⟨0,v,((dt v).getD 0:Nat)⟩ :: ⟨3,aC m,0⟩::mr s)=_
   have e:mp ⟨0,w,((dt w).getD 0:Nat)⟩ ⟨0,v,((dt v).getD 0:Nat)⟩=Lib.compareBytes w v:=by
    unfold mp;simp only;rw[if_neg (by simp),if_pos (by simp),hc]
   rw[gx,e,gx,mt 3 (by omega),QN]
   by_cases h3:Lib.compareBytes w v≠0
   ·rw[if_pos h3,if_pos h3,if_pos h3]
   ·rw[if_neg h3,if_neg h3]
theorem SV {c d:aT}(hc:c.ok)(hd:d.ok):gx (sC c.lt++(iC c.pre c.pnum++mr c.rev)) (sC d.lt++(iC d.pre d.pnum++mr d.rev))=if jz c d≠0 then jz c d else cI c.rev d.rev:=by
 have hp:=SU c.pnum d.pnum c.rev d.rev (qM hc) (qM hd)
 obtain⟨p1,r1,l1,k1⟩:∃ p r,iC c.pre c.pnum++mr c.rev=p::r∧p.kind<5:=by
  unfold iC;split
  ·exact⟨_,_,rfl,by show(2:Int)<5;decide⟩
  ·exact⟨_,_,rfl,by simp⟩
 obtain⟨p2,r2,l2,k2⟩:∃ p r,iC d.pre d.pnum++mr d.rev=p::r∧p.kind<5:=by
  unfold iC;split
  ·exact⟨_,_,rfl,by show(2:Int)<5;decide⟩
  ·exact⟨_,_,rfl,by simp⟩
 unfold jz
 rcases hc.lt with e1 | ⟨a,e1,ha⟩<;>rcases hd.lt with e2 | ⟨b,e2,hb⟩<;>rw[e1,e2]
 ·exact hp
 ·show gx (iC c.pre c.pnum++mr c.rev) (⟨5,[b],0⟩::_)=_
  rw[l1,if_pos (show(-1:Int)≠0 by decide)]
  exact(mu (p:=p1) (q:=⟨5,[b],0⟩) k1).1
 ·show gx (⟨5,[a],0⟩::_) (iC d.pre d.pnum++mr d.rev)=_
  rw[l2,if_pos (show(1:Int)≠0 by decide)]
  exact(mu (p:=p2) (q:=⟨5,[a],0⟩) k2).2
 ·show gx (⟨5,[a],0⟩::(iC c.pre c.pnum++mr c.rev)) (⟨5,[b],0⟩::(iC d.pre d.pnum++mr d.rev))=_
  have e:mp ⟨5,[a],0⟩ ⟨5,[b],0⟩=if a<b then -1 else if b<a then 1 else 0:=by
   unfold mp;simp only;rw[if_neg (by simp),if_neg (by decide),if_pos (by simp)];unfold Lib.compareBytes Lib.compareBytes;rfl
  rw[gx,e,hp]
  by_cases h1:a<b
  ·simp[h1]
  ·by_cases h2:b<a
   ·simp[h1,h2]
   ·simp[h1,h2]
def NB (l:LU):List Pc:=match kB l with
 | some x=>x.1
 | none=>[]
def Ai (a b:BA):Int:=if aV 3 a≠0∨aV 3 b≠0 then 0 else gx (NB (bl a)) (NB (bl b))
theorem Cg {c:aT}(ok:c.ok){l:LU}(h:l=aN 3 c):NB l=Hc c:=by
 obtain⟨x,e⟩:=NA ok
 unfold NB;rw[h,e]
theorem Ed (x y z:Int):bT id [x,y,z]=if x≠0 then x else if y≠0 then y else z:=by
 show(if id x≠0 then id x else bT id [y,z])=_
 rw[kU];rfl
theorem ND {a b:BA}{c d:aT}(hc:c.ok)(hd:d.ok)(ha:aV 3 a=0)(hb:aV 3 b=0)(ea:bl a=aN 3 c)(eb:bl b=aN 3 d)(hc0:c.ep=0)(hd0:d.ep=0):Ai a b=mP c d:=by
 unfold Ai mP
 rw[if_neg (fun h=>h.elim (fun h=>h ha) (fun h=>h hb)),Cg hc ea,Cg hd eb]
 unfold Hc
 rw[Lc c.nums d.nums 7 _ _ hc.nums hd.nums (.inr rfl) (Hd _ _ _ _) (Hd _ _ _ _),SV hc hd,sD _ _ _ _ hc.nums hd.nums,Ed,hc0,hd0,su,if_neg (show ¬ (0:Int)≠0 by simp)]
def NF (fmt:Int)(a b:BA):Int:=if fmt=1 then Ah a b else if fmt=2 then tH a b else Ai a b
theorem Ch {fmt:Int}(hf:dk fmt){a b:BA}{c d:aT}(hc:ct fmt c=true)(hd:ct fmt d=true)(ha:aV fmt a=0)(hb:aV fmt b=0)(ea:bl a=aN fmt c)(eb:bl b=aN fmt d):NF fmt a b=mP c d:=by
 obtain⟨k1,k2⟩:=km hc
 obtain⟨k3,k4⟩:=km hd
 unfold NF
 rcases hf with rfl | rfl | rfl
 ·rw[if_pos rfl];exact Ny k1 k3 ha hb ea eb
 ·rw[if_neg (by decide),if_pos rfl];exact Nz k1 k3 ha hb ea eb
 ·rw[if_neg (by decide),if_neg (by decide)];exact ND k1 k3 ha hb ea eb (k2 rfl) (k4 rfl)
def Pc.val (x:Pc):Value:=.agg #[.int .i64 x.kind,.string ⟨x.text.toArray⟩,.int .i64 x.word]
theorem JP (p q:Pc):mp p q=if p.kind≠q.kind then Lib.compareInt p.kind q.kind
  else if p.kind=0∨p.kind=4 then Lib.compareInt p.word q.word
  else if p.kind=5∨(p.kind=6∧(cQ p.text=true∨cQ q.text=true)) then Lib.compareBytes p.text q.text
  else iG p.text q.text:=rfl
theorem Aj (p q:Pc)(w:World)(h1:p.text.length≤1000)(h2:q.text.length≤1000):
  Calls Tryz.prog 182 #[p.val,q.val] w fun e w'=>e=.returned (.int .i64 (mp p q))∧Below w.heap.size w w':=by
 have HE:=ae (JP p q)
 obtain⟨R,hR⟩:∃ R,mp p q=R:=⟨_,rfl⟩
 rw[hR] at HE ⊢
 clear hR
 obtain⟨k,s,i⟩:=p
 obtain⟨l,t,j⟩:=q
 unfold Pc.val
 simp only at HE h1 h2 ⊢
 have CK:=ae fun W=>Tryz.cmp_Compare_int k l W
 have CI:=ae fun W=>Tryz.cmp_Compare_int i j W
 have CS:Hid (∀ W,Calls Tryz.prog 217 #[.string (bz s),.string (bz t)] W fun e w'=>e=.returned (.int .i64 (Lib.compareBytes s t))∧w'=W):=fun W=>
  (Tryz.strings_Compare (bz s) (bz t) W).mono fun e w' ⟨he,hw⟩=>⟨by rw[he,show(bz s).data.toList=s from cH s,show(bz t).data.toList=t from cH t],hw⟩
 have CN:Hid (∀ W,Calls Tryz.prog 186 #[.string (bz s),.string (bz t)] W fun e w'=>e=.returned (.int .i64 (iG s t))∧Below W.heap.size W w'):=fun W=>
  (fN (bz s) (bz t) W).mono fun e w' ⟨he,hw⟩=>⟨by rw[he,cH,cH],hw⟩
 have N1:Hid (∀ W,Calls Tryz.prog 152 #[.string (bz s)] W fun e w'=>e=.returned (.bool (cQ s))∧W=w'):=fun W=>
  (kA (bz s) W (by rw[bQ];omega)).mono fun e w' ⟨he,hw⟩=>⟨by rw[he,cH],hw⟩
 have N2:Hid (∀ W,Calls Tryz.prog 152 #[.string (bz t)] W fun e w'=>e=.returned (.bool (cQ t))∧W=w'):=fun W=>
  (kA (bz t) W (by rw[bQ];omega)).mono fun e w' ⟨he,hw⟩=>⟨by rw[he,cH],hw⟩
 change Calls _ _ #[.agg #[.int .i64 k,.string (bz s),.int .i64 i],.agg #[.int .i64 l,.string (bz t),.int .i64 j]] w _
 generalize Lib.compareInt k l=c1 at *
 generalize Lib.compareInt i j=c2 at *
 generalize Lib.compareBytes s t=c3 at *
 generalize iG s t=c4 at *
 generalize cQ s=n1 at *
 generalize cQ t=n2 at *
 generalize bz s=S at *
 generalize bz t=T at *
 clear h1 h2
 have B2:Hid (Below w.heap.size w ((w.alloc (.cells #[.int .i64 k,.string S,.int .i64 i] 218)).alloc (.cells #[.int .i64 l,.string T,.int .i64 j] 218))):=(bR.alloc lr _).alloc (by simp) _
 by_cases hk:k≠l
 ·have q:(k != l)=true:=by simpa [bne] using hk
  have E:Hid (R=c1):=by show _=_;rw[HE.out,if_pos hk]
  clear hk
  go_enter Tryz.func182,Tryz.ntmps182
  go_wp2_with fail
  refine(CK.out _).mono ?_;rintro e w' ⟨rfl,rfl⟩
  go_wp2_with fail
  go_ret
  exact⟨az E.out.symm,B2.out⟩
 obtain rfl:k=l:=Decidable.not_not.1 hk
 clear hk
 have HE2:Hid (R=if k=0∨k=4 then c2 else if k=5∨(k=6∧(n1=true∨n2=true)) then c3 else c4):=by show _=_;rw[HE.out,if_neg (by simp)]
 clear HE CK
 have q:(k != k)=false:=by simp
 by_cases h0:k=0
 ·have q0:(k==0)=true:=by simp[h0]
  have E:Hid (R=c2):=by show _=_;rw[HE2.out,if_pos (.inl h0)]
  clear h0
  go_enter Tryz.func182,Tryz.ntmps182
  go_wp2_with fail
  refine(CI.out _).mono ?_;rintro e w' ⟨rfl,rfl⟩
  go_wp2_with fail
  go_ret
  exact⟨az E.out.symm,B2.out⟩
 have q0:(k==0)=false:=by simpa using h0
 by_cases h4:k=4
 ·have q4:(k==4)=true:=by simp[h4]
  have E:Hid (R=c2):=by show _=_;rw[HE2.out,if_pos (.inr h4)]
  clear h0 h4
  go_enter Tryz.func182,Tryz.ntmps182
  go_wp2_with fail
  refine(CI.out _).mono ?_;rintro e w' ⟨rfl,rfl⟩
  go_wp2_with fail
  go_ret
  exact⟨az E.out.symm,B2.out⟩
 have q4:(k==4)=false:=by simpa using h4
 have HE3:Hid (R=if k=5∨(k=6∧(n1=true∨n2=true)) then c3 else c4):=by show _=_;rw[HE2.out,if_neg (fun h=>h.elim h0 h4)]
 clear HE2 CI h0 h4
 by_cases h5:k=5
 ·have q5:(k==5)=true:=by simp[h5]
  have E:Hid (R=c3):=by show _=_;rw[HE3.out,if_pos (.inl h5)]
  clear h5
  go_enter Tryz.func182,Tryz.ntmps182
  go_wp2_with fail
  refine(CS.out _).mono ?_;rintro e w' ⟨rfl,rfl⟩
  go_wp2_with fail
  go_ret
  exact⟨az E.out.symm,B2.out⟩
 have q5:(k==5)=false:=by simpa using h5
 by_cases h6:k=6
 ·have q6:(k==6)=true:=by simp[h6]
  have HE4:Hid (R=if n1=true∨n2=true then c3 else c4):=by
   show _=_;rw[HE3.out]
   by_cases hn:n1=true∨n2=true
   ·rw[if_pos hn,if_pos (.inr ⟨h6,hn⟩)]
   ·rw[if_neg hn,if_neg (fun h=>h.elim h5 (fun h=>hn h.2))]
  clear h5 h6 HE3
  cases n1
  ·cases n2
   ·have E:Hid (R=c4):=by show _=_;rw[HE4.out];simp
    go_enter Tryz.func182,Tryz.ntmps182
    go_wp2_with fail
    refine(N1.out _).mono ?_;rintro e w' ⟨rfl,rfl⟩
    go_wp2_with fail
    refine(N2.out _).mono ?_;rintro e w' ⟨rfl,rfl⟩
    go_wp2_with fail
    refine(CN.out _).mono ?_;rintro e w' ⟨rfl,hb⟩
    have B3:=ae (ah B2.out hb)
    clear hb
    go_wp2_with fail
    go_ret
    exact⟨az E.out.symm,B3.out⟩
   ·have E:Hid (R=c3):=by show _=_;rw[HE4.out];simp
    go_enter Tryz.func182,Tryz.ntmps182
    go_wp2_with fail
    refine(N1.out _).mono ?_;rintro e w' ⟨rfl,rfl⟩
    go_wp2_with fail
    refine(N2.out _).mono ?_;rintro e w' ⟨rfl,rfl⟩
    go_wp2_with fail
    refine(CS.out _).mono ?_;rintro e w' ⟨rfl,rfl⟩
    go_wp2_with fail
    go_ret
    exact⟨az E.out.symm,B2.out⟩
  ·have E:Hid (R=c3):=by show _=_;rw[HE4.out];simp
   go_enter Tryz.func182,Tryz.ntmps182
   go_wp2_with fail
   refine(N1.out _).mono ?_;rintro e w' ⟨rfl,rfl⟩
   go_wp2_with fail
   refine(CS.out _).mono ?_;rintro e w' ⟨rfl,rfl⟩
   go_wp2_with fail
   go_ret
   exact⟨az E.out.symm,B2.out⟩
 ·have q6:(k==6)=false:=by simpa using h6
  have E:Hid (R=c4):=by show _=_;rw[HE3.out,if_neg (fun h=>h.elim h5 (fun h=>h6 h.1))]
  clear h5 h6 HE3
  go_enter Tryz.func182,Tryz.ntmps182
  go_wp2_with fail
  refine(CN.out _).mono ?_;rintro e w' ⟨rfl,hb⟩
  have B3:=ae (ah B2.out hb)
  clear hb
  go_wp2_with fail
  go_ret
  exact⟨az E.out.symm,B3.out⟩
theorem NG (p q : Pc) (ps qs : List Pc) : gx (p :: ps) (q :: qs) = if mp p q ≠ 0 then mp p q else gx ps qs := rfl
theorem Ee {α:Type}{l:List α}{k:Nat}{x:α}(h:l[k]?=some x):l.drop k=x::l.drop (k+1):=by
 obtain⟨hk,e⟩:=gS h
 rw[List.drop_eq_getElem_cons hk,e]
theorem vf (f:FuncId)(A B:Option Addr)(c d:Nat)(ps qs:List Pc)(w:World)(h1:Rd w 3 A ps.length (ps.flatMap Pc.cells))(h2:Rd w 3 B qs.length (qs.flatMap Pc.cells))(hl:ps.length≤1000000)(hm:qs.length≤1000000)
  (hcall:∀ (args:Array Value)(w:World),(callFunc f args).run Tryz.prog w=.ok (.enter f args) w)
  (hf:Hid (∀ p∈ps,∀ q∈qs,∀ W,Calls Tryz.prog f #[p.val,q.val] W fun e w'=>e=.returned (.int .i64 (mp p q))∧Below W.heap.size W w')):
  Calls Tryz.prog 181 #[.slice A ps.length c,.slice B qs.length d,.func (.func f) #[] #[]] w fun e w'=>e=.returned (.int .i64 (gx ps qs))∧Below w.heap.size w w':=by
 have H1:=ae h1;have H2:=ae h2
 obtain⟨R,hR⟩:∃ R,gx ps qs=R:=⟨_,rfl⟩
 rw[hR]
 have HR0:Hid (gx (ps.drop 0) (qs.drop 0)=R):=hR
 clear hR h1 h2
 go_enter Tryz.func181,Tryz.ntmps181
 go_wp2_with fail
 go_loopw [13] (fun i wr=>∃ k:Nat,k≤ps.length∧k≤qs.length∧i=.int .i64 k∧Hid (gx (ps.drop k) (qs.drop k)=R)∧Hid (Below w.heap.size w wr)) (fun i _=>ps.length-(intOf i).toNat)
 case atStart=>exact⟨0,z0,z0,rfl,HR0,bR⟩
 case round=>
  clear HR0
  obtain⟨k,hk,hk2,rfl,HR,HB⟩:=hrel
  by_cases hlt:k<ps.length
  ·obtain⟨x,hx⟩:∃ x,ps[k]?=some x:=⟨_,gG hlt⟩
   obtain⟨b,off,hA,he⟩:=(H1.out.below HB.out).elem CD k x hx
   have e0:=he 0 _ rfl
   have e1:=he 1 _ rfl
   have e2:=he 2 _ rfl
   simp only[Nat.add_zero] at e0
   have hix:=fun W=>aH (T:=182) (E:=218) (sz:=3) (c:=c) Tryz.underlying182 rfl Tryz.sizeOf218 hA hlt W
   have HX:=ae hx
   have DX:=ae (Ee hx)
   clear hx hA he
   by_cases hlt2:k<qs.length
   ·obtain⟨y,hy⟩:∃ y,qs[k]?=some y:=⟨_,gG hlt2⟩
    obtain⟨b2,off2,hA2,he2⟩:=(H2.out.below HB.out).elem CD k y hy
    have f0:=he2 0 _ rfl
    have f1:=he2 1 _ rfl
    have f2:=he2 2 _ rfl
    simp only[Nat.add_zero] at f0
    have hiy:=fun W=>aH (T:=182) (E:=218) (sz:=3) (c:=d) Tryz.underlying182 rfl Tryz.sizeOf218 hA2 hlt2 W
    have DY:=ae (Ee hy)
    have HF:=ae (hf.out x (gM HX.out) y (gM hy))
    have bl2:b2<wr.heap.size:=World.block_lt_of_cell? _ _ f0
    have bn2:¬ b2=wr.heap.size:=by omega
    have RR:Hid (R=if mp x y≠0 then mp x y else gx (ps.drop (k+1)) (qs.drop (k+1))):=by
     show _=_;rw[←HR.out,DX.out,DY.out,NG]
    obtain⟨cc,hcc⟩:∃ cc,mp x y=cc:=⟨_,rfl⟩
    rw[hcc] at RR HF
    unfold Pc.val at HF
    clear hy hA2 he2 hcc
    obtain⟨xk,xt,xw⟩:=x
    obtain⟨yk,yt,yw⟩:=y
    simp only at HF e0 e1 e2 f0 f1 f2
    go_wp2_with fail
    refine(HF.out _).mono ?_;rintro e w1 ⟨rfl,hb1⟩
    have B1:Hid (Below w.heap.size w w1):=ah HB.out (ah (((Below.refl wr.heap.size wr).alloc lr _).alloc (by simp) _) hb1)
    clear hb1 e0 e1 e2 f0 f1 f2 hix hiy HF bl2 bn2
    by_cases hc0:cc≠0
    ·have qc:(cc != 0)=true:=by simpa [bne] using hc0
     have E:Hid (R=cc):=by show _=_;rw[RR.out,if_pos hc0]
     clear hc0
     go_wp2_with fail
     go_ret
     exact⟨az E.out.symm,B1.out⟩
    ·have qc:(cc != 0)=false:=by rw[Decidable.not_not.1 hc0];rfl
     have E:Hid (gx (ps.drop (k+1)) (qs.drop (k+1))=R):=by show _=_;rw[RR.out,if_neg hc0]
     clear hc0
     go_wp2_with fail
     go_roundw
     case rel=>exact⟨k+1,by omega,by omega,by go_num,E,B1⟩
     case measure=>simp[intOf];omega
   ·have E:Hid (R=1):=by show _=_;rw[←HR.out,DX.out,List.drop_eq_nil_of_le (show qs.length≤k by omega)];rfl
    have q:decide (qs.length≤k)=true:=dT (by omega)
    obtain rfl:k=qs.length:=by omega
    have B1:Hid (Below w.heap.size w (wr.alloc (.cells x.cells.toArray 218))):=HB.out.alloc HB.out.size _
    go_wp2_with fail
    go_ret
    exact⟨az E.out.symm,B1.out⟩
  ·obtain rfl:k=ps.length:=by omega
   by_cases hlt2:ps.length<qs.length
   ·have E:Hid (R=-1):=by
     show _=_;rw[←HR.out,List.drop_length]
     obtain⟨y,hy⟩:∃ y,qs[ps.length]?=some y:=⟨_,gG hlt2⟩
     rw[Ee hy];rfl
    go_wp2_with fail
    go_ret
    exact⟨az E.out.symm,HB.out⟩
   ·have E:Hid (R=0):=by show _=_;rw[←HR.out,List.drop_length,List.drop_eq_nil_of_le (by omega)];rfl
    go_wp2_with fail
    go_ret
    exact⟨az E.out.symm,HB.out⟩
end
end Go.Proofs.YtkjdbpjglobbjaaGreatDoor
