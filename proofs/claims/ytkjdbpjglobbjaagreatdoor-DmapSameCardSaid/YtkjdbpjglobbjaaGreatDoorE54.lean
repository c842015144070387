/- A part of the proof of a law on dependencies in three formats. No condition. -/
import Derived.Test.YtkjdbpjglobbjaaGreatDoorE48
import Derived.Test.YtkjdbpjglobbjaaGreatDoorE52
set_option maxRecDepth 100000
set_option maxHeartbeats 20000000
set_option linter.unusedVariables false
set_option linter.unusedSimpArgs false
namespace Go.Proofs.YtkjdbpjglobbjaaGreatDoor
section
open Go.RowKit
theorem Ul (t:pm):t.cells.length=7:=rfl
def cM:LU→Int
 | []=>0
 | c::_=>if aD c=true then 0 else if c=126 then -1 else if cD c=true then c.toNat else 256+c.toNat
theorem tQ (c:UInt8)(r:LU):cM (c::r)=if aD c=true then 0 else if c=126 then -1 else if cD c=true then (c.toNat:Int) else 256+c.toNat:=rfl
theorem Sw {c:UInt8}{r:LU}(h:aD c=true):cM (c::r)=0:=by rw[tQ,if_pos h]
theorem QE {c:UInt8}{r:LU}(h:aD c=false):cM (c::r)≠0:=by
 rw[tQ,if_neg (by rw[h];simp)]
 by_cases h1:c=126
 ·rw[if_pos h1];decide
 ·rw[if_neg h1]
  split
  ·rename_i h2
   intro e
   have e0:c.toNat=0:=by omega
   have:c=0:=by rw[←UInt8.toNat_inj];simpa using e0
   rw[this] at h2;revert h2;decide
  ·omega
theorem QF {l:LU}(h:cM l=0):l=[]∨∃ c r,l=c::r∧aD c=true:=by
 cases l with
 | nil=>exact .inl rfl
 | cons c r=>
  right
  refine⟨c,r,rfl,?_⟩
  cases hd:aD c
  ·exact absurd h (QE hd)
  ·rfl
theorem Ca {a b:Int}:Lib.compareInt a b=0↔a=b:=by
 unfold Lib.compareInt
 constructor
 ·intro h
  split at h
  ·cases h
  ·split at h
   ·cases h
   ·omega
 ·rintro rfl;simp
def nY:LU→LU→(LU×LU) ⊕ Int
 | [],y=>if cM y=0 then .inl ([],y) else .inr (Lib.compareInt 0 (cM y))
 | c::r,y=>if cM (c::r)=0∧cM y=0 then .inl (c::r,y) else if Lib.compareInt (cM (c::r)) (cM y)≠0 then .inr (Lib.compareInt (cM (c::r)) (cM y)) else nY r (y.drop 1)
theorem Cb {x y:LU}(h1:cM x=0)(h2:cM y=0):nY x y=.inl (x,y):=by
 cases x with
 | nil=>unfold nY;rw[if_pos h2]
 | cons c r=>unfold nY;rw[if_pos ⟨h1,h2⟩]
theorem Cc {x y:LU}(h:Lib.compareInt (cM x) (cM y)≠0):nY x y=.inr (Lib.compareInt (cM x) (cM y)):=by
 have hne:¬ (cM x=0∧cM y=0):=fun ⟨h1,h2⟩=>h (by rw[h1,h2];rfl)
 cases x with
 | nil=>
  unfold nY
  rw[if_neg (fun h2=>hne ⟨rfl,h2⟩)];rfl
 | cons c r=>unfold nY;rw[if_neg hne,if_pos h]
theorem tR {x y:LU}(h:Lib.compareInt (cM x) (cM y)=0)(h0:cM x≠0):nY x y=nY (x.drop 1) (y.drop 1):=by
 cases x with
 | nil=>exact absurd rfl h0
 | cons c r=>
  rw[nY,if_neg (fun hh=>h0 hh.1),if_neg (by rw[h];simp)];rfl
theorem KL:∀ (x y a b:LU),nY x y=.inl (a,b)→a.length≤x.length∧b.length≤y.length∧cM a=0∧cM b=0
 | [],y,a,b,h=>by
  unfold nY at h
  split at h
  ·rename_i h2
   injection h with h;injection h with h1 h3;subst h1 h3
   exact⟨lr,lr,rfl,h2⟩
  ·cases h
 | c::r,y,a,b,h=>by
  rw[nY] at h
  split at h
  ·rename_i h2
   injection h with h;injection h with h1 h3;subst h1 h3
   exact⟨lr,lr,h2.1,h2.2⟩
  ·split at h
   ·cases h
   ·obtain⟨h1,h2,h3,h4⟩:=KL r (y.drop 1) a b h
    refine⟨by simp;omega,?_,h3,h4⟩
    simp at h2;omega
def Eo (x y:LU):(LU×LU) ⊕ Int:=
 if x=[]∧y=[] then .inr 0 else match nY x y with
  | .inr c=>.inr c
  | .inl (a,b)=>if iG (a.take (au aD a)) (b.take (au aD b))≠0 then .inr (iG (a.take (au aD a)) (b.take (au aD b))) else .inl (a.drop (au aD a),b.drop (au aD b))
theorem uA {l:LU}(h:cM l=0)(hne:l≠[]):(l.drop (au aD l)).length<l.length:=by
 rcases QF h with e | ⟨c,r,e,hc⟩
 ·exact absurd e hne
 ·rw[e,eF,if_pos hc];simp;omega
theorem QG {x y:LU}{p:LU×LU}(h:Eo x y=.inl p):p.1.length+p.2.length<x.length+y.length:=by
 unfold Eo at h
 split at h
 ·cases h
 ·rename_i hne
  split at h
  ·cases h
  ·rename_i a b hr
   obtain⟨h1,h2,h3,h4⟩:=KL _ _ _ _ hr
   split at h
   ·cases h
   ·injection h with h;subst h
    simp only
    by_cases ha:a=[]
    ·by_cases hb:b=[]
     ·subst ha hb
      simp
      rcases Nat.eq_zero_or_pos (x.length+y.length) with h0 | h0
      ·exfalso;apply hne
       exact⟨List.eq_nil_of_length_eq_zero (by omega),List.eq_nil_of_length_eq_zero (by omega)⟩
      ·exact h0
     ·have:=uA h4 hb
      have h5:(a.drop (au aD a)).length≤a.length:=by simp
      omega
    ·have:=uA h3 ha
     have h5:(b.drop (au aD b)).length≤b.length:=by simp
     omega
def mQ (x y:LU):Int:=match h:Eo x y with
 | .inr c=>c
 | .inl p=>mQ p.1 p.2
termination_by x.length+y.length
decreasing_by exact QG h
theorem kV {x y:LU}{c:Int}(h:Eo x y=.inr c):mQ x y=c:=by
 rw[mQ];split
 ·rename_i h1;rw[h] at h1;injection h1 with h1;exact h1.symm
 ·rename_i h1;rw[h] at h1;cases h1
theorem nZ {x y a b:LU}(h:Eo x y=.inl (a,b)):mQ x y=mQ a b:=by
 rw[mQ];split
 ·rename_i h1;rw[h] at h1;cases h1
 ·rename_i h1;rw[h] at h1;injection h1 with h1;rw[←h1]
theorem Nw {x y u v:LU}(h:Eo x y=Eo u v):mQ x y=mQ u v:=by
 cases hn:Eo u v with
 | inr c=>rw[kV hn,kV (h.trans hn)]
 | inl p=>obtain⟨a,b⟩:=p;rw[nZ hn,nZ (h.trans hn)]
theorem sA:mQ [] []=0:=kV (by unfold Eo;rw[if_pos ⟨rfl,rfl⟩])
def Cd (l:LU):Prop:=∀ x,l.head?=some x→aD x=false
theorem KM (n:Nat)(r:LU):cM (aC n++r)=0:=by
 obtain⟨d,t,e,hd⟩:=fP n
 rw[e];exact Sw hd
theorem yX (n m:Nat){x y:LU}(hx:Cd x)(hy:Cd y):mQ (aC n++x) (aC m++y)=if cI n m≠0 then cI n m else mQ x y:=by
 have hne:¬ (aC n++x=[]∧aC m++y=[]):=fun h=>iI n (List.append_eq_nil_iff.1 h.1).1
 have e:Eo (aC n++x) (aC m++y)=if cI n m≠0 then .inr (cI n m) else .inl (x,y):=by
  unfold Eo
  rw[if_neg hne,Cb (KM n x) (KM m y)]
  simp only
  rw[er (cG n) hx,er (cG m) hy,List.take_left,List.take_left,List.drop_left,List.drop_left,sw]
 by_cases h:cI n m≠0
 ·rw[if_pos h] at e ⊢;exact kV e
 ·rw[if_neg h] at e ⊢;exact nZ e
theorem lu {x y:LU}(h:Lib.compareInt (cM x) (cM y)≠0):mQ x y=Lib.compareInt (cM x) (cM y):=by
 refine kV ?_
 unfold Eo
 rw[if_neg (fun hh=>h (by rw[hh.1,hh.2];rfl)),Cc h]
theorem vC {c : UInt8} (h : aD c = false) (x y : LU) : mQ (c :: x) (c :: y) = mQ x y := by
  have ho : cM (c :: x) ≠ 0 := QE h
  have hs : Lib.compareInt (cM (c :: x)) (cM (c :: y)) = 0 := Ca.2 rfl
  by_cases hn : x = [] ∧ y = []
  · obtain ⟨rfl, rfl⟩ := hn
    rw [sA]
    have e : Eo [c] [c] = .inl ([], []) := by
      unfold Eo
      rw [if_neg (by simp), tR hs ho]
      rfl
    rw [nZ e, sA]
  · refine Nw ?_
    unfold Eo
    rw [if_neg (by simp), if_neg hn, tR hs ho]
    rfl
theorem QH:∀ (w:LU){x y:LU},(∀ c∈w,aD c=false)→mQ (w++x) (w++y)=mQ x y
 | [],_,_,_=>rfl
 | c::r,x,y,h=>by
  show mQ (c::(r++x)) (c::(r++y))=_
  rw[vC (h c (by simp))]
  exact QH r (fun d hd=>h d (by simp[hd]))
theorem Uq (x y : LU) : mQ (46 :: x) (46 :: y) = mQ x y := vC (by decide) x y
theorem iX (n:Nat):bE 46 ([n].map aC)=aC n:=by simp[bE]
theorem gF (n m:Nat)(l:List Nat):bE 46 ((n::m::l).map aC)=aC n++46::bE 46 ((m::l).map aC):=by simp[bE]
def pO (t:LU):Prop:=∀ x,t.head?=some x→be x=true∨x=126
theorem oT {x:UInt8}(h:be x=true):aD x=false:=by
 cases hd:aD x
 ·rfl
 ·rw[jk hd] at h;cases h
theorem pO.no {t:LU}(h:pO t):Cd t:=by
 intro x hx
 rcases h x hx with h1 | rfl
 ·exact oT h1
 ·decide
theorem lw {x:UInt8}(h:be x=true):cD x=true:=by unfold cD;rw[h];rfl
theorem Sx {x:UInt8}(h:be x=true):x≠126:=by rintro rfl;revert h;decide
theorem vD {x:UInt8}{r:LU}(h:be x=true):cM (x::r)=x.toNat:=by
 rw[tQ,if_neg (by rw[oT h];simp),if_neg (Sx h),if_pos (lw h)]
theorem KN {t:LU}(h:pO t):cM t<302:=by
 cases t with
 | nil=>decide
 | cons x r=>
  rcases h x rfl with h1 | rfl
  ·rw[vD h1]
   have:=x.toNat_lt
   omega
  ·have:cM (126::r)=-1:=rfl
   rw[this];decide
theorem jG (r:LU):Cd (46::r):=by intro x hx;simp at hx;rw[←hx];decide
theorem KO:∀ (ns ms:List Nat)(s t:LU),ns≠[]→ms≠[]→pO s→pO t →
  mQ (bE 46 (ns.map aC)++s) (bE 46 (ms.map aC)++t)=iW ns ms (mQ s t)
 | [],_,_,_,h,_,_,_=>absurd rfl h
 | _::_,[],_,_,_,h,_,_=>absurd rfl h
 | [n],[m],s,t,_,_,hs,ht=>by
  rw[iX,iX,yX n m hs.no ht.no];rfl
 | [n],m::m'::ms,s,t,_,_,hs,ht=>by
  rw[iX,gF,List.append_assoc,List.cons_append,yX n m hs.no (jG _)]
  have e:mQ s (46::(bE 46 ((m'::ms).map aC)++t))=-1:=by
   have h1:Lib.compareInt (cM s) (cM (46::(bE 46 ((m'::ms).map aC)++t)))=-1:=by
    unfold Lib.compareInt;rw[if_pos (by have:=KN hs;exact this)]
   rw[lu (by rw[h1];decide),h1]
  rw[e];rfl
 | n::n'::ns,[m],s,t,_,_,hs,ht=>by
  rw[iX,gF,List.append_assoc,List.cons_append,yX n m (jG _) ht.no]
  have e:mQ (46::(bE 46 ((n'::ns).map aC)++s)) t=1:=by
   have h1:Lib.compareInt (cM (46::(bE 46 ((n'::ns).map aC)++s))) (cM t)=1:=by
    have:=KN ht
    unfold Lib.compareInt;rw[if_neg (by show ¬ (302:Int)<_;omega),if_pos (by show(302:Int) > _;omega)]
   rw[lu (by rw[h1];decide),h1]
  rw[e];rfl
 | n::n'::ns,m::m'::ms,s,t,_,_,hs,ht=>by
  rw[gF,gF,List.append_assoc,List.append_assoc,List.cons_append,List.cons_append,yX n m (jG _) (jG _),Uq,KO (n'::ns) (m'::ms) s t (by simp) (by simp) hs ht]
  rfl
theorem Nx:∀ w∈bu,∀ v∈bu,w≠v→∃ a r b s,w=a::r∧v=b::s∧a≠b∧Lib.compareBytes w v=if a<b then -1 else 1:=by
 intro w hw v hv hne
 unfold bu at hw hv
 simp only[List.mem_cons,List.not_mem_nil,or_false] at hw hv
 rcases hw with rfl | rfl | rfl | rfl<;>rcases hv with rfl | rfl | rfl | rfl<;>first | exact absurd rfl hne | exact⟨_,_,_,_,rfl,rfl,by decide,by decide⟩
theorem KP {a b:UInt8}(r s:LU)(ha:be a=true)(hb:be b=true)(h:a≠b):Lib.compareInt (cM (a::r)) (cM (b::s))=if a<b then -1 else 1:=by
 rw[vD ha,vD hb]
 unfold Lib.compareInt
 have hne:a.toNat≠b.toNat:=fun e=>h (UInt8.toNat_inj.1 e)
 by_cases hl:a<b
 ·have:=UInt8.lt_iff_toNat_lt.1 hl
  rw[if_pos hl,if_pos (by omega)]
 ·have:¬ a.toNat<b.toNat:=fun e=>hl (UInt8.lt_iff_toNat_lt.2 e)
  rw[if_neg hl,if_neg (by omega),if_pos (by omega)]
theorem QI {w:LU}(h:w∈bu):∀ c∈w,aD c=false:=fun c hc=>oT (List.all_eq_true.1 (gf h) c hc)
theorem KQ (n m:Nat):mQ (aC n) (aC m)=cI n m:=by
 have:=yX n m (x:=[]) (y:=[]) (by intro x hx;simp at hx) (by intro x hx;simp at hx)
 rw[List.append_nil,List.append_nil,sA] at this
 rw[this]
 by_cases h:cI n m≠0
 ·rw[if_pos h]
 ·rw[if_neg h];exact(Decidable.not_not.1 h).symm
def iY (w:LU)(n:Nat):LU:=if w=[] then [] else 126::(w++aC n)
theorem Sy {w v:LU}(n m:Nat)(hw:w=[]∨w∈bu)(hv:v=[]∨v∈bu):mQ (iY w n) (iY v m)=mO w n v m:=by
 unfold iY mO
 by_cases h1:w=[]
 ·rw[if_pos h1,if_pos h1]
  by_cases h2:v=[]
  ·rw[if_pos h2,if_pos h2];exact sA
  ·rw[if_neg h2,if_neg h2]
   have:Lib.compareInt (cM []) (cM (126::(v++aC m)))=1:=rfl
   rw[lu (by rw[this];decide),this]
 ·rw[if_neg h1,if_neg h1]
  have hw:=hw.resolve_left h1
  by_cases h2:v=[]
  ·rw[if_pos h2,if_pos h2]
   have:Lib.compareInt (cM (126::(w++aC n))) (cM [])=-1:=rfl
   rw[lu (by rw[this];decide),this]
  ·rw[if_neg h2,if_neg h2]
   have hv:=hv.resolve_left h2
   rw[vC (by decide)]
   by_cases he:w=v
   ·subst he
    rw[QH w (QI hw),KQ,tO,if_neg (by simp)]
   ·obtain⟨a,r,b,s,e1,e2,hab,hc⟩:=Nx w hw v hv he
    have ha:be a=true:=List.all_eq_true.1 (gf hw) a (by rw[e1];simp)
    have hb:be b=true:=List.all_eq_true.1 (gf hv) b (by rw[e2];simp)
    have hcn:Lib.compareBytes w v≠0:=by rw[hc];split<;>decide
    have hk:=KP (r++aC n) (s++aC m) ha hb hab
    rw[if_pos hcn,e1,e2,List.cons_append,List.cons_append,lu (by rw[hk,←hc];exact hcn),hk,←hc,e1,e2]
theorem js (c:aT):bM 1 c=iY c.pre c.pnum:=rfl
theorem qM {c:aT}(ok:c.ok):c.pre=[]∨c.pre∈bu:=ok.pre.imp (fun h=>h.1) id
theorem oU {c:aT}(ok:c.ok):pO (c.lt++bM 1 c):=by
 intro x hx
 rcases ok.lt with e | ⟨b,e,hb⟩
 ·rw[e,List.nil_append,js] at hx
  unfold iY at hx
  split at hx
  ·simp at hx
  ·simp at hx;exact .inr hx.symm
 ·rw[e] at hx;simp at hx;rw[←hx];exact .inl hb
theorem Sz {c d:aT}(hc:c.ok)(hd:d.ok):mQ (c.lt++bM 1 c) (d.lt++bM 1 d)=jz c d:=by
 have hp:=Sy c.pnum d.pnum (qM hc) (qM hd)
 rw[←js,←js] at hp
 have hwc:cM (bM 1 c)≤0:=by
  rw[js];unfold iY;split
  ·decide
  ·show(-1:Int)≤0;decide
 have hwd:cM (bM 1 d)≤0:=by
  rw[js];unfold iY;split
  ·decide
  ·show(-1:Int)≤0;decide
 have h97:∀ {b:UInt8} (r:LU),be b=true→0<cM (b::r):=by
  intro b r hb
  rw[vD hb]
  unfold be at hb
  have:=dO hb
  omega
 unfold jz
 rcases hc.lt with e1 | ⟨a,e1,ha⟩<;>rcases hd.lt with e2 | ⟨b,e2,hb⟩<;>rw[e1,e2]
 ·exact hp
 ·have h1:Lib.compareInt (cM ([]++bM 1 c)) (cM ([b]++bM 1 d))=-1:=by
   have:=h97 (bM 1 d) hb
   unfold Lib.compareInt
   rw[if_pos]
   show cM (bM 1 c)<cM (b::bM 1 d)
   omega
  rw[lu (by rw[h1];decide),h1]
 ·have h1:Lib.compareInt (cM ([a]++bM 1 c)) (cM ([]++bM 1 d))=1:=by
   have:=h97 (bM 1 c) ha
   unfold Lib.compareInt
   rw[if_neg,if_pos]
   ·show cM (a::bM 1 c) > cM (bM 1 d);omega
   ·show ¬ cM (a::bM 1 c)<cM (bM 1 d);omega
  rw[lu (by rw[h1];decide),h1]
 ·show mQ (a::bM 1 c) (b::bM 1 d)=if a<b then -1 else if b<a then 1 else _
  by_cases hab:a=b
  ·subst hab
   rw[vC (oT ha),if_neg (UInt8.lt_irrefl a),if_neg (UInt8.lt_irrefl a)];exact hp
  ·have hk:=KP (bM 1 c) (bM 1 d) ha hb hab
   have hn:(if a<b then (-1:Int) else 1)≠0:=by split<;>decide
   rw[lu (by rw[hk];exact hn),hk]
   by_cases hl:a<b
   ·rw[if_pos hl,if_pos hl]
   ·have hg:b<a:=by
     rw[UInt8.lt_iff_toNat_lt]
     have h1:¬ a.toNat<b.toNat:=fun e=>hl (UInt8.lt_iff_toNat_lt.2 e)
     have h2:a.toNat≠b.toNat:=fun e=>hab (UInt8.toNat_inj.1 e)
     omega
    rw[if_neg hl,if_neg hl,if_pos hg]
theorem SC {c d:aT}(hc:c.ok)(hd:d.ok):mQ (bi 1 c) (bi 1 d)=iW c.nums d.nums (jz c d):=by
 unfold bi fC
 rw[KO c.nums d.nums _ _ hc.nums hd.nums (oU hc) (oU hd),Sz hc hd]
def Ah (a b:BA):Int:=if aV 1 a≠0∨aV 1 b≠0 then 0 else bT id [iG (pi 1 (bl a)).1 (pi 1 (bl b)).1,mQ (pi 1 (bl a)).2.1 (pi 1 (bl b)).2.1,mQ (pi 1 (bl a)).2.2 (pi 1 (bl b)).2.2]
end
end Go.Proofs.YtkjdbpjglobbjaaGreatDoor
