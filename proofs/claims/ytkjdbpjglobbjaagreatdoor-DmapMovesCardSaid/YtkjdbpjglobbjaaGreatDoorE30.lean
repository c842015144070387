/- A part of the proof of a law on dependencies in three formats. No condition. -/
import Derived.Laws.IdiomStrings
import Derived.Test.YtkjdbpjglobbjaaGreatDoorE29
set_option maxRecDepth 100000
set_option maxHeartbeats 20000000
set_option linter.unusedVariables false
set_option linter.unusedSimpArgs false
namespace Go.Proofs.YtkjdbpjglobbjaaGreatDoor
section
open Go.RowKit
theorem tq {a b:Int}(s:BA)(h:¬ dk a∨¬ dk b):trans a b s=([],9):=by unfold trans;rw[if_pos h]
theorem Bg {a b:Int}{s:BA}(ha:dk a)(hb:dk b)(h:¬ dN a s=0):trans a b s=([],dN a s):=by
 unfold trans;rw[if_neg (by rintro(x | x);exact x ha;exact x hb)]
 unfold dN at h ⊢
 by_cases hv:aV a s=0
 ·rw[if_neg (by simpa using hv)] at h ⊢
  rw[if_neg (by simpa using hv)]
  cases hp:lF a (bl s) with
  | none=>rw[if_pos rfl]
  | some c=>rw[hp] at h;simp at h
 ·rw[if_pos hv,if_pos hv]
theorem FI {a b:Int}{s:BA}(ha:dk a)(hb:dk b)(h:dN a s=0){c:aT}(hc:lF a (bl s)=some c):trans a b s=qi b c:=by
 unfold trans;rw[if_neg (by rintro(x | x);exact x ha;exact x hb)]
 unfold dN at h
 by_cases hv:aV a s=0
 ·rw[if_neg (by simpa using hv),hc]
 ·rw[if_pos hv] at h;exact absurd h hv
theorem nJ (a b:Int)(s:BA)(w:World)(hG:Hr w)(hs:s.size≤9223372036854775807):
  Calls Tryz.prog 30 #[.int .i64 a,.int .i64 b,.string s] w fun e w'=>e=.returned (jN (trans a b s))∧Below w.heap.size w w':=by
 have HG:=ae hG
 clear hG
 have HNA:=ae fun W=>sR a W
 have HNB:=ae fun W=>sR b W
 by_cases ha:¬ dk a
 ·have E:=ae (tq (a:=a) (b:=b) s (.inl ha))
  have e1:mV a=true:=by unfold mV;rw[dF ha];rfl
  rw[e1] at HNA
  clear ha e1
  go_enter Tryz.func30,Tryz.ntmps30
  go_wp2_with fail
  refine(HNA.out _).mono ?_;rintro e w' ⟨rfl,rfl⟩
  go_wp2_with fail
  go_ret2
  exact⟨by rw[E.out];rfl,bR⟩
 have ha1:dk a:=Decidable.not_not.1 ha
 have e1:mV a=false:=by unfold mV;rw[dT ha1];rfl
 rw[e1] at HNA
 have HA:=ae ha1
 clear ha ha1 e1
 by_cases hb:¬ dk b
 ·have E:=ae (tq (a:=a) (b:=b) s (.inr hb))
  have e1:mV b=true:=by unfold mV;rw[dF hb];rfl
  rw[e1] at HNB
  clear hb e1
  go_enter Tryz.func30,Tryz.ntmps30
  go_wp2_with fail
  refine(HNA.out _).mono ?_;rintro e w' ⟨rfl,rfl⟩
  go_wp2_with fail
  refine(HNB.out _).mono ?_;rintro e w' ⟨rfl,rfl⟩
  go_wp2_with fail
  go_ret2
  exact⟨by rw[E.out];rfl,bR⟩
 have hb1:dk b:=Decidable.not_not.1 hb
 have e1:mV b=false:=by unfold mV;rw[dT hb1];rfl
 rw[e1] at HNB
 have HB:=ae hb1
 clear hb hb1 e1
 go_enter Tryz.func30,Tryz.ntmps30
 go_wp2_with fail
 refine(HNA.out _).mono ?_;rintro e w' ⟨rfl,rfl⟩
 go_wp2_with fail
 refine(HNB.out _).mono ?_;rintro e w' ⟨rfl,rfl⟩
 go_wp2_with fail
 refine(xx a HA.out s _ HG.out hs).mono ?_;rintro e w1 ⟨cl,rfl,hok,hfew,hpc,hb1⟩
 have HO:=ae hok;have HF:=ae hfew;have HPC:=ae hpc;have B1:=ae hb1
 clear hok hfew hpc hb1
 unfold bG.val
 have B2:Hid (Below w1.heap.size w1 (w1.alloc (.cells #[.int .i64 cl.ep,.slice cl.na cl.nums.length cl.nc,.string cl.lt,.string cl.pre,.int .i64 cl.pnum,.int .i64 cl.rev] 95))):=bR.alloc lr _
 by_cases hz:¬ dN a s=0
 ·have E:=ae (Bg HA.out HB.out hz)
  have q:(dN a s != 0)=true:=by simpa [bne] using hz
  generalize dN a s=pe at *
  clear hz
  go_wp2_with fail
  go_ret2
  exact⟨by rw[E.out];rfl,ah B1.out B2.out⟩
 ·have hz0:dN a s=0:=Decidable.not_not.1 hz
  have E:=ae (FI HA.out HB.out hz0 (HPC.out hz0))
  have q:(dN a s != 0)=false:=by rw[hz0];rfl
  generalize dN a s=pe at *
  clear hz hz0 HPC
  obtain⟨W2,hW2⟩:∃ W2,w1.alloc (.cells #[.int .i64 cl.ep,.slice cl.na cl.nums.length cl.nc,.string cl.lt,.string cl.pre,.int .i64 cl.pnum,.int .i64 cl.rev] 95)=W2:=⟨_,rfl⟩
  have K2:Hid (aF W2 w1.heap.size cl.cells):=by show aF _ _ _;rw[←hW2];exact aF.new w1 cl.cells _
  rw[hW2] at B2
  have k0:=K2.out.cell 0 _ rfl
  have k1:=K2.out.cell 1 _ rfl
  have k2:=K2.out.cell 2 _ rfl
  have k3:=K2.out.cell 3 _ rfl
  have k4:=K2.out.cell 4 _ rfl
  have k5:=K2.out.cell 5 _ rfl
  go_wp2_with fail
  refine(xf b HB.out cl W2 (HG.out.below (ah B1.out B2.out)) (Rd.below HO.out B2.out) HF.out).mono ?_;rintro e w3 ⟨rfl,hb3⟩
  have B3:=ae (ah (ah B1.out B2.out) hb3)
  clear hb3 k0 k1 k2 k3 k4 k5 hW2
  obtain⟨⟨r1,r2⟩,hr⟩:∃ r,qi b cl.plain=r:=⟨_,rfl⟩
  rw[hr] at E
  rw[hr]
  clear hr
  unfold jN
  go_wp2_with fail
  go_ret2
  exact⟨by rw[E.out];rfl,B3.out⟩
theorem fR (n:Int)(w:World):
  Calls Tryz.prog 19 #[.int .i64 n] w fun e w'=>e=.returned (.bool (decide (dk n)))∧w=w':=by
 go_enter Tryz.func19,Tryz.ntmps19
 go_wp2
 all_goals (go_ret;refine⟨am ?_,rfl⟩;rw[bI];simp[dk];omega)
def bc (a b:Int)(g:aA):aA×Int:=
 if bo (bl g.nm)=false then (⟨⟨#[]⟩,0,⟨#[]⟩⟩,10) else if g.op=0 then (⟨g.nm,0,⟨#[]⟩⟩,0) else if (trans a b g.ver).2≠0 then (⟨⟨#[]⟩,0,⟨#[]⟩⟩,11) else (⟨g.nm,g.op,⟨(trans a b g.ver).1.toArray⟩⟩,0)
def FJ (r:aA×Int):Value:=.tuple #[.agg #[.string r.1.nm,.int .i64 r.1.op,.string r.1.ver],.int .i64 r.2]
def aA.val (g:aA):Value:=.agg #[.string g.nm,.int .i64 g.op,.string g.ver]
theorem nK (a b:Int)(g:aA)(w:World)(hG:Hr w)(h1:g.nm.size≤9223372036854775807)(h2:g.ver.size≤9223372036854775807):
  Calls Tryz.prog 21 #[.int .i64 a,.int .i64 b,g.val] w fun e w'=>e=.returned (FJ (bc a b g))∧Below w.heap.size w w':=by
 have HG:=ae hG
 clear hG
 obtain⟨W0,hW0⟩:∃ W0,(w.alloc (.cells #[.string g.nm,.int .i64 g.op,.string g.ver] 53)).alloc (.cells #[.string ⟨#[]⟩,.int .i64 0,.string ⟨#[]⟩] 53)=W0:=⟨_,rfl⟩
 have B0:Hid (Below w.heap.size w W0):=by rw[←hW0];exact(bR.alloc lr _).alloc (by simp) _
 have K0:Hid (aF W0 w.heap.size [.string g.nm,.int .i64 g.op,.string g.ver]):=by show aF _ _ _;rw[←hW0];exact(aF.new w [.string g.nm,.int .i64 g.op,.string g.ver] _).alloc _
 have R0:Hid (aF W0 (w.heap.size+1) [.string ⟨#[]⟩,.int .i64 0,.string ⟨#[]⟩]):=by
  show aF _ _ _;rw[←hW0]
  have:=aF.new (w.alloc (.cells #[.string g.nm,.int .i64 g.op,.string g.ver] 53)) [.string ⟨#[]⟩,.int .i64 0,.string ⟨#[]⟩] 53
  simpa using this
 have k0:=K0.out.cell 0 _ rfl
 have k1:=K0.out.cell 1 _ rfl
 have k2:=K0.out.cell 2 _ rfl
 have r0:=R0.out.cell 0 _ rfl
 have r1:=R0.out.cell 1 _ rfl
 have r2:=R0.out.cell 2 _ rfl
 have f0:=R0.out.free 0 (by simp)
 have f1:=R0.out.free 1 (by simp)
 have f2:=R0.out.free 2 (by simp)
 unfold aA.val
 cases hn:bo (bl g.nm)
 ·have E:Hid (bc a b g=(⟨⟨#[]⟩,0,⟨#[]⟩⟩,10)):=by show _=_;unfold bc;rw[if_pos hn]
  have HN:=ae fun W=>jh g.nm W h1
  rw[hn] at HN
  clear hn
  go_enter Tryz.func21,Tryz.ntmps21
  go_wp2_with fail
  refine(HN.out _).mono ?_;rintro e w' ⟨rfl,rfl⟩
  go_wp2_with fail
  refine bodyPost_ret (v:=.tuple #[.agg #[.string ⟨#[]⟩,.int .i64 0,.string ⟨#[]⟩],.int .i64 10]) (by simp[results,Tryz.results21,go_sem,r0,r1,r2]) rfl ?_
  exact⟨by rw[E.out];rfl,aw (aw (aw B0.out (by omega) _) (by omega) _) (by omega) _⟩
 have HN:=ae fun W=>jh g.nm W h1
 rw[hn] at HN
 have HNN:=ae hn
 clear hn
 by_cases ho:g.op=0
 ·have q:(g.op==0)=true:=by simp[ho]
  have E:Hid (bc a b g=(⟨g.nm,0,⟨#[]⟩⟩,0)):=by show _=_;unfold bc;rw[if_neg (by rw[HNN.out];simp),if_pos ho]
  clear ho
  go_enter Tryz.func21,Tryz.ntmps21
  go_wp2_with fail
  refine(HN.out _).mono ?_;rintro e w' ⟨rfl,rfl⟩
  go_wp2_with fail
  refine bodyPost_ret (v:=.tuple #[.agg #[.string g.nm,.int .i64 0,.string ⟨#[]⟩],.int .i64 0]) (by simp[results,Tryz.results21,go_sem,r0,r1,r2]) rfl ?_
  exact⟨by rw[E.out];rfl,aw (aw (aw B0.out (by omega) _) (by omega) _) (by omega) _⟩
 have q:(g.op==0)=false:=by simpa using ho
 have HO:=ae ho
 clear ho
 go_enter Tryz.func21,Tryz.ntmps21
 go_wp2_with fail
 clear hW0
 refine(HN.out _).mono ?_;rintro e w' ⟨rfl,rfl⟩
 go_wp2_with fail
 refine(nJ a b g.ver _ (HG.out.below B0.out) h2).mono ?_;rintro e w1 ⟨rfl,hb1⟩
 have B1:=ae (ah B0.out hb1);have K1:=ae (K0.out.below hb1);have R1:=ae (R0.out.below hb1)
 clear hb1 k0 k1 k2 r0 r1 r2 f0 f1 f2 K0 R0 B0
 have k0:=K1.out.cell 0 _ rfl
 have k1:=K1.out.cell 1 _ rfl
 have r0:=R1.out.cell 0 _ rfl
 have r1:=R1.out.cell 1 _ rfl
 have r2:=R1.out.cell 2 _ rfl
 have f0:=R1.out.free 0 (by simp)
 have f1:=R1.out.free 1 (by simp)
 have f2:=R1.out.free 2 (by simp)
 obtain⟨⟨t,c⟩,ht⟩:∃ r,trans a b g.ver=r:=⟨_,rfl⟩
 have HT:=ae ht
 rw[ht]
 clear ht
 unfold jN
 by_cases hc:c=0
 ·have E:Hid (bc a b g=(⟨g.nm,g.op,⟨t.toArray⟩⟩,0)):=by
   show _=_;unfold bc;rw[if_neg (by rw[HNN.out];simp),if_neg HO.out,HT.out,if_neg (by simp[hc])]
  have qc:(c != 0)=false:=by simp[hc]
  clear hc
  go_wp2_with fail
  refine bodyPost_ret (v:=.tuple #[.agg #[.string g.nm,.int .i64 g.op,.string ⟨t.toArray⟩],.int .i64 0]) (by simp[results,Tryz.results21,go_sem,r0,r1,r2]) rfl ?_
  exact⟨by rw[E.out];rfl,aw (aw (aw B1.out (by omega) _) (by omega) _) (by omega) _⟩
 ·have E:Hid (bc a b g=(⟨⟨#[]⟩,0,⟨#[]⟩⟩,11)):=by
   show _=_;unfold bc;rw[if_neg (by rw[HNN.out];simp),if_neg HO.out,HT.out,if_pos hc]
  have qc:(c != 0)=true:=by simpa [bne] using hc
  clear hc
  go_wp2_with fail
  refine bodyPost_ret (v:=.tuple #[.agg #[.string ⟨#[]⟩,.int .i64 0,.string ⟨#[]⟩],.int .i64 11]) (by simp[results,Tryz.results21,go_sem,r0,r1,r2]) rfl ?_
  exact⟨by rw[E.out];rfl,aw (aw (aw B1.out (by omega) _) (by omega) _) (by omega) _⟩
structure ba where
 bar:Bool
 alts:List aA
def bT {α:Type}(f:α→Int):List α→Int
 | []=>0
 | x::r=>if f x≠0 then f x else bT f r
theorem bB {α:Type}{f:α→Int}:∀ {l:List α},bT f l=0↔∀ x∈l,f x=0
 | []=>by simp[bT]
 | a::r=>by
  unfold bT
  have ih:=bB (f:=f) (l:=r)
  by_cases h:f a=0
  ·rw[if_neg (by simpa using h),ih];simp[h]
  ·rw[if_pos h]
   constructor
   ·intro e;exact absurd e h
   ·intro hh;exact hh a (by simp)
theorem ko {α:Type}{f:α→Int}{l:List α}{k:Nat}{x:α}(hx:l[k]?=some x)(hb:∀ y∈l.take k,f y=0)(h:f x≠0):bT f l=f x:=by
 induction l generalizing k with
 | nil=>simp at hx
 | cons a r ih=>
  unfold bT
  cases k with
  | zero=>simp at hx;subst hx;rw[if_pos h]
  | succ k=>
   rw[if_neg (by simpa using hb a (by simp))]
   exact ih (by simpa using hx) (fun y hy=>hb y (by simp[hy]))
theorem IR {α:Type}{f:α→Int}{a b:List α}(h:∀ x∈a,f x=0):bT f (a++b)=bT f b:=by
 induction a with
 | nil=>rfl
 | cons x r ih=>
  rw[List.cons_append]
  conv=>lhs;unfold bT
  rw[if_neg (by simpa using h x (by simp)),ih (fun y hy=>h y (List.mem_cons_of_mem _ hy))]
def eC (a:aA):Int:=if bo (bl a.nm)=false then 10 else if a.op<0∨5<a.op then 1 else if a.op=0 then (if a.ver.size=0 then 0 else 1) else if dN 1 a.ver≠0 then 11 else 0
def qt (d:ba):Int:=if d.alts.length=0∨(d.bar=true∧1<d.alts.length) then 3 else bT eC d.alts
def bH (l:List ba):Nat:=(l.map fun d=>d.alts.length).sum
def jc (l:List ba):Int:=if 64<bH l then 4 else bT qt l
def eV (a b:Int)(d:ba):ba:=⟨d.bar,d.alts.map fun g=>(bc a b g).1⟩
def nf (fmt:Int)(d:ba):Int:=if fmt=3∧1<d.alts.length then 11 else bT (fun g=>(bc 1 fmt g).2) d.alts
def rK (fmt:Int)(l:List ba):Int:=if ¬ dk fmt then 9 else if jc l≠0 then jc l else bT (nf fmt) l
def ng (g:aA):cL:=⟨bl g.nm,[],g.op.toNat,bl g.ver,[]⟩
def dK (g:aA):gQ:=.atom (bl g.nm) g.op.toNat (bl g.ver)
def pf (d:ba):gQ:=match d.alts with
 | []=>.node eE []
 | [g]=>dK g
 | g::g2::r=>.node eE ((g::g2::r).map dK)
def jp (d:ba):dR:=match d.alts with
 | []=>⟨d.bar,[],0,[]⟩
 | g::_=>⟨d.bar,bl g.nm,g.op.toNat,bl g.ver⟩
def dM (bar:Bool)(l:List ba):List ba:=l.filter fun d=>d.bar==bar
def cT (fmt:Int)(bar:Bool)(l:List ba):List (LU):=
 if fmt=1 then (if dM bar l=[] then [] else [eY ((dM bar l).map fun d=>d.alts.map ng)])
 else if fmt=2 then (dM bar l).map fun d=>bP (pf d)
 else if bar=true∨l=[] then [] else [fz (l.map jp)]
def uW (fmt:Int)(bar:Bool)(l:List ba):List (LU):=cT fmt bar (l.map (eV 1 fmt))
def mY (t:cL):aA:=⟨bz t.name,t.op,bz t.ver⟩
def pE (bar:Bool)(L:List (List cL)):List ba×Int:=
 if L.any (fun g=>(bar&&decide (g.length≠1))||g.any fun t=>!t.qual.isEmpty || !t.archs.isEmpty)=true then ([],11) else (L.map fun g=>⟨bar,g.map mY⟩,0)
def FK:gQ→Bool
 | .atom _ _ _=>true
 | .node _ _=>false
def xy:gQ→aA
 | .atom nm op v=>⟨bz nm,op,bz v⟩
 | .node _ _=>⟨⟨#[]⟩,0,⟨#[]⟩⟩
def nL:gQ→List gQ
 | .atom nm op v=>[.atom nm op v]
 | .node o ks=>if o=eU then ks else [.node o ks]
def pG:gQ→List gQ
 | .atom nm op v=>[.atom nm op v]
 | .node o ks=>if o=eE then ks else [.node o ks]
def kK (bar:Bool)(d:gQ):List ba×Int:=
 if bar=true then (if FK d=true then ([⟨true,[xy d]⟩],0) else ([],11))
 else if (nL d).all (fun p=>(pG p).all FK)=true then ((nL d).map fun p=>⟨false,(pG p).map xy⟩,0) else ([],11)
def iA (x:dR):aA:=⟨bz x.name,x.op,bz x.ver⟩
def rL (bar:Bool)(L:List dR):List ba×Int:=
 if L.any (fun x=>decide (x.op=6)||(bar&&x.no))=true then ([],11) else (L.map fun x=>⟨bar||x.no,[iA x]⟩,0)
def bX (fmt:Int)(bar:Bool)(s:LU):List ba×Int:=
 if fmt=1 then (match eT s with | none=>([],-1) | some L=>pE bar L)
 else if fmt=2 then (match dD s with | none=>([],-1) | some d=>kK bar d)
 else (match eR s with | none=>([],-1) | some L=>rL bar L)
def lG (fmt:Int)(l:List ba):Int:=bT (fun g=>(bc fmt 1 g).2) (l.flatMap ba.alts)
def fp (fmt:Int)(bar:Bool)(s:LU):Int:=if (bX fmt bar s).2≠0 then (bX fmt bar s).2 else lG fmt (bX fmt bar s).1
def Dp (fmt:Int)(bar:Bool)(s:LU):List ba:=(bX fmt bar s).1.map (eV fmt 1)
def cq (fmt:Int)(bar:Bool)(ts:List (LU)):List ba:=ts.flatMap (Dp fmt bar)
def ek (fmt:Int)(bar:Bool)(ts:List (LU)):Int:=
 if ¬ dk fmt then 9 else if bT (fp fmt bar) ts≠0 then bT (fp fmt bar) ts else if 64<bH (cq fmt bar ts) then 4 else 0
structure aA.good (a:aA):Prop where
 name:bo (bl a.nm)=true
 op0:0≤a.op
 op5:a.op≤5
 none:a.op=0→a.ver=⟨#[]⟩
 ver:a.op≠0→dN 1 a.ver=0
theorem qv {a:aA}(h:eC a=0):a.good:=by
 unfold eC at h
 split at h
 ·cases h
 ·rename_i h1
  split at h
  ·cases h
  ·rename_i h2
   split at h
   ·rename_i h3
    split at h
    ·rename_i h4
     exact⟨by simpa using h1,by omega,by omega,fun _=>dp (by rw[bj _ h4];rfl),fun h=>absurd h3 h⟩
    ·cases h
   ·rename_i h3
    split at h
    ·cases h
    ·rename_i h4
     exact⟨by simpa using h1,by omega,by omega,fun h=>absurd h h3,fun _=>by simpa using h4⟩
theorem Mj {fmt:Int}(hf:dk fmt){a:aA}(h:a.good)(he:(bc 1 fmt a).2=0):
  ∃ t:LU,(bc 1 fmt a).1=⟨a.nm,a.op,bz t⟩∧bc fmt 1 ⟨a.nm,a.op,bz t⟩=(a,0)∧(a.op=0→t=[])∧(a.op≠0→∃ c,ct fmt c=true∧t=aN fmt c):=by
 obtain⟨nm,op,ver⟩:=a
 obtain⟨h1,h2,h3,h4,h5⟩:=h
 simp only at h1 h2 h3 h4 h5
 have hn:¬ (bo (bl nm)=false):=by rw[h1];simp
 by_cases h0:op=0
 ·obtain rfl:=h4 h0
  subst h0
  refine⟨[],?_,?_,fun _=>rfl,fun h=>absurd rfl h⟩
  ·unfold bc;rw[if_neg hn,if_pos rfl];rfl
  ·unfold bc;rw[if_neg hn,if_pos rfl]
 ·unfold bc at he
  rw[if_neg hn,if_neg h0] at he
  by_cases ht:(trans 1 fmt ver).2≠0
  ·rw[if_pos ht] at he;cases he
  ·have ht0:(trans 1 fmt ver).2=0:=by simpa using ht
   obtain⟨c,hc,hct,_,_,_,_,hb⟩:=Ii hf (v:=ver) (t:=(trans 1 fmt ver).1) (by rw[←ht0])
   refine⟨(trans 1 fmt ver).1,?_,?_,fun h=>absurd h h0,fun _=>⟨c,hc,hct⟩⟩
   ·unfold bc;rw[if_neg hn,if_neg h0,if_neg ht];rfl
   ·unfold bc
    simp only
    rw[if_neg hn,if_neg h0,hb,if_neg (by simp)]
    simp only
    rw[show(⟨(bl ver).toArray⟩:BA)=ver from iP ver]
theorem qw {fmt:Int}{c:aT}(h:ct fmt c=true):aN fmt c≠[]∧(∃ d r,aN fmt c=d::r∧aD d=true)∧∀ x∈aN fmt c,Fi x=false∧(x==32)=false∧(x==40)=false∧(x==41)=false:=by
 obtain⟨ok,_⟩:=km h
 obtain⟨d,r,e,hd⟩:=LC (fmt:=fmt) ok
 refine⟨by rw[e];simp,⟨d,r,e,hd⟩,fun x hx=>?_⟩
 have key:(aD x||be x||x==46||x==126||x==95||x==58||x==45)=true:=by
  rcases Ou ok hx with h | h | h | h | h | h
  ·rw[h];simp
  ·rw[h];simp
  ·rw[h];rfl
  ·rw[h];unfold jj;split<;>rfl
  ·rw[h];rfl
  ·rw[h];rfl
 have:=dV (fun x=>!(aD x||be x||x==46||x==126||x==95||x==58||x==45)||(!Fi x && !(x==32) && !(x==40) && !(x==41))) (by kernel_rfl) x
 simp only[key,Bool.not_true,Bool.false_or,Bool.and_eq_true,Bool.not_eq_true'] at this
 exact⟨this.1.1.1,this.1.1.2,this.1.2,this.2⟩
def qy {α:Type}(p:α→Bool):List α→Int→Int
 | [],_=>-1
 | a::r,k=>if p a=true then k else qy p r (k+1)
theorem mJ {α:Type}(p:α→Bool):∀ (l:List α)(k:Int),0≤k→decide (0≤qy p l k)=l.any p
 | [],_,_=>rfl
 | a::r,k,h=>by
  unfold qy
  cases ha:p a with
  | true=>rw[if_pos rfl,List.any_cons,ha];exact dT h
  | false=>rw[if_neg (by simp),List.any_cons,ha,mJ p r (k+1) (by omega)];rfl
theorem oD {α:Type}{p:α→Bool}{l:List α}{i:Nat}{x:α}(hx:l[i]?=some x)(hb:∀ y∈l.take i,p y=false)(h:p x=true)(k:Int):qy p l k=k+i:=by
 induction l generalizing i k with
 | nil=>simp at hx
 | cons a r ih=>
  unfold qy
  cases i with
  | zero=>simp at hx;subst hx;rw[if_pos h];simp
  | succ i=>
   rw[if_neg (by rw[hb a (by simp)];simp),ih (by simpa using hx) (fun y hy=>hb y (by simp[hy]))]
   omega
theorem kM {α:Type}{p:α→Bool}:∀ {l:List α}(k:Int),(∀ y∈l,p y=false)→qy p l k=-1
 | [],_,_=>rfl
 | a::r,k,h=>by unfold qy;rw[if_neg (by rw[h a (by simp)];simp)];exact kM (k+1) (fun y hy=>h y (List.mem_cons_of_mem _ hy))
theorem aS {α:Type}{l:List α}{k:Nat}{x:α}(hx:l[k]?=some x):l.take (k+1)=l.take k++[x]:=by
 obtain⟨hk,hf⟩:=gS hx
 rw[tS hk,hf]
theorem oE {w:World}{base b j:Nat}{e:TypeId}{size n:Nat}{nv:Value}{xs:List Value}(h:w.ownsRow base e size nv n xs)(hb:b<base)(v:Value):(w.setCell ⟨b,j,none⟩ v).ownsRow base e size nv n xs:=by
 have hg:w.grownBy (w.setCell ⟨b,j,none⟩ v) (some b):=aU (World.grownBy.refl w (some b)) (.inl rfl) _
 refine h.kept hg ?_
 cases hq:nv.ownBlock with
 | none=>exact .inl rfl
 | some q=>right;intro he;injection he with he;have:=(h.lt q hq).1;omega
theorem yI (f:FuncId)(x0 x1:Value)(p:aB→Bool)(A:Option Addr)(c:Nat)(l:List aB)(w:World)(hr:Rd w 3 A l.length (l.flatMap aB.cells))(hl:l.length≤1000000)
  (hcall:∀ (args:Array Value)(w:World),(callFunc f args).run Tryz.prog w=.ok (.enter f args) w)
  (hf:Hid (∀ g∈l,∀ W,Below w.heap.size w W→Calls Tryz.prog f #[g.val,x0,x1] W fun e w'=>e=.returned (.bool (p g))∧Below W.heap.size W w')):
  Calls Tryz.prog 97 #[.slice A l.length c,.func (.func f) #[] #[x0,x1]] w fun e w'=>e=.returned (.int .i64 (qy p l 0))∧Below w.heap.size w w':=by
 have HR:=ae hr
 clear hr
 go_enter Tryz.func97,Tryz.ntmps97
 go_wp2_with fail
 go_loopw [8] (fun i wr=>∃ k:Nat,k≤l.length∧i=.int .i64 k∧Hid (∀ y∈l.take k,p y=false)∧Hid (Below w.heap.size w wr)) (fun i _=>l.length-(intOf i).toNat)
 case atStart=>exact⟨0,z0,rfl,by simp[Hid],bR⟩
 case round=>
  obtain⟨k,hk,rfl,HN,HB⟩:=hrel
  by_cases hlt:k<l.length
  ·obtain⟨x,hx⟩:∃ x,l[k]?=some x:=⟨_,gG hlt⟩
   obtain⟨b,off,hA,he⟩:=(HR.out.below HB.out).elem lQ k x hx
   have e0:=he 0 _ rfl
   have e1:=he 1 _ rfl
   have e2:=he 2 _ rfl
   simp only[Nat.add_zero] at e0
   have hix:=fun W=>aH (T:=36) (E:=48) (sz:=3) (c:=c) Tryz.underlying36 rfl Tryz.sizeOf48 hA hlt W
   have HX:=ae hx
   have HF:=ae (fun W hb=>hf.out x (gM hx) W hb)
   unfold aB.val at HF
   clear hx hA he
   go_wp2_with fail
   refine(HF.out _ HB.out).mono ?_;rintro e w1 ⟨rfl,hb1⟩
   have B1:=ae (ah HB.out hb1)
   clear hb1 e0 e1 e2 hix HF
   cases hp:p x
   ·have HP:=ae hp
    clear hp
    go_wp2_with fail
    go_roundw
    case rel=>exact⟨k+1,by omega,by go_num,ae (fun y hy=>by
     rw[aS HX.out] at hy
     rcases List.mem_append.1 hy with hy | hy
     ·exact HN.out y hy
     ·rw[List.mem_singleton.1 hy];exact HP.out),B1⟩
    case measure=>simp[intOf];omega
   ·have E:Hid (qy p l 0=k):=by show _=_;rw[oD HX.out HN.out hp];omega
    clear hp
    go_wp2_with fail
    go_ret
    exact⟨az E.out.symm,B1.out⟩
  ·have E:Hid (qy p l 0=-1):=kM 0 (fun y hy=>HN.out y (by rw[tL (by omega)];exact hy))
   go_wp2_with fail
   go_ret
   exact⟨az E.out.symm,HB.out⟩
theorem ll (f:FuncId)(x0 x1:Value)(p:aB→Bool)(A:Option Addr)(c:Nat)(l:List aB)(w:World)(hr:Rd w 3 A l.length (l.flatMap aB.cells))(hl:l.length≤1000000)
  (hcall:∀ (args:Array Value)(w:World),(callFunc f args).run Tryz.prog w=.ok (.enter f args) w)
  (hf:Hid (∀ g∈l,∀ W,Below w.heap.size w W→Calls Tryz.prog f #[g.val,x0,x1] W fun e w'=>e=.returned (.bool (p g))∧Below W.heap.size W w')):
  Calls Tryz.prog 58 #[.slice A l.length c,.func (.func f) #[] #[x0,x1]] w fun e w'=>e=.returned (.bool (l.any p))∧Below w.heap.size w w':=by
 have HI:=ae (yI f x0 x1 p A c l w hr hl hcall hf)
 have HE:=ae (mJ p l 0 (by omega))
 generalize qy p l 0=ix at *
 clear hr hf
 go_enter Tryz.func58,Tryz.ntmps58
 go_wp2_with fail
 refine HI.out.mono ?_;rintro e w1 ⟨rfl,hb1⟩
 have B1:=ae hb1
 clear hb1
 go_wp2_with fail
 go_ret
 exact⟨am HE.out,B1.out⟩
end
end Go.Proofs.YtkjdbpjglobbjaaGreatDoor
