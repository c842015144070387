/- A part of the proof of a law on dependencies in three formats. No condition. -/
import Derived.Test.YtkjdbpjglobbjaaGreatDoorE33
import Derived.Test.YtkjdbpjglobbjaaGreatDoorE67
set_option maxRecDepth 100000
set_option maxHeartbeats 20000000
set_option linter.unusedVariables false
set_option linter.unusedSimpArgs false
namespace Go.Proofs.YtkjdbpjglobbjaaGreatDoor
section
open Go.RowKit
def UL (op c:Int):Bool:=if op=1 then decide (c<0) else if op=2 then decide (c≤0) else if op=3 then decide (c=0) else if op=4 then decide (0≤c) else if op=5 then decide (0<c) else false
def gH (fmt op:Int)(v u:BA):Bool:=if aV fmt v≠0∨aV fmt u≠0 then false else UL op (NF fmt v u)
def jP (fmt:Int)(a g:aA):Bool:=if g.nm≠a.nm then false else if a.op=0 then true else if g.op=3 then gH fmt a.op g.ver a.ver else decide (fmt=2∧g.op=0)
def N8 (fmt:Int)(a:aA)(p:bW):Bool:=(decide (p.nm=a.nm)&&(decide (a.op=0)||gH fmt a.op p.ver a.ver))||p.gives.any (jP fmt a)
def iD (fmt:Int)(set:List bW)(a:aA):Bool:=set.any (N8 fmt a)
def po (fmt:Int)(set:List bW)(d:ba):Bool:=(d.alts.any (iD fmt set)) != d.bar
def df (fmt:Int)(set:List bW)(l:List ba):Bool:=l.all (po fmt set)
def og (fmt:Int)(bar:Bool)(ts:List (LU)):List ba:=ts.flatMap fun s=>(bX fmt bar s).1
theorem jt {a b:Int}(ha:dk a)(hb:dk b){v:BA}(h:(trans a b v).2=0):
  ∃ c,aV a v=0∧lF a (bl v)=some c∧ct b c=true∧(trans a b v).1=aN b c:=by
 unfold trans at h ⊢
 rw[if_neg (by rintro(x | x);exact x ha;exact x hb)] at h ⊢
 by_cases hv:aV a v=0
 ·rw[if_neg (by simpa using hv)] at h ⊢
  cases hp:lF a (bl v) with
  | none=>rw[hp] at h;cases h
  | some c=>
   rw[hp] at h
   simp only at h ⊢
   unfold qi at h ⊢
   by_cases hc:ct b c=true
   ·rw[if_pos hc];exact⟨c,hv,rfl,hc,rfl⟩
   ·rw[if_neg hc] at h;cases h
 ·rw[if_pos hv] at h
  exact absurd h hv
theorem Ci (l:LU):(⟨l.toArray⟩:BA)=bz l:=rfl
theorem oW {a b:Int}(ha:dk a)(hb:dk b){v:BA}(h:(trans a b v).2=0):aV b ⟨(trans a b v).1.toArray⟩=0:=by
 obtain⟨c,_,_,hc,e⟩:=jt ha hb h
 rw[e,Ci];exact kG hb hc
theorem sE {a b:Int}(ha:dk a)(hb:dk b){op:Int}{v u:BA}(h1:(trans a b v).2=0)(h2:(trans a b u).2=0):
  gH a op v u=gH b op ⟨(trans a b v).1.toArray⟩ ⟨(trans a b u).1.toArray⟩:=by
 obtain⟨c,hv,pc,hc,ec⟩:=jt ha hb h1
 obtain⟨d,hu,pd,hd,ed⟩:=jt ha hb h2
 obtain⟨qc,tc⟩:=ov pc
 obtain⟨qd,td⟩:=ov pd
 unfold gH
 rw[if_neg (fun h=>h.elim (fun h=>h hv) (fun h=>h hu)),if_neg (fun h=>h.elim (fun h=>h (oW ha hb h1)) (fun h=>h (oW ha hb h2)))]
 rw[Ch ha qc qd hv hu tc.symm td.symm,Ch hb hc hd (oW ha hb h1) (oW ha hb h2) (by rw[ec,Ci,cH]) (by rw[ed,Ci,cH])]
theorem mR {a b:Int}{g:aA}(h:(bc a b g).2=0):(g.op=0∧(bc a b g).1=⟨g.nm,0,⟨#[]⟩⟩)∨(g.op≠0∧(trans a b g.ver).2=0∧(bc a b g).1=⟨g.nm,g.op,⟨(trans a b g.ver).1.toArray⟩⟩):=by
 unfold bc at h ⊢
 split at h
 ·cases h
 ·rename_i hn
  rw[if_neg hn]
  split at h
  ·rename_i h0
   rw[if_pos h0];exact .inl ⟨h0,rfl⟩
  ·rename_i h0
   rw[if_neg h0]
   split at h
   ·cases h
   ·rename_i ht
    rw[if_neg ht];exact .inr ⟨h0,by simpa using ht,rfl⟩
theorem QQ {a b:Int}(ha:dk a)(hb:dk b){g:aA}{x:bW}(hg:(bc a b g).2=0)(hx:eA a b x=0):N8 a g x=N8 b (bc a b g).1 (dG a b x):=by
 unfold eA at hx
 split at hx
 ·cases hx
 ·split at hx
  ·cases hx
  ·rename_i hv
   split at hx
   ·cases hx
   ·rename_i hgv
    have hv:(trans a b x.ver).2=0:=by simpa using hv
    have hgv:∀ y∈x.gives,y.op=3∧(trans a b y.ver).2=0:=by
     intro y hy
     have h1:(x.gives.all fun g=>decide (iy a b g=0))=true:=by simpa using hgv
     have h2:=dO (List.all_eq_true.1 h1 y hy)
     unfold iy at h2
     split at h2
     ·cases h2
     ·rename_i h3
      split at h2
      ·cases h2
      ·rename_i h4
       exact⟨Decidable.not_not.1 h3,by simpa using h4⟩
    unfold N8
    have e2:∀ y∈x.gives,jP a g y=jP b (bc a b g).1 (iM a b y):=by
     intro y hy
     obtain⟨k1,k2⟩:=hgv y hy
     unfold jP iM
     simp only
     rw[if_pos k1,if_pos trivial]
     rcases mR hg with⟨h0,e⟩ | ⟨h0,ht,e⟩
     ·rw[e];simp only;rw[if_pos h0,if_pos trivial]
     ·rw[e];simp only;rw[if_neg h0,if_neg h0,sE ha hb k2 ht]
    have e3:x.gives.any (jP a g)=(dG a b x).gives.any (jP b (bc a b g).1):=by
     unfold dG
     simp only
     rw[List.any_map]
     rw[bI,List.any_eq_true,List.any_eq_true]
     constructor
     ·rintro⟨y,hy,h⟩;exact⟨y,hy,by rw[Function.comp,←e2 y hy];exact h⟩
     ·rintro⟨y,hy,h⟩;exact⟨y,hy,by rw[e2 y hy];exact h⟩
    rw[e3]
    congr 1
    have e4:(dG a b x).nm=x.nm:=rfl
    have e5:(dG a b x).ver=⟨(trans a b x.ver).1.toArray⟩:=rfl
    rw[e4,e5]
    rcases mR hg with⟨h0,e⟩ | ⟨h0,ht,e⟩
    ·rw[e];simp[h0]
    ·rw[e];simp only;rw[sE ha hb hv ht]
theorem kW {a b:Int}{l:List bW}(h:dC a b l=0):dk a∧dk b∧∀ x∈l,eA a b x=0:=by
 unfold dC at h
 split at h
 ·cases h
 ·rename_i hf
  have hf':dk a∧dk b:=⟨Classical.byContradiction fun h=>hf (.inl h),Classical.byContradiction fun h=>hf (.inr h)⟩
  refine⟨hf'.1,hf'.2,?_⟩
  clear hf hf'
  induction l with
  | nil=>intro x hx;simp at hx
  | cons y r ih=>
   unfold mC at h
   by_cases hy:eA a b y=0
   ·rw[if_neg (by simpa using hy)] at h
    intro x hx
    rcases List.mem_cons.1 hx with rfl | hx
    ·exact hy
    ·exact ih h x hx
   ·rw[if_pos hy] at h;exact absurd h hy
theorem He {α:Type}{f g:α→Bool}{l:List α}(h:∀ x∈l,f x=g x):l.any f=l.any g:=by
 rw[bI,List.any_eq_true,List.any_eq_true]
 constructor
 ·rintro⟨x,hx,e⟩;exact⟨x,hx,by rw[←h x hx];exact e⟩
 ·rintro⟨x,hx,e⟩;exact⟨x,hx,by rw[h x hx];exact e⟩
theorem sF {α:Type}{f g:α→Bool}{l:List α}(h:∀ x∈l,f x=g x):l.all f=l.all g:=by
 rw[bI,List.all_eq_true,List.all_eq_true]
 constructor
 ·intro k x hx;rw[←h x hx];exact k x hx
 ·intro k x hx;rw[h x hx];exact k x hx
theorem JQ {a b:Int}{set:List bW}(hM:dC a b set=0){g:aA}(hg:(bc a b g).2=0):iD a set g=iD b (set.map (dG a b)) (bc a b g).1:=by
 obtain⟨ha,hb,hx⟩:=kW hM
 unfold iD
 rw[List.any_map]
 exact He fun x hm=>by rw[Function.comp];exact QQ ha hb hg (hx x hm)
theorem NH {a b:Int}{set:List bW}(hM:dC a b set=0){d:ba}(hd:∀ g∈d.alts,(bc a b g).2=0):po a set d=po b (set.map (dG a b)) (eV a b d):=by
 unfold po eV
 simp only
 rw[List.any_map]
 congr 1
 exact He fun g hg=>by rw[Function.comp];exact JQ hM (hd g hg)
theorem tT {fmt:Int}{bar:Bool}{ts:List (LU)}(h:ek fmt bar ts=0):dk fmt∧(∀ s∈ts,(bX fmt bar s).2=0)∧∀ d∈og fmt bar ts,∀ g∈d.alts,(bc fmt 1 g).2=0:=by
 unfold ek at h
 by_cases hf:dk fmt
 rotate_left
 ·rw[if_pos hf] at h;cases h
 rw[if_neg (fun hn=>hn hf)] at h
 by_cases hz:bT (fp fmt bar) ts=0
 rotate_left
 ·rw[if_pos hz] at h;exact absurd h hz
 have hz:=bB.1 hz
 have k1:∀ s∈ts,(bX fmt bar s).2=0∧lG fmt (bX fmt bar s).1=0:=by
  intro s hs
  have:=hz s hs
  unfold fp at this
  by_cases ht:(bX fmt bar s).2=0
  ·rw[if_neg (by simpa using ht)] at this;exact⟨ht,this⟩
  ·rw[if_pos ht] at this;exact absurd this ht
 refine⟨hf,fun s hs=>(k1 s hs).1,fun d hd g hg=>?_⟩
 obtain⟨s,hs,hds⟩:=List.mem_flatMap.1 hd
 have:=(k1 s hs).2
 unfold lG at this
 exact bB.1 this g (List.mem_flatMap.2 ⟨d,hds,hg⟩)
theorem sG (fmt:Int)(bar:Bool)(ts:List (LU)):cq fmt bar ts=(og fmt bar ts).map (eV fmt 1):=by
 unfold cq Dp og
 rw[List.map_flatMap]
theorem lA {fmt:Int}{bar:Bool}{ts:List (LU)}{set:List bW}(hE:ek fmt bar ts=0)(hM:dC fmt 1 set=0):
  df fmt set (og fmt bar ts)=df 1 (set.map (dG fmt 1)) (cq fmt bar ts):=by
 obtain⟨hf,_,hat⟩:=tT hE
 unfold df
 rw[sG,List.all_map]
 exact sF fun d hd=>by rw[Function.comp];exact NH hM (hat d hd)
theorem uD {a b:Int}(ha:dk a)(hb:dk b){v:BA}(h1:(trans a b v).2=0)(h2:(trans a 1 v).2=0):trans b 1 ⟨(trans a b v).1.toArray⟩=trans a 1 v:=by
 obtain⟨c,hv,pc,hc,ec⟩:=jt ha hb h1
 obtain⟨d,_,pd,hd,ed⟩:=jt ha (.inl rfl) h2
 rw[pc] at pd;injection pd with pd;subst pd
 have k:=kG hb hc
 have hs:=(cZ hb k).1
 rw[cH] at hs
 have hpc:=CT hb hs hc rfl
 have e:trans a 1 v=(aN 1 c,0):=by rw[←ed,←h2]
 rw[e,ec,Ci]
 unfold trans
 rw[if_neg (by rintro(x | x);exact x hb;exact x (.inl rfl)),if_neg (by rw[k];simp),cH,hpc]
 simp only
 unfold qi
 rw[if_pos hd]
theorem zc {a b:Int}{x:bW}(h:eA a b x=0):gg x.nm x.gives=true∧(trans a b x.ver).2=0∧∀ y∈x.gives,y.op=3∧(trans a b y.ver).2=0:=by
 unfold eA at h
 split at h
 ·cases h
 ·rename_i hn
  split at h
  ·cases h
  ·rename_i hv
   split at h
   ·cases h
   ·rename_i hgv
    refine⟨by simpa using hn,by simpa using hv,fun y hy=>?_⟩
    have h1:(x.gives.all fun g=>decide (iy a b g=0))=true:=by simpa using hgv
    have h2:=dO (List.all_eq_true.1 h1 y hy)
    unfold iy at h2
    split at h2
    ·cases h2
    ·rename_i h3
     split at h2
     ·cases h2
     ·rename_i h4
      exact⟨Decidable.not_not.1 h3,by simpa using h4⟩
theorem SW {a b:Int}{x:bW}(h0:gg x.nm x.gives=true)(h1:(trans a b x.ver).2=0)(h2:∀ y∈x.gives,y.op=3∧(trans a b y.ver).2=0):eA a b x=0:=by
 unfold eA
 rw[if_neg (by rw[h0];simp),if_neg (by rw[h1];simp),if_neg]
 have:(x.gives.all fun g=>decide (iy a b g=0))=true:=by
  rw[List.all_eq_true]
  intro y hy
  obtain⟨k1,k2⟩:=h2 y hy
  refine dT ?_
  unfold iy
  rw[if_neg (by rw[k1];simp),if_neg (by rw[k2];simp)]
 rw[this];simp
theorem Hf (a b:Int)(x:bW):gg (dG a b x).nm (dG a b x).gives=gg x.nm x.gives:=by
 unfold gg dG
 simp only
 rw[List.all_map];rfl
theorem zd {a b:Int}(ha:dk a)(hb:dk b){x:bW}(h1:eA a b x=0)(h2:eA a 1 x=0):dG b 1 (dG a b x)=dG a 1 x∧eA b 1 (dG a b x)=0:=by
 obtain⟨n1,v1,g1⟩:=zc h1
 obtain⟨_,v2,g2⟩:=zc h2
 have ev:=uD ha hb v1 v2
 have eg:∀ y∈x.gives,trans b 1 (iM a b y).ver=trans a 1 y.ver:=fun y hy=>uD ha hb (g1 y hy).2 (g2 y hy).2
 constructor
 ·unfold dG
  simp only
  rw[ev,List.map_map]
  congr 1
  apply List.map_congr_left
  intro y hy
  show iM b 1 (iM a b y)=iM a 1 y
  have h3:=eg y hy
  unfold iM at h3 ⊢
  simp only at h3 ⊢
  rw[h3]
 ·refine SW (by rw[Hf];exact n1) ?_ ?_
  ·have:(dG a b x).ver=⟨(trans a b x.ver).1.toArray⟩:=rfl
   rw[this,ev];exact v2
  ·intro y hy
   obtain⟨z,hz,rfl⟩:=List.mem_map.1 hy
   exact⟨rfl,by rw[eg z hz];exact(g2 z hz).2⟩
theorem JR {f:bW→Int}{l:List bW}(h:∀ x∈l,f x=0):mC f l=0:=ny h
theorem Hg {a b:Int}{set:List bW}(h1:dC a b set=0)(h2:dC a 1 set=0):(set.map (dG a b)).map (dG b 1)=set.map (dG a 1)∧dC b 1 (set.map (dG a b))=0:=by
 obtain⟨ha,hb,k1⟩:=kW h1
 obtain⟨_,_,k2⟩:=kW h2
 constructor
 ·rw[List.map_map]
  exact List.map_congr_left fun x hx=>(zd ha hb (k1 x hx) (k2 x hx)).1
 ·unfold dC
  rw[if_neg (by rintro(x | x);exact x hb;exact x (.inl rfl))]
  apply JR
  intro x hx
  obtain⟨y,hy,rfl⟩:=List.mem_map.1 hx
  exact(zd ha hb (k1 y hy) (k2 y hy)).2
theorem mS {a b:Int}{set:List bW}(h:dC a b set=0):fD a b set=set.map (dG a b):=by unfold fD;rw[if_pos h]
theorem Cj (fmt:Int)(set:List bW)(l m:List ba):df fmt set (l++m)=(df fmt set l&&df fmt set m):=by unfold df;rw[List.all_append]
theorem JS (fmt f:Int)(set:List bW)(l:List ba):df f set (rM fmt l)=df f set l:=by
 unfold rM df
 split
 ·rfl
 ·rw[List.all_append,bI,Bool.and_eq_true,List.all_eq_true,List.all_eq_true,List.all_eq_true]
  unfold dM
  constructor
  ·rintro⟨h1,h2⟩ x hx
   cases hb:x.bar
   ·exact h1 x (List.mem_filter.2 ⟨hx,by rw[hb];rfl⟩)
   ·exact h2 x (List.mem_filter.2 ⟨hx,by rw[hb];rfl⟩)
  ·intro h
   exact⟨fun x hx=>h x (List.mem_filter.1 hx).1,fun x hx=>h x (List.mem_filter.1 hx).1⟩
theorem QS {a b:Int}{set:List bW}{ns bs:List (LU)}(h1:ek a false ns=0)(h2:ek a true bs=0)(h3:dC a b set=0)(h4:dC a 1 set=0)(h5:rK b (cq a false ns++cq a true bs)=0):
  (df a set (og a false ns)&&df a set (og a true bs))=df 1 (fD a 1 set) (cq a false ns++cq a true bs) ∧
  (df b (fD a b set) (og b false (uW b false (cq a false ns++cq a true bs)))&&df b (fD a b set) (og b true (uW b true (cq a false ns++cq a true bs))))=df 1 (fD a 1 set) (cq a false ns++cq a true bs):=by
 obtain⟨m1,m2⟩:=Hg h3 h4
 obtain⟨k1,k2,k3⟩:=xB h5
 rw[mS h3,mS h4]
 constructor
 ·rw[lA h1 h4,lA h2 h4,Cj]
 ·rw[lA k1 m2,lA k2 m2,m1,←Cj,k3,JS]
theorem Uu {fmt:Int}{l:List ba}(h:rK fmt l=0):∀ d∈l,∀ g∈d.alts,0≤g.op∧g.op≤5:=by
 unfold rK at h
 split at h
 ·cases h
 ·split at h
  ·rename_i hc;exact absurd h hc
  ·rename_i hc
   have hc:jc l=0:=by simpa using hc
   unfold jc at hc
   split at hc
   ·cases hc
   ·intro d hd g hg
    have h1:=bB.1 hc d hd
    unfold qt at h1
    split at h1
    ·cases h1
    ·have h2:=bB.1 h1 g hg
     exact⟨(qv h2).op0,(qv h2).op5⟩
theorem oh (a b:BA)(w:World)(hG:Gl w)(ha:a.size≤1000000)(hb:b.size≤1000000):
  Calls Tryz.prog 138 #[.int .i64 1,.string a,.string b] w fun e w'=>e=.returned (.int .i64 (Ah a b))∧Below w.heap.size w w':=by
 have HG:=ae hG
 clear hG
 have S1:=ae fun W hw=>mG 1 (.inl rfl) a W (HG.out.below hw) (by omega)
 have S2:=ae fun W hw=>mG 1 (.inl rfl) b W (HG.out.below hw) (by omega)
 obtain⟨ca,hca⟩:∃ ca,aV 1 a=ca:=⟨_,rfl⟩
 obtain⟨cb,hcb⟩:∃ cb,aV 1 b=cb:=⟨_,rfl⟩
 rw[hca] at S1
 rw[hcb] at S2
 have CA:=ae hca;have CB:=ae hcb
 clear hca hcb ha hb
 go_enter Tryz.func138,Tryz.ntmps138
 go_wp2_with fail
 refine(S1.out w bR).mono ?_;rintro e w1 ⟨ep,pr,rv,rfl,hp1,hb1⟩
 have B1:=ae hb1;have P1:=ae hp1
 clear hb1 hp1 S1
 by_cases h1:ca≠0
 ·have q:(ca != 0)=true:=by simpa [bne] using h1
  have E:Hid (Ah a b=0):=by show _=_;unfold Ah;rw[if_pos (.inl (by rw[CA.out];exact h1))]
  clear h1
  go_wp2_with fail
  go_ret
  exact⟨az E.out.symm,B1.out⟩
 have q:(ca != 0)=false:=by rw[Decidable.not_not.1 h1];rfl
 have CA0:Hid (aV 1 a=0):=by show _=_;rw[CA.out];exact Decidable.not_not.1 h1
 obtain⟨x1,x2,x3,x4,x5⟩:=P1.out (Decidable.not_not.1 h1)
 have X1:=ae x1
 clear h1 x1 P1
 go_wp2_with fail
 refine(S2.out w1 B1.out).mono ?_;rintro e w2 ⟨eq,ps,rw',rfl,hp2,hb2⟩
 have B2:=ae (ah B1.out hb2);have P2:=ae hp2
 clear hb2 hp2 S2
 by_cases h2:cb≠0
 ·have q2:(cb != 0)=true:=by simpa [bne] using h2
  have E:Hid (Ah a b=0):=by show _=_;unfold Ah;rw[if_pos (.inr (by rw[CB.out];exact h2))]
  clear h2
  go_wp2_with fail
  go_ret
  exact⟨az E.out.symm,B2.out⟩
 have q2:(cb != 0)=false:=by rw[Decidable.not_not.1 h2];rfl
 have CB0:Hid (aV 1 b=0):=by show _=_;rw[CB.out];exact Decidable.not_not.1 h2
 obtain⟨y1,y2,y3,y4,y5⟩:=P2.out (Decidable.not_not.1 h2)
 have E:Hid (Ah a b=bT id [iG (bl ep) (bl eq),mQ (bl pr) (bl ps),mQ (bl rv) (bl rw')]):=by
  show _=_;unfold Ah pi
  rw[if_neg (fun h=>h.elim (fun h=>h CA0.out) (fun h=>h CB0.out)),X1.out,y1];rfl
 clear h2 y1 P2
 have N1:=ae fun W=>fN ep eq W
 have N2:=ae fun W=>jW pr ps W (by omega) (by omega)
 have N3:=ae fun W=>jW rv rw' W (by omega) (by omega)
 generalize iG (bl ep) (bl eq)=c1 at *
 generalize mQ (bl pr) (bl ps)=c2 at *
 generalize mQ (bl rv) (bl rw')=c3 at *
 have HO:=ae fun (W:World)=>JJ (some ⟨W.heap.size,0,none⟩) 3 [c1,c2,c3] (W.alloc (.cells (fu [c1,c2,c3]).toArray 3)) (DI W _ _) (by simp)
 have ic:fu [c1,c2,c3]=[.int .i64 c1,.int .i64 c2,.int .i64 c3]:=rfl
 rw[ic] at HO
 clear ic
 go_wp2_with fail
 refine(N1.out _).mono ?_;rintro e w3 ⟨rfl,hb3⟩
 have B3:=ae (ah B2.out hb3)
 clear hb3
 go_wp2_with fail
 refine(N2.out _).mono ?_;rintro e w4 ⟨rfl,hb4⟩
 have B4:=ae (ah B3.out hb4)
 clear hb4
 go_wp2_with fail
 refine(N3.out _).mono ?_;rintro e w5 ⟨rfl,hb5⟩
 have B5:=ae (ah B4.out hb5)
 clear hb5
 go_wp2_with fail
 refine(HO.out w5).mono ?_;rintro e w6 ⟨rfl,hb6⟩
 have B6:=ae (ah (ah B5.out (bR.alloc lr (.cells #[.int .i64 c1,.int .i64 c2,.int .i64 c3] 3))) hb6)
 clear hb6
 go_wp2_with fail
 go_ret
 exact⟨az E.out.symm,B6.out⟩
theorem Hh {s:BA}(h:aV 3 s=0):∃ ps p q,kB (bl s)=some (ps,p,q)∧NB (bl s)=ps:=by
 have hs:=(cZ (.inr (.inr rfl)) h).1
 have:bC 3 (bl s)=cf (bl s):=rfl
 rw[this] at hs
 unfold cf at hs
 cases hp:kB (bl s) with
 | none=>rw[hp] at hs;exact absurd rfl hs
 | some x=>obtain⟨ps,p,q⟩:=x;exact⟨ps,p,q,rfl,by unfold NB;rw[hp]⟩
def NI (N m:Nat)(acc:List Pc)(r:LU):Prop:=acc.length+r.length≤m∧r.length≤N∧∀ x∈acc,x.text.length≤N
theorem iZ {N:Nat}{acc:List Pc}{x:Pc}(h:∀ y∈acc,y.text.length≤N)(hx:x.text.length≤N):∀ y∈acc++[x],y.text.length≤N:=by
 intro y hy
 rcases List.mem_append.1 hy with hy | hy
 ·exact h y hy
 ·rw[List.mem_singleton.1 hy];exact hx
theorem uE {N m:Nat}:∀ (k:Nat)(kind:Int)(acc:List Pc)(l:LU)(acc':List Pc)(r:LU),dS k kind acc l=some (acc',r)→NI N m acc l→NI N m acc' r
 | 0,_,_,_,_,_,h,_=>by simp[dS] at h
 | k+1,kind,acc,l,acc',r,h,hp=>by
  unfold dS at h
  split at h
  ·cases h
  ·rename_i hr
   obtain⟨h1,h2,h3⟩:=hp
   have hle:=cJ aD l
   have hx:(⟨kind,l.take (au aD l),0⟩:Pc).text.length≤N:=by simp;omega
   have hd:(l.drop (au aD l)).length=l.length-au aD l:=by simp
   split at h
   ·rename_i t e
    rw[e] at hd;simp at hd
    exact uE k 6 _ t acc' r h ⟨by simp;omega,by omega,iZ h3 hx⟩
   ·injection h with h;injection h with e1 e2;subst e1 e2
    exact⟨by simp;omega,by rw[hd];omega,iZ h3 hx⟩
theorem Hi {N m:Nat}{acc:List Pc}{l:LU}(h:NI N m acc l)(hN:1≤N):NI N m (fi acc l).1 (fi acc l).2:=by
 obtain⟨h1,h2,h3⟩:=h
 unfold fi
 cases l with
 | nil=>exact⟨h1,h2,h3⟩
 | cons c r=>
  simp only
  simp at h1 h2
  split
  ·exact⟨by simp;omega,by simp only;omega,iZ h3 (by simpa using hN)⟩
  ·exact⟨by simp;omega,by simp;omega,h3⟩
theorem uF {N m:Nat}:∀ (k:Nat)(acc:List Pc)(l:LU)(acc':List Pc)(r:LU),dU k acc l=some (acc',r)→NI N m acc l→NI N m acc' r
 | 0,_,_,_,_,h,_=>by simp[dU] at h
 | k+1,acc,l,acc',r,h,hp=>by
  unfold dU at h
  split at h
  ·rename_i t
   obtain⟨h1,h2,h3⟩:=hp
   simp at h1 h2
   split at h
   ·cases h
   ·rename_i wd hw
    refine uF k _ _ acc' r h ?_
    have k1:=cJ be t
    have k2:=cJ aD (t.drop (au be t))
    rw[List.length_drop] at k2
    refine⟨?_,by simp;omega,?_⟩
    ·by_cases hz:0<au aD (List.drop (au be t) t)
     ·rw[if_pos hz];simp;omega
     ·rw[if_neg hz];simp;omega
    ·have hx:(⟨if 4≤wd then 4 else 0,t.take (au be t),wd⟩:Pc).text.length≤N:=by simp;omega
     by_cases hz:0<au aD (List.drop (au be t) t)
     ·rw[if_pos hz];exact iZ (iZ h3 hx) (by simp;omega)
     ·rw[if_neg hz,List.append_nil];exact iZ h3 hx
  ·injection h with h;injection h with e1 e2;subst e1 e2;exact hp
theorem Ck {l:LU}{ps:List Pc}{p q:LU}(h:kB l=some (ps,p,q))(hl:l.length≤64):ps.length≤1000000∧∀ x∈ps,x.text.length≤1000:=by
 unfold kB at h
 split at h
 ·cases h
 ·rename_i a r hn
  split at h
  ·cases h
  ·rename_i b t hs
   have k1:=uE (N:=64) (m:=64) _ _ _ _ _ _ hn ⟨by simpa using hl,hl,by simp⟩
   have k2:=Hi k1 (by omega)
   obtain⟨k3,k4,k5⟩:=uF _ _ _ _ _ hs k2
   unfold jA at h
   split at h
   ·injection h with h;injection h with e1 _;subst e1
    exact⟨by simp;omega,fun x hx=>Nat.le_trans (iZ k5 (by simp) x hx) (by omega)⟩
   ·rename_i v
    simp at k4
    split at h
    ·injection h with h;injection h with e1 _;subst e1
     exact⟨by simp;omega,fun x hx=>Nat.le_trans (iZ (iZ k5 (by simp;omega)) (by simp) x hx) (by omega)⟩
    ·cases h
   ·cases h
theorem pp (a b:BA)(w:World)(hG:Gl w)(ha:a.size≤1000000)(hb:b.size≤1000000):
  Calls Tryz.prog 138 #[.int .i64 3,.string a,.string b] w fun e w'=>e=.returned (.int .i64 (Ai a b))∧Below w.heap.size w w':=by
 have HG:=ae hG
 clear hG
 have S1:=ae fun W hw=>mG 3 (.inr (.inr rfl)) a W (HG.out.below hw) (by omega)
 have S2:=ae fun W hw=>mG 3 (.inr (.inr rfl)) b W (HG.out.below hw) (by omega)
 obtain⟨ca,hca⟩:∃ ca,aV 3 a=ca:=⟨_,rfl⟩
 obtain⟨cb,hcb⟩:∃ cb,aV 3 b=cb:=⟨_,rfl⟩
 rw[hca] at S1
 rw[hcb] at S2
 have CA:=ae hca;have CB:=ae hcb
 clear hca hcb ha hb
 go_enter Tryz.func138,Tryz.ntmps138
 go_wp2_with fail
 refine(S1.out w bR).mono ?_;rintro e w1 ⟨ep,pr,rv,rfl,-,hb1⟩
 have B1:=ae hb1
 clear hb1 S1
 by_cases h1:ca≠0
 ·have q:(ca != 0)=true:=by simpa [bne] using h1
  have E:Hid (Ai a b=0):=by show _=_;unfold Ai;rw[if_pos (.inl (by rw[CA.out];exact h1))]
  clear h1
  go_wp2_with fail
  go_ret
  exact⟨az E.out.symm,B1.out⟩
 have q:(ca != 0)=false:=by rw[Decidable.not_not.1 h1];rfl
 have CA0:Hid (aV 3 a=0):=by show _=_;rw[CA.out];exact Decidable.not_not.1 h1
 clear h1
 go_wp2_with fail
 refine(S2.out w1 B1.out).mono ?_;rintro e w2 ⟨eq,ps,rw',rfl,-,hb2⟩
 have B2:=ae (ah B1.out hb2)
 clear hb2 S2
 by_cases h2:cb≠0
 ·have q2:(cb != 0)=true:=by simpa [bne] using h2
  have E:Hid (Ai a b=0):=by show _=_;unfold Ai;rw[if_pos (.inr (by rw[CB.out];exact h2))]
  clear h2
  go_wp2_with fail
  go_ret
  exact⟨az E.out.symm,B2.out⟩
 have q2:(cb != 0)=false:=by rw[Decidable.not_not.1 h2];rfl
 have CB0:Hid (aV 3 b=0):=by show _=_;rw[CB.out];exact Decidable.not_not.1 h2
 clear h2
 obtain⟨xs,xp,xq,ax,tx⟩:=Hh CA0.out
 obtain⟨ys,yp,yq,ay,ty⟩:=Hh CB0.out
 have za:=(cZ (.inr (.inr rfl)) CA0.out).2
 have zb:=(cZ (.inr (.inr rfl)) CB0.out).2
 obtain⟨lx,sx⟩:=Ck ax (by rw[af];exact za)
 obtain⟨ly,sy⟩:=Ck ay (by rw[af];exact zb)
 have E:Hid (Ai a b=gx xs ys):=by
  show _=_;unfold Ai
  rw[if_neg (fun h=>h.elim (fun h=>h CA0.out) (fun h=>h CB0.out)),tx,ty]
 have P1:=ae fun W hw=>kD a W (HG.out.below hw) za
 have P2:=ae fun W hw=>kD b W (HG.out.below hw) zb
 unfold pY at P1 P2
 rw[ax] at P1
 rw[ay] at P2
 have SX:=ae sx;have SY:=ae sy
 clear ax ay tx ty sx sy za zb
 go_wp2_with fail
 refine(P1.out _ B2.out).mono ?_;rintro e w3 ⟨hb3,A,c,rfl,hr⟩
 have B3:=ae (ah B2.out hb3)
 have RA:=ae hr
 clear hb3 hr P1
 go_wp2_with fail
 refine(P2.out _ B3.out).mono ?_;rintro e w4 ⟨hb4,B,d,rfl,hr⟩
 have B4:=ae (ah B3.out hb4)
 have RB:=ae hr
 have RA4:=ae (RA.out.below hb4)
 clear hb4 hr P2 RA
 have CF:=ae (vf 182 A B c d xs ys w4 RA4.out RB.out lx ly Tryz.call182 (ae fun p hp q hq W=>Aj p q W (SX.out p hp) (SY.out q hq)))
 go_wp2_with fail
 refine CF.out.mono ?_;rintro e w5 ⟨rfl,hb5⟩
 have B5:=ae (ah B4.out hb5)
 clear hb5
 go_wp2_with fail
 go_ret
 exact⟨az E.out.symm,B5.out⟩
theorem vg (fmt:Int)(hf:dk fmt)(a b:BA)(w:World)(hG:Gl w)(ha:a.size≤1000000)(hb:b.size≤1000000):
  Calls Tryz.prog 138 #[.int .i64 fmt,.string a,.string b] w fun e w'=>e=.returned (.int .i64 (NF fmt a b))∧Below w.heap.size w w':=by
 rcases hf with rfl | rfl | rfl
 ·exact oh a b w hG ha hb
 ·exact jV a b w hG ha hb
 ·exact pp a b w hG ha hb
theorem uG (fmt:Int)(hf:dk fmt)(op:Int)(h1:1≤op)(h5:op≤5)(v u:BA)(w:World)(hG:Gl w)(hv:v.size≤1000000)(hu:u.size≤1000000):
  Calls Tryz.prog 98 #[.int .i64 fmt,.int .i64 op,.string v,.string u] w fun e w'=>e=.returned (.bool (gH fmt op v u))∧Below w.heap.size w w':=by
 have HG:=ae hG
 have C1:=ae fun W hb=>bh fmt v W (HG.out.below hb) (by omega)
 have C2:=ae fun W hb=>bh fmt u W (HG.out.below hb) (by omega)
 have C3:=ae fun W hb=>vg fmt hf v u W (HG.out.below hb) hv hu
 obtain⟨cv,hcv⟩:∃ c,aV fmt v=c:=⟨_,rfl⟩
 obtain⟨cu,hcu⟩:∃ c,aV fmt u=c:=⟨_,rfl⟩
 have E:Hid (gH fmt op v u=if cv≠0∨cu≠0 then false else UL op (NF fmt v u)):=by show _=_;unfold gH;rw[hcv,hcu]
 rw[hcv] at C1
 rw[hcu] at C2
 generalize NF fmt v u=cc at *
 generalize gH fmt op v u=R at *
 clear hG hv hu hcv hcu hf
 by_cases hv:cv≠0
 ·have q:(cv != 0)=true:=by simpa [bne] using hv
  have E2:Hid (R=false):=by show _=_;rw[E.out,if_pos (.inl hv)]
  clear hv E h1 h5
  go_enter Tryz.func98,Tryz.ntmps98
  go_wp2_with fail
  refine(C1.out _ bR).mono ?_;rintro e w1 ⟨rfl,hb1⟩
  have B1:=ae hb1
  clear hb1
  go_wp2_with fail
  go_ret
  exact⟨am E2.out.symm,B1.out⟩
 have q:(cv != 0)=false:=by rw[Decidable.not_not.1 hv];rfl
 by_cases hu:cu≠0
 ·have q2:(cu != 0)=true:=by simpa [bne] using hu
  have E2:Hid (R=false):=by show _=_;rw[E.out,if_pos (.inr hu)]
  clear hu hv E h1 h5
  go_enter Tryz.func98,Tryz.ntmps98
  go_wp2_with fail
  refine(C1.out _ bR).mono ?_;rintro e w1 ⟨rfl,hb1⟩
  have B1:=ae hb1
  clear hb1
  go_wp2_with fail
  refine(C2.out _ B1.out).mono ?_;rintro e w2 ⟨rfl,hb2⟩
  have B2:=ae (ah B1.out hb2)
  clear hb2
  go_wp2_with fail
  go_ret
  exact⟨am E2.out.symm,B2.out⟩
 have q2:(cu != 0)=false:=by rw[Decidable.not_not.1 hu];rfl
 have E2:Hid (R=UL op cc):=by show _=_;rw[E.out,if_neg (fun h=>h.elim hv hu)]
 clear hu hv E
 rcases(by omega:op=1∨op=2∨op=3∨op=4∨op=5) with rfl | rfl | rfl | rfl | rfl
 all_goals
  clear h1 h5
  go_enter Tryz.func98,Tryz.ntmps98
  go_wp2_with fail
  refine(C1.out _ bR).mono ?_;rintro e w1 ⟨rfl,hb1⟩
  have B1:=ae hb1
  clear hb1
  go_wp2_with fail
  refine(C2.out _ B1.out).mono ?_;rintro e w2 ⟨rfl,hb2⟩
  have B2:=ae (ah B1.out hb2)
  clear hb2
  go_wp2_with fail
  refine(C3.out _ B2.out).mono ?_;rintro e w3 ⟨rfl,hb3⟩
  have B3:=ae (ah B2.out hb3)
  clear hb3
  go_wp2_with fail
  go_ret
  exact⟨am (by rw[E2.out];first | (simp[UL];done) | (simp[UL];rfl)),B3.out⟩
end
end Go.Proofs.YtkjdbpjglobbjaaGreatDoor
