/- A part of the proof of a law on dependencies in three formats. No condition. -/
import Derived.Test.YtkjdbpjglobbjaaGreatDoorE30
set_option maxRecDepth 100000
set_option maxHeartbeats 20000000
set_option linter.unusedVariables false
set_option linter.unusedSimpArgs false
namespace Go.Proofs.YtkjdbpjglobbjaaGreatDoor
section
open Go.RowKit
structure aA.told (fmt:Int) (a:aA):Prop where
 name:bo (bl a.nm)=true
 op0:0≤a.op
 op5:a.op≤5
 none:a.op=0→bl a.ver=[]
 ver:a.op≠0→∃ c,ct fmt c=true∧bl a.ver=aN fmt c
theorem tr {fmt:Int}(hf:dk fmt){a:aA}(h:a.good)(he:(bc 1 fmt a).2=0):
  (bc 1 fmt a).1.told fmt∧bc fmt 1 (bc 1 fmt a).1=(a,0):=by
 obtain⟨t,e1,e2,e3,e4⟩:=Mj hf h he
 rw[e1]
 refine⟨⟨h.name,h.op0,h.op5,fun h0=>by rw[cH];exact e3 h0,fun h0=>?_⟩,e2⟩
 obtain⟨c,hc,ht⟩:=e4 h0
 exact⟨c,hc,by rw[cH,ht]⟩
theorem Bh {a:aA}(h:a.told 1):(ng a).bare:=by
 have h5:=h.op5;have h0:=h.op0
 refine⟨h.name,rfl,rfl,by show a.op.toNat≤5;omega,fun e=>h.none (by have:a.op.toNat=0:=e;omega),fun e=>?_⟩
 have e':¬ a.op.toNat=0:=e
 obtain⟨c,hc,hv⟩:=h.ver (by omega)
 obtain⟨b1,_,b3⟩:=qw hc
 show aV 1 (bz (bl a.ver))=0∧bl a.ver≠[]∧∀ x∈bl a.ver,Fi x=false
 rw[hv]
 exact⟨kG (.inl rfl) hc,b1,fun x hx=>(b3 x hx).1⟩
theorem FM (no:Bool){a:aA}(h:a.told 3):(⟨no,bl a.nm,a.op.toNat,bl a.ver⟩:dR).bare:=by
 have h5:=h.op5;have h0:=h.op0
 refine⟨h.name,by show a.op.toNat≤5;omega,fun e=>h.none (by have:a.op.toNat=0:=e;omega),fun e=>?_⟩
 have e':¬ a.op.toNat=0:=e
 obtain⟨c,hc,hv⟩:=h.ver (by omega)
 obtain⟨_,b2,b3⟩:=qw hc
 show aV 3 (bz (bl a.ver))=0∧(∃ d r,bl a.ver=d::r∧aD d=true)∧∀ y∈bl a.ver,(y==32)=false
 rw[hv]
 exact⟨kG (.inr (.inr rfl)) hc,b2,fun x hx=>(b3 x hx).2.1⟩
structure ba.told (fmt:Int) (d:ba):Prop where
 ne:d.alts≠[]
 one:d.bar=true→d.alts.length=1
 apk:fmt=3→d.alts.length=1
 each:∀ a∈d.alts,a.told fmt
theorem xz {l:List aA}{f:aA→aA}(h:∀ a∈l,f a=a):l.map f=l:=by
 conv=>rhs;rw[←List.map_id l]
 exact List.map_congr_left fun a ha=>h a ha
theorem gq {bar:Bool}{l:List ba}{d:ba}(h:d∈dM bar l):d∈l∧d.bar=bar:=by
 unfold dM at h
 rw[List.mem_filter] at h
 exact⟨h.1,by simpa using h.2⟩
theorem rN {l:List ba}{d:ba}(h:d∈l):d.alts.length≤bH l:=by
 unfold bH
 induction l with
 | nil=>simp at h
 | cons a r ih=>
  rw[List.map_cons,List.sum_cons]
  rcases List.mem_cons.1 h with rfl | h
  ·omega
  ·have:=ih h;omega
theorem mH (bar:Bool):∀ l:List ba,bH (dM bar l)≤bH l
 | []=>by simp[dM,bH]
 | a::r=>by
  have ih:=mH bar r
  unfold bH dM at *
  rw[List.filter_cons]
  split
  ·rw[List.map_cons,List.map_cons,List.sum_cons,List.sum_cons];omega
  ·rw[List.map_cons,List.sum_cons];omega
theorem oB {l:List ba}(h:∀ d∈l,d.alts≠[]):l.length≤bH l:=by
 unfold bH
 induction l with
 | nil=>simp
 | cons a r ih=>
  have h1:=ih (fun d hd=>h d (List.mem_cons_of_mem _ hd))
  have h2:=List.length_pos_iff.2 (h a (by simp))
  rw[List.map_cons,List.sum_cons,List.length_cons];omega
theorem rP {fmt:Int}(hf:dk fmt){d:ba}(h:qt d=0)(he:nf fmt d=0):(eV 1 fmt d).told fmt∧eV fmt 1 (eV 1 fmt d)=d∧∀ b∈(eV 1 fmt d).alts,(bc fmt 1 b).2=0:=by
 obtain⟨bar,alts⟩:=d
 unfold qt at h
 simp only at h
 split at h
 ·cases h
 rename_i hn
 have hg:∀ a∈alts,a.good:=fun a ha=>qv (bB.1 h a ha)
 unfold nf at he
 simp only at he
 split at he
 ·cases he
 rename_i h3
 have hz:∀ a∈alts,(bc 1 fmt a).2=0:=bB.1 he
 have h0:alts.length≠0:=fun e=>hn (.inl e)
 refine⟨⟨?_,?_,?_,?_⟩,?_,?_⟩
 ·show alts.map (fun g=>(bc 1 fmt g).1)≠[]
  intro e;apply h0;have:=congrArg List.length e;simpa using this
 ·intro hb;show(alts.map _).length=1
  have hb':bar=true:=hb
  rw[List.length_map]
  have:¬ 1<alts.length:=fun hl=>hn (.inr ⟨hb',hl⟩)
  omega
 ·intro hb;show(alts.map _).length=1
  rw[List.length_map]
  have:¬ 1<alts.length:=fun hl=>h3 ⟨hb,hl⟩
  omega
 ·intro b hb
  obtain⟨a,ha,rfl⟩:=List.mem_map.1 hb
  exact(tr hf (hg a ha) (hz a ha)).1
 ·show(⟨bar,(alts.map fun g=>(bc 1 fmt g).1).map fun g=>(bc fmt 1 g).1⟩:ba)=⟨bar,alts⟩
  congr 1
  rw[List.map_map]
  refine xz fun a ha=>?_
  show(bc fmt 1 (bc 1 fmt a).1).1=a
  rw[(tr hf (hg a ha) (hz a ha)).2]
 ·intro b hb
  obtain⟨a,ha,rfl⟩:=List.mem_map.1 hb
  rw[(tr hf (hg a ha) (hz a ha)).2]
theorem mI (a b:Int)(l:List ba):bH (l.map (eV a b))=bH l:=by
 unfold bH;rw[List.map_map];congr 1;exact List.map_congr_left fun d _=>by simp[eV]
def fu (l:List Int):List Value:=l.map fun x=>.int .i64 x
theorem JJ (A:Option Addr)(c:Nat)(l:List Int)(w:World)(hr:Rd w 1 A l.length (fu l))(hl:l.length≤1000000):
  Calls Tryz.prog 185 #[.slice A l.length c] w fun e w'=>e=.returned (.int .i64 (bT id l))∧Below w.heap.size w w':=by
 have HR:=ae hr
 clear hr
 go_enter Tryz.func185,Tryz.ntmps185
 go_wp2_with fail
 go_loop [8] (fun i=>∃ k:Nat,k≤l.length∧i=.int .i64 k∧Hid (∀ y∈l.take k,id y=0)) (fun i=>l.length-(intOf i).toNat)
 case atStart=>exact⟨0,z0,rfl,by simp[Hid]⟩
 case round=>
  obtain⟨k,hk,rfl,HN⟩:=hrel
  by_cases hlt:k<l.length
  ·obtain⟨x,hx⟩:∃ x,l[k]?=some x:=⟨_,gG hlt⟩
   obtain⟨b,off,hA,he⟩:=HR.out.2 (by omega)
   have e0:=he k (.int .i64 x) (by unfold fu;rw[List.getElem?_map,hx];rfl)
   have hix:=fun W=>aH (T:=93) (E:=3) (sz:=1) (c:=c) Tryz.underlying93 rfl Tryz.sizeOf3 hA hlt W
   simp only[Nat.mul_one] at hix
   have HX:=ae hx
   clear hx hA he
   by_cases h0:x≠0
   ·have q:(x != 0)=true:=by simpa [bne] using h0
    have E:Hid (bT id l=x):=ko (f:=id) HX.out HN.out h0
    clear h0
    go_wp2_with fail
    go_ret
    exact⟨az E.out.symm,bR⟩
   ·have hx0:x=0:=Decidable.not_not.1 h0
    have q:(x != 0)=false:=by rw[hx0];rfl
    have HX0:=ae hx0
    clear h0 hx0
    go_wp2_with fail
    go_round
    case rel=>exact⟨k+1,by omega,by go_num,ae (fun y hy=>by
     rw[aS HX.out] at hy
     rcases List.mem_append.1 hy with hy | hy
     ·exact HN.out y hy
     ·rw[List.mem_singleton.1 hy];exact HX0.out)⟩
    case measure=>simp[intOf];omega
  ·have E:Hid (bT id l=0):=bB.2 (fun y hy=>HN.out y (by rw[tL (by omega)];exact hy))
   go_wp2_with fail
   go_ret
   exact⟨az E.out.symm,bR⟩
def iG (a b:LU):Int:=bT id [Lib.compareInt (Lib.trimLeftB a 48).length (Lib.trimLeftB b 48).length,Lib.compareBytes (Lib.trimLeftB a 48) (Lib.trimLeftB b 48)]
theorem DI (w:World)(t:TypeId)(l:List Int):Rd (w.alloc (.cells (fu l).toArray t)) 1 (some ⟨w.heap.size,0,none⟩) l.length (fu l):=by
 refine⟨by unfold fu;simp,fun _=>⟨_,_,rfl,fun j u hu=>?_⟩⟩
 have:=(aF.new w (fu l) t).cell j u hu
 simpa using this
theorem BO (a:BA)(w:World):Calls Tryz.prog 220 #[.string a,.string ⟨#[48]⟩] w fun e w'=>e=.returned (.string (bz (Lib.trimLeftB (bl a) 48)))∧w=w':=
 (Tryz.strings_TrimLeft_one a 48 (by decide) w).mono fun e w' ⟨he,hw⟩=>⟨he,hw.symm⟩
theorem fN (a b:BA)(w:World):
  Calls Tryz.prog 186 #[.string a,.string b] w fun e w'=>e=.returned (.int .i64 (iG (bl a) (bl b)))∧Below w.heap.size w w':=by
 have HT1:=ae fun W=>BO a W
 have HT2:=ae fun W=>BO b W
 obtain⟨x,hx⟩:∃ x,Lib.trimLeftB (bl a) 48=x:=⟨_,rfl⟩
 obtain⟨y,hy⟩:∃ y,Lib.trimLeftB (bl b) 48=y:=⟨_,rfl⟩
 rw[hx] at HT1
 rw[hy] at HT2
 have E:Hid (iG (bl a) (bl b)=bT id [Lib.compareInt (bz x).size (bz y).size,Lib.compareBytes x y]):=by
  show _=_;unfold iG;rw[hx,hy,bQ,bQ]
 have HC1:=ae fun W=>Tryz.cmp_Compare_int (bz x).size (bz y).size W
 have HC2:Hid (∀ W,Calls Tryz.prog 217 #[.string (bz x),.string (bz y)] W fun e w'=>e=.returned (.int .i64 (Lib.compareBytes x y))∧w'=W):=fun W=>
  (Tryz.strings_Compare (bz x) (bz y) W).mono fun e w' ⟨he,hw⟩=>⟨by rw[he,show(bz x).data.toList=x from cH x,show(bz y).data.toList=y from cH y],hw⟩
 clear hx hy
 generalize bz x=X at *
 generalize bz y=Y at *
 generalize hc1:Lib.compareInt (X.size:Int) (Y.size:Int)=c1 at *
 generalize hc2:Lib.compareBytes x y=c2 at *
 clear hc1 hc2
 have HO:=ae fun (_:Unit)=>JJ (some ⟨w.heap.size,0,none⟩) 2 [c1,c2] (w.alloc (.cells (fu [c1,c2]).toArray 3)) (DI w _ _) (by simp)
 have HB:Hid (Below w.heap.size w (w.alloc (.cells (fu [c1,c2]).toArray 3))):=bR.alloc lr _
 have ic:fu [c1,c2]=[.int .i64 c1,.int .i64 c2]:=rfl
 rw[ic] at HO HB
 clear ic
 go_enter Tryz.func186,Tryz.ntmps186
 go_wp2_with fail
 refine(HT1.out _).mono ?_;rintro e w' ⟨rfl,rfl⟩
 go_wp2_with fail
 refine(HT2.out _).mono ?_;rintro e w' ⟨rfl,rfl⟩
 go_wp2_with fail
 refine(HC1.out _).mono ?_;rintro e w' ⟨rfl,rfl⟩
 go_wp2_with fail
 refine(HC2.out _).mono ?_;rintro e w' ⟨rfl,rfl⟩
 go_wp2_with fail
 refine(HO.out ()).mono ?_;rintro e w' ⟨rfl,hb⟩
 have B:=ae (ah HB.out hb)
 clear hb
 go_wp2_with fail
 go_ret
 exact⟨az E.out.symm,B.out⟩
def DJ (c:UInt8):Bool:=!cD c && !aD c&&c != 126&&c != 94
def sJ (l:LU):LU:=l.drop (au DJ l)
def mv (l:LU)(c:UInt8):Bool:=Lib.hasPrefix l [c]
def nS:Bool→UInt8→Bool
 | true=>aD
 | false=>cD
def N6 (d:Bool)(a b:LU):Int:=if d=true then iG a b else Lib.compareBytes a b
def GS (l:LU):Bool:=aD (l.headD 0)
def iU (x y:LU):(LU×LU) ⊕ Int:=
 if mv x 126=true∧mv y 126=true then .inl (x.drop 1,y.drop 1)
 else if mv x 126=true then .inr (-1) else if mv y 126=true then .inr 1
 else if mv x 94=true∧mv y 94=true then .inl (x.drop 1,y.drop 1)
 else if mv x 94=true then .inr (if y.length=0 then 1 else -1)
 else if mv y 94=true then .inr (if x.length=0 then -1 else 1)
 else if x.length=0∨y.length=0 then .inr (Lib.compareInt x.length y.length)
 else if au (nS (GS x)) x=0 then .inr 0
 else if au (nS (GS x)) y=0 then .inr (if GS x=true then 1 else -1)
 else if N6 (GS x) (x.take (au (nS (GS x)) x)) (y.take (au (nS (GS x)) y))≠0 then .inr (N6 (GS x) (x.take (au (nS (GS x)) x)) (y.take (au (nS (GS x)) y)))
 else .inl (x.drop (au (nS (GS x)) x),y.drop (au (nS (GS x)) y))
theorem oS {l:LU}{c:UInt8}(h:mv l c=true):1≤l.length:=by
 cases l with
 | nil=>simp[mv,Lib.hasPrefix] at h
 | cons a r=>simp
theorem Sl {x y a b:LU}(h:iU x y=.inl (a,b)):a.length<x.length:=by
 unfold iU at h
 repeat' split at h
 all_goals try (cases h;done)
 all_goals injection h with h;injection h with h1 h2;subst h1
 ·rename_i h;have:=oS h.1;simp;omega
 ·rename_i h;have:=oS h.1;simp;omega
 ·rename_i h1 h2 h3 h4;rw[List.length_drop];have:=cJ (nS (GS x)) x;omega
def jO (x y:LU):(LU×LU) ⊕ Int:=iU (sJ x) (sJ y)
theorem Sm {x y:LU}{p:LU×LU}(h:jO x y=.inl p):p.1.length<x.length:=by
 obtain⟨a,b⟩:=p
 have h1:=Sl h
 have h2:(sJ x).length≤x.length:=by unfold sJ;simp
 simp only;omega
def fv (x y:LU):Int:=match h:jO x y with
 | .inr c=>c
 | .inl p=>fv p.1 p.2
termination_by x.length
decreasing_by exact Sm h
theorem bD {x y:LU}{c:Int}(h:jO x y=.inr c):fv x y=c:=by
 rw[fv];split
 ·rename_i h1;rw[h] at h1;injection h1 with h1;exact h1.symm
 ·rename_i h1;rw[h] at h1;cases h1
theorem gE {x y a b:LU}(h:jO x y=.inl (a,b)):fv x y=fv a b:=by
 rw[fv];split
 ·rename_i h1;rw[h] at h1;cases h1
 ·rename_i h1;rw[h] at h1;injection h1 with h1;rw[←h1]
theorem Qh {l:LU}{c:UInt8}{r:LU}(h:sJ l=c::r):DJ c=false:=by
 unfold sJ at h
 have hl:au DJ l<l.length:=by
  have:=congrArg List.length h;simp at this;omega
 obtain⟨a,r',e,ha⟩:=lU l hl
 rw[h] at e;injection e with e1 e2;rw[e1];exact ha
theorem Sn {l:LU}(h:(sJ l).length≠0)(h1:mv (sJ l) 126=false)(h2:mv (sJ l) 94=false):au (nS (GS (sJ l))) (sJ l)≠0:=by
 cases hx:sJ l with
 | nil=>rw[hx] at h;exact absurd rfl h
 | cons c r=>
  have hs:=Qh hx
  rw[hx] at h1 h2
  have e1:(c != 126)=true:=by simpa [mv,Lib.hasPrefix,List.isPrefixOf,bne,BEq.comm] using h1
  have e2:(c != 94)=true:=by simpa [mv,Lib.hasPrefix,List.isPrefixOf,bne,BEq.comm] using h2
  unfold DJ at hs
  rw[e1,e2] at hs
  simp only[Bool.and_true] at hs
  have e:GS (c::r)=aD c:=rfl
  rw[e]
  cases hd:aD c
  ·rw[hd] at hs
   have:cD c=true:=by simpa using hs
   show au cD (c::r)≠0
   rw[eF,if_pos this];omega
  ·show au aD (c::r)≠0
   rw[eF,if_pos hd];omega
theorem yG (c:UInt8):((c.toNat:Int) != 126)=(c != 126):=by
 have:=dV (fun x=>((x.toNat:Int) != 126)==(x != 126)) (by kernel_rfl) c
 simpa using this
theorem Aa (c:UInt8):((c.toNat:Int) != 94)=(c != 94):=by
 have:=dV (fun x=>((x.toNat:Int) != 94)==(x != 94)) (by kernel_rfl) c
 simpa using this
theorem Ab (c:UInt8)(w:World):
  Calls Tryz.prog 226 #[.int .u8 c.toNat] w fun e w'=>e=.returned (.bool (DJ c))∧w=w':=by
 have E:Hid (DJ c=(!cD c && !aD c&&c != 126&&c != 94)):=rfl
 obtain⟨b1,h1⟩:∃ b,(c != 126)=b:=⟨_,rfl⟩
 obtain⟨b2,h2⟩:∃ b,(c != 94)=b:=⟨_,rfl⟩
 have q1:((c.toNat:Int) != 126)=b1:=by
  rw[←h1];exact yG c
 have q2:((c.toNat:Int) != 94)=b2:=by
  rw[←h2];exact Aa c
 rw[h1,h2] at E
 obtain⟨b3,h3⟩:∃ b,cD c=b:=⟨_,rfl⟩
 obtain⟨b4,h4⟩:∃ b,aD c=b:=⟨_,rfl⟩
 have L1:=ae fun W=>eu c W
 have L2:=ae fun W=>cO c W
 rw[h3] at L1 E
 rw[h4] at L2 E
 clear h1 h2 h3 h4
 cases b3
 ·cases b4
  ·cases b1
   all_goals
    go_enter Tryz.func226,Tryz.ntmps226
    go_wp2_with fail
    refine(L1.out _).mono ?_;rintro e w' ⟨rfl,rfl⟩
    go_wp2_with fail
    refine(L2.out _).mono ?_;rintro e w' ⟨rfl,rfl⟩
    go_wp2_with fail
    go_ret
    exact⟨am (by rw[E.out];simp),rfl⟩
  ·go_enter Tryz.func226,Tryz.ntmps226
   go_wp2_with fail
   refine(L1.out _).mono ?_;rintro e w' ⟨rfl,rfl⟩
   go_wp2_with fail
   refine(L2.out _).mono ?_;rintro e w' ⟨rfl,rfl⟩
   go_wp2_with fail
   go_ret
   exact⟨am (by rw[E.out];simp),rfl⟩
 ·go_enter Tryz.func226,Tryz.ntmps226
  go_wp2_with fail
  refine(L1.out _).mono ?_;rintro e w' ⟨rfl,rfl⟩
  go_wp2_with fail
  go_ret
  exact⟨am (by rw[E.out];simp),rfl⟩
theorem Qi (s:BA)(w:World)(hs:s.size≤9223372036854775807):
  Calls Tryz.prog 154 #[.string s,.func (.func 226) #[] #[]] w fun e w'=>e=.returned (.int .i64 (au DJ (bl s)))∧w=w':=
 la _ DJ s w hs Tryz.call226 (ae fun c=>Ab c w)
theorem yH (s:BA)(w:World)(hs:s.size≤9223372036854775807):
  Calls Tryz.prog 154 #[.string s,.func (.func 192) #[] #[]] w fun e w'=>e=.returned (.int .i64 (au cD (bl s)))∧w=w':=
 la _ cD s w hs Tryz.call192 (ae fun c=>eu c w)
def Tl (s:BA):BA:=s.extract (au DJ (bl s)) s.size
theorem Qj (s:BA):bl (Tl s)=sJ (bl s):=by unfold Tl sJ;rw[aX]
theorem Qk (s:BA):(Tl s).size≤s.size:=by unfold Tl;rw[bm];omega
theorem sk (s:BA)(w:World)(hs:s.size≤9223372036854775807):
  Calls Tryz.prog 219 #[.string s] w fun e w'=>e=.returned (.string (Tl s))∧w=w':=by
 unfold Tl
 have HR:=ae fun W=>Qi s W hs
 have hn:au DJ (bl s)≤s.size:=by have:=cJ DJ (bl s);rwa [af] at this
 generalize au DJ (bl s)=n at *
 go_enter Tryz.func219,Tryz.ntmps219
 go_wp2_with fail
 refine(HR.out _).mono ?_;rintro e w' ⟨rfl,rfl⟩
 go_wp2_with fail
 go_ret
 exact⟨rfl,rfl⟩
def mZ:Value→Nat
 | .string s=>s.size
 | _=>0
theorem kS (x0 y0:BA)(w:World)(hx0:x0.size≤1000000)(hy0:y0.size≤1000000):
  Calls Tryz.prog 184 #[.string x0,.string y0] w fun e w'=>e=.returned (.int .i64 (fv (bl x0) (bl y0)))∧Below w.heap.size w w':=by
 obtain⟨R,hR⟩:∃ R,fv (bl x0) (bl y0)=R:=⟨_,rfl⟩
 rw[hR]
 have HR0:Hid (fv (bl x0) (bl y0)=R):=hR
 clear hR
 go_enter Tryz.func184,Tryz.ntmps184
 go_wp2_with fail
 go_loopw [0,1] (fun s0 s1 wr=>∃ x y:BA,s0=.string x∧s1=.string y∧x.size≤1000000∧y.size≤1000000∧Hid (fv (bl x) (bl y)=R)∧Hid (Below w.heap.size w wr)) (fun s0 _ _=>mZ s0)
 case atStart=>exact⟨x0,y0,rfl,rfl,hx0,hy0,HR0,bR⟩
 case round=>
  clear HR0 hx0 hy0
  obtain⟨x,y,rfl,rfl,hx,hy,HR,HB⟩:=hrel
  have S1:=ae fun W=>sk x W (by omega)
  have S2:=ae fun W=>sk y W (by omega)
  have hX1:=Qk x;have hY1:=Qk y
  obtain⟨X,hX⟩:∃ X,Tl x=X:=⟨_,rfl⟩
  obtain⟨Y,hY⟩:∃ Y,Tl y=Y:=⟨_,rfl⟩
  have BX:Hid (bl X=sJ (bl x)):=by show _=_;rw[←hX,Qj]
  have BY:Hid (bl Y=sJ (bl y)):=by show _=_;rw[←hY,Qj]
  rw[hX] at S1 hX1
  rw[hY] at S2 hY1
  clear hX hY
  have RN:Hid (jO (bl x) (bl y)=iU (bl X) (bl Y)):=by show _=_;unfold jO;rw[BX.out,BY.out]
  obtain⟨tx,htx⟩:∃ b,mv (bl X) 126=b:=⟨_,rfl⟩
  obtain⟨ty,hty⟩:∃ b,mv (bl Y) 126=b:=⟨_,rfl⟩
  obtain⟨cx,hcx⟩:∃ b,mv (bl X) 94=b:=⟨_,rfl⟩
  obtain⟨cy,hcy⟩:∃ b,mv (bl Y) 94=b:=⟨_,rfl⟩
  have P1:=ae fun W=>gz X ⟨#[126]⟩ tx W htx
  have P2:=ae fun W=>gz Y ⟨#[126]⟩ ty W hty
  have P3:=ae fun W=>gz X ⟨#[94]⟩ cx W hcx
  have P4:=ae fun W=>gz Y ⟨#[94]⟩ cy W hcy
  have TX:=ae htx;have TY:=ae hty;have CX:=ae hcx;have CY:=ae hcy
  clear htx hty hcx hcy
  go_wp2_with fail
  refine(S1.out _).mono ?_;rintro e w' ⟨rfl,rfl⟩
  go_wp2_with fail
  refine(S2.out _).mono ?_;rintro e w' ⟨rfl,rfl⟩
  go_wp2_with fail
  refine(P1.out _).mono ?_;rintro e w' ⟨rfl,rfl⟩
  go_wp2_with fail
  refine(P2.out _).mono ?_;rintro e w' ⟨rfl,rfl⟩
  go_wp2_with fail
  refine(P3.out _).mono ?_;rintro e w' ⟨rfl,rfl⟩
  go_wp2_with fail
  refine(P4.out _).mono ?_;rintro e w' ⟨rfl,rfl⟩
  clear S1 S2 P1 P2 P3 P4
  cases tx
  rotate_left
  ·cases ty
   ·
    have E:Hid (R=-1):=by show _=_;rw[←HR.out,bD (c:=-1) (by rw[RN.out];unfold iU;rw[TX.out,TY.out];simp)]
    go_wp2_with fail
    go_ret
    exact⟨az E.out.symm,HB.out⟩
   ·
    have z1:1≤X.size:=by have:=oS TX.out;rwa [af] at this
    have z2:1≤Y.size:=by have:=oS TY.out;rwa [af] at this
    have HN:Hid (fv (bl (X.extract 1 X.size)) (bl (Y.extract 1 Y.size))=R):=by
     show _=_
     rw[←HR.out,gE (x:=bl x) (y:=bl y) (a:=(bl X).drop 1) (b:=(bl Y).drop 1) (by rw[RN.out];unfold iU;rw[TX.out,TY.out];simp),aX,aX]
    have e1:(X.extract 1 X.size).size=X.size-1:=bm X 1
    have e2:(Y.extract 1 Y.size).size=Y.size-1:=bm Y 1
    have E1:=ae e1;have E2:=ae e2
    clear e1 e2
    go_wp2_with fail
    go_quiet (fail)
    go_wp2_with fail
    go_roundw
    case rel=>exact⟨_,_,rfl,rfl,by rw[E1.out];omega,by rw[E2.out];omega,HN,bJ HB.out _⟩
    case measure=>simp only[mZ];have:=E1.out;simp at this ⊢;omega
  cases ty
  rotate_left
  ·
   have E:Hid (R=1):=by show _=_;rw[←HR.out,bD (c:=1) (by rw[RN.out];unfold iU;rw[TX.out,TY.out];simp)]
   go_wp2_with fail
   go_ret
   exact⟨az E.out.symm,HB.out⟩
  cases cx
  rotate_left
  ·cases cy
   ·
    by_cases hy1:Y.size=0
    ·
     have he:Y.toList=[]:=by rw[ai,bj Y hy1]
     have E:Hid (R=1):=by show _=_;rw[←HR.out,bD (c:=1) (by rw[RN.out];unfold iU;rw[TX.out,TY.out,CX.out,CY.out];simp[hy1,af])]
     go_wp2_with fail
     go_ret
     exact⟨az E.out.symm,HB.out⟩
    ·
     have he:Y.toList.isEmpty=false:=by rw[ai,aL];simpa using hy1
     have he':¬ Y.toList=[]:=by intro h;rw[h] at he;simp at he
     have E:Hid (R=-1):=by show _=_;rw[←HR.out,bD (c:=-1) (by rw[RN.out];unfold iU;rw[TX.out,TY.out,CX.out,CY.out];simp;intro h;apply hy1;rw[←af,h];rfl)]
     go_wp2_with fail
     go_ret
     exact⟨az E.out.symm,HB.out⟩
   ·
    have z1:1≤X.size:=by have:=oS CX.out;rwa [af] at this
    have z2:1≤Y.size:=by have:=oS CY.out;rwa [af] at this
    have HN:Hid (fv (bl (X.extract 1 X.size)) (bl (Y.extract 1 Y.size))=R):=by
     show _=_
     rw[←HR.out,gE (x:=bl x) (y:=bl y) (a:=(bl X).drop 1) (b:=(bl Y).drop 1) (by rw[RN.out];unfold iU;rw[TX.out,TY.out,CX.out,CY.out];simp),aX,aX]
    have e1:(X.extract 1 X.size).size=X.size-1:=bm X 1
    have e2:(Y.extract 1 Y.size).size=Y.size-1:=bm Y 1
    have E1:=ae e1;have E2:=ae e2
    clear e1 e2
    go_wp2_with fail
    go_quiet (fail)
    go_wp2_with fail
    go_roundw
    case rel=>exact⟨_,_,rfl,rfl,by rw[E1.out];omega,by rw[E2.out];omega,HN,bJ HB.out _⟩
    case measure=>simp only[mZ];have:=E1.out;simp at this ⊢;omega
  cases cy
  rotate_left
  ·
   by_cases hx1:X.size=0
   ·
    have he:X.toList=[]:=by rw[ai,bj X hx1]
    have E:Hid (R=-1):=by show _=_;rw[←HR.out,bD (c:=-1) (by rw[RN.out];unfold iU;rw[TX.out,TY.out,CX.out,CY.out];simp[hx1,af])]
    go_wp2_with fail
    go_ret
    exact⟨az E.out.symm,HB.out⟩
   ·
    have he:X.toList.isEmpty=false:=by rw[ai,aL];simpa using hx1
    have he':¬ X.toList=[]:=by intro h;rw[h] at he;simp at he
    have E:Hid (R=1):=by show _=_;rw[←HR.out,bD (c:=1) (by rw[RN.out];unfold iU;rw[TX.out,TY.out,CX.out,CY.out];simp;intro h;apply hx1;rw[←af,h];rfl)]
    go_wp2_with fail
    go_ret
    exact⟨az E.out.symm,HB.out⟩
  by_cases hx1:X.size=0
  ·
   have he:X.toList=[]:=by rw[ai,bj X hx1]
   have E:Hid (R=Lib.compareInt X.size Y.size):=by
    show _=_
    rw[←HR.out,bD (c:=Lib.compareInt X.size Y.size) (by rw[RN.out];unfold iU;rw[TX.out,TY.out,CX.out,CY.out,af,af];rw[if_neg (by simp),if_neg (by simp),if_neg (by simp),if_neg (by simp),if_neg (by simp),if_neg (by simp),if_pos (.inl hx1)])]
   have HC:=ae fun W=>Tryz.cmp_Compare_int X.size Y.size W
   clear hx1
   generalize Lib.compareInt (X.size:Int) (Y.size:Int)=cv at *
   go_wp2_with fail
   refine(HC.out _).mono ?_;rintro e w' ⟨rfl,rfl⟩
   go_wp2_with fail
   go_ret
   exact⟨az E.out.symm,HB.out⟩
  have hex:X.toList.isEmpty=false:=by rw[ai,aL];simpa using hx1
  have hex':¬ X.toList=[]:=by intro h;rw[h] at hex;simp at hex
  by_cases hy1:Y.size=0
  ·
   have he:Y.toList=[]:=by rw[ai,bj Y hy1]
   have E:Hid (R=Lib.compareInt X.size Y.size):=by
    show _=_
    rw[←HR.out,bD (c:=Lib.compareInt X.size Y.size) (by rw[RN.out];unfold iU;rw[TX.out,TY.out,CX.out,CY.out,af,af];rw[if_neg (by simp),if_neg (by simp),if_neg (by simp),if_neg (by simp),if_neg (by simp),if_neg (by simp),if_pos (.inr hy1)])]
   have HC:=ae fun W=>Tryz.cmp_Compare_int X.size Y.size W
   clear hy1
   generalize Lib.compareInt (X.size:Int) (Y.size:Int)=cv at *
   go_wp2_with fail
   refine(HC.out _).mono ?_;rintro e w' ⟨rfl,rfl⟩
   go_wp2_with fail
   go_ret
   exact⟨az E.out.symm,HB.out⟩
  have hey:Y.toList.isEmpty=false:=by rw[ai,aL];simpa using hy1
  have hey':¬ Y.toList=[]:=by intro h;rw[h] at hey;simp at hey
  have hxp:0<X.size:=by omega
  have DG:=ae fun W=>cO X[0] W
  obtain⟨d,hd⟩:∃ d,aD X[0]=d:=⟨_,rfl⟩
  rw[hd] at DG
  have D1:Hid (GS (bl X)=d):=by
   show _=_
   rw[←hd];unfold GS
   have:bl X=X[0]::(bl X).drop 1:=by
    have hl:0<(bl X).length:=by rw[af];exact hxp
    have:=List.drop_eq_getElem_cons hl
    rw[List.drop_zero,gL X 0 hxp] at this;exact this
   rw[this];rfl
  have NX:Hid (au (nS d) (bl X)≠0):=by
   have:=Sn (l:=bl x) (by rw[←BX.out,af];exact hx1) (by rw[←BX.out];exact TX.out) (by rw[←BX.out];exact CX.out)
   rw[←BX.out,D1.out] at this;exact this
  have KK:Hid (iU (bl X) (bl Y)=if au (nS d) (bl Y)=0 then .inr (if d=true then 1 else -1)
   else if N6 d ((bl X).take (au (nS d) (bl X))) ((bl Y).take (au (nS d) (bl Y)))≠0 then .inr (N6 d ((bl X).take (au (nS d) (bl X))) ((bl Y).take (au (nS d) (bl Y))))
   else .inl ((bl X).drop (au (nS d) (bl X)),(bl Y).drop (au (nS d) (bl Y)))):=by
   show _=_
   unfold iU
   rw[TX.out,TY.out,CX.out,CY.out,af,af,D1.out,if_neg (by simp),if_neg (by simp),if_neg (by simp),if_neg (by simp),if_neg (by simp),if_neg (by simp),if_neg (fun h=>h.elim hx1 hy1),if_neg NX.out]
  have hn:=cJ (nS d) (bl X);have hm:=cJ (nS d) (bl Y)
  rw[af] at hn hm
  obtain⟨n,hnn⟩:∃ n,au (nS d) (bl X)=n:=⟨_,rfl⟩
  obtain⟨m,hmm⟩:∃ m,au (nS d) (bl Y)=m:=⟨_,rfl⟩
  have R1:Hid (∀ W,Calls Tryz.prog 154 #[.string X,.func (.func (if d=true then 151 else 192)) #[] #[]] W fun e w'=>e=.returned (.int .i64 n)∧W=w'):=by
   intro W;rw[←hnn];cases d
   ·exact yH X W (by omega)
   ·exact kh X W (by omega)
  have R2:Hid (∀ W,Calls Tryz.prog 154 #[.string Y,.func (.func (if d=true then 151 else 192)) #[] #[]] W fun e w'=>e=.returned (.int .i64 m)∧W=w'):=by
   intro W;rw[←hmm];cases d
   ·exact yH Y W (by omega)
   ·exact kh Y W (by omega)
  rw[hnn,hmm] at KK
  rw[hnn] at hn NX
  rw[hmm] at hm
  have hn0:0<n:=by have:=NX.out;omega
  obtain⟨cv,hcv⟩:∃ cv,N6 d ((bl X).take n) ((bl Y).take m)=cv:=⟨_,rfl⟩
  rw[hcv] at KK
  have AG:Hid (∀ W,Calls Tryz.prog (if d=true then 186 else 217) #[.string (X.extract 0 n),.string (Y.extract 0 m)] W fun e w'=>e=.returned (.int .i64 cv)∧Below W.heap.size W w'):=by
   intro W;rw[←hcv];unfold N6;cases d
   ·exact(Tryz.strings_Compare (X.extract 0 n) (Y.extract 0 m) W).mono fun e w' ⟨he,hw⟩=>⟨by rw[he,←bV X n,←bV Y m];rfl,by rw[hw];exact bR⟩
   ·refine(fN (X.extract 0 n) (Y.extract 0 m) W).mono fun e w' ⟨he,hw⟩=>⟨by rw[he,bV,bV];rfl,hw⟩
  have e1:Hid ((X.extract n X.size).size=X.size-n):=bm X n
  have e2:Hid ((Y.extract m Y.size).size=Y.size-m):=bm Y m
  clear hd hnn hmm hcv TX TY CX CY NX D1
  cases d
  ·
   simp only[↓reduceIte,Bool.false_eq_true] at R1 R2 AG KK
   go_wp2_with fail
   refine(DG.out _).mono ?_;rintro e w' ⟨rfl,rfl⟩
   go_wp2_with fail
   refine(R1.out _).mono ?_;rintro e w' ⟨rfl,rfl⟩
   go_wp2_with fail
   refine(R2.out _).mono ?_;rintro e w' ⟨rfl,rfl⟩
   by_cases hm0:m=0
   ·
    have qm:((m:Int)==0)=true:=by simp[hm0]
    have E:Hid (R=-1):=by show _=_;rw[←HR.out,bD (c:=-1) (by rw[RN.out,KK.out,if_pos hm0])]
    clear hm0
    go_wp2_with fail
    go_ret
    exact⟨az E.out.symm,HB.out⟩
   have qm:((m:Int)==0)=false:=by simpa using hm0
   have HM0:=ae hm0
   clear hm0
   go_wp2_with fail
   have Dr:Below wr.heap.size wr wr.drew:=bR.drew
   go_still_tail 7,(by kernel_rfl)
   change wpList _ _ _ _ _ wr.drew
   have HBD:=ae (ah HB.out Dr)
   clear Dr
   generalize wr.drew=w2 at *
   go_wp2_with fail
   refine(AG.out _).mono ?_;rintro e w3 ⟨rfl,hb3⟩
   have B3:=ae (ah HBD.out hb3)
   clear hb3 HBD HB
   by_cases hc0:cv≠0
   ·
    have qc:(cv != 0)=true:=by simpa [bne] using hc0
    have E:Hid (R=cv):=by show _=_;rw[←HR.out,bD (c:=cv) (by rw[RN.out,KK.out,if_neg HM0.out,if_pos hc0])]
    clear hc0
    go_wp2_with fail
    go_ret
    exact⟨az E.out.symm,B3.out⟩
   have qc:(cv != 0)=false:=by rw[Decidable.not_not.1 hc0];rfl
   have HN:Hid (fv (bl (X.extract n X.size)) (bl (Y.extract m Y.size))=R):=by
    show _=_
    rw[←HR.out,gE (x:=bl x) (y:=bl y) (a:=(bl X).drop n) (b:=(bl Y).drop m) (by rw[RN.out,KK.out,if_neg HM0.out,if_neg hc0]),aX,aX]
   clear hc0
   go_wp2_with fail
   go_quiet (fail)
   go_wp2_with fail
   go_roundw
   case rel=>exact⟨_,_,rfl,rfl,by rw[e1.out];omega,by rw[e2.out];omega,HN,bJ B3.out _⟩
   case measure=>simp only[mZ];have:=e1.out;simp at this ⊢;omega
  ·
   simp only[↓reduceIte] at R1 R2 AG KK
   go_wp2_with fail
   refine(DG.out _).mono ?_;rintro e w' ⟨rfl,rfl⟩
   go_wp2_with fail
   refine(R1.out _).mono ?_;rintro e w' ⟨rfl,rfl⟩
   go_wp2_with fail
   refine(R2.out _).mono ?_;rintro e w' ⟨rfl,rfl⟩
   by_cases hm0:m=0
   ·
    have qm:((m:Int)==0)=true:=by simp[hm0]
    have E:Hid (R=1):=by show _=_;rw[←HR.out,bD (c:=1) (by rw[RN.out,KK.out,if_pos hm0])]
    clear hm0
    go_wp2_with fail
    go_ret
    exact⟨az E.out.symm,HB.out⟩
   have qm:((m:Int)==0)=false:=by simpa using hm0
   have HM0:=ae hm0
   clear hm0
   go_wp2_with fail
   have Dr:Below wr.heap.size wr wr.drew:=bR.drew
   go_still_tail 7,(by kernel_rfl)
   change wpList _ _ _ _ _ wr.drew
   have HBD:=ae (ah HB.out Dr)
   clear Dr
   generalize wr.drew=w2 at *
   go_wp2_with fail
   refine(AG.out _).mono ?_;rintro e w3 ⟨rfl,hb3⟩
   have B3:=ae (ah HBD.out hb3)
   clear hb3 HBD HB
   by_cases hc0:cv≠0
   ·
    have qc:(cv != 0)=true:=by simpa [bne] using hc0
    have E:Hid (R=cv):=by show _=_;rw[←HR.out,bD (c:=cv) (by rw[RN.out,KK.out,if_neg HM0.out,if_pos hc0])]
    clear hc0
    go_wp2_with fail
    go_ret
    exact⟨az E.out.symm,B3.out⟩
   have qc:(cv != 0)=false:=by rw[Decidable.not_not.1 hc0];rfl
   have HN:Hid (fv (bl (X.extract n X.size)) (bl (Y.extract m Y.size))=R):=by
    show _=_
    rw[←HR.out,gE (x:=bl x) (y:=bl y) (a:=(bl X).drop n) (b:=(bl Y).drop m) (by rw[RN.out,KK.out,if_neg HM0.out,if_neg hc0]),aX,aX]
   clear hc0
   go_wp2_with fail
   go_quiet (fail)
   go_wp2_with fail
   go_roundw
   case rel=>exact⟨_,_,rfl,rfl,by rw[e1.out];omega,by rw[e2.out];omega,HN,bJ B3.out _⟩
   case measure=>simp only[mZ];have:=e1.out;simp at this ⊢;omega
end
end Go.Proofs.YtkjdbpjglobbjaaGreatDoor
