/- A part of the proof of a law on dependencies in three formats. No condition. -/
import Derived.Test.YtkjdbpjglobbjaaGreatDoorE09
import Derived.Test.YtkjdbpjglobbjaaGreatDoorE10
set_option maxRecDepth 100000
set_option maxHeartbeats 20000000
set_option linter.unusedVariables false
set_option linter.unusedSimpArgs false
namespace Go.Proofs.YtkjdbpjglobbjaaGreatDoor
theorem EK {p:UInt8→Bool}:∀ (l:LU)(k:Nat)(c:UInt8),l[k]?=some c→p c=false→((l.take k).all p=true↔au p l=k)
 | [],k,c,h,_=>by simp at h
 | a::r,0,c,h,hc=>by
  simp at h;subst h
  simp[au,List.takeWhile,hc]
 | a::r,k+1,c,h,hc=>by
  have ih:=EK r k c (by simpa using h) hc
  rw[List.take_succ_cons,List.all_cons]
  cases ha:p a
  ·simp[au,List.takeWhile,ha]
  ·simp only[au,List.takeWhile,ha,Bool.true_and,List.length_cons] at ih ⊢
   rw[ih];simp[au]
theorem Oe {l:LU}{k:Nat}(h0:(l.take k).contains 58=false)(h1:l[k]?=some 58):cE l=if 1≤k∧k≤9∧au aD l=k then some (l.take k,l.drop (k+1)) else none:=by
 have hk:k<l.length:=(gS h1).1
 have hl:(l.take k).length=k:=by rw[List.length_take];omega
 unfold cE
 rw[vS l k h0 h1]
 simp only[if_true]
 have hr:=EK (p:=aD) l k 58 h1 (by decide)
 by_cases h:1≤k∧k≤9∧au aD l=k
 ·rw[if_pos h,if_pos]
  refine⟨?_,by rw[hl];exact h.2.1⟩
  unfold gV
  rw[hr.2 h.2.2]
  have:(l.take k).isEmpty=false:=by cases hh:l.take k with
   | nil=>rw[hh] at hl;simp at hl;omega
   | cons=>rfl
  rw[this];rfl
 ·rw[if_neg h,if_neg]
  rintro⟨ha,hb⟩
  apply h
  unfold gV at ha
  rw[Bool.and_eq_true] at ha
  refine⟨?_,by rw[hl] at hb;exact hb,hr.1 ha.2⟩
  rcases Nat.eq_zero_or_pos k with h0 | h0
  ·subst h0;simp at ha
  ·exact h0
theorem H7 {l:LU}(h:l.contains 58=false):cE l=some ([],l):=by
 unfold cE;rw[rm l h];simp
theorem Av (l:LU):gN l=match cE l with
  | none=>none
  | some (ep,p)=>if cQ ep=false then some (ep,p) else none:=by
 unfold gN cE
 by_cases h:(Lib.cut l [58]).2.2=true
 ·rw[if_pos h,if_pos h]
  by_cases h1:gV (Lib.cut l [58]).1=true∧(Lib.cut l [58]).1.length≤9
  ·rw[if_pos h1]
   by_cases h2:cQ (Lib.cut l [58]).1=false
   ·rw[if_pos ⟨h1.1,h1.2,h2⟩];simp[h2]
   ·rw[if_neg (fun hh=>h2 hh.2.2)];simp[h2]
  ·rw[if_neg h1,if_neg (fun hh=>h1 ⟨hh.1,hh.2.1⟩)]
 ·rw[if_neg h,if_neg h];rfl
theorem qh (c:UInt8):∀ (l:LU),(bU c l=none→c ∉ l)∧∀ i,bU c l=some i→l[i]?=some c
 | []=>⟨fun _=>by simp,fun i h=>by simp[bU] at h⟩
 | x::r=>by
  obtain⟨h1,h2⟩:=qh c r
  cases hr:bU c r with
  | none=>
   by_cases hx:x=c
   ·have e:bU c (x::r)=some 0:=by simp[bU,hr,hx]
    rw[e]
    exact⟨fun h=>(by cases h),fun i h=>by injection h with h;subst h;simp[hx]⟩
   ·have e:bU c (x::r)=none:=by simp[bU,hr,hx]
    rw[e]
    refine⟨fun _ hm=>?_,fun i h=>(by cases h)⟩
    rcases List.mem_cons.1 hm with hm | hm
    ·exact hx hm.symm
    ·exact h1 hr hm
  | some k=>
   have e:bU c (x::r)=some (k+1):=by simp[bU,hr]
   rw[e]
   exact⟨fun h=>(by cases h),fun i h=>by injection h with h;subst h;simpa using h2 k hr⟩
theorem vT {o l:LU}(ho:o.contains 45=false)(h:(45:UInt8)∈l):aI o l=false:=by
 unfold aI
 have:l.all (kx o)=false:=by
  rw[List.all_eq_false]
  refine⟨45,h,?_⟩
  unfold kx;rw[ho];decide
 rw[this,Bool.and_false]
theorem Of (p:LU):iJ p=match bU 45 p with
  | none=>none
  | some i=>if (aI rO (p.take i)&&aI rO (p.drop (i+1)))=true then some (p.take i,p.drop (i+1)) else none:=by
 obtain⟨h1,h2⟩:=qh 45 p
 cases hl:bU 45 p with
 | none=>
  unfold iJ
  rw[rm p (by have:=h1 hl;simpa using this)]
  have:aI rO ([]:LU)=false:=rfl
  rw[this,Bool.and_false];rfl
 | some i=>
  have hi:=h2 i hl
  have hil:i<p.length:=(gS hi).1
  cases hc:(p.take i).contains 45
  ·unfold iJ
   rw[vS p i hc hi]
  ·have hm:(45:UInt8)∈p.take i:=by simpa using hc
   show iJ p=if (aI rO (p.take i)&&aI rO (p.drop (i+1)))=true then some (p.take i,p.drop (i+1)) else none
   rw[vT (o:=rO) (by decide) hm,Bool.false_and,if_neg (by simp)]
   obtain⟨k,hk,hn,hg⟩:=pu.indexByte_mem 45 (p.take i) hm
   have hki:k<i:=by have:=(gS hg).1;rw[List.length_take] at this;omega
   have hpk:p[k]?=some 45:=by rw[List.getElem?_take_of_lt hki] at hg;exact hg
   have hpn:(p.take k).contains 45=false:=by
    rw[List.take_take,Nat.min_eq_left (by omega)] at hn
    simpa using hn
   unfold iJ
   rw[vS p k hpn hpk]
   have hd:(45:UInt8)∈p.drop (k+1):=by
    refine List.mem_iff_getElem?.2 ⟨i-(k+1),?_⟩
    rw[List.getElem?_drop,show k+1+(i-(k+1))=i by omega,hi]
   simp only[vT (o:=rO) (by decide) hd,Bool.and_false]
   rfl
theorem CM {l:LU}(h:(45:UInt8) ∉ l):aI [46,43,126,45] l=aI [46,43,126] l:=by
 unfold aI
 congr 1
 rw[bI,List.all_eq_true,List.all_eq_true]
 have key:∀ x∈l,kx [46,43,126,45] x=kx [46,43,126] x:=by
  intro x hx
  have hne:x≠45:=fun e=>h (e ▸ hx)
  unfold kx
  congr 1
  rw[bI];simp[hne]
 exact⟨fun hh x hx=>by rw[←key x hx];exact hh x hx,fun hh x hx=>by rw[key x hx];exact hh x hx⟩
def J2 (fmt:Int)(ep p:LU):Option (LU×LU×LU):=match bU 45 p with
 | none=>if fmt=2 then none else if (aI [46,43,126] p&&ig p)=true then some (ep,p,[]) else none
 | some i=>if fmt=2 then (if (aI rO (p.take i)&&aI rO (p.drop (i+1)) && !cQ ep)=true then some (ep,p.take i,p.drop (i+1)) else none)
  else if (aI [46,43,126,45] (p.take i)&&ig (p.take i)&&aI [46,43,126] (p.drop (i+1)))=true then some (ep,p.take i,p.drop (i+1)) else none
theorem nu {fmt:Int}(hf:fmt=1∨fmt=2){l:LU}(h:cE l=none):bC fmt l=none:=by
 unfold bC
 rcases hf with rfl | rfl
 ·rw[if_pos rfl];unfold fg;rw[h]
 ·rw[if_neg (by decide),if_pos rfl];unfold fh;rw[Av,h]
theorem EO {fmt:Int}(hf:fmt=1∨fmt=2){l ep p:LU}(h:cE l=some (ep,p)):bC fmt l=J2 fmt ep p:=by
 unfold bC J2
 rcases hf with rfl | rfl
 ·rw[if_pos rfl];unfold fg;rw[h]
  simp only[gW]
  cases hl:bU 45 p with
  | none=>
   rw[CM ((qh 45 p).1 hl)]
   simp only[if_neg (show ¬ (1:Int)=2 by decide)]
   cases(aI [46,43,126] p&&ig p)<;>rfl
  | some i=>
   simp only[if_neg (show ¬ (1:Int)=2 by decide)]
   cases aI [46,43,126] (p.drop (i+1))<;>cases(aI [46,43,126,45] (p.take i)&&ig (p.take i))<;>rfl
 ·rw[if_neg (by decide),if_pos rfl];unfold fh;rw[Av,h]
  simp only[]
  cases hn:cQ ep
  ·simp only[if_true,Of]
   cases hl:bU 45 p with
   | none=>rfl
   | some i=>simp only[if_true];cases aI rO (p.take i)<;>cases aI rO (p.drop (i+1))<;>rfl
  ·cases hl:bU 45 p with
   | none=>rfl
   | some i=>simp
section
open Go.RowKit
theorem gA {r:Option (LU×LU×LU)}{w w':World}(h:r=none)(hb:Below w.heap.size w w'):nt r w (.returned (.agg #[.string ⟨#[]⟩,.string ⟨#[]⟩,.string ⟨#[]⟩,.bool false])) w':=
 ⟨_,_,_,_,rfl,by rw[h],hb⟩
theorem lS {r:Option (LU×LU×LU)}{w w':World}{ep pr rv:BA}(h:r=some (bl ep,bl pr,bl rv))(hb:Below w.heap.size w w'):nt r w (.returned (.agg #[.string ep,.string pr,.string rv,.bool true])) w':=
 ⟨_,_,_,_,rfl,by rw[h];exact⟨rfl,rfl,rfl,rfl⟩,hb⟩
theorem bO (s o:BA)(b:Bool)(w:World)(hs:s.size≤9223372036854775807)(ho:o.size≤9223372036854775807)(h:Hid (aI (bl o) (bl s)=b)):
  Calls Tryz.prog 166 #[.string s,.string o] w fun e w'=>e=.returned (.bool b)∧w=w':=by rw[←h.out];exact Od s o w hs ho
theorem rr (s:BA)(c:UInt8)(k:Int)(w:World)(hs:s.size≤9223372036854775807)(h:Hid (rk c (bl s)=k)):
  Calls Tryz.prog 165 #[.string s,.int .u8 c.toNat] w fun e w'=>e=.returned (.int .i64 k)∧w=w':=by rw[←h.out];exact Lm s c w hs
theorem cP (s:BA)(k:Nat)(w:World)(hs:s.size≤9223372036854775807)(h:Hid (au aD (bl s)=k)):
  Calls Tryz.prog 119 #[.string s] w fun e w'=>e=.returned (.int .i64 k)∧w=w':=by rw[←h.out];exact vR s w hs
theorem iO (c:UInt8)(b:Bool)(w:World)(h:Hid (aD c=b)):
  Calls Tryz.prog 167 #[.int .u8 c.toNat] w fun e w'=>e=.returned (.bool b)∧w=w':=by rw[←h.out];exact ji c w
theorem uf (fmt:Int)(hf:fmt=1∨fmt=2)(s:BA)(w:World)(hs:s.size≤64):
  Calls Tryz.prog 118 #[.int .i64 fmt,.string s] w (nt (bC fmt (bl s)) w):=by
 have h3:(fmt==3)=false:=by simp;omega
 have HF:=ae hf
 go_enter Tryz.func118,Tryz.ntmps118
 go_upto_block 0 with(fail)
 go_cut [8] (fun s8 wx=>∃ ep pr:BA,wx=(w.alloc (.cells #[.string ⟨#[]⟩,.string ⟨#[]⟩,.string ⟨#[]⟩,.bool false] 189)).alloc (.cells #[.string ep,.string pr,.string ⟨#[]⟩,.bool false] 189)∧Hid (cE (bl s)=some (bl ep,bl pr))∧ep.size≤64∧pr.size≤64)
 case first=>
  clear hf
  go_wp2_with fail
  go_loop [8] (fun i=>∃ k:Nat,k≤s.size∧i=.int .i64 k∧Hid (((bl s).take k).contains 58=false)) (fun i=>s.size-(intOf i).toNat)
  case atStart=>exact⟨0,z0,rfl,by simp[Hid]⟩
  case round=>
   obtain⟨k,hk,rfl,HA⟩:=hrel
   by_cases hlt:k<s.size
   ·by_cases hc:s[k]=58
    ·have hc1:((s[k].toNat:Int)==58)=true:=by rw[hc];rfl
     have HE:=ae (Oe HA.out (by rw[ie s k hlt,hc]))
     clear hc
     by_cases k1:k<1
     ·skip
      have E:Hid (bC fmt (bl s)=none):=nu HF.out (by rw[HE.out,if_neg (by omega)])
      go_wp2_with fail
      refine bodyPost_ret (v:=.agg #[.string ⟨#[]⟩,.string ⟨#[]⟩,.string ⟨#[]⟩,.bool false]) (by simp[results,Tryz.results118,go_sem]) rfl ?_
      exact gA E.out ((bR.alloc lr _).alloc (by simp) _)
     by_cases k9:9<k
     ·skip
      have E:Hid (bC fmt (bl s)=none):=nu HF.out (by rw[HE.out,if_neg (by omega)])
      go_wp2_with fail
      refine bodyPost_ret (v:=.agg #[.string ⟨#[]⟩,.string ⟨#[]⟩,.string ⟨#[]⟩,.bool false]) (by simp[results,Tryz.results118,go_sem]) rfl ?_
      exact gA E.out ((bR.alloc lr _).alloc (by simp) _)
     by_cases kd:au aD (bl s)=k
     ·have HD:=ae kd
      have HE2:Hid (cE (bl s)=some (bl (s.extract 0 k),bl (s.extract (k+1) s.size))):=by show _=_;rw[HE.out,if_pos ⟨by omega,by omega,kd⟩,bV,aX]
      have z1:(s.extract 0 k).size≤64:=by have:=congrArg List.length (bV s k);rw[af,List.length_take,af] at this;omega
      have z2:(s.extract (k+1) s.size).size≤64:=by rw[bm];omega
      have hne:((k:Int) != (k:Int))=false:=by simp
      clear kd
      go_wp2_with fail
      refine(cP s k _ (by omega) HD).mono ?_;rintro e w' ⟨rfl,rfl⟩
      go_wp2_with fail
      go_meet
      exact⟨_,_,rfl,HE2,z1,z2⟩
     ·skip
      have E:Hid (bC fmt (bl s)=none):=nu HF.out (by rw[HE.out,if_neg (fun hh=>kd hh.2.2)])
      obtain⟨m,hm⟩:∃ m,au aD (bl s)=m:=⟨_,rfl⟩
      have hne:((m:Int) != (k:Int))=true:=by rw[hm] at kd;simp[bne];omega
      have HM:=ae hm
      clear kd hm
      go_wp2_with fail
      refine(cP s m _ (by omega) HM).mono ?_;rintro e w' ⟨rfl,rfl⟩
      go_wp2_with fail
      refine bodyPost_ret (v:=.agg #[.string ⟨#[]⟩,.string ⟨#[]⟩,.string ⟨#[]⟩,.bool false]) (by simp[results,Tryz.results118,go_sem]) rfl ?_
      exact gA E.out ((bR.alloc lr _).alloc (by simp) _)
    ·have hc1:((s[k].toNat:Int)==58)=false:=by
      simp only[bF,ne_eq];intro h;apply hc;apply UInt8.toNat_inj.1;show _=58;omega
     have HC:=ae hc
     clear hc
     go_wp2_with fail
     go_round
     case rel=>exact⟨k+1,by omega,by go_num,ae (im s 58 k hlt HA.out (by simpa using HC.out))⟩
     case measure=>simp[intOf];omega
   ·have HE:Hid (cE (bl s)=some ([],bl s)):=H7 (by have:=HA.out;rw[eP s k (by omega)] at this;exact this)
    go_wp2_with fail
    go_meet
    exact⟨⟨#[]⟩,s,rfl,HE,by decide,hs⟩
 case rest=>
 obtain⟨ep,pr,rfl,HE,z1,z2⟩:=hcut
 have EF:Hid (bC fmt (bl s)=J2 fmt (bl ep) (bl pr)):=EO HF.out HE.out
 unfold J2 at EF
 cases hl:bU 45 (bl pr) with
 | none=>
  have HI:Hid (rk 45 (bl pr)=-1):=by show _=_;unfold rk;rw[hl]
  rw[hl] at EF
  clear hl
  go_wp2_with fail
  refine(rr pr 45 (-1) _ (by omega) HI).mono ?_;rintro e w' ⟨rfl,rfl⟩
  by_cases f2:fmt=2
  ·have f2':(fmt==2)=true:=by simpa using f2
   have E:Hid (bC fmt (bl s)=none):=by show _=_;rw[EF.out];simp only[if_pos f2]
   clear f2 hf
   go_wp2_with fail
   refine bodyPost_ret (v:=.agg #[.string ⟨#[]⟩,.string ⟨#[]⟩,.string ⟨#[]⟩,.bool false]) (by simp[results,Tryz.results118,go_sem]) rfl ?_
   exact gA E.out ((bR.alloc lr _).alloc (by simp) _)
  ·have f2':(fmt==2)=false:=by simpa using f2
   cases g1:aI [46,43,126] (bl pr)
   ·skip
    have E:Hid (bC fmt (bl s)=none):=by show _=_;rw[EF.out];simp only[if_neg f2];rw[g1];rfl
    have G1:Hid (aI (bl ⟨#[46,43,126]⟩) (bl pr)=false):=g1
    clear f2 hf g1
    go_wp2_with fail
    refine(bO pr ⟨#[46,43,126]⟩ false _ (by omega) (by decide) G1).mono ?_;rintro e w' ⟨rfl,rfl⟩
    go_wp2_with fail
    refine bodyPost_ret (v:=.agg #[.string ⟨#[]⟩,.string ⟨#[]⟩,.string ⟨#[]⟩,.bool false]) (by simp[results,Tryz.results118,go_sem]) rfl ?_
    exact gA E.out ((bR.alloc lr _).alloc (by simp) _)
   have hp0:0<pr.size:=ki _ pr g1
   have G1:Hid (aI (bl ⟨#[46,43,126]⟩) (bl pr)=true):=g1
   have hh:=ei pr hp0
   cases g2:aD pr[0]
   ·skip
    have E:Hid (bC fmt (bl s)=none):=by show _=_;rw[EF.out];simp only[if_neg f2];rw[g1,hh,g2];rfl
    have G2:=ae g2
    clear f2 hf g1 g2 hh
    go_wp2_with fail
    refine(bO pr ⟨#[46,43,126]⟩ true _ (by omega) (by decide) G1).mono ?_;rintro e w' ⟨rfl,rfl⟩
    go_wp2_with fail
    refine(iO pr[0] false _ G2).mono ?_;rintro e w' ⟨rfl,rfl⟩
    go_wp2_with fail
    refine bodyPost_ret (v:=.agg #[.string ⟨#[]⟩,.string ⟨#[]⟩,.string ⟨#[]⟩,.bool false]) (by simp[results,Tryz.results118,go_sem]) rfl ?_
    exact gA E.out ((bR.alloc lr _).alloc (by simp) _)
   ·skip
    have E:Hid (bC fmt (bl s)=some (bl ep,bl pr,bl ⟨#[]⟩)):=by show _=_;rw[EF.out];simp only[if_neg f2];rw[g1,hh,g2];rfl
    have G2:=ae g2
    clear f2 hf g1 g2 hh
    go_wp2_with fail
    refine(bO pr ⟨#[46,43,126]⟩ true _ (by omega) (by decide) G1).mono ?_;rintro e w' ⟨rfl,rfl⟩
    go_wp2_with fail
    refine(iO pr[0] true _ G2).mono ?_;rintro e w' ⟨rfl,rfl⟩
    go_wp2_with fail
    refine bodyPost_ret (v:=.agg #[.string ep,.string pr,.string ⟨#[]⟩,.bool true]) (by simp[results,Tryz.results118,go_sem]) rfl ?_
    exact lS E.out ((bR.alloc lr _).alloc (by simp) _)
 | some i=>
  have HI:Hid (rk 45 (bl pr)=i):=by show _=_;unfold rk;rw[hl]
  have hi:i<pr.size:=by have:=qQ _ _ _ hl;rw[af] at this;exact this
  rw[hl] at EF
  obtain⟨p1,hp1⟩:∃ p1,pr.extract 0 i=p1:=⟨_,rfl⟩
  obtain⟨q1,hq1⟩:∃ q1,pr.extract (i+1) pr.size=q1:=⟨_,rfl⟩
  have bp:(bl pr).take i=bl p1:=by rw[←hp1,bV]
  have bq:(bl pr).drop (i+1)=bl q1:=by rw[←hq1,aX]
  dsimp only at EF
  rw[bp,bq] at EF
  have zp:p1.size≤64:=by have:=congrArg List.length bp;rw[List.length_take,af,af] at this;omega
  have zq:q1.size≤64:=by rw[←hq1,bm];omega
  clear hl bp bq
  go_wp2_with fail
  refine(rr pr 45 i _ (by omega) HI).mono ?_;rintro e w' ⟨rfl,rfl⟩
  go_upto_region 23 with(fail)
  try simp only[hp1,hq1]
  clear hp1 hq1
  by_cases f2:fmt=2
  ·have f2':(fmt==2)=true:=by simpa using f2
   cases g1:aI rO (bl p1)
   ·skip
    have E:Hid (bC fmt (bl s)=none):=by show _=_;rw[EF.out];simp only[if_pos f2];rw[g1];rfl
    have G1:Hid (aI (bl ⟨#[46,95,43,126,94]⟩) (bl p1)=false):=g1
    clear f2 hf g1
    go_wp2_with fail
    refine(bO p1 ⟨#[46,95,43,126,94]⟩ false _ (by omega) (by decide) G1).mono ?_;rintro e w' ⟨rfl,rfl⟩
    go_wp2_with fail
    refine bodyPost_ret (v:=.agg #[.string ⟨#[]⟩,.string ⟨#[]⟩,.string ⟨#[]⟩,.bool false]) (by simp[results,Tryz.results118,go_sem]) rfl ?_
    exact gA E.out ((bR.alloc lr _).alloc (by simp) _)
   have G1:Hid (aI (bl ⟨#[46,95,43,126,94]⟩) (bl p1)=true):=g1
   cases g2:aI rO (bl q1)
   ·skip
    have E:Hid (bC fmt (bl s)=none):=by show _=_;rw[EF.out];simp only[if_pos f2];rw[g1,g2];rfl
    have G2:Hid (aI (bl ⟨#[46,95,43,126,94]⟩) (bl q1)=false):=g2
    clear f2 hf g1 g2
    go_wp2_with fail
    refine(bO p1 ⟨#[46,95,43,126,94]⟩ true _ (by omega) (by decide) G1).mono ?_;rintro e w' ⟨rfl,rfl⟩
    go_wp2_with fail
    refine(bO q1 ⟨#[46,95,43,126,94]⟩ false _ (by omega) (by decide) G2).mono ?_;rintro e w' ⟨rfl,rfl⟩
    go_wp2_with fail
    refine bodyPost_ret (v:=.agg #[.string ⟨#[]⟩,.string ⟨#[]⟩,.string ⟨#[]⟩,.bool false]) (by simp[results,Tryz.results118,go_sem]) rfl ?_
    exact gA E.out ((bR.alloc lr _).alloc (by simp) _)
   have G2:Hid (aI (bl ⟨#[46,95,43,126,94]⟩) (bl q1)=true):=g2
   by_cases e2:ep.size<2
   ·skip
    have E:Hid (bC fmt (bl s)=some (bl ep,bl p1,bl q1)):=by show _=_;rw[EF.out];simp only[if_pos f2];rw[g1,g2,pt ep (by omega)];rfl
    clear f2 hf g1 g2
    go_wp2_with fail
    refine(bO p1 ⟨#[46,95,43,126,94]⟩ true _ (by omega) (by decide) G1).mono ?_;rintro e w' ⟨rfl,rfl⟩
    go_wp2_with fail
    refine(bO q1 ⟨#[46,95,43,126,94]⟩ true _ (by omega) (by decide) G2).mono ?_;rintro e w' ⟨rfl,rfl⟩
    go_wp2_with fail
    refine bodyPost_ret (v:=.agg #[.string ep,.string p1,.string q1,.bool true]) (by simp[results,Tryz.results118,go_sem]) rfl ?_
    exact lS E.out ((bR.alloc lr _).alloc (by simp) _)
   have hn:=qZ ep (by omega)
   have e0:0<ep.size:=by omega
   have t2:decide ((ep.size:Int)<2)=false:=dF (by omega)
   by_cases e48:ep[0].toNat=48
   ·have t48:((ep[0].toNat:Int) != 48)=false:=Q9 e48
    have hb:(ep[0]==48)=true:=by rw[show ep[0]=48 from UInt8.toNat_inj.1 e48];rfl
    have E:Hid (bC fmt (bl s)=none):=by show _=_;rw[EF.out];simp only[if_pos f2];rw[g1,g2,hn,hb];rfl
    clear e48 hb hn
    clear f2 hf g1 g2
    go_wp2_with fail
    refine(bO p1 ⟨#[46,95,43,126,94]⟩ true _ (by omega) (by decide) G1).mono ?_;rintro e w' ⟨rfl,rfl⟩
    go_wp2_with fail
    refine(bO q1 ⟨#[46,95,43,126,94]⟩ true _ (by omega) (by decide) G2).mono ?_;rintro e w' ⟨rfl,rfl⟩
    go_wp2_with fail
    refine bodyPost_ret (v:=.agg #[.string ⟨#[]⟩,.string ⟨#[]⟩,.string ⟨#[]⟩,.bool false]) (by simp[results,Tryz.results118,go_sem]) rfl ?_
    exact gA E.out ((bR.alloc lr _).alloc (by simp) _)
   ·have t48:((ep[0].toNat:Int) != 48)=true:=Ra e48
    have hb:(ep[0]==48)=false:=by simp only[bF,ne_eq];intro h;exact e48 (by rw[h];rfl)
    have E:Hid (bC fmt (bl s)=some (bl ep,bl p1,bl q1)):=by show _=_;rw[EF.out];simp only[if_pos f2];rw[g1,g2,hn,hb];rfl
    clear e48 hb hn
    clear f2 hf g1 g2
    go_wp2_with fail
    refine(bO p1 ⟨#[46,95,43,126,94]⟩ true _ (by omega) (by decide) G1).mono ?_;rintro e w' ⟨rfl,rfl⟩
    go_wp2_with fail
    refine(bO q1 ⟨#[46,95,43,126,94]⟩ true _ (by omega) (by decide) G2).mono ?_;rintro e w' ⟨rfl,rfl⟩
    go_wp2_with fail
    refine bodyPost_ret (v:=.agg #[.string ep,.string p1,.string q1,.bool true]) (by simp[results,Tryz.results118,go_sem]) rfl ?_
    exact lS E.out ((bR.alloc lr _).alloc (by simp) _)
  ·have f2':(fmt==2)=false:=by simpa using f2
   cases g1:aI [46,43,126,45] (bl p1)
   ·skip
    have E:Hid (bC fmt (bl s)=none):=by show _=_;rw[EF.out];simp only[if_neg f2];rw[g1];rfl
    have G1:Hid (aI (bl ⟨#[46,43,126,45]⟩) (bl p1)=false):=g1
    clear f2 hf g1
    go_wp2_with fail
    refine(bO p1 ⟨#[46,43,126,45]⟩ false _ (by omega) (by decide) G1).mono ?_;rintro e w' ⟨rfl,rfl⟩
    go_wp2_with fail
    refine bodyPost_ret (v:=.agg #[.string ⟨#[]⟩,.string ⟨#[]⟩,.string ⟨#[]⟩,.bool false]) (by simp[results,Tryz.results118,go_sem]) rfl ?_
    exact gA E.out ((bR.alloc lr _).alloc (by simp) _)
   have hp0:0<p1.size:=ki _ p1 g1
   have G1:Hid (aI (bl ⟨#[46,43,126,45]⟩) (bl p1)=true):=g1
   have hh:=ei p1 hp0
   cases g2:aD p1[0]
   ·skip
    have E:Hid (bC fmt (bl s)=none):=by show _=_;rw[EF.out];simp only[if_neg f2];rw[g1,hh,g2];rfl
    have G2:=ae g2
    clear f2 hf g1 g2 hh
    go_wp2_with fail
    refine(bO p1 ⟨#[46,43,126,45]⟩ true _ (by omega) (by decide) G1).mono ?_;rintro e w' ⟨rfl,rfl⟩
    go_wp2_with fail
    refine(iO p1[0] false _ G2).mono ?_;rintro e w' ⟨rfl,rfl⟩
    go_wp2_with fail
    refine bodyPost_ret (v:=.agg #[.string ⟨#[]⟩,.string ⟨#[]⟩,.string ⟨#[]⟩,.bool false]) (by simp[results,Tryz.results118,go_sem]) rfl ?_
    exact gA E.out ((bR.alloc lr _).alloc (by simp) _)
   have G2:=ae g2
   cases g3:aI [46,43,126] (bl q1)
   ·skip
    have E:Hid (bC fmt (bl s)=none):=by show _=_;rw[EF.out];simp only[if_neg f2];rw[g1,hh,g2,g3];rfl
    have G3:Hid (aI (bl ⟨#[46,43,126]⟩) (bl q1)=false):=g3
    clear f2 hf g1 g2 g3 hh
    go_wp2_with fail
    refine(bO p1 ⟨#[46,43,126,45]⟩ true _ (by omega) (by decide) G1).mono ?_;rintro e w' ⟨rfl,rfl⟩
    go_wp2_with fail
    refine(iO p1[0] true _ G2).mono ?_;rintro e w' ⟨rfl,rfl⟩
    go_wp2_with fail
    refine(bO q1 ⟨#[46,43,126]⟩ false _ (by omega) (by decide) G3).mono ?_;rintro e w' ⟨rfl,rfl⟩
    go_wp2_with fail
    refine bodyPost_ret (v:=.agg #[.string ⟨#[]⟩,.string ⟨#[]⟩,.string ⟨#[]⟩,.bool false]) (by simp[results,Tryz.results118,go_sem]) rfl ?_
    exact gA E.out ((bR.alloc lr _).alloc (by simp) _)
   ·skip
    have E:Hid (bC fmt (bl s)=some (bl ep,bl p1,bl q1)):=by show _=_;rw[EF.out];simp only[if_neg f2];rw[g1,hh,g2,g3];rfl
    have G3:Hid (aI (bl ⟨#[46,43,126]⟩) (bl q1)=true):=g3
    clear f2 hf g1 g2 g3 hh
    go_wp2_with fail
    refine(bO p1 ⟨#[46,43,126,45]⟩ true _ (by omega) (by decide) G1).mono ?_;rintro e w' ⟨rfl,rfl⟩
    go_wp2_with fail
    refine(iO p1[0] true _ G2).mono ?_;rintro e w' ⟨rfl,rfl⟩
    go_wp2_with fail
    refine(bO q1 ⟨#[46,43,126]⟩ true _ (by omega) (by decide) G3).mono ?_;rintro e w' ⟨rfl,rfl⟩
    go_wp2_with fail
    refine bodyPost_ret (v:=.agg #[.string ep,.string p1,.string q1,.bool true]) (by simp[results,Tryz.results118,go_sem]) rfl ?_
    exact lS E.out ((bR.alloc lr _).alloc (by simp) _)
structure CU where
 kind:Int
 num:Int
 text:BA
def CU.cells (x:CU):List Value:=[.int .i64 x.kind,.int .i64 x.num,.string x.text]
theorem Rm (x:CU):x.cells.length=3:=rfl
theorem E8:(Tryz.prog.info? 227).map (fun i=>(i.zero,i.size,i.bytes))=some (some (.agg #[.int .i64 0,.int .i64 0,.string ⟨#[]⟩]),3,32):=by kernel_rfl
structure qj (w wr:World) (ps:List CU) (A:Option Addr) (n c:Nat):Prop where
 len:ps.length=n
 row:wr.ownsRow w.heap.size 227 3 (.slice A n c) n (ps.flatMap CU.cells)
 bel:Below w.heap.size w wr
 kinds:∀ x∈ps,x.kind≠2
theorem qj.grow {w wr w2:World}{ps:List CU}{A A1:Option Addr}{n c c1:Nat}{o:Obj}{x:CU}(h:qj w wr ps A n c)(hx:x.kind≠2)
  (o2:w2.ownsRow w.heap.size 227 3 (.slice A1 (n+1) c1) (n+1) (ps.flatMap CU.cells++[.int .i64 x.kind,.int .i64 x.num,.string x.text]))
  (g2:(wr.alloc o).grownBy w2 (Value.slice A n c).ownBlock):qj w w2 (ps++[x]) A1 (n+1) c1:=by
 refine⟨by simp[h.len],by rw[List.flatMap_append];exact o2,?_,?_⟩
 ·exact(h.bel.alloc h.bel.size o).grown g2 (by have:=h.bel.size;simp;omega) (fun j hj=>by have:=(h.row.lt j hj).1;omega)
 ·intro y hy
  rcases List.mem_append.1 hy with hy | hy
  ·exact h.kinds y hy
  ·simp at hy;subst hy;exact hx
def wn (k:Nat)(l:LU)(acc:List Pc)(r:LU):Option (List Pc×LU×LU):=match dU k acc r with
 | none=>none
 | some (b,t)=>jA l b t
theorem E9 {l:LU}(h:dS (l.length+1) 7 [] l=none):cf l=none:=by unfold cf kB;rw[h];rfl
theorem ug {l r:LU}{a:List Pc}(h:dS (l.length+1) 7 [] l=some (a,r)):cf l=(wn ((fi a r).2.length+1) l (fi a r).1 (fi a r).2).map fun x=>([],x.2.1,x.2.2):=by unfold cf kB wn;rw[h];rfl
def Ol (k:Nat)(l:LU)(acc:List Pc)(r:LU):Option (LU×LU×LU):=(wn k l acc r).map fun x=>([],x.2.1,x.2.2)
theorem Tt {l r:LU}{a:List Pc}(h:dS (l.length+1) 7 [] l=some (a,r))(h0:CH r=false):cf l=Ol (r.length+1) l a r:=by
 rw[ug h,EI h0];rfl
theorem Rn {l r:LU}{a:List Pc}(h:dS (l.length+1) 7 [] l=some (a,r))(h0:CH r=true):cf l=Ol ((r.drop 1).length+1) l (a++[⟨5,r.take 1,0⟩]) (r.drop 1):=by
 rw[ug h,At h0];rfl
theorem J7:∀ (l:LU),au be l≠au cD l→∃ a r,l.drop (au be l)=a::r∧zw a=true
 | [],h=>absurd rfl h
 | a::r,h=>by
  cases hs:be a with
  | false=>
   have e1:au be (a::r)=0:=eh hs
   cases hc:zw a with
   | false=>exact absurd (by rw[e1,eh (by simp[cD,hs,hc])]) h
   | true=>exact⟨a,r,by rw[e1];rfl,hc⟩
  | true=>
   have e1:au be (a::r)=au be r+1:=by simp[au,hs]
   have e2:au cD (a::r)=au cD r+1:=by simp[au,cD,hs]
   rw[e1]
   simpa using J7 r (fun e=>h (by rw[e1,e2,e]))
theorem Lt {k:Nat}{l q:LU}{acc:List Pc}(h:dt (q.take (au cD q))=none):wn (k+1+1) l acc (95::q)=none:=by
 unfold wn
 by_cases he:au be q=au cD q
 ·rw[qa rfl (by rw[he];exact h)]
 ·obtain⟨a,r,hd,hc⟩:=J7 q he
  cases hw:dt (q.take (au be q)) with
  | none=>rw[qa rfl hw]
  | some wd=>
   have hcap:65≤a.toNat∧a.toNat≤90:=by simpa [zw] using hc
   have hdig:aD a=false:=by simp only[aD];exact dF (by omega)
   have h95:a≠95:=by rintro rfl;simp at hcap
   have h45:a≠45:=by rintro rfl;simp at hcap
   rw[qf rfl hw rfl,hd,eh hdig,List.drop_zero,pZ (by intro t e;injection e with e _;exact h95 e)]
   show jA l _ (a::r)=none
   unfold jA
   split
   ·rename_i e;cases e
   ·rename_i e;injection e with e _;exact absurd e h45
   ·rfl
theorem Ro {k:Nat}{l r:LU}{a:List Pc}(h:aE 95 r=false):Ol (k+1) l a r=(jA l a r).map fun x=>([],x.2.1,x.2.2):=by
 unfold Ol wn;rw[pZ (EU h)]
theorem ox {l r:LU}{a:List Pc}(h0:r≠[])(h:∀ t,r=45::114::t→gV t=false):jA l a r=none:=by
 unfold jA
 split
 ·exact absurd rfl h0
 ·rename_i t;rw[if_neg (by rw[h t rfl];simp)]
 ·rfl
theorem Ib {t:LU}(h:au aD t=0):gV t=false:=by
 cases t with
 | nil=>rfl
 | cons b u=>
  cases hb:aD b with
  | false=>simp[gV,hb]
  | true=>simp[au,hb] at h
theorem Lu {t:LU}(h:au aD t≠t.length):gV t=false:=by
 have:=Cx aD t
 unfold gV
 rw[←this,dF h,Bool.and_false]
theorem Lv {t:LU}(h:au aD t=t.length)(h0:0<t.length):gV t=true:=by
 have:=Cx aD t
 unfold gV
 rw[←this,dT h,Bool.and_true]
 cases t with
 | nil=>simp at h0
 | cons _ _=>rfl
def Om (s:BA)(w:World)(e:Ending)(w':World):Prop:=
 Below w.heap.size w w'∧match cf (bl s) with
  | none=>e=.returned (.slice none 0 0)
  | some (_,p,q)=>∃ (A:Option Addr) (n c:Nat) (ps:List CU) (x:CU),e=.returned (.slice A (n+1) c)∧ps.length=n∧Rd w' 3 A (n+1) ((ps++[x]).flatMap CU.cells)∧n≤64 ∧
   ((x.kind=2∧bl x.text=q∧p=(bl s).take (s.size-x.text.size-2)∧x.text.size+2≤s.size)∨(x.kind≠2∧q=[]∧p=bl s))
def Uy:Value→Nat
 | .string r=>r.size
 | _=>0
theorem lV {s:BA}{w w':World}(h:cf (bl s)=none)(hb:Below w.heap.size w w'):Om s w (.returned (.slice none 0 0)) w':=⟨hb,by rw[h]⟩
theorem Fa {s:BA}{w w':World}{ps:List CU}{A:Option Addr}{n c:Nat}(h:cf (bl s)=some ([],bl s,[]))(hR:qj w w' ps A n c)(hn:0<n)(hn2:n≤64):Om s w (.returned (.slice A n c)) w':=by
 refine⟨hR.bel,?_⟩
 rw[h]
 have hl:=hR.len
 have hne:ps≠[]:=by rintro rfl;simp at hl;omega
 have hsp:=List.dropLast_concat_getLast hne
 have e1:n-1+1=n:=by omega
 exact⟨A,n-1,c,ps.dropLast,ps.getLast hne,by rw[e1],by simp[hl],by rw[e1,hsp];exact bA hR.row,by omega,.inr ⟨hR.kinds _ (List.getLast_mem hne),rfl,rfl⟩⟩
theorem qj.alloc {w wr:World}{ps:List CU}{A:Option Addr}{n c:Nat}(h:qj w wr ps A n c)(o:Obj):qj w (wr.alloc o) ps A n c:=⟨h.len,h.row.alloc o,h.bel.alloc h.bel.size o,h.kinds⟩
def Uz (wr:World)(b:Nat):Prop:=∀ j,j<9→wr.cell? ⟨b,j,none⟩=some (.string (ci j))
theorem Rp (w:World)(t:TypeId):Uz (w.alloc (.cells ow.toArray t)) w.heap.size:=by
 intro j hj
 rcases(by omega:j=0∨j=1∨j=2∨j=3∨j=4∨j=5∨j=6∨j=7∨j=8) with rfl | rfl | rfl | rfl | rfl | rfl | rfl | rfl | rfl<;>simp[ow,List.range,List.range.loop]
theorem Tu (r:BA)(i n:Nat):bl (r.extract i (i+n))=((bl r).drop i).take n:=by
 rw[kv,Nat.add_sub_cancel_left]
theorem Uz.drewN {wr:World}{b:Nat}(h:Uz wr b)(k:Nat):Uz (wr.drewN k) b:=by intro j hj;simpa using h j hj
theorem qj.drewN {w wr:World}{ps:List CU}{A:Option Addr}{n c:Nat}(h:qj w wr ps A n c)(k:Nat):qj w (wr.drewN k) ps A n c:=⟨h.len,aR h.row (bJ bR k),bJ h.bel k,h.kinds⟩
def Ic (t:BA)(k:Nat):Int:=match dt (bl t) with | some i=>if i<k then i else -1 | none=>-1
theorem On (t:BA):Ic t 0=-1:=by unfold Ic;split<;>simp
theorem J8 (x:LU):∀ (l:List (LU))(k:Nat),oY l x=some k→l[k]?=some x
 | [],k,h=>by simp[oY] at h
 | a::r,k,h=>by
  unfold oY at h
  split at h
  ·rename_i e;injection h with h;subst h;simp[e]
  ·obtain⟨j,hj,rfl⟩:=Option.map_eq_some_iff.1 h
   simpa using J8 x r j hj
theorem Lw (k:Nat)(h:k<9):dt (bl (ci k))=some k:=by
 rcases(by omega:k=0∨k=1∨k=2∨k=3∨k=4∨k=5∨k=6∨k=7∨k=8) with rfl | rfl | rfl | rfl | rfl | rfl | rfl | rfl | rfl<;>decide
theorem Rq {t:BA}{k:Nat}(hk:k<9)(h:ci k=t):Ic t (k+1)=k:=by
 subst h;unfold Ic;rw[Lw k hk];simp
theorem Oo {t:BA}{k:Nat}(hk:k<9)(h:¬ ci k=t):Ic t (k+1)=Ic t k:=by
 unfold Ic
 cases hw:dt (bl t) with
 | none=>rfl
 | some i=>
  have hne:i≠k:=by
   rintro rfl
   have:=J8 _ _ _ hw
   rw[ot i hk] at this
   injection this with this
   exact h (dp this)
  show(if i<k+1 then (i:Int) else -1)=if i<k then (i:Int) else -1
  by_cases hi:i<k
  ·rw[if_pos hi,if_pos (by omega)]
  ·rw[if_neg hi,if_neg (by omega)]
theorem J9 (t:BA):Ic t 9=N9 t:=by
 unfold Ic N9
 cases hw:dt (bl t) with
 | none=>rfl
 | some i=>show(if i<9 then (i:Int) else -1)=_;rw[if_pos (sP hw)]
theorem Id (s:BA)(w:World)(hs:s.size≤64):
  Calls Tryz.prog 164 #[.string s] w (Om s w):=by
 obtain⟨i0,hi0,hz0,hz1,hz2⟩:=info_parts E8
 go_enter Tryz.func164,Tryz.ntmps164
 go_upto_block 0 with(fail)
 go_cut [0,3] (fun s0 s3 wx=>∃ (ps:List CU) (A:Option Addr) (n c:Nat) (a:List Pc) (r:BA),s3=.slice A n c∧s0=.string r∧n+r.size≤s.size∧0<n∧Hid (qj w wx ps A n c)∧Hid (dS (s.size+1) 7 [] (bl s)=some (a,bl r)))
 case first=>
  go_wp2_with fail
  go_loopw [0,3] (fun s0 s3 wr=>∃ (ps:List CU) (A:Option Addr) (n c:Nat) (kd:Int) (a:List Pc) (r:BA) (k:Nat),s3=.slice A n c∧s0=.string r∧n+r.size≤s.size∧Hid (qj w wr ps A n c)∧Hid (dS (s.size+1) 7 [] (bl s)=dS (k+1) kd a (bl r))∧Hid (r.size≤k)) (fun s0 _ _=>Uy s0)
  case atStart=>exact⟨[],none,0,0,7,[],s,s.size,rfl,rfl,by omega,⟨rfl,World.ownsRow_nil _ _ _ _,bR,by simp⟩,rfl,lr⟩
  case round=>
   obtain⟨ps,A,n,c,kd,a,r,k,rfl,rfl,hnr,HR,HN,HK⟩:=hrel
   obtain⟨m,hm⟩:∃ m,au aD (bl r)=m:=⟨_,rfl⟩
   have HM:=ae hm
   have hmr:m≤r.size:=by have:=cJ aD (bl r);rw[hm,af] at this;exact this
   clear hm
   by_cases h0:m=0
   ·have t0:((m:Int)==0)=true:=by rw[h0];rfl
    have E:Hid (cf (bl s)=none):=E9 (by rw[af,HN.out,vO (HM.out.trans h0)])
    clear h0
    go_wp2_with fail
    refine(cP r m _ (by omega) HM).mono ?_;rintro e w' ⟨rfl,rfl⟩
    go_wp2_with fail
    go_ret
    exact lV E.out HR.out.bel
   ·have t0:((m:Int)==0)=false:=by simp;omega
    have i1:(m:Int)≤(r.size:Int):=by omega
    have HZ:=ae (bm r m)
    have HQ:=ae (aX r m)
    go_wp2_with fail
    refine(cP r m _ (by omega) HM).mono ?_;rintro e w' ⟨rfl,rfl⟩
    go_wp2_with (at_builtin;refine ak _ rfl _ _ _ rfl w.heap.size 227 i0 _ 3 32 Tryz.underlying224 hi0 hz0 hz1 hz2 rfl (by omega) (.slice A n c) n _ rfl (HR.out.row.alloc _) (wr.heap.size+1) (some ⟨wr.heap.size,0,none⟩) 1 1 [.int .i64 6,.int .i64 0,.string (r.extract 0 m)] rfl (dI wr _ _ _ _) (by simp[Value.oneCell']) (by simp only[maxLen];omega) (by omega) (by simp;have:=HR.out.bel.size;omega) ?_;intro v1 w1 o1 g1 a1)
    obtain⟨A1,c1,rfl⟩:=aG o1
    have R1:=ae (HR.out.grow (x:=⟨6,0,r.extract 0 m⟩) (by simp) o1 g1)
    clear o1 g1 a1 HR
    generalize r.extract m r.size=q at *
    cases hh:aE 46 (bl q) with
    | false=>
     have HH:=ae hh;clear hh
     go_wp2_with fail
     refine(fE q 46 _ _ (by rw[HZ.out];omega) HH).mono ?_;rintro e w' ⟨rfl,rfl⟩
     go_wp2_with fail
     go_meet
     exact⟨_,A1,n+1,c1,_,_,rfl,rfl,by rw[HZ.out];omega,by omega,R1,by show _=_;rw[HN.out,vQ HM.out h0 (by rw[←HQ.out];exact EU HH.out),HQ.out]⟩
    | true=>
     have HH:=ae hh;clear hh
     have hp:=Ay HH.out
     have i2:(1:Int)≤(q.size:Int):=by omega
     have HZ2:=ae (bm q 1)
     go_wp2_with fail
     refine(fE q 46 _ _ (by rw[HZ.out];omega) HH).mono ?_;rintro e w' ⟨rfl,rfl⟩
     go_wp2_with fail
     go_roundw
     case rel=>exact⟨_,A1,n+1,c1,6,_,_,k-1,rfl,rfl,by have hzz:=HZ.out;rw[HZ2.out];omega,R1,by
      show _=_
      have hk:=HK.out
      have e1:k-1+1=k:=by omega
      rw[HN.out,vP HM.out h0 (by rw[←HQ.out];exact lT HH.out),e1,aX q],ae (by have:=HK.out;have hzz:=HZ.out;rw[HZ2.out];omega)⟩
     case measure=>have hzz:=HZ.out;simp only[Uy];rw[HZ2.out];omega
 case rest=>
 obtain⟨ps,A,n,c,a,r,rfl,rfl,hnr,hn0,HR,HN⟩:=hcut
 go_upto_region 9 with(fail)
 go_cut [43] (fun v wx=>v=.bool (CH (bl r))∧wc=wx)
 case first=>
  by_cases h0:0<r.size
  ·by_cases h1:97≤r[0].toNat
   ·by_cases h2:r[0].toNat≤122
    ·have E:Hid (CH (bl r)=true):=by show _=_;rw[dZ r h0];exact dT ⟨h1,h2⟩
     go_wp2_with fail
     go_meet
     exact⟨by rw[E.out];congr 1;exact dT (by omega),rfl⟩
    ·have E:Hid (CH (bl r)=false):=by show _=_;rw[dZ r h0];exact dF (by omega)
     go_wp2_with fail
     go_meet
     exact⟨by rw[E.out];congr 1;exact dF (by omega),rfl⟩
   ·have E:Hid (CH (bl r)=false):=by show _=_;rw[dZ r h0];exact dF (by omega)
    go_wp2_with fail
    go_meet
    exact⟨by rw[E.out],rfl⟩
  ·have E:Hid (CH (bl r)=false):=by show _=_;rw[bj r (by omega)];rfl
   go_wp2_with fail
   go_meet
   exact⟨by rw[E.out],rfl⟩
 case rest=>
 obtain⟨rfl,rfl⟩:=hcut
 go_upto_if 43 with(fail)
 go_cut [0,3] (fun s0 s3 wx=>∃ (ps:List CU) (A:Option Addr) (n c:Nat) (a:List Pc) (r:BA),s3=.slice A n c∧s0=.string r∧n+r.size≤s.size∧0<n∧Hid (qj w wx ps A n c)∧Hid (cf (bl s)=Ol (r.size+1) (bl s) a (bl r)))
 case first=>
  cases hl:CH (bl r) with
  | false=>
   have E:Hid (cf (bl s)=Ol (r.size+1) (bl s) a (bl r)):=by show _=_;rw[Tt (by rw[af];exact HN.out) hl,af]
   clear hl
   go_wp2_with fail
   go_meet
   exact⟨ps,A,n,c,a,r,rfl,rfl,hnr,hn0,HR,E⟩
  | true=>
   have hp:=J0 hl
   have HZ:=ae (bm r 1)
   have E:Hid (cf (bl s)=Ol ((r.extract 1 r.size).size+1) (bl s) (a++[⟨5,(bl r).take 1,0⟩]) (bl (r.extract 1 r.size))):=by show _=_;rw[Rn (by rw[af];exact HN.out) hl,List.length_drop,af,aX,HZ.out]
   clear hl
   have i1:(1:Int)≤(r.size:Int):=by omega
   go_wp2_with (at_builtin;refine ak _ rfl _ _ _ rfl w.heap.size 227 i0 _ 3 32 Tryz.underlying224 hi0 hz0 hz1 hz2 rfl (by omega) (.slice A n c) n _ rfl (HR.out.row.alloc _) (wc.heap.size+1) (some ⟨wc.heap.size,0,none⟩) 1 1 [.int .i64 5,.int .i64 0,.string (r.extract 0 1)] rfl (dI wc _ _ _ _) (by simp[Value.oneCell']) (by simp only[maxLen];omega) (by omega) (by simp;have:=HR.out.bel.size;omega) ?_;intro v1 w1 o1 g1 a1)
   obtain⟨A1,c1,rfl⟩:=aG o1
   have R1:=ae (HR.out.grow (x:=⟨5,0,r.extract 0 1⟩) (by simp) o1 g1)
   clear o1 g1 a1 HR
   go_meet
   exact⟨_,A1,n+1,c1,_,_,rfl,rfl,by rw[HZ.out];omega,by omega,R1,E⟩
 case rest=>
 obtain⟨ps,A,n,c,a,r,rfl,rfl,hnr,hn0,HR,HN⟩:=hcut
 go_wp2_with fail
 go_loopw [0,3] (fun s0 s3 wr=>∃ (ps:List CU) (A:Option Addr) (n c:Nat) (a:List Pc) (r:BA) (k:Nat),s3=.slice A n c∧s0=.string r∧n+r.size≤s.size∧0<n∧Hid (qj w wr ps A n c)∧Hid (cf (bl s)=Ol (k+1) (bl s) a (bl r))∧Hid (r.size≤k)) (fun s0 _ _=>Uy s0)
 case atStart=>exact⟨ps,A,n,c,a,r,r.size,rfl,rfl,hnr,hn0,HR,HN,lr⟩
 case round=>
  clear hnr hn0 HR HN
  obtain⟨ps,A,n,c,a,r,k,rfl,rfl,hnr,hn0,HR,HN,HK⟩:=hrel
  cases hh:aE 95 (bl r) with
  | true=>
   have HH:=ae hh;clear hh
   have hp:=Ay HH.out
   have i1:(1:Int)≤(r.size:Int):=by omega
   have HZ:=ae (bm r 1)
   have HQ:=ae (aX r 1)
   obtain⟨m,hm⟩:∃ m,au cD (bl (r.extract 1 r.size))=m:=⟨_,rfl⟩
   have HM:=ae hm
   have hmr:1+m≤r.size:=by have:=cJ cD (bl (r.extract 1 r.size));rw[hm,af,bm] at this;omega
   clear hm
   have hcell:=fun t=>ae (Rp wr t)
   go_wp2_with fail
   refine(fE r 95 _ _ (by omega) HH).mono ?_;rintro e w' ⟨rfl,rfl⟩
   go_wp2_with fail
   refine(wm (r.extract 1 r.size) m _ (by rw[HZ.out];omega) HM).mono ?_;rintro e w' ⟨rfl,rfl⟩
   go_wp2_with fail
   refine(Ls _).mono ?_;rintro e w' ⟨t,rfl,rfl⟩
   have HW:=hcell t
   have HR2:=ae (HR.out.alloc (.cells ow.toArray t))
   go_wp2_with fail
   obtain⟨T,hT⟩:∃ T,r.extract 1 (1+m)=T:=⟨_,rfl⟩
   have HT:=ae hT;clear hT
   go_loopw [6,8] (fun i6 i8 wx=>∃ j:Nat,j≤9∧i8=.int .i64 j∧i6=.int .i64 (Ic T j)∧Hid (qj w wx ps A n c)∧Hid (Uz wx wr.heap.size)) (fun _ i8 _=>9-(intOf i8).toNat)
   case atStart=>exact⟨0,by omega,rfl,by rw[On],HR2,HW⟩
   case round=>
    clear HR2 HW hcell
    obtain⟨j,hj,rfl,rfl,HR2,HW⟩:=hrel
    by_cases hlt:j<9
    ·have hc:=HW.out j hlt
     cases hE:((ci j).toList==(r.extract 1 (1+m)).toList)
     ·have HU:Hid (Ic T (j+1)=Ic T j):=Oo hlt (by rw[←HT.out];rw[fZ] at hE;exact of_decide_eq_false hE)
      go_wp2_with fail
      go_quiet (fail)
      go_wp2_with fail
      go_roundw
      case rel=>exact⟨j+1,by omega,by go_num,by rw[HU.out],HR2.out.drewN _,HW.out.drewN _⟩
      case measure=>simp[intOf];omega
     ·have HU:Hid (Ic T (j+1)=j):=Rq hlt (by rw[←HT.out];rw[fZ] at hE;exact dO hE)
      go_wp2_with fail
      go_quiet (fail)
      go_wp2_with fail
      go_roundw
      case rel=>exact⟨j+1,by omega,by go_num,by rw[HU.out],HR2.out.drewN _,HW.out.drewN _⟩
      case measure=>simp[intOf];omega
    ·obtain rfl:j=9:=by omega
     clear HW HR
     have HY:=ae (lT HH.out)
     have HTB:Hid ((bl (r.extract 1 r.size)).take m=bl T):=by show _=_;rw[HQ.out,←HT.out,Tu]
     cases hw:dt (bl T) with
     | none=>
      have hv:Ic T 9=-1:=by rw[J9];unfold N9;rw[hw]
      have E:Hid (cf (bl s)=none):=by
       show _=_
       have hk:=HK.out
       rw[HN.out,show k+1=k-1+1+1 by omega,HY.out,←HQ.out]
       unfold Ol
       rw[Lt (by rw[HM.out,HTB.out];exact hw)];rfl
      clear hw
      rw[hv]
      go_wp2_with fail
      go_ret
      exact lV E.out HR2.out.bel
     | some i=>
      have hv:Ic T 9=(i:Int):=by rw[J9];unfold N9;rw[hw]
      have hi9:=sP hw
      have HI:=ae hw;clear hw
      have HS:Hid (au be (bl (r.extract 1 r.size))=m):=by
       show _=_
       rw[zA _ (by rw[HM.out,HTB.out,HI.out];simp),HM.out]
      rw[hv]
      clear hv
      go_upto_if 77 with(fail)
      go_cut [9] (fun v wx=>v=.int .i64 (fj i)∧wr=wx)
      case first=>
       by_cases h4:i<4
       ·have E:Hid (fj i=0):=by show _=_;unfold fj;rw[if_neg (by omega)]
        go_wp2_with fail
        go_meet
        exact⟨by rw[E.out],rfl⟩
       ·have E:Hid (fj i=4):=by show _=_;unfold fj;rw[if_pos (by omega)]
        go_wp2_with fail
        go_meet
        exact⟨by rw[E.out],rfl⟩
      case rest=>
      obtain⟨rfl,rfl⟩:=hcut
      have i2:(1:Int)+(m:Int)≤(r.size:Int):=by omega
      have HZ2:=ae (bm r (1+m))
      have HQ2:Hid (bl (r.extract (1+m) r.size)=(bl (r.extract 1 r.size)).drop m):=by show _=_;rw[aX,HQ.out,List.drop_drop]
      have iw:IntKind.i64.wrap (1+(m:Int))=1+(m:Int):=IntWalk.i64_in _ (by omega)
      go_wp2_with (at_builtin;refine ak _ rfl _ _ _ rfl w.heap.size 227 i0 _ 3 32 Tryz.underlying224 hi0 hz0 hz1 hz2 rfl (by omega) (.slice A n c) n _ rfl (HR2.out.row.alloc _) (wr.heap.size+1) (some ⟨wr.heap.size,0,none⟩) 1 1 [.int .i64 (fj i),.int .i64 i,.string ⟨#[]⟩] rfl (dI wr _ _ _ _) (by simp[Value.oneCell']) (by simp only[maxLen];omega) (by omega) (by simp;have:=HR2.out.bel.size;omega) ?_;intro v1 w1 o1 g1 a1)
      obtain⟨A1,c1,rfl⟩:=aG o1
      have R1:=ae (HR2.out.grow (x:=⟨fj i,i,⟨#[]⟩⟩) (by unfold fj;split<;>simp) o1 g1)
      clear o1 g1 a1 HR2
      obtain⟨d,hd⟩:∃ d,au aD (bl (r.extract (1+m) r.size))=d:=⟨_,rfl⟩
      have HD:=ae hd;clear hd
      have HN2:Hid (cf (bl s)=Ol (k-1+1) (bl s) (a++[⟨fj i,(bl (r.extract 1 r.size)).take m,i⟩]++(if 0<d then [⟨3,((bl (r.extract 1 r.size)).drop m).take d,0⟩] else [])) ((bl (r.extract (1+m) r.size)).drop d)):=by
       show _=_
       have hk:=HK.out
       rw[HN.out,show k-1+1=k by omega,HY.out,←HQ.out]
       unfold Ol wn
       rw[qf (m:=d) HS.out (by rw[HTB.out];exact HI.out) (by rw[←HQ2.out];exact HD.out),HQ2.out]
      have HK2:Hid (r.size-1≤k-1):=by have:=HK.out;show _≤_;omega
      have hdq:d≤(r.extract (1+m) r.size).size:=by have:=cJ aD (bl (r.extract (1+m) r.size));rw[HD.out,af] at this;exact this
      clear HK HN HQ HQ2 HTB HS HM HT HY iw i2
      generalize r.extract (1+m) r.size=q at *
      generalize (a++[(⟨fj i,(bl (r.extract 1 r.size)).take m,i⟩:Pc)]++(if 0<d then [⟨3,((bl (r.extract 1 r.size)).drop m).take d,0⟩] else []))=ac at *
      by_cases hd0:d=0
      ·have t0:decide ((0:Int)<(d:Int))=false:=dF (by omega)
       go_wp2_with fail
       refine(cP q d _ (by rw[HZ2.out];omega) HD).mono ?_;rintro e w' ⟨rfl,rfl⟩
       go_wp2_with fail
       go_roundw
       case rel=>exact⟨_,A1,n+1,c1,ac,q,k-1,rfl,rfl,by rw[HZ2.out];omega,by omega,R1,by show _=_;rw[HN2.out,hd0,List.drop_zero],ae (by have:=HK2.out;rw[HZ2.out];omega)⟩
       case measure=>simp only[Uy];rw[HZ2.out];omega
      ·have t0:decide ((0:Int)<(d:Int))=true:=dT (by omega)
       have i3:(d:Int)≤(q.size:Int):=by omega
       have HZ3:=ae (bm q d)
       go_wp2_with fail
       refine(cP q d _ (by rw[HZ2.out];omega) HD).mono ?_;rintro e w' ⟨rfl,rfl⟩
       have hq64:Hid (q.size≤64):=by show _≤_;rw[HZ2.out];omega
       go_wp2_with (at_builtin;refine ak _ rfl _ _ _ rfl w.heap.size 227 i0 _ 3 32 Tryz.underlying224 hi0 hz0 hz1 hz2 rfl (by omega) (.slice A1 (n+1) c1) (n+1) _ rfl (R1.out.row.alloc _) (w1.heap.size+1) (some ⟨w1.heap.size,0,none⟩) 1 1 [.int .i64 3,.int .i64 0,.string (q.extract 0 d)] rfl (dI w1 _ _ _ _) (by simp[Value.oneCell']) (by simp only[maxLen];omega) (by omega) (by simp;have:=R1.out.bel.size;omega) ?_;intro v2 w2 o2 g2 a2)
       obtain⟨A2,c2,rfl⟩:=aG o2
       have R2:=ae (R1.out.grow (x:=⟨3,0,q.extract 0 d⟩) (by simp) o2 g2)
       clear o2 g2 a2 R1
       go_roundw
       case rel=>exact⟨_,A2,n+1+1,c2,ac,q.extract d q.size,k-1,rfl,rfl,by have:=HZ2.out;rw[HZ3.out];omega,by omega,R2,by show _=_;rw[HN2.out,aX],ae (by have:=HK2.out;have:=HZ2.out;rw[HZ3.out];omega)⟩
       case measure=>have:=HZ2.out;simp only[Uy];rw[HZ3.out];omega
  | false=>
   have HH:=ae hh;clear hh
   have HE:Hid (cf (bl s)=(jA (bl s) a (bl r)).map fun x=>([],x.2.1,x.2.2)):=by show _=_;rw[HN.out,Ro HH.out]
   clear HN HK
   by_cases hr0:r.size=0
   ·have he:r.toList=[]:=by rw[ai,bj r hr0]
    have he2:r.toList.isEmpty=true:=by rw[he];rfl
    have E:Hid (cf (bl s)=some ([],bl s,[])):=by show _=_;rw[HE.out,bj r hr0];rfl
    clear HE
    go_wp2_with fail
    refine(fE r 95 _ _ (by omega) HH).mono ?_;rintro e w' ⟨rfl,rfl⟩
    go_wp2_with fail
    go_ret
    exact Fa E.out HR.out hn0 (by omega)
   have hne:¬ r.toList=[]:=by rw[ai];intro e;have:=congrArg List.length e;rw[af] at this;exact hr0 this
   have hne2:r.toList.isEmpty=false:=by rw[ai,aL];exact dF hr0
   have hbn:Hid (bl r≠[]):=by show bl r≠[];intro e;have:=congrArg List.length e;rw[af] at this;exact hr0 this
   by_cases h2:2<r.size
   ·by_cases hb:(r.extract 0 2).toList=[45,114]
    ·have HB:Hid (bl r=45::114::bl (r.extract 2 r.size)):=by
      show _=_
      have h1:(bl r).take 2=[45,114]:=by rw[←bV,←ai];exact hb
      rw[aX]
      conv=>lhs;rw[←List.take_append_drop 2 (bl r),h1]
      rfl
     have HZ:=ae (bm r 2)
     obtain⟨d,hd⟩:∃ d,au aD (bl (r.extract 2 r.size))=d:=⟨_,rfl⟩
     have HD:=ae hd;clear hd
     have hdr:2+d≤r.size:=by have:=cJ aD (bl (r.extract 2 r.size));rw[HD.out,af,HZ.out] at this;omega
     have i2:(2:Int)≤(r.size:Int):=by omega
     by_cases hd0:d=0
     ·have t0:decide ((0:Int)<(d:Int))=false:=dF (by omega)
      have E:Hid (cf (bl s)=none):=by
       show _=_
       rw[HE.out,ox hbn.out (by
        intro t e
        rw[HB.out] at e;injection e with _ e;injection e with _ e
        rw[←e];exact Ib (HD.out.trans hd0))];rfl
      clear HE
      go_wp2_with fail
      refine(fE r 95 _ _ (by omega) HH).mono ?_;rintro e w' ⟨rfl,rfl⟩
      go_wp2_with fail
      refine(cP (r.extract 2 r.size) d _ (by rw[HZ.out];omega) HD).mono ?_;rintro e w' ⟨rfl,rfl⟩
      go_wp2_with fail
      go_ret
      exact lV E.out HR.out.bel
     ·have t0:decide ((0:Int)<(d:Int))=true:=dT (by omega)
      have iw:IntKind.i64.wrap (2+(d:Int))=2+(d:Int):=IntWalk.i64_in _ (by omega)
      have i3:(2:Int)+(d:Int)≤(r.size:Int):=by omega
      have HZ4:=ae (bm r (2+d))
      by_cases hf:2+d=r.size
      ·have hx:(r.extract (2+d) r.size).toList=[]:=by rw[ai,bj _ (by rw[HZ4.out];omega)]
       have hx2:(r.extract (2+d) r.size).toList.isEmpty=true:=by rw[hx];rfl
       have HNB:Hid (gV (bl (r.extract 2 r.size))=true):=Lv (by rw[HD.out,af,HZ.out];omega) (by rw[af,HZ.out];omega)
       have E:Hid (cf (bl s)=some ([],(bl s).take (s.size-r.size),bl (r.extract 2 r.size))):=by
        show _=_
        rw[HE.out,HB.out,jA,if_pos HNB.out,←HB.out,af,af];rfl
       have ET:Hid (bl (r.extract 2 (2+d))=bl (r.extract 2 r.size)):=by show _=_;rw[hf]
       have EZ:Hid ((r.extract 2 (2+d)).size=d):=by show _=_;rw[hf,HZ.out];omega
       have HF:=ae hf
       clear HE hf
       go_wp2_with fail
       refine(fE r 95 _ _ (by omega) HH).mono ?_;rintro e w' ⟨rfl,rfl⟩
       go_wp2_with fail
       refine(cP (r.extract 2 r.size) d _ (by rw[HZ.out];omega) HD).mono ?_;rintro e w' ⟨rfl,rfl⟩
       go_wp2_with fail
       refine(cP (r.extract 2 r.size) d _ (by rw[HZ.out];omega) HD).mono ?_;rintro e w' ⟨rfl,rfl⟩
       go_wp2_with (at_builtin;refine ak _ rfl _ _ _ rfl w.heap.size 227 i0 _ 3 32 Tryz.underlying224 hi0 hz0 hz1 hz2 rfl (by omega) (.slice A n c) n _ rfl (HR.out.row.alloc _) (wr.heap.size+1) (some ⟨wr.heap.size,0,none⟩) 1 1 [.int .i64 2,.int .i64 0,.string (r.extract 2 (2+d))] rfl (dI wr _ _ _ _) (by simp[Value.oneCell']) (by simp only[maxLen];omega) (by omega) (by simp;have:=HR.out.bel.size;omega) ?_;intro v1 w1 o1 g1 a1)
       obtain⟨A1,c1,rfl⟩:=aG o1
       have B1:Below w.heap.size w w1:=(HR.out.bel.alloc HR.out.bel.size _).grown g1 (by have:=HR.out.bel.size;simp;omega) (fun j hj=>by have:=(HR.out.row.lt j hj).1;omega)
       go_ret
       refine⟨B1,?_⟩
       rw[E.out]
       refine⟨A1,n,c1,ps,⟨2,0,r.extract 2 (2+d)⟩,rfl,HR.out.len,?_,by omega,.inl ⟨rfl,ET.out,?_,?_⟩⟩
       ·rw[List.flatMap_append];exact bA o1
       ·show _=List.take (s.size-(r.extract 2 (2+d)).size-2) (bl s)
        rw[EZ.out];have:=HF.out;congr 1;omega
       ·show(r.extract 2 (2+d)).size+2≤s.size
        rw[EZ.out];omega
      ·have hx:¬ (r.extract (2+d) r.size).toList=[]:=by
        rw[ai];intro e;have:=congrArg List.length e;rw[af,HZ4.out] at this;have:r.size-(2+d)=0:=this;omega
       have hx2:(r.extract (2+d) r.size).toList.isEmpty=false:=by rw[ai,aL];exact dF (by rw[HZ4.out];omega)
       have E:Hid (cf (bl s)=none):=by
        show _=_
        rw[HE.out,ox hbn.out (by
         intro t e
         rw[HB.out] at e;injection e with _ e;injection e with _ e
         rw[←e];exact Lu (by rw[HD.out,af,HZ.out];omega))];rfl
       clear HE
       go_wp2_with fail
       refine(fE r 95 _ _ (by omega) HH).mono ?_;rintro e w' ⟨rfl,rfl⟩
       go_wp2_with fail
       refine(cP (r.extract 2 r.size) d _ (by rw[HZ.out];omega) HD).mono ?_;rintro e w' ⟨rfl,rfl⟩
       go_wp2_with fail
       refine(cP (r.extract 2 r.size) d _ (by rw[HZ.out];omega) HD).mono ?_;rintro e w' ⟨rfl,rfl⟩
       go_wp2_with (at_builtin;refine ak _ rfl _ _ _ rfl w.heap.size 227 i0 _ 3 32 Tryz.underlying224 hi0 hz0 hz1 hz2 rfl (by omega) (.slice A n c) n _ rfl (HR.out.row.alloc _) (wr.heap.size+1) (some ⟨wr.heap.size,0,none⟩) 1 1 [.int .i64 2,.int .i64 0,.string (r.extract 2 (2+d))] rfl (dI wr _ _ _ _) (by simp[Value.oneCell']) (by simp only[maxLen];omega) (by omega) (by simp;have:=HR.out.bel.size;omega) ?_;intro v1 w1 o1 g1 a1)
       obtain⟨A1,c1,rfl⟩:=aG o1
       have B1:Below w.heap.size w w1:=(HR.out.bel.alloc HR.out.bel.size _).grown g1 (by have:=HR.out.bel.size;simp;omega) (fun j hj=>by have:=(HR.out.row.lt j hj).1;omega)
       go_ret
       exact lV E.out B1
    ·have E:Hid (cf (bl s)=none):=by
      show _=_
      rw[HE.out,ox hbn.out (by
       intro t e
       exfalso
       refine hb ?_
       rw[ai,bV,e];rfl)];rfl
     clear HE
     go_wp2_with fail
     refine(fE r 95 _ _ (by omega) HH).mono ?_;rintro e w' ⟨rfl,rfl⟩
     go_wp2_with fail
     go_ret
     exact lV E.out HR.out.bel
   ·have E:Hid (cf (bl s)=none):=by
     show _=_
     rw[HE.out,ox hbn.out (by
      intro t e
      have:=congrArg List.length e
      rw[af] at this
      cases t with
      | nil=>rfl
      | cons _ _=>simp at this;omega)];rfl
    clear HE
    go_wp2_with fail
    refine(fE r 95 _ _ (by omega) HH).mono ?_;rintro e w' ⟨rfl,rfl⟩
    go_wp2_with fail
    go_ret
    exact lV E.out HR.out.bel
theorem DQ (s:BA)(w:World)(hs:s.size≤64):
  Calls Tryz.prog 118 #[.int .i64 3,.string s] w (nt (cf (bl s)) w):=by
 go_enter Tryz.func118,Tryz.ntmps118
 have BX0:=ae (Bx.start w [.string ⟨#[]⟩,.string ⟨#[]⟩,.string ⟨#[]⟩,.bool false] 189)
 go_wp2_with fail
 refine(Id s _ hs).mono ?_
 rintro e w1 ⟨hb1,hm⟩
 have BX:=ae (BX0.out.step hb1)
 clear hb1 BX0
 have c0:=BX.out.cell 0 _ rfl
 have c1:=BX.out.cell 1 _ rfl
 have c2:=BX.out.cell 2 _ rfl
 have c3:=BX.out.cell 3 _ rfl
 have f0:=BX.out.free 0 (by simp)
 have f1:=BX.out.free 1 (by simp)
 have f2:=BX.out.free 2 (by simp)
 have f3:=BX.out.free 3 (by simp)
 cases hr:cf (bl s) with
 | none=>
  rw[hr] at hm
  subst hm
  have E:=ae hr;clear hr
  go_wp2_with fail
  refine bodyPost_ret (v:=.agg #[.string ⟨#[]⟩,.string ⟨#[]⟩,.string ⟨#[]⟩,.bool false]) (by simp[results,Tryz.results118,go_sem,c0,c1,c2,c3]) rfl ?_
  exact gA E.out ((((BX.out.bel.setCell lr _).setCell lr _).setCell lr _).setCell lr _)
 | some y=>
  obtain⟨a0,p,q⟩:=y
  rw[hr] at hm
  obtain⟨A,n,c,ps,x,rfl,hl,hrd,hn,hx⟩:=hm
  have h00:a0=[]:=by
   unfold cf at hr
   obtain⟨z,_,hz⟩:=Option.map_eq_some_iff.1 hr
   injection hz with hz _;exact hz.symm
  subst h00
  have E:=ae hr;clear hr
  have hrd2:Rd w1 3 A (ps++[x]).length ((ps++[x]).flatMap CU.cells):=by rw[List.length_append,hl];exact hrd
  obtain⟨b1,off1,hA1,he1⟩:=hrd2.elem Rm n x (by simp[←hl])
  have p0:=he1 0 _ rfl
  have p2:=he1 2 _ rfl
  simp only[Nat.add_zero] at p0
  have hix:=fun W=>aH (T:=224) (E:=227) (sz:=3) (c:=c) Tryz.underlying224 rfl Tryz.sizeOf227 hA1 (show n<n+1 by omega) W
  have iw:IntKind.i64.wrap (n:Int)=(n:Int):=IntWalk.i64_in _ (by omega)
  have t0:(((n:Int)+1)==0)=false:=by simp;omega
  clear hrd hrd2 he1 hA1
  rcases hx with⟨hk,ht,hp,hz⟩ | ⟨hk,hq,hp⟩
  ·have HT:=ae ht;have HP:=ae hp
   have k2:(x.kind==2)=true:=by rw[hk];rfl
   have iw2:IntKind.i64.wrap ((s.size:Int)-(x.text.size:Int))=(s.size:Int)-(x.text.size:Int):=IntWalk.i64_in _ (by omega)
   have iw3:IntKind.i64.wrap ((s.size:Int)-(x.text.size:Int)-2)=(s.size:Int)-(x.text.size:Int)-2:=IntWalk.i64_in _ (by omega)
   have g1:(0:Int)≤(s.size:Int)-(x.text.size:Int)-2:=by omega
   have g2:(s.size:Int)-(x.text.size:Int)-2≤(s.size:Int):=by omega
   have tn:((s.size:Int)-(x.text.size:Int)-2).toNat=s.size-x.text.size-2:=by omega
   clear ht hp
   go_wp2_with fail
   refine bodyPost_ret (v:=.agg #[.string ⟨#[]⟩,.string (s.extract 0 (s.size-x.text.size-2)),.string x.text,.bool true]) (by simp[results,Tryz.results118,go_sem,c0,c1,c2,c3]) rfl ?_
   exact lS (by rw[E.out,←HT.out,HP.out,bV];rfl) ((((BX.out.bel.setCell lr _).setCell lr _).setCell lr _).setCell lr _)
  ·subst hq hp
   have k2:(x.kind==2)=false:=by simp[hk]
   go_wp2_with fail
   refine bodyPost_ret (v:=.agg #[.string ⟨#[]⟩,.string s,.string ⟨#[]⟩,.bool true]) (by simp[results,Tryz.results118,go_sem,c0,c1,c2,c3]) rfl ?_
   exact lS (by rw[E.out];rfl) ((((BX.out.bel.setCell lr _).setCell lr _).setCell lr _).setCell lr _)
theorem DT (fmt:Int)(hf:fmt=1∨fmt=2∨fmt=3)(s:BA)(w:World)(hs:s.size≤64):
  Calls Tryz.prog 118 #[.int .i64 fmt,.string s] w (nt (bC fmt (bl s)) w):=by
 rcases hf with rfl | rfl | rfl
 ·exact uf 1 (.inl rfl) s w hs
 ·exact uf 2 (.inr rfl) s w hs
 ·exact DQ s w hs
theorem Qz (a b c:BA)(o:Bool)(w:World):(Instr.field 189 (.agg #[.string a,.string b,.string c,.bool o]) 3).run Tryz.prog w=.ok (.bool o) w:=by kernel_rfl
theorem Nm (fmt:Int)(s:BA)(w:World)(hs:s.size≤9223372036854775807):
  Calls Tryz.prog 79 #[.int .i64 fmt,.string s] w fun e w'=>e=.returned (.int .i64 (aV fmt s))∧Below w.heap.size w w':=by
 by_cases hf:fmt=1∨fmt=2∨fmt=3
 ·have q1:decide (fmt<1)=false:=dF (by omega)
  have q2:decide (3<fmt)=false:=dF (by omega)
  by_cases h64:64<s.size
  ·have E:Hid (aV fmt s=4):=by show _=_;unfold aV;rw[if_neg (fun hn=>hn hf),if_pos h64]
   clear hf
   go_enter Tryz.func79,Tryz.ntmps79
   go_wp2_with fail
   go_ret
   exact⟨by rw[E.out];rfl,bR⟩
  ·have E:Hid (aV fmt s=rg (bC fmt (bl s))):=by show _=_;unfold aV;rw[if_neg (fun hn=>hn hf),if_neg h64]
   have HF:=ae hf
   clear hf
   go_enter Tryz.func79,Tryz.ntmps79
   go_wp2_with fail
   refine(DT fmt HF.out s _ (by omega)).mono ?_
   rintro e w1 ⟨ep,pr,rv,ok,rfl,hr,hb1⟩
   have hfd:=fun W=>Qz ep pr rv ok W
   cases ok with
   | true=>
    have EV:Hid (aV fmt s=0):=by
     show _=_
     rw[E.out]
     cases h:bC fmt (bl s) with
     | none=>rw[h] at hr;cases hr
     | some x=>rfl
    clear hr
    go_wp2_with fail
    go_ret
    exact⟨by rw[EV.out];rfl,hb1⟩
   | false=>
    have EV:Hid (aV fmt s=3):=by
     show _=_
     rw[E.out]
     cases h:bC fmt (bl s) with
     | none=>rfl
     | some x=>obtain⟨a,b,d⟩:=x;rw[h] at hr;cases hr.1
    clear hr
    go_wp2_with fail
    go_ret
    exact⟨by rw[EV.out];rfl,hb1⟩
 ·have E:Hid (aV fmt s=9):=by show _=_;unfold aV;rw[if_pos hf]
  by_cases h1:fmt<1
  ·clear hf
   go_enter Tryz.func79,Tryz.ntmps79
   go_wp2_with fail
   go_ret
   exact⟨by rw[E.out];rfl,bR⟩
  ·have h3:3<fmt:=by omega
   clear hf
   go_enter Tryz.func79,Tryz.ntmps79
   go_wp2_with fail
   go_ret
   exact⟨by rw[E.out];rfl,bR⟩
end
end Go.Proofs.YtkjdbpjglobbjaaGreatDoor
