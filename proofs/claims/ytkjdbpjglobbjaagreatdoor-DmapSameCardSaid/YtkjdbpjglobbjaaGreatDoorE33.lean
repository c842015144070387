/- A part of the proof of a law on dependencies in three formats. No condition. -/
import Derived.Test.YtkjdbpjglobbjaaGreatDoorE25
import Derived.Test.YtkjdbpjglobbjaaGreatDoorE31
import Derived.Test.YtkjdbpjglobbjaaGreatDoorE32
set_option maxRecDepth 100000
set_option maxHeartbeats 20000000
set_option linter.unusedVariables false
set_option linter.unusedSimpArgs false
namespace Go.Proofs.YtkjdbpjglobbjaaGreatDoor
section
open Go.RowKit
theorem Bi {a:aA}(h:a.told 2):(dK a).bare:=by
 have h5:=h.op5;have h0:=h.op0
 refine .mk _ _ _ h.name (by omega) (fun e=>h.none (by omega)) (fun e=>?_)
 obtain⟨c,hc,hv⟩:=h.ver (by omega)
 obtain⟨b1,_,b3⟩:=qw hc
 rw[hv]
 exact⟨kG (.inr (.inl rfl)) hc,b1,fun x hx=>⟨(b3 x hx).2.1,(b3 x hx).2.2.1,(b3 x hx).2.2.2⟩⟩
theorem oC {a:aA}(h0:0≤a.op):(⟨bz (bl a.nm),(a.op.toNat:Int),bz (bl a.ver)⟩:aA)=a:=by
 obtain⟨nm,op,ver⟩:=a
 simp only at h0
 rw[iP,iP,Int.toNat_of_nonneg h0]
theorem IT {fmt:Int}(hf:dk fmt){bar:Bool}{out:List ba}(h:∀ d∈out,d.told fmt)(hc:bH out≤64):
  (∀ t∈cT fmt bar out,(bX fmt bar t).2=0)∧(cT fmt bar out).flatMap (fun t=>(bX fmt bar t).1)=(if fmt=3 then (if bar=true then [] else out) else dM bar out):=by
 rcases hf with rfl | rfl | rfl
 ·rw[if_neg (by decide)]
  unfold cT
  rw[if_pos rfl]
  by_cases h0:dM bar out=[]
  ·rw[if_pos h0,h0];exact⟨by simp,rfl⟩
  rw[if_neg h0]
  have hb:∀ g∈(dM bar out).map (fun d=>d.alts.map ng),g≠[]∧∀ t∈g,t.bare:=by
   intro g hg
   obtain⟨d,hd,rfl⟩:=List.mem_map.1 hg
   have hd':=h d (gq hd).1
   refine⟨by simpa using hd'.ne,fun t ht=>?_⟩
   obtain⟨a,ha,rfl⟩:=List.mem_map.1 ht
   exact Bh (hd'.each a ha)
  have hs:((((dM bar out).map (fun d=>d.alts.map ng))).map List.length).sum≤64:=by
   have:=mH bar out
   have e:(((dM bar out).map (fun d=>d.alts.map ng))).map List.length=(dM bar out).map fun d=>d.alts.length:=by
    rw[List.map_map];exact List.map_congr_left fun d _=>by simp
   rw[e];unfold bH at *;omega
  have hp:=Fz (by simpa using h0) hb hs
  have ht:bX 1 bar (eY ((dM bar out).map (fun d=>d.alts.map ng)))=(dM bar out,0):=by
   unfold bX
   rw[if_pos rfl,hp]
   simp only
   unfold pE
   rw[if_neg]
   ·congr 1
    rw[List.map_map]
    conv=>rhs;rw[←List.map_id (dM bar out)]
    refine List.map_congr_left fun d hd=>?_
    obtain⟨hm,hbar⟩:=gq hd
    have:(d.alts.map ng).map mY=d.alts:=by
     rw[List.map_map]
     exact xz fun a ha=>oC ((h d hm).each a ha).op0
    show(⟨bar,(d.alts.map ng).map mY⟩:ba)=d
    rw[this,←hbar]
   ·rw[Bool.not_eq_true,List.any_eq_false]
    intro g hg
    obtain⟨d,hd,rfl⟩:=List.mem_map.1 hg
    obtain⟨hm,hbar⟩:=gq hd
    rw[Bool.not_eq_true,Bool.or_eq_false_iff]
    constructor
    ·cases bar with
     | false=>rfl
     | true=>simp[(h d hm).one hbar]
    ·rw[List.any_eq_false]
     intro t ht
     obtain⟨a,_,rfl⟩:=List.mem_map.1 ht
     simp[ng]
  exact⟨fun t hm=>by rw[List.mem_singleton.1 hm,ht],by simp[ht]⟩
 ·rw[if_neg (by decide)]
  unfold cT
  rw[if_neg (by decide),if_pos rfl]
  have key:∀ d∈dM bar out,bX 2 bar (bP (pf d))=([d],0):=by
   intro d hd
   obtain⟨hm,hbar⟩:=gq hd
   have hd':=h d hm
   have h64:=rN hm
   obtain⟨db,alts⟩:=d
   simp only at hbar
   subst hbar
   match alts,hd',h64 with
   | [],hd',_=>exact absurd rfl hd'.ne
   | [g],hd',_=>
    have hg:=hd'.each g (by simp)
    have hp:=ur (.one _ (Bi hg))
    have e:pf ⟨db,[g]⟩=dK g:=rfl
    have ex:xy (dK g)=g:=oC hg.op0
    unfold bX
    rw[if_neg (by decide),if_pos rfl,e,hp]
    simp only
    unfold kK
    have hi:FK (dK g)=true:=rfl
    have hpp:nL (dK g)=[dK g]:=rfl
    have haa:pG (dK g)=[dK g]:=rfl
    cases db with
    | true=>rw[if_pos rfl,if_pos hi,ex]
    | false=>
     rw[if_neg (by simp),hpp]
     simp only[List.all_cons,List.all_nil,Bool.and_true,haa,hi,if_true,List.map_cons,List.map_nil,ex]
   | g::g2::r,hd',h64=>
    have hne:db=false:=by
     cases db with
     | false=>rfl
     | true=>have:=hd'.one rfl;simp at this
    subst hne
    have hbs:∀ x∈dK g::dK g2::r.map dK,x.bare:=by
     intro x hx
     have hx':x∈(g::g2::r).map dK:=by simpa using hx
     obtain⟨a,ha,rfl⟩:=List.mem_map.1 hx'
     exact Bi (hd'.each a ha)
    have hp:=ur (.some (dK g) (dK g2) (r.map dK) hbs (by simp at h64 ⊢;omega))
    have e:pf ⟨false,g::g2::r⟩=.node eE (dK g::dK g2::r.map dK):=rfl
    have hpp:nL (.node eE (dK g::dK g2::r.map dK))=[.node eE (dK g::dK g2::r.map dK)]:=by
     show(if eE=eU then dK g::dK g2::r.map dK else [.node eE (dK g::dK g2::r.map dK)])=_
     rw[if_neg (by decide)]
    have haa:pG (.node eE (dK g::dK g2::r.map dK))=(g::g2::r).map dK:=by
     show(if eE=eE then dK g::dK g2::r.map dK else [.node eE (dK g::dK g2::r.map dK)])=_
     rw[if_pos rfl];rfl
    have hall:((g::g2::r).map dK).all FK=true:=by
     rw[List.all_eq_true];intro x hx;obtain⟨a,_,rfl⟩:=List.mem_map.1 hx;rfl
    have hmap:((g::g2::r).map dK).map xy=g::g2::r:=by
     rw[List.map_map];exact xz fun a ha=>oC (hd'.each a ha).op0
    unfold bX
    rw[if_neg (by decide),if_pos rfl,e,hp]
    simp only
    unfold kK
    rw[if_neg (by simp),hpp]
    simp only[List.all_cons,List.all_nil,Bool.and_true,haa,List.map_cons,List.map_nil] at hall hmap ⊢
    rw[hall,if_pos rfl,hmap]
  refine⟨fun t ht=>?_,?_⟩
  ·obtain⟨d,hd,rfl⟩:=List.mem_map.1 ht
   rw[key d hd]
  ·rw[List.flatMap_map]
   have:∀ L:List ba,(∀ d∈L,bX 2 bar (bP (pf d))=([d],0))→L.flatMap (fun d=>(bX 2 bar (bP (pf d))).1)=L:=by
    intro L
    induction L with
    | nil=>intro _;rfl
    | cons a r ih=>intro hh;rw[List.flatMap_cons,hh a (by simp),ih (fun d hd=>hh d (List.mem_cons_of_mem _ hd))];rfl
   exact this _ key
 ·rw[if_pos rfl]
  unfold cT
  rw[if_neg (by decide),if_neg (by decide)]
  cases bar with
  | true=>rw[if_pos (.inl rfl),if_pos rfl];exact⟨by simp,rfl⟩
  | false=>
   rw[if_neg (c:=false=true) (by simp)]
   by_cases h0:out=[]
   ·rw[if_pos (.inr h0),h0];exact⟨by simp,rfl⟩
   rw[if_neg (by simpa using h0)]
   have one:∀ d∈out,∃ g,d.alts=[g]∧g.told 3:=by
    intro d hd
    have h1:=(h d hd).apk rfl
    match he:d.alts with
    | []=>rw[he] at h1;simp at h1
    | [g]=>exact⟨g,rfl,(h d hd).each g (by rw[he];simp)⟩
    | g::g2::r=>rw[he] at h1;simp at h1
   have hw:∀ x∈out.map jp,x.bare:=by
    intro x hx
    obtain⟨d,hd,rfl⟩:=List.mem_map.1 hx
    obtain⟨g,e,hg⟩:=one d hd
    unfold jp
    rw[e]
    exact FM d.bar hg
   have hlen:(out.map jp).length≤64:=by
    rw[List.length_map];have:=oB (fun d hd=>(h d hd).ne);omega
   have hp:=FD hw hlen
   have ht:bX 3 false (fz (out.map jp))=(out,0):=by
    unfold bX
    rw[if_neg (by decide),if_neg (by decide),hp]
    simp only
    unfold rL
    rw[if_neg]
    ·congr 1
     rw[List.map_map]
     conv=>rhs;rw[←List.map_id out]
     refine List.map_congr_left fun d hd=>?_
     obtain⟨g,e,hg⟩:=one d hd
     obtain⟨db,alts⟩:=d
     simp only at e
     subst e
     show(⟨false||db,[iA ⟨db,bl g.nm,g.op.toNat,bl g.ver⟩]⟩:ba)=⟨db,[g]⟩
     rw[Bool.false_or]
     congr 1
     rw[show iA ⟨db,bl g.nm,g.op.toNat,bl g.ver⟩=g from oC hg.op0]
    ·rw[Bool.not_eq_true,List.any_eq_false]
     intro x hx
     have:=(hw x hx).op
     simp;omega
   exact⟨fun t hm=>by rw[List.mem_singleton.1 hm,ht],by simp[ht]⟩
theorem xA (a b:Int)(bar:Bool)(l:List ba):dM bar (l.map (eV a b))=(dM bar l).map (eV a b):=by
 unfold dM;rw[List.filter_map];rfl
theorem xB {fmt:Int}{l:List ba}(h:rK fmt l=0):
  ek fmt false (uW fmt false l)=0∧ek fmt true (uW fmt true l)=0∧cq fmt false (uW fmt false l)++cq fmt true (uW fmt true l)=rM fmt l:=by
 unfold rK at h
 by_cases hf:dk fmt
 rotate_left
 ·rw[if_pos hf] at h;cases h
 rw[if_neg (fun hn=>hn hf)] at h
 by_cases hc:jc l=0
 rotate_left
 ·rw[if_pos hc] at h;exact absurd h hc
 rw[if_neg (by simpa using hc)] at h
 unfold jc at hc
 split at hc
 ·cases hc
 rename_i h64
 have hd:∀ d∈l,qt d=0:=bB.1 hc
 have he:∀ d∈l,nf fmt d=0:=bB.1 h
 have hto:∀ d∈l.map (eV 1 fmt),d.told fmt:=by
  intro d hm
  obtain⟨x,hx,rfl⟩:=List.mem_map.1 hm
  exact(rP hf (hd x hx) (he x hx)).1
 have hcn:bH (l.map (eV 1 fmt))≤64:=by rw[mI];omega
 have hat:∀ d∈l.map (eV 1 fmt),∀ b∈d.alts,(bc fmt 1 b).2=0:=by
  intro d hm
  obtain⟨x,hx,rfl⟩:=List.mem_map.1 hm
  exact(rP hf (hd x hx) (he x hx)).2.2
 have hmb:(l.map (eV 1 fmt)).map (eV fmt 1)=l:=by
  rw[List.map_map]
  conv=>rhs;rw[←List.map_id l]
  exact List.map_congr_left fun d hm=>(rP hf (hd d hm) (he d hm)).2.1
 have key:∀ bar,cq fmt bar (uW fmt bar l)=(if fmt=3 then (if bar=true then [] else l) else dM bar l)∧ek fmt bar (uW fmt bar l)=0:=by
  intro bar
  obtain⟨k1,k2⟩:=IT hf (bar:=bar) hto hcn
  have hL:cq fmt bar (uW fmt bar l)=(if fmt=3 then (if bar=true then [] else l) else dM bar l):=by
   have e:cq fmt bar (uW fmt bar l)=((cT fmt bar (l.map (eV 1 fmt))).flatMap (fun t=>(bX fmt bar t).1)).map (eV fmt 1):=by
    unfold cq Dp uW
    rw[List.map_flatMap]
   rw[e,k2]
   split
   ·split
    ·rfl
    ·exact hmb
   ·rw[xA]
    conv=>rhs;rw[←hmb]
    rw[xA,xA]
  refine⟨hL,?_⟩
  have hsub:∀ t∈uW fmt bar l,∀ d∈(bX fmt bar t).1,d∈l.map (eV 1 fmt):=by
   intro t ht d hdm
   have hm:d∈(cT fmt bar (l.map (eV 1 fmt))).flatMap (fun t=>(bX fmt bar t).1):=List.mem_flatMap.2 ⟨t,ht,hdm⟩
   rw[k2] at hm
   split at hm
   ·split at hm
    ·simp at hm
    ·exact hm
   ·exact(gq hm).1
  have hz:bT (fp fmt bar) (uW fmt bar l)=0:=by
   rw[bB]
   intro t ht
   unfold fp
   rw[if_neg (by rw[k1 t ht];simp)]
   unfold lG
   rw[bB]
   intro b hb
   obtain⟨d,hdm,hbm⟩:=List.mem_flatMap.1 hb
   exact hat d (hsub t ht d hdm) b hbm
  have hcc:¬ 64<bH (cq fmt bar (uW fmt bar l)):=by
   rw[hL]
   split
   ·split
    ·simp[bH]
    ·omega
   ·have:=mH bar l;omega
  unfold ek
  rw[if_neg (fun hn=>hn hf),if_neg (by rw[hz];simp),if_neg hcc]
 refine⟨(key false).2,(key true).2,?_⟩
 rw[(key false).1,(key true).1]
 unfold rM
 by_cases h3:fmt=3
 ·rw[if_pos h3,if_pos h3,if_pos h3];simp
 ·rw[if_neg h3,if_neg h3,if_neg h3]
theorem Ea {fmt:Int}{a:aA}(h:a.told fmt):(bl a.nm).length≤64∧(bl a.ver).length≤64∧a.op.toNat≤5:=by
 have h0:=h.op0;have h5:=h.op5
 refine⟨(me h.name).2,?_,by omega⟩
 by_cases e:a.op=0
 ·rw[h.none e];simp
 ·obtain⟨c,hc,hv⟩:=h.ver e
  rw[hv];unfold ct at hc;simp only[Bool.and_eq_true,decide_eq_true_eq] at hc;exact hc.2.2
theorem yT (k:Nat)(h:k≤5):(Fk k).length≤2∧(Oz k).length≤2∧(iH k).length≤2:=by
 rcases(by omega:k=0∨k=1∨k=2∨k=3∨k=4∨k=5) with rfl | rfl | rfl | rfl | rfl | rfl<;>decide
theorem Nt {a:aA}(h:a.told 1):(ng a).text.length≤200:=by
 obtain⟨h1,h2,h3⟩:=Ea h
 have h4:=(yT _ h3).1
 unfold cL.text ng
 simp only[List.isEmpty_nil,if_true,List.append_nil]
 split
 ·simp;omega
 ·simp only[List.length_append,List.length_cons,List.length_nil];omega
theorem BT {a:aA}(h:a.told 2):(bP (dK a)).length≤200:=by
 obtain⟨h1,h2,h3⟩:=Ea h
 have h4:=(yT _ h3).2.1
 unfold dK
 simp only[bP]
 split
 ·omega
 ·simp only[List.length_append,List.length_cons,List.length_nil];omega
theorem Nu (no:Bool){a:aA}(h:a.told 3):(⟨no,bl a.nm,a.op.toNat,bl a.ver⟩:dR).text.length≤200:=by
 obtain⟨h1,h2,h3⟩:=Ea h
 have h4:=(yT _ h3).2.2
 unfold dR.text
 simp only
 cases no<;>simp only[List.length_append,List.length_cons,List.length_nil,if_true,if_false,Bool.false_eq_true]<;>omega
theorem yU:∀ (l:List aA)(i:Nat),(∀ a∈l,a.told 2)→(dJ eE i (l.map dK)).length≤l.length*212
 | [],i,_=>by simp[dJ]
 | a::r,i,h=>by
  have h1:=BT (h a (by simp))
  have h2:=yU r (i+1) (fun x hx=>h x (by simp[hx]))
  have h3:=Kq (op:=eE) (i:=i) (by decide)
  simp only[List.map_cons,dJ,List.length_append,List.length_cons]
  split
  ·simp;omega
  ·simp;omega
theorem Ss {fmt:Int}{l:List ba}(h:rK fmt l=0):dk fmt∧(∀ d∈l.map (eV 1 fmt),d.told fmt)∧bH (l.map (eV 1 fmt))≤64:=by
 unfold rK at h
 by_cases hf:dk fmt
 rotate_left
 ·rw[if_pos hf] at h;cases h
 rw[if_neg (fun hn=>hn hf)] at h
 by_cases hc:jc l=0
 rotate_left
 ·rw[if_pos hc] at h;exact absurd h hc
 rw[if_neg (by simpa using hc)] at h
 unfold jc at hc
 split at hc
 ·cases hc
 rename_i h64
 refine⟨hf,fun d hm=>?_,by rw[mI];omega⟩
 obtain⟨x,hx,rfl⟩:=List.mem_map.1 hm
 exact(rP hf (bB.1 hc x hx) (bB.1 h x hx)).1
theorem G7 {fmt:Int}(hf:dk fmt){out:List ba}(h:∀ d∈out,d.told fmt)(hc:bH out≤64)(bar:Bool):(cT fmt bar out).length≤64∧∀ t∈cT fmt bar out,t.length≤1000000:=by
 have hlen:out.length≤64:=Nat.le_trans (oB fun d hd=>(h d hd).ne) hc
 have hsl:(dM bar out).length≤64:=Nat.le_trans (List.length_filter_le _ _) hlen
 have hal:∀ d∈out,d.alts.length≤64:=fun d hd=>Nat.le_trans (rN hd) hc
 unfold cT
 rcases hf with rfl | rfl | rfl
 ·rw[if_pos rfl]
  split
  ·simp
  ·refine⟨by simp,fun t ht=>?_⟩
   rw[List.mem_singleton.1 ht]
   unfold eY
   have hg:∀ x∈((dM bar out).map fun d=>d.alts.map ng).map (fun g=>Lib.join (g.map cL.text) [32,124,32]),x.length≤13000:=by
    intro x hx
    obtain⟨g,hg,rfl⟩:=List.mem_map.1 hx
    obtain⟨d,hd,rfl⟩:=List.mem_map.1 hg
    have hm:=(gq hd).1
    have k1:=ke [32,124,32] 200 ((d.alts.map ng).map cL.text) (fun y hy=>by
     obtain⟨z,hz,rfl⟩:=List.mem_map.1 hy
     obtain⟨a,ha,rfl⟩:=List.mem_map.1 hz
     exact Nt ((h d hm).each a ha))
    have k2:=hal d hm
    refine Nat.le_trans k1 ?_
    simp only[List.length_map,List.length_cons,List.length_nil]
    omega
   have k3:=ke [44,32] 13000 _ hg
   refine Nat.le_trans k3 ?_
   simp only[List.length_map,List.length_cons,List.length_nil]
   omega
 ·rw[if_neg (by decide),if_pos rfl]
  refine⟨by rw[List.length_map];exact hsl,fun t ht=>?_⟩
  obtain⟨d,hd,rfl⟩:=List.mem_map.1 ht
  have hm:=(gq hd).1
  have hd':=h d hm
  have k2:=hal d hm
  obtain⟨b,alts⟩:=d
  match alts,hd',k2 with
  | [],hd',_=>exact absurd rfl hd'.ne
  | [g],hd',_=>exact Nat.le_trans (BT (hd'.each g (by simp))) (by omega)
  | g::g2::r,hd',k2=>
   have k3:=yU (g::g2::r) 0 hd'.each
   show(bP (.node eE ((g::g2::r).map dK))).length≤_
   simp only[bP,List.length_append,List.length_cons,List.length_nil] at k3 k2 ⊢
   omega
 ·rw[if_neg (by decide),if_neg (by decide)]
  split
  ·simp
  ·refine⟨by simp,fun t ht=>?_⟩
   rw[List.mem_singleton.1 ht]
   unfold fz
   have k1:=ke [32] 200 ((out.map jp).map dR.text) (fun y hy=>by
    obtain⟨z,hz,rfl⟩:=List.mem_map.1 hy
    obtain⟨d,hd,rfl⟩:=List.mem_map.1 hz
    have hd':=h d hd
    obtain⟨b,alts⟩:=d
    match alts,hd' with
    | [],hd'=>exact absurd rfl hd'.ne
    | g::r,hd'=>exact Nu b (hd'.each g (by simp)))
   refine Nat.le_trans k1 ?_
   simp only[List.length_map,List.length_cons,List.length_nil]
   omega
theorem ss {fmt:Int}{l:List ba}(h:rK fmt l=0)(bar:Bool):(uW fmt bar l).length≤64∧∀ t∈uW fmt bar l,t.length≤1000000:=by
 obtain⟨h1,h2,h3⟩:=Ss h
 exact G7 h1 h2 h3 bar
end
end Go.Proofs.YtkjdbpjglobbjaaGreatDoor
