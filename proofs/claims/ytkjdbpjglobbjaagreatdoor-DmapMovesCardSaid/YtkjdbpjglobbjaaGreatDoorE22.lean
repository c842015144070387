/- A part of the proof of a law on dependencies in three formats. No condition. -/
import Derived.Test.YtkjdbpjglobbjaaGreatDoorE21
set_option maxRecDepth 100000
set_option maxHeartbeats 20000000
set_option linter.unusedVariables false
set_option linter.unusedSimpArgs false
namespace Go.Proofs.YtkjdbpjglobbjaaGreatDoor
section
open Go.RowKit Go.Deep
def sY (a:Nat)(w:World):Prop:=∃ w0,Gl w0∧Below w0.heap.size w0 w∧w0.heap.size≤a
theorem sY.gl {a:Nat}{w:World}(h:sY a w):Gl w:=by obtain⟨w0,h1,h2,_⟩:=h;exact h1.below h2
theorem sY.kept {a:Nat}{w w':World}(h:sY a w)(hg:w.grownBy w' (some a)):sY a w':=by
 obtain⟨w0,h1,h2,h3⟩:=h;exact⟨w0,h1,gd h2 hg h3,h3⟩
theorem sY.below {a:Nat}{w w':World}(h:sY a w)(hb:Below w.heap.size w w'):sY a w':=by
 obtain⟨w0,h1,h2,h3⟩:=h;exact⟨w0,h1,ah h2 hb,h3⟩
def cg (r:Option (Nat×LU×LU))(a:Nat)(s:BA)(p n:Nat)(c:Int)(w:World)(e:Ending)(w':World):Prop:=
 w.grownBy w' (some a)∧match r with
  | none=>e=.returned (.tuple #[.int .i64 0,.string ⟨#[]⟩,.bool false])∧∃ p' c',DR w' a s p' n c'
  | some (op,v,r)=>e=.returned (.tuple #[.int .i64 op,.string (bz v),.bool true])∧∃ p' c',p≤p'∧DR w' a s p' n c'∧(bl s).drop p'=r∧(c'=0↔c=0∧aV 1 (bz v)=0)
theorem cg.no {r:Option (Nat×LU×LU)}{a:Nat}{s:BA}{p n p':Nat}{c c':Int}{w w':World}(hr:r=none)(hg:w.grownBy w' (some a))(h:DR w' a s p' n c'):cg r a s p n c w (.returned (.tuple #[.int .i64 0,.string ⟨#[]⟩,.bool false])) w':=by
 subst hr;exact⟨hg,rfl,_,_,h⟩
theorem cg.yes {r:Option (Nat×LU×LU)}{op:Nat}{v r':LU}{a:Nat}{s:BA}{p n p':Nat}{c c':Int}{w w':World}(hr:r=some (op,v,r'))(hg:w.grownBy w' (some a))(h:DR w' a s p' n c')(hp:p≤p')(hd:(bl s).drop p'=r')(hc:c'=0↔c=0∧aV 1 (bz v)=0):cg r a s p n c w (.returned (.tuple #[.int .i64 op,.string (bz v),.bool true])) w':=by
 subst hr;exact⟨hg,rfl,_,_,hp,h,hd,hc⟩
theorem ma {op:Nat}{l:LU}(h:mW nB (aJ l)=none):cW op l=none:=by unfold cW;rw[h];split<;>rfl
theorem md {op:Nat}{l v r:LU}(ho:op≠0)(h:mW nB (aJ l)=some (v,r)):cW op l=li op v r:=by unfold cW;rw[if_neg ho,h]
theorem rB {op:Nat}{v r:LU}(h:aE 41 (aJ r)=false):li op v r=none:=by unfold li;rw[h];rfl
theorem nD {op:Nat}{v r:LU}(h:aE 41 (aJ r)=true):li op v r=some (op,v,aJ ((aJ r).drop 1)):=by unfold li;rw[h];rfl
theorem uK (a:Nat)(s:BA)(p n q:Nat)(c:Int)(w:World)(hs:s.size≤4294967280)(hG:sY a w)(h:DR w a s p n c)(hq:p+au bf ((bl s).drop p)=q)
  (H0:Hid (aE 61 ((bl s).drop q)=true)):
  Calls Tryz.prog 208 #[.pointer (some ⟨a,0,none⟩)] w (cg (cW 3 ((bl s).drop (q+1))) a s p n c w):=by
 have hB:=aQ a s p n c w hs h
 rw[hq] at hB
 have HQ:Hid (p≤q):=by show _≤_;omega
 have HG:=ae hG
 clear hG hq h
 go_enter Tryz.func208,Tryz.ntmps208
 go_wp2_with fail
 refine hB.mono ?_;rintro e w1 ⟨rfl,hd,hg⟩
 have D1:=ae hd;have G1:=ae hg;clear hd hg hB
 go_wp2_with fail
 refine(aZ 61 a s q n c w1 hs D1.out H0).mono ?_;rintro e w2 ⟨rfl,hd,hg⟩
 have D2:=ae hd;have G2:=ae (ap G1.out hg);clear hd hg D1 G1 H0
 obtain⟨q2,hq2⟩:∃ q2,(q+1)=q2:=⟨_,rfl⟩
 obtain⟨q3,hq3⟩:∃ q3,q2+au bf ((bl s).drop q2)=q3:=⟨_,rfl⟩
 rw[hq2] at D2
 have HQ3:Hid (p≤q3):=by have:=HQ.out;show _≤_;omega
 have SK:Hid (aJ ((bl s).drop (q+1))=(bl s).drop q3):=by show _=_;rw[hq2,cR,hq3]
 have hB3:=aQ a s q2 n c w2 hs D2.out
 rw[hq3] at hB3
 clear hq2 hq3 HQ
 go_wp2_with fail
 refine hB3.mono ?_;rintro e v1 ⟨rfl,hd,hg⟩
 have E1:=ae hd;have K1:=ae (ap G2.out hg);clear hd hg hB3
 obtain⟨f,y,k⟩:=E1.out.cells
 have c1:=k.c1
 clear k
 cases ht:mW nB ((bl s).drop q3) with
 | none=>
  have HT:=ae ht
  have EN:Hid (cW 3 ((bl s).drop (q+1))=none):=ma (by rw[SK.out];exact ht)
  clear ht
  go_wp2_with fail
  refine(dQ hH a s q3 n c v1 hs E1.out HT).mono ?_;rintro e v2 ⟨rfl,hd,hg⟩
  have E2:=ae hd;have K2:=ae (ap K1.out hg);clear hd hg c1
  go_wp2_with fail
  go_ret3
  exact cg.no EN.out K2.out E2.out
 | some x=>
  obtain⟨v,r⟩:=x
  have HT:=ae ht
  obtain⟨t1,t2,t3,t4⟩:=fo E1.out.le ht
  have EN:Hid (cW 3 ((bl s).drop (q+1))=li 3 v r):=md (by decide) (by rw[SK.out];exact ht)
  have hvz:(bz v).size≤4294967280:=by rw[bQ];omega
  obtain⟨q4,hq4⟩:∃ q4,q3+v.length+au bf ((bl s).drop (q3+v.length))=q4:=⟨_,rfl⟩
  have SK2:Hid (aJ r=(bl s).drop q4):=by show _=_;rw[←t2,cR,hq4]
  have HQ4:Hid (p≤q4):=by have:=HQ3.out;show _≤_;omega
  have HB4:=ae (fun (c':Int) (W:World) (hD:DR W a s (q3+v.length) n c')=>aQ a s (q3+v.length) n c' W hs hD)
  rw[hq4] at HB4
  clear ht t1 t2 t3 t4 hq4
  go_wp2_with fail
  refine(dn hH v r a s q3 n c v1 hs E1.out HT).mono ?_;rintro e v2 ⟨rfl,hd,hg⟩
  have E2:=ae hd;have K2:=ae (ap K1.out hg);clear hd hg c1
  go_wp2_with fail
  refine(bh 1 (bz v) _ (HG.out.kept K2.out).gl (by omega)).mono ?_;rintro e v3 ⟨rfl,hb⟩
  have E3:=ae (E2.out.below hb);have K3:=ae (ip K2.out hb);clear hb
  go_wp2_with fail
  refine(iz _ _ a s _ n c v3 E3.out).mono ?_;rintro e v4 ⟨rfl,hd,hg⟩
  have E4:=ae hd;have K4:=ae (ap K3.out hg);clear hd hg
  have NC:=ae (gj c (aV 1 (bz v)))
  generalize lj c (aV 1 (bz v))=c' at E4 NC
  go_wp2_with fail
  refine(HB4.out c' v4 E4.out).mono ?_;rintro e v5 ⟨rfl,hd,hg⟩
  have E5:=ae hd;have K5:=ae (ap K4.out hg);clear hd hg
  cases hh:aE 41 ((bl s).drop q4) with
  | false=>
   have HH:=ae hh
   have EM:Hid (cW 3 ((bl s).drop (q+1))=none):=by show _=_;rw[EN.out];exact rB (by rw[SK2.out];exact hh)
   clear hh
   go_wp2_with fail
   refine(aM 41 a s q4 n c' v5 hs E5.out HH).mono ?_;rintro e v6 ⟨rfl,hd,hg⟩
   have E6:=ae hd;have K6:=ae (ap K5.out hg);clear hd hg
   go_wp2_with fail
   go_ret3
   exact cg.no EM.out K6.out E6.out
  | true=>
   have HH:=ae hh
   obtain⟨q5,hq5⟩:∃ q5,q4+1+au bf ((bl s).drop (q4+1))=q5:=⟨_,rfl⟩
   have EM:Hid (cW 3 ((bl s).drop (q+1))=some (3,v,(bl s).drop q5)):=by
    show _=_;rw[EN.out,nD (by rw[SK2.out];exact hh),SK2.out,List.drop_drop,cR,hq5]
   have HB5:=ae (fun (W:World) (hD:DR W a s (q4+1) n c')=>aQ a s (q4+1) n c' W hs hD)
   rw[hq5] at HB5
   have HQ5:Hid (p≤q5):=by have:=HQ4.out;show _≤_;omega
   clear hh hq5
   go_wp2_with fail
   refine(aZ 41 a s q4 n c' v5 hs E5.out HH).mono ?_;rintro e v6 ⟨rfl,hd,hg⟩
   have E6:=ae hd;have K6:=ae (ap K5.out hg);clear hd hg
   go_wp2_with fail
   refine(HB5.out v6 E6.out).mono ?_;rintro e v7 ⟨rfl,hd,hg⟩
   have E7:=ae hd;have K7:=ae (ap K6.out hg);clear hd hg
   go_wp2_with fail
   go_ret3
   exact cg.yes EM.out K7.out E7.out HQ5.out rfl NC.out
theorem uL (a:Nat)(s:BA)(p n q:Nat)(c:Int)(w:World)(hs:s.size≤4294967280)(hG:sY a w)(h:DR w a s p n c)(hq:p+au bf ((bl s).drop p)=q)
  (H0:Hid (aE 61 ((bl s).drop q)=false))(H1:Hid (aE 60 ((bl s).drop q)=true))(H2:Hid (aE 60 ((bl s).drop (q+1))=true)):
  Calls Tryz.prog 208 #[.pointer (some ⟨a,0,none⟩)] w (cg (cW 1 ((bl s).drop (q+2))) a s p n c w):=by
 have hB:=aQ a s p n c w hs h
 rw[hq] at hB
 have HQ:Hid (p≤q):=by show _≤_;omega
 have HG:=ae hG
 clear hG hq h
 go_enter Tryz.func208,Tryz.ntmps208
 go_wp2_with fail
 refine hB.mono ?_;rintro e w1 ⟨rfl,hd,hg⟩
 have D1:=ae hd;have G1:=ae hg;clear hd hg hB
 go_wp2_with fail
 refine(aM 61 a s q n c w1 hs D1.out H0).mono ?_;rintro e w2 ⟨rfl,hd,hg⟩
 have D2:=ae hd;have G2:=ae (ap G1.out hg);clear hd hg D1 G1 H0
 go_wp2_with fail
 refine(aZ 60 a s q n c w2 hs D2.out H1).mono ?_;rintro e w3 ⟨rfl,hd,hg⟩
 have D3:=ae hd;have G3:=ae (ap G2.out hg);clear hd hg D2 G2 H1
 go_wp2_with fail
 refine(aZ 60 a s (q+1) n c w3 hs D3.out H2).mono ?_;rintro e w4 ⟨rfl,hd,hg⟩
 have D4:=ae hd;have G4:=ae (ap G3.out hg);clear hd hg D3 G3 H2
 obtain⟨q2,hq2⟩:∃ q2,(q+2)=q2:=⟨_,rfl⟩
 obtain⟨q3,hq3⟩:∃ q3,q2+au bf ((bl s).drop q2)=q3:=⟨_,rfl⟩
 rw[hq2] at D4
 have HQ3:Hid (p≤q3):=by have:=HQ.out;show _≤_;omega
 have SK:Hid (aJ ((bl s).drop (q+2))=(bl s).drop q3):=by show _=_;rw[hq2,cR,hq3]
 have hB3:=aQ a s q2 n c w4 hs D4.out
 rw[hq3] at hB3
 clear hq2 hq3 HQ
 go_wp2_with fail
 refine hB3.mono ?_;rintro e v1 ⟨rfl,hd,hg⟩
 have E1:=ae hd;have K1:=ae (ap G4.out hg);clear hd hg hB3
 obtain⟨f,y,k⟩:=E1.out.cells
 have c1:=k.c1
 clear k
 cases ht:mW nB ((bl s).drop q3) with
 | none=>
  have HT:=ae ht
  have EN:Hid (cW 1 ((bl s).drop (q+2))=none):=ma (by rw[SK.out];exact ht)
  clear ht
  go_wp2_with fail
  refine(dQ hH a s q3 n c v1 hs E1.out HT).mono ?_;rintro e v2 ⟨rfl,hd,hg⟩
  have E2:=ae hd;have K2:=ae (ap K1.out hg);clear hd hg c1
  go_wp2_with fail
  go_ret3
  exact cg.no EN.out K2.out E2.out
 | some x=>
  obtain⟨v,r⟩:=x
  have HT:=ae ht
  obtain⟨t1,t2,t3,t4⟩:=fo E1.out.le ht
  have EN:Hid (cW 1 ((bl s).drop (q+2))=li 1 v r):=md (by decide) (by rw[SK.out];exact ht)
  have hvz:(bz v).size≤4294967280:=by rw[bQ];omega
  obtain⟨q4,hq4⟩:∃ q4,q3+v.length+au bf ((bl s).drop (q3+v.length))=q4:=⟨_,rfl⟩
  have SK2:Hid (aJ r=(bl s).drop q4):=by show _=_;rw[←t2,cR,hq4]
  have HQ4:Hid (p≤q4):=by have:=HQ3.out;show _≤_;omega
  have HB4:=ae (fun (c':Int) (W:World) (hD:DR W a s (q3+v.length) n c')=>aQ a s (q3+v.length) n c' W hs hD)
  rw[hq4] at HB4
  clear ht t1 t2 t3 t4 hq4
  go_wp2_with fail
  refine(dn hH v r a s q3 n c v1 hs E1.out HT).mono ?_;rintro e v2 ⟨rfl,hd,hg⟩
  have E2:=ae hd;have K2:=ae (ap K1.out hg);clear hd hg c1
  go_wp2_with fail
  refine(bh 1 (bz v) _ (HG.out.kept K2.out).gl (by omega)).mono ?_;rintro e v3 ⟨rfl,hb⟩
  have E3:=ae (E2.out.below hb);have K3:=ae (ip K2.out hb);clear hb
  go_wp2_with fail
  refine(iz _ _ a s _ n c v3 E3.out).mono ?_;rintro e v4 ⟨rfl,hd,hg⟩
  have E4:=ae hd;have K4:=ae (ap K3.out hg);clear hd hg
  have NC:=ae (gj c (aV 1 (bz v)))
  generalize lj c (aV 1 (bz v))=c' at E4 NC
  go_wp2_with fail
  refine(HB4.out c' v4 E4.out).mono ?_;rintro e v5 ⟨rfl,hd,hg⟩
  have E5:=ae hd;have K5:=ae (ap K4.out hg);clear hd hg
  cases hh:aE 41 ((bl s).drop q4) with
  | false=>
   have HH:=ae hh
   have EM:Hid (cW 1 ((bl s).drop (q+2))=none):=by show _=_;rw[EN.out];exact rB (by rw[SK2.out];exact hh)
   clear hh
   go_wp2_with fail
   refine(aM 41 a s q4 n c' v5 hs E5.out HH).mono ?_;rintro e v6 ⟨rfl,hd,hg⟩
   have E6:=ae hd;have K6:=ae (ap K5.out hg);clear hd hg
   go_wp2_with fail
   go_ret3
   exact cg.no EM.out K6.out E6.out
  | true=>
   have HH:=ae hh
   obtain⟨q5,hq5⟩:∃ q5,q4+1+au bf ((bl s).drop (q4+1))=q5:=⟨_,rfl⟩
   have EM:Hid (cW 1 ((bl s).drop (q+2))=some (1,v,(bl s).drop q5)):=by
    show _=_;rw[EN.out,nD (by rw[SK2.out];exact hh),SK2.out,List.drop_drop,cR,hq5]
   have HB5:=ae (fun (W:World) (hD:DR W a s (q4+1) n c')=>aQ a s (q4+1) n c' W hs hD)
   rw[hq5] at HB5
   have HQ5:Hid (p≤q5):=by have:=HQ4.out;show _≤_;omega
   clear hh hq5
   go_wp2_with fail
   refine(aZ 41 a s q4 n c' v5 hs E5.out HH).mono ?_;rintro e v6 ⟨rfl,hd,hg⟩
   have E6:=ae hd;have K6:=ae (ap K5.out hg);clear hd hg
   go_wp2_with fail
   refine(HB5.out v6 E6.out).mono ?_;rintro e v7 ⟨rfl,hd,hg⟩
   have E7:=ae hd;have K7:=ae (ap K6.out hg);clear hd hg
   go_wp2_with fail
   go_ret3
   exact cg.yes EM.out K7.out E7.out HQ5.out rfl NC.out
theorem uM (a:Nat)(s:BA)(p n q:Nat)(c:Int)(w:World)(hs:s.size≤4294967280)(hG:sY a w)(h:DR w a s p n c)(hq:p+au bf ((bl s).drop p)=q)
  (H0:Hid (aE 61 ((bl s).drop q)=false))(H1:Hid (aE 60 ((bl s).drop q)=true))(H2:Hid (aE 60 ((bl s).drop (q+1))=false))(H3:Hid (aE 61 ((bl s).drop (q+1))=true)):
  Calls Tryz.prog 208 #[.pointer (some ⟨a,0,none⟩)] w (cg (cW 2 ((bl s).drop (q+2))) a s p n c w):=by
 have hB:=aQ a s p n c w hs h
 rw[hq] at hB
 have HQ:Hid (p≤q):=by show _≤_;omega
 have HG:=ae hG
 clear hG hq h
 go_enter Tryz.func208,Tryz.ntmps208
 go_wp2_with fail
 refine hB.mono ?_;rintro e w1 ⟨rfl,hd,hg⟩
 have D1:=ae hd;have G1:=ae hg;clear hd hg hB
 go_wp2_with fail
 refine(aM 61 a s q n c w1 hs D1.out H0).mono ?_;rintro e w2 ⟨rfl,hd,hg⟩
 have D2:=ae hd;have G2:=ae (ap G1.out hg);clear hd hg D1 G1 H0
 go_wp2_with fail
 refine(aZ 60 a s q n c w2 hs D2.out H1).mono ?_;rintro e w3 ⟨rfl,hd,hg⟩
 have D3:=ae hd;have G3:=ae (ap G2.out hg);clear hd hg D2 G2 H1
 go_wp2_with fail
 refine(aM 60 a s (q+1) n c w3 hs D3.out H2).mono ?_;rintro e w4 ⟨rfl,hd,hg⟩
 have D4:=ae hd;have G4:=ae (ap G3.out hg);clear hd hg D3 G3 H2
 go_wp2_with fail
 refine(aZ 61 a s (q+1) n c w4 hs D4.out H3).mono ?_;rintro e w5 ⟨rfl,hd,hg⟩
 have D5:=ae hd;have G5:=ae (ap G4.out hg);clear hd hg D4 G4 H3
 obtain⟨q2,hq2⟩:∃ q2,(q+2)=q2:=⟨_,rfl⟩
 obtain⟨q3,hq3⟩:∃ q3,q2+au bf ((bl s).drop q2)=q3:=⟨_,rfl⟩
 rw[hq2] at D5
 have HQ3:Hid (p≤q3):=by have:=HQ.out;show _≤_;omega
 have SK:Hid (aJ ((bl s).drop (q+2))=(bl s).drop q3):=by show _=_;rw[hq2,cR,hq3]
 have hB3:=aQ a s q2 n c w5 hs D5.out
 rw[hq3] at hB3
 clear hq2 hq3 HQ
 go_wp2_with fail
 refine hB3.mono ?_;rintro e v1 ⟨rfl,hd,hg⟩
 have E1:=ae hd;have K1:=ae (ap G5.out hg);clear hd hg hB3
 obtain⟨f,y,k⟩:=E1.out.cells
 have c1:=k.c1
 clear k
 cases ht:mW nB ((bl s).drop q3) with
 | none=>
  have HT:=ae ht
  have EN:Hid (cW 2 ((bl s).drop (q+2))=none):=ma (by rw[SK.out];exact ht)
  clear ht
  go_wp2_with fail
  refine(dQ hH a s q3 n c v1 hs E1.out HT).mono ?_;rintro e v2 ⟨rfl,hd,hg⟩
  have E2:=ae hd;have K2:=ae (ap K1.out hg);clear hd hg c1
  go_wp2_with fail
  go_ret3
  exact cg.no EN.out K2.out E2.out
 | some x=>
  obtain⟨v,r⟩:=x
  have HT:=ae ht
  obtain⟨t1,t2,t3,t4⟩:=fo E1.out.le ht
  have EN:Hid (cW 2 ((bl s).drop (q+2))=li 2 v r):=md (by decide) (by rw[SK.out];exact ht)
  have hvz:(bz v).size≤4294967280:=by rw[bQ];omega
  obtain⟨q4,hq4⟩:∃ q4,q3+v.length+au bf ((bl s).drop (q3+v.length))=q4:=⟨_,rfl⟩
  have SK2:Hid (aJ r=(bl s).drop q4):=by show _=_;rw[←t2,cR,hq4]
  have HQ4:Hid (p≤q4):=by have:=HQ3.out;show _≤_;omega
  have HB4:=ae (fun (c':Int) (W:World) (hD:DR W a s (q3+v.length) n c')=>aQ a s (q3+v.length) n c' W hs hD)
  rw[hq4] at HB4
  clear ht t1 t2 t3 t4 hq4
  go_wp2_with fail
  refine(dn hH v r a s q3 n c v1 hs E1.out HT).mono ?_;rintro e v2 ⟨rfl,hd,hg⟩
  have E2:=ae hd;have K2:=ae (ap K1.out hg);clear hd hg c1
  go_wp2_with fail
  refine(bh 1 (bz v) _ (HG.out.kept K2.out).gl (by omega)).mono ?_;rintro e v3 ⟨rfl,hb⟩
  have E3:=ae (E2.out.below hb);have K3:=ae (ip K2.out hb);clear hb
  go_wp2_with fail
  refine(iz _ _ a s _ n c v3 E3.out).mono ?_;rintro e v4 ⟨rfl,hd,hg⟩
  have E4:=ae hd;have K4:=ae (ap K3.out hg);clear hd hg
  have NC:=ae (gj c (aV 1 (bz v)))
  generalize lj c (aV 1 (bz v))=c' at E4 NC
  go_wp2_with fail
  refine(HB4.out c' v4 E4.out).mono ?_;rintro e v5 ⟨rfl,hd,hg⟩
  have E5:=ae hd;have K5:=ae (ap K4.out hg);clear hd hg
  cases hh:aE 41 ((bl s).drop q4) with
  | false=>
   have HH:=ae hh
   have EM:Hid (cW 2 ((bl s).drop (q+2))=none):=by show _=_;rw[EN.out];exact rB (by rw[SK2.out];exact hh)
   clear hh
   go_wp2_with fail
   refine(aM 41 a s q4 n c' v5 hs E5.out HH).mono ?_;rintro e v6 ⟨rfl,hd,hg⟩
   have E6:=ae hd;have K6:=ae (ap K5.out hg);clear hd hg
   go_wp2_with fail
   go_ret3
   exact cg.no EM.out K6.out E6.out
  | true=>
   have HH:=ae hh
   obtain⟨q5,hq5⟩:∃ q5,q4+1+au bf ((bl s).drop (q4+1))=q5:=⟨_,rfl⟩
   have EM:Hid (cW 2 ((bl s).drop (q+2))=some (2,v,(bl s).drop q5)):=by
    show _=_;rw[EN.out,nD (by rw[SK2.out];exact hh),SK2.out,List.drop_drop,cR,hq5]
   have HB5:=ae (fun (W:World) (hD:DR W a s (q4+1) n c')=>aQ a s (q4+1) n c' W hs hD)
   rw[hq5] at HB5
   have HQ5:Hid (p≤q5):=by have:=HQ4.out;show _≤_;omega
   clear hh hq5
   go_wp2_with fail
   refine(aZ 41 a s q4 n c' v5 hs E5.out HH).mono ?_;rintro e v6 ⟨rfl,hd,hg⟩
   have E6:=ae hd;have K6:=ae (ap K5.out hg);clear hd hg
   go_wp2_with fail
   refine(HB5.out v6 E6.out).mono ?_;rintro e v7 ⟨rfl,hd,hg⟩
   have E7:=ae hd;have K7:=ae (ap K6.out hg);clear hd hg
   go_wp2_with fail
   go_ret3
   exact cg.yes EM.out K7.out E7.out HQ5.out rfl NC.out
theorem uN (a:Nat)(s:BA)(p n q:Nat)(c:Int)(w:World)(hs:s.size≤4294967280)(hG:sY a w)(h:DR w a s p n c)(hq:p+au bf ((bl s).drop p)=q)
  (H0:Hid (aE 61 ((bl s).drop q)=false))(H1:Hid (aE 60 ((bl s).drop q)=false))(H2:Hid (aE 62 ((bl s).drop q)=true))(H3:Hid (aE 62 ((bl s).drop (q+1))=true)):
  Calls Tryz.prog 208 #[.pointer (some ⟨a,0,none⟩)] w (cg (cW 5 ((bl s).drop (q+2))) a s p n c w):=by
 have hB:=aQ a s p n c w hs h
 rw[hq] at hB
 have HQ:Hid (p≤q):=by show _≤_;omega
 have HG:=ae hG
 clear hG hq h
 go_enter Tryz.func208,Tryz.ntmps208
 go_wp2_with fail
 refine hB.mono ?_;rintro e w1 ⟨rfl,hd,hg⟩
 have D1:=ae hd;have G1:=ae hg;clear hd hg hB
 go_wp2_with fail
 refine(aM 61 a s q n c w1 hs D1.out H0).mono ?_;rintro e w2 ⟨rfl,hd,hg⟩
 have D2:=ae hd;have G2:=ae (ap G1.out hg);clear hd hg D1 G1 H0
 go_wp2_with fail
 refine(aM 60 a s q n c w2 hs D2.out H1).mono ?_;rintro e w3 ⟨rfl,hd,hg⟩
 have D3:=ae hd;have G3:=ae (ap G2.out hg);clear hd hg D2 G2 H1
 go_wp2_with fail
 refine(aZ 62 a s q n c w3 hs D3.out H2).mono ?_;rintro e w4 ⟨rfl,hd,hg⟩
 have D4:=ae hd;have G4:=ae (ap G3.out hg);clear hd hg D3 G3 H2
 go_wp2_with fail
 refine(aZ 62 a s (q+1) n c w4 hs D4.out H3).mono ?_;rintro e w5 ⟨rfl,hd,hg⟩
 have D5:=ae hd;have G5:=ae (ap G4.out hg);clear hd hg D4 G4 H3
 obtain⟨q2,hq2⟩:∃ q2,(q+2)=q2:=⟨_,rfl⟩
 obtain⟨q3,hq3⟩:∃ q3,q2+au bf ((bl s).drop q2)=q3:=⟨_,rfl⟩
 rw[hq2] at D5
 have HQ3:Hid (p≤q3):=by have:=HQ.out;show _≤_;omega
 have SK:Hid (aJ ((bl s).drop (q+2))=(bl s).drop q3):=by show _=_;rw[hq2,cR,hq3]
 have hB3:=aQ a s q2 n c w5 hs D5.out
 rw[hq3] at hB3
 clear hq2 hq3 HQ
 go_wp2_with fail
 refine hB3.mono ?_;rintro e v1 ⟨rfl,hd,hg⟩
 have E1:=ae hd;have K1:=ae (ap G5.out hg);clear hd hg hB3
 obtain⟨f,y,k⟩:=E1.out.cells
 have c1:=k.c1
 clear k
 cases ht:mW nB ((bl s).drop q3) with
 | none=>
  have HT:=ae ht
  have EN:Hid (cW 5 ((bl s).drop (q+2))=none):=ma (by rw[SK.out];exact ht)
  clear ht
  go_wp2_with fail
  refine(dQ hH a s q3 n c v1 hs E1.out HT).mono ?_;rintro e v2 ⟨rfl,hd,hg⟩
  have E2:=ae hd;have K2:=ae (ap K1.out hg);clear hd hg c1
  go_wp2_with fail
  go_ret3
  exact cg.no EN.out K2.out E2.out
 | some x=>
  obtain⟨v,r⟩:=x
  have HT:=ae ht
  obtain⟨t1,t2,t3,t4⟩:=fo E1.out.le ht
  have EN:Hid (cW 5 ((bl s).drop (q+2))=li 5 v r):=md (by decide) (by rw[SK.out];exact ht)
  have hvz:(bz v).size≤4294967280:=by rw[bQ];omega
  obtain⟨q4,hq4⟩:∃ q4,q3+v.length+au bf ((bl s).drop (q3+v.length))=q4:=⟨_,rfl⟩
  have SK2:Hid (aJ r=(bl s).drop q4):=by show _=_;rw[←t2,cR,hq4]
  have HQ4:Hid (p≤q4):=by have:=HQ3.out;show _≤_;omega
  have HB4:=ae (fun (c':Int) (W:World) (hD:DR W a s (q3+v.length) n c')=>aQ a s (q3+v.length) n c' W hs hD)
  rw[hq4] at HB4
  clear ht t1 t2 t3 t4 hq4
  go_wp2_with fail
  refine(dn hH v r a s q3 n c v1 hs E1.out HT).mono ?_;rintro e v2 ⟨rfl,hd,hg⟩
  have E2:=ae hd;have K2:=ae (ap K1.out hg);clear hd hg c1
  go_wp2_with fail
  refine(bh 1 (bz v) _ (HG.out.kept K2.out).gl (by omega)).mono ?_;rintro e v3 ⟨rfl,hb⟩
  have E3:=ae (E2.out.below hb);have K3:=ae (ip K2.out hb);clear hb
  go_wp2_with fail
  refine(iz _ _ a s _ n c v3 E3.out).mono ?_;rintro e v4 ⟨rfl,hd,hg⟩
  have E4:=ae hd;have K4:=ae (ap K3.out hg);clear hd hg
  have NC:=ae (gj c (aV 1 (bz v)))
  generalize lj c (aV 1 (bz v))=c' at E4 NC
  go_wp2_with fail
  refine(HB4.out c' v4 E4.out).mono ?_;rintro e v5 ⟨rfl,hd,hg⟩
  have E5:=ae hd;have K5:=ae (ap K4.out hg);clear hd hg
  cases hh:aE 41 ((bl s).drop q4) with
  | false=>
   have HH:=ae hh
   have EM:Hid (cW 5 ((bl s).drop (q+2))=none):=by show _=_;rw[EN.out];exact rB (by rw[SK2.out];exact hh)
   clear hh
   go_wp2_with fail
   refine(aM 41 a s q4 n c' v5 hs E5.out HH).mono ?_;rintro e v6 ⟨rfl,hd,hg⟩
   have E6:=ae hd;have K6:=ae (ap K5.out hg);clear hd hg
   go_wp2_with fail
   go_ret3
   exact cg.no EM.out K6.out E6.out
  | true=>
   have HH:=ae hh
   obtain⟨q5,hq5⟩:∃ q5,q4+1+au bf ((bl s).drop (q4+1))=q5:=⟨_,rfl⟩
   have EM:Hid (cW 5 ((bl s).drop (q+2))=some (5,v,(bl s).drop q5)):=by
    show _=_;rw[EN.out,nD (by rw[SK2.out];exact hh),SK2.out,List.drop_drop,cR,hq5]
   have HB5:=ae (fun (W:World) (hD:DR W a s (q4+1) n c')=>aQ a s (q4+1) n c' W hs hD)
   rw[hq5] at HB5
   have HQ5:Hid (p≤q5):=by have:=HQ4.out;show _≤_;omega
   clear hh hq5
   go_wp2_with fail
   refine(aZ 41 a s q4 n c' v5 hs E5.out HH).mono ?_;rintro e v6 ⟨rfl,hd,hg⟩
   have E6:=ae hd;have K6:=ae (ap K5.out hg);clear hd hg
   go_wp2_with fail
   refine(HB5.out v6 E6.out).mono ?_;rintro e v7 ⟨rfl,hd,hg⟩
   have E7:=ae hd;have K7:=ae (ap K6.out hg);clear hd hg
   go_wp2_with fail
   go_ret3
   exact cg.yes EM.out K7.out E7.out HQ5.out rfl NC.out
theorem uO (a:Nat)(s:BA)(p n q:Nat)(c:Int)(w:World)(hs:s.size≤4294967280)(hG:sY a w)(h:DR w a s p n c)(hq:p+au bf ((bl s).drop p)=q)
  (H0:Hid (aE 61 ((bl s).drop q)=false))(H1:Hid (aE 60 ((bl s).drop q)=false))(H2:Hid (aE 62 ((bl s).drop q)=true))(H3:Hid (aE 62 ((bl s).drop (q+1))=false))(H4:Hid (aE 61 ((bl s).drop (q+1))=true)):
  Calls Tryz.prog 208 #[.pointer (some ⟨a,0,none⟩)] w (cg (cW 4 ((bl s).drop (q+2))) a s p n c w):=by
 have hB:=aQ a s p n c w hs h
 rw[hq] at hB
 have HQ:Hid (p≤q):=by show _≤_;omega
 have HG:=ae hG
 clear hG hq h
 go_enter Tryz.func208,Tryz.ntmps208
 go_wp2_with fail
 refine hB.mono ?_;rintro e w1 ⟨rfl,hd,hg⟩
 have D1:=ae hd;have G1:=ae hg;clear hd hg hB
 go_wp2_with fail
 refine(aM 61 a s q n c w1 hs D1.out H0).mono ?_;rintro e w2 ⟨rfl,hd,hg⟩
 have D2:=ae hd;have G2:=ae (ap G1.out hg);clear hd hg D1 G1 H0
 go_wp2_with fail
 refine(aM 60 a s q n c w2 hs D2.out H1).mono ?_;rintro e w3 ⟨rfl,hd,hg⟩
 have D3:=ae hd;have G3:=ae (ap G2.out hg);clear hd hg D2 G2 H1
 go_wp2_with fail
 refine(aZ 62 a s q n c w3 hs D3.out H2).mono ?_;rintro e w4 ⟨rfl,hd,hg⟩
 have D4:=ae hd;have G4:=ae (ap G3.out hg);clear hd hg D3 G3 H2
 go_wp2_with fail
 refine(aM 62 a s (q+1) n c w4 hs D4.out H3).mono ?_;rintro e w5 ⟨rfl,hd,hg⟩
 have D5:=ae hd;have G5:=ae (ap G4.out hg);clear hd hg D4 G4 H3
 go_wp2_with fail
 refine(aZ 61 a s (q+1) n c w5 hs D5.out H4).mono ?_;rintro e w6 ⟨rfl,hd,hg⟩
 have D6:=ae hd;have G6:=ae (ap G5.out hg);clear hd hg D5 G5 H4
 obtain⟨q2,hq2⟩:∃ q2,(q+2)=q2:=⟨_,rfl⟩
 obtain⟨q3,hq3⟩:∃ q3,q2+au bf ((bl s).drop q2)=q3:=⟨_,rfl⟩
 rw[hq2] at D6
 have HQ3:Hid (p≤q3):=by have:=HQ.out;show _≤_;omega
 have SK:Hid (aJ ((bl s).drop (q+2))=(bl s).drop q3):=by show _=_;rw[hq2,cR,hq3]
 have hB3:=aQ a s q2 n c w6 hs D6.out
 rw[hq3] at hB3
 clear hq2 hq3 HQ
 go_wp2_with fail
 refine hB3.mono ?_;rintro e v1 ⟨rfl,hd,hg⟩
 have E1:=ae hd;have K1:=ae (ap G6.out hg);clear hd hg hB3
 obtain⟨f,y,k⟩:=E1.out.cells
 have c1:=k.c1
 clear k
 cases ht:mW nB ((bl s).drop q3) with
 | none=>
  have HT:=ae ht
  have EN:Hid (cW 4 ((bl s).drop (q+2))=none):=ma (by rw[SK.out];exact ht)
  clear ht
  go_wp2_with fail
  refine(dQ hH a s q3 n c v1 hs E1.out HT).mono ?_;rintro e v2 ⟨rfl,hd,hg⟩
  have E2:=ae hd;have K2:=ae (ap K1.out hg);clear hd hg c1
  go_wp2_with fail
  go_ret3
  exact cg.no EN.out K2.out E2.out
 | some x=>
  obtain⟨v,r⟩:=x
  have HT:=ae ht
  obtain⟨t1,t2,t3,t4⟩:=fo E1.out.le ht
  have EN:Hid (cW 4 ((bl s).drop (q+2))=li 4 v r):=md (by decide) (by rw[SK.out];exact ht)
  have hvz:(bz v).size≤4294967280:=by rw[bQ];omega
  obtain⟨q4,hq4⟩:∃ q4,q3+v.length+au bf ((bl s).drop (q3+v.length))=q4:=⟨_,rfl⟩
  have SK2:Hid (aJ r=(bl s).drop q4):=by show _=_;rw[←t2,cR,hq4]
  have HQ4:Hid (p≤q4):=by have:=HQ3.out;show _≤_;omega
  have HB4:=ae (fun (c':Int) (W:World) (hD:DR W a s (q3+v.length) n c')=>aQ a s (q3+v.length) n c' W hs hD)
  rw[hq4] at HB4
  clear ht t1 t2 t3 t4 hq4
  go_wp2_with fail
  refine(dn hH v r a s q3 n c v1 hs E1.out HT).mono ?_;rintro e v2 ⟨rfl,hd,hg⟩
  have E2:=ae hd;have K2:=ae (ap K1.out hg);clear hd hg c1
  go_wp2_with fail
  refine(bh 1 (bz v) _ (HG.out.kept K2.out).gl (by omega)).mono ?_;rintro e v3 ⟨rfl,hb⟩
  have E3:=ae (E2.out.below hb);have K3:=ae (ip K2.out hb);clear hb
  go_wp2_with fail
  refine(iz _ _ a s _ n c v3 E3.out).mono ?_;rintro e v4 ⟨rfl,hd,hg⟩
  have E4:=ae hd;have K4:=ae (ap K3.out hg);clear hd hg
  have NC:=ae (gj c (aV 1 (bz v)))
  generalize lj c (aV 1 (bz v))=c' at E4 NC
  go_wp2_with fail
  refine(HB4.out c' v4 E4.out).mono ?_;rintro e v5 ⟨rfl,hd,hg⟩
  have E5:=ae hd;have K5:=ae (ap K4.out hg);clear hd hg
  cases hh:aE 41 ((bl s).drop q4) with
  | false=>
   have HH:=ae hh
   have EM:Hid (cW 4 ((bl s).drop (q+2))=none):=by show _=_;rw[EN.out];exact rB (by rw[SK2.out];exact hh)
   clear hh
   go_wp2_with fail
   refine(aM 41 a s q4 n c' v5 hs E5.out HH).mono ?_;rintro e v6 ⟨rfl,hd,hg⟩
   have E6:=ae hd;have K6:=ae (ap K5.out hg);clear hd hg
   go_wp2_with fail
   go_ret3
   exact cg.no EM.out K6.out E6.out
  | true=>
   have HH:=ae hh
   obtain⟨q5,hq5⟩:∃ q5,q4+1+au bf ((bl s).drop (q4+1))=q5:=⟨_,rfl⟩
   have EM:Hid (cW 4 ((bl s).drop (q+2))=some (4,v,(bl s).drop q5)):=by
    show _=_;rw[EN.out,nD (by rw[SK2.out];exact hh),SK2.out,List.drop_drop,cR,hq5]
   have HB5:=ae (fun (W:World) (hD:DR W a s (q4+1) n c')=>aQ a s (q4+1) n c' W hs hD)
   rw[hq5] at HB5
   have HQ5:Hid (p≤q5):=by have:=HQ4.out;show _≤_;omega
   clear hh hq5
   go_wp2_with fail
   refine(aZ 41 a s q4 n c' v5 hs E5.out HH).mono ?_;rintro e v6 ⟨rfl,hd,hg⟩
   have E6:=ae hd;have K6:=ae (ap K5.out hg);clear hd hg
   go_wp2_with fail
   refine(HB5.out v6 E6.out).mono ?_;rintro e v7 ⟨rfl,hd,hg⟩
   have E7:=ae hd;have K7:=ae (ap K6.out hg);clear hd hg
   go_wp2_with fail
   go_ret3
   exact cg.yes EM.out K7.out E7.out HQ5.out rfl NC.out
theorem uP (a:Nat)(s:BA)(p n q:Nat)(c:Int)(w:World)(hs:s.size≤4294967280)(hG:sY a w)(h:DR w a s p n c)(hq:p+au bf ((bl s).drop p)=q)
  (H0:Hid (aE 61 ((bl s).drop q)=false))(H1:Hid (aE 60 ((bl s).drop q)=true))(H2:Hid (aE 60 ((bl s).drop (q+1))=false))(H3:Hid (aE 61 ((bl s).drop (q+1))=false)):
  Calls Tryz.prog 208 #[.pointer (some ⟨a,0,none⟩)] w (cg (cW 0 ((bl s).drop (q+1))) a s p n c w):=by
 have hB:=aQ a s p n c w hs h
 rw[hq] at hB
 have HQ:Hid (p≤q):=by show _≤_;omega
 have HG:=ae hG
 clear hG hq h
 go_enter Tryz.func208,Tryz.ntmps208
 go_wp2_with fail
 refine hB.mono ?_;rintro e w1 ⟨rfl,hd,hg⟩
 have D1:=ae hd;have G1:=ae hg;clear hd hg hB
 go_wp2_with fail
 refine(aM 61 a s q n c w1 hs D1.out H0).mono ?_;rintro e w2 ⟨rfl,hd,hg⟩
 have D2:=ae hd;have G2:=ae (ap G1.out hg);clear hd hg D1 G1 H0
 go_wp2_with fail
 refine(aZ 60 a s q n c w2 hs D2.out H1).mono ?_;rintro e w3 ⟨rfl,hd,hg⟩
 have D3:=ae hd;have G3:=ae (ap G2.out hg);clear hd hg D2 G2 H1
 go_wp2_with fail
 refine(aM 60 a s (q+1) n c w3 hs D3.out H2).mono ?_;rintro e w4 ⟨rfl,hd,hg⟩
 have D4:=ae hd;have G4:=ae (ap G3.out hg);clear hd hg D3 G3 H2
 go_wp2_with fail
 refine(aM 61 a s (q+1) n c w4 hs D4.out H3).mono ?_;rintro e w5 ⟨rfl,hd,hg⟩
 have D5:=ae hd;have G5:=ae (ap G4.out hg);clear hd hg D4 G4 H3
 go_wp2_with fail
 go_ret3
 exact cg.no (by unfold cW;rfl) G5.out D5.out
theorem uQ (a:Nat)(s:BA)(p n q:Nat)(c:Int)(w:World)(hs:s.size≤4294967280)(hG:sY a w)(h:DR w a s p n c)(hq:p+au bf ((bl s).drop p)=q)
  (H0:Hid (aE 61 ((bl s).drop q)=false))(H1:Hid (aE 60 ((bl s).drop q)=false))(H2:Hid (aE 62 ((bl s).drop q)=true))(H3:Hid (aE 62 ((bl s).drop (q+1))=false))(H4:Hid (aE 61 ((bl s).drop (q+1))=false)):
  Calls Tryz.prog 208 #[.pointer (some ⟨a,0,none⟩)] w (cg (cW 0 ((bl s).drop (q+1))) a s p n c w):=by
 have hB:=aQ a s p n c w hs h
 rw[hq] at hB
 have HQ:Hid (p≤q):=by show _≤_;omega
 have HG:=ae hG
 clear hG hq h
 go_enter Tryz.func208,Tryz.ntmps208
 go_wp2_with fail
 refine hB.mono ?_;rintro e w1 ⟨rfl,hd,hg⟩
 have D1:=ae hd;have G1:=ae hg;clear hd hg hB
 go_wp2_with fail
 refine(aM 61 a s q n c w1 hs D1.out H0).mono ?_;rintro e w2 ⟨rfl,hd,hg⟩
 have D2:=ae hd;have G2:=ae (ap G1.out hg);clear hd hg D1 G1 H0
 go_wp2_with fail
 refine(aM 60 a s q n c w2 hs D2.out H1).mono ?_;rintro e w3 ⟨rfl,hd,hg⟩
 have D3:=ae hd;have G3:=ae (ap G2.out hg);clear hd hg D2 G2 H1
 go_wp2_with fail
 refine(aZ 62 a s q n c w3 hs D3.out H2).mono ?_;rintro e w4 ⟨rfl,hd,hg⟩
 have D4:=ae hd;have G4:=ae (ap G3.out hg);clear hd hg D3 G3 H2
 go_wp2_with fail
 refine(aM 62 a s (q+1) n c w4 hs D4.out H3).mono ?_;rintro e w5 ⟨rfl,hd,hg⟩
 have D5:=ae hd;have G5:=ae (ap G4.out hg);clear hd hg D4 G4 H3
 go_wp2_with fail
 refine(aM 61 a s (q+1) n c w5 hs D5.out H4).mono ?_;rintro e w6 ⟨rfl,hd,hg⟩
 have D6:=ae hd;have G6:=ae (ap G5.out hg);clear hd hg D5 G5 H4
 go_wp2_with fail
 go_ret3
 exact cg.no (by unfold cW;rfl) G6.out D6.out
theorem uR (a:Nat)(s:BA)(p n q:Nat)(c:Int)(w:World)(hs:s.size≤4294967280)(hG:sY a w)(h:DR w a s p n c)(hq:p+au bf ((bl s).drop p)=q)
  (H0:Hid (aE 61 ((bl s).drop q)=false))(H1:Hid (aE 60 ((bl s).drop q)=false))(H2:Hid (aE 62 ((bl s).drop q)=false)):
  Calls Tryz.prog 208 #[.pointer (some ⟨a,0,none⟩)] w (cg (cW 0 ((bl s).drop q)) a s p n c w):=by
 have hB:=aQ a s p n c w hs h
 rw[hq] at hB
 have HQ:Hid (p≤q):=by show _≤_;omega
 have HG:=ae hG
 clear hG hq h
 go_enter Tryz.func208,Tryz.ntmps208
 go_wp2_with fail
 refine hB.mono ?_;rintro e w1 ⟨rfl,hd,hg⟩
 have D1:=ae hd;have G1:=ae hg;clear hd hg hB
 go_wp2_with fail
 refine(aM 61 a s q n c w1 hs D1.out H0).mono ?_;rintro e w2 ⟨rfl,hd,hg⟩
 have D2:=ae hd;have G2:=ae (ap G1.out hg);clear hd hg D1 G1 H0
 go_wp2_with fail
 refine(aM 60 a s q n c w2 hs D2.out H1).mono ?_;rintro e w3 ⟨rfl,hd,hg⟩
 have D3:=ae hd;have G3:=ae (ap G2.out hg);clear hd hg D2 G2 H1
 go_wp2_with fail
 refine(aM 62 a s q n c w3 hs D3.out H2).mono ?_;rintro e w4 ⟨rfl,hd,hg⟩
 have D4:=ae hd;have G4:=ae (ap G3.out hg);clear hd hg D3 G3 H2
 go_wp2_with fail
 go_ret3
 exact cg.no (by unfold cW;rfl) G4.out D4.out
theorem zG (a:Nat)(s:BA)(p n:Nat)(c:Int)(w:World)(hs:s.size≤4294967280)(hG:sY a w)(h:DR w a s p n c):
  Calls Tryz.prog 208 #[.pointer (some ⟨a,0,none⟩)] w (cg (wv ((bl s).drop p)) a s p n c w):=by
 obtain⟨q,hq⟩:∃ q,p+au bf ((bl s).drop p)=q:=⟨_,rfl⟩
 have e0:wv ((bl s).drop p)=cW (uk ((bl s).drop q)).1 (uk ((bl s).drop q)).2:=by unfold wv;rw[cR,hq]
 rw[e0]
 cases h61:aE 61 ((bl s).drop q) with
 | true=>
  have e:uk ((bl s).drop q)=(3,(bl s).drop (q+1)):=by unfold uk;rw[h61,List.drop_drop];rfl
  rw[e];exact uK a s p n q c w hs hG h hq h61
 | false=>
 cases h60:aE 60 ((bl s).drop q) with
 | true=>
  cases k60:aE 60 ((bl s).drop (q+1)) with
  | true=>
   have e:uk ((bl s).drop q)=(1,(bl s).drop (q+2)):=by unfold uk;rw[h61,h60,List.drop_drop,k60,List.drop_drop];rfl
   rw[e];exact uL a s p n q c w hs hG h hq h61 h60 k60
  | false=>
  cases k61:aE 61 ((bl s).drop (q+1)) with
  | true=>
   have e:uk ((bl s).drop q)=(2,(bl s).drop (q+2)):=by unfold uk;rw[h61,h60,List.drop_drop,k60,k61,List.drop_drop];rfl
   rw[e];exact uM a s p n q c w hs hG h hq h61 h60 k60 k61
  | false=>
   have e:uk ((bl s).drop q)=(0,(bl s).drop (q+1)):=by unfold uk;rw[h61,h60,List.drop_drop,k60,k61];rfl
   rw[e];exact uP a s p n q c w hs hG h hq h61 h60 k60 k61
 | false=>
 cases h62:aE 62 ((bl s).drop q) with
 | true=>
  cases k62:aE 62 ((bl s).drop (q+1)) with
  | true=>
   have e:uk ((bl s).drop q)=(5,(bl s).drop (q+2)):=by unfold uk;rw[h61,h60,h62,List.drop_drop,k62,List.drop_drop];rfl
   rw[e];exact uN a s p n q c w hs hG h hq h61 h60 h62 k62
  | false=>
  cases k61:aE 61 ((bl s).drop (q+1)) with
  | true=>
   have e:uk ((bl s).drop q)=(4,(bl s).drop (q+2)):=by unfold uk;rw[h61,h60,h62,List.drop_drop,k62,k61,List.drop_drop];rfl
   rw[e];exact uO a s p n q c w hs hG h hq h61 h60 h62 k62 k61
  | false=>
   have e:uk ((bl s).drop q)=(0,(bl s).drop (q+1)):=by unfold uk;rw[h61,h60,h62,List.drop_drop,k62,k61];rfl
   rw[e];exact uQ a s p n q c w hs hG h hq h61 h60 h62 k62 k61
 | false=>
  have e:uk ((bl s).drop q)=(0,(bl s).drop q):=by unfold uk;rw[h61,h60,h62];rfl
  rw[e];exact uR a s p n q c w hs hG h hq h61 h60 h62
end
end Go.Proofs.YtkjdbpjglobbjaaGreatDoor
