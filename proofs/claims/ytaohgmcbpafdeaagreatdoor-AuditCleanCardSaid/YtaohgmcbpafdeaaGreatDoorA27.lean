/- A part of the proof. -/
import Derived.Test.YtaohgmcbpafdeaaGreatDoorA26
set_option maxRecDepth 100000
set_option maxHeartbeats 20000000
set_option linter.unusedVariables false
set_option linter.unusedSimpArgs false
namespace Go.Proofs.YtaohgmcbpafdeaaGreatDoor
section
open Go.RowKit Go.Deep
def pm (a:Nat)(w:World):Prop:=∃ w0,Gl w0∧Below w0.heap.size w0 w∧w0.heap.size≤a
theorem pm.gl {a:Nat}{w:World}(h:pm a w):Gl w:=by obtain⟨w0,h1,h2,_⟩:=h;exact h1.below h2
theorem pm.kept {a:Nat}{w w':World}(h:pm a w)(hg:w.grownBy w' (some a)):pm a w':=by
 obtain⟨w0,h1,h2,h3⟩:=h;exact⟨w0,h1,eD h2 hg h3,h3⟩
theorem pm.below {a:Nat}{w w':World}(h:pm a w)(hb:Below w.heap.size w w'):pm a w':=by
 obtain⟨w0,h1,h2,h3⟩:=h;exact⟨w0,h1,aq h2 hb,h3⟩
def bh (r:Option (Nat×LU×LU))(a:Nat)(s:BA)(p n:Nat)(c:Int)(w:World)(e:Ending)(w':World):Prop:=
 w.grownBy w' (some a)∧match r with
  | none=>e=.returned (.tuple #[.int .i64 0,.string ⟨#[]⟩,.bool false])∧∃ p' c',DR w' a s p' n c'
  | some (op,v,r)=>e=.returned (.tuple #[.int .i64 op,.string (bC v),.bool true])∧∃ p' c',p≤p'∧DR w' a s p' n c'∧(bl s).drop p'=r∧(c'=0↔c=0∧cG 1 (bC v)=0)
theorem bh.no {r:Option (Nat×LU×LU)}{a:Nat}{s:BA}{p n p':Nat}{c c':Int}{w w':World}(hr:r=none)(hg:w.grownBy w' (some a))(h:DR w' a s p' n c'):bh r a s p n c w (.returned (.tuple #[.int .i64 0,.string ⟨#[]⟩,.bool false])) w':=by
 subst hr;exact⟨hg,rfl,_,_,h⟩
theorem bh.yes {r:Option (Nat×LU×LU)}{op:Nat}{v r':LU}{a:Nat}{s:BA}{p n p':Nat}{c c':Int}{w w':World}(hr:r=some (op,v,r'))(hg:w.grownBy w' (some a))(h:DR w' a s p' n c')(hp:p≤p')(hd:(bl s).drop p'=r')(hc:c'=0↔c=0∧cG 1 (bC v)=0):bh r a s p n c w (.returned (.tuple #[.int .i64 op,.string (bC v),.bool true])) w':=by
 subst hr;exact⟨hg,rfl,_,_,hp,h,hd,hc⟩
theorem jP {op:Nat}{l:LU}(h:lf mB (aH l)=none):bV op l=none:=by unfold bV;rw[h];split<;>rfl
theorem jQ {op:Nat}{l v r:LU}(ho:op≠0)(h:lf mB (aH l)=some (v,r)):bV op l=jM op v r:=by unfold bV;rw[if_neg ho,h]
theorem ow {op:Nat}{v r:LU}(h:ay 41 (aH r)=false):jM op v r=none:=by unfold jM;rw[h];rfl
theorem lj {op:Nat}{v r:LU}(h:ay 41 (aH r)=true):jM op v r=some (op,v,aH ((aH r).drop 1)):=by unfold jM;rw[h];rfl
theorem qt (a:Nat)(s:BA)(p n q:Nat)(c:Int)(w:World)(hs:s.size≤4294967280)(hG:pm a w)(h:DR w a s p n c)(hq:p+aA aO ((bl s).drop p)=q)
  (H0:Hid (ay 61 ((bl s).drop q)=true)):
  Calls Tryz.prog 244 #[.pointer (some ⟨a,0,none⟩)] w (bh (bV 3 ((bl s).drop (q+1))) a s p n c w):=by
 have hB:=aF a s p n c w hs h
 rw[hq] at hB
 have HQ:Hid (p≤q):=by show _≤_;omega
 have HG:=ae hG
 clear hG hq h
 go_enter Tryz.func244,Tryz.ntmps244
 go_wp2_with fail
 refine hB.mono ?_;rintro e w1 ⟨rfl,hd,hg⟩
 have D1:=ae hd;have G1:=ae hg;clear hd hg hB
 go_wp2_with fail
 refine(aJ 61 a s q n c w1 hs D1.out H0).mono ?_;rintro e w2 ⟨rfl,hd,hg⟩
 have D2:=ae hd;have G2:=ae (ai G1.out hg);clear hd hg D1 G1 H0
 obtain⟨q2,hq2⟩:∃ q2,(q+1)=q2:=⟨_,rfl⟩
 obtain⟨q3,hq3⟩:∃ q3,q2+aA aO ((bl s).drop q2)=q3:=⟨_,rfl⟩
 rw[hq2] at D2
 have HQ3:Hid (p≤q3):=by have:=HQ.out;show _≤_;omega
 have SK:Hid (aH ((bl s).drop (q+1))=(bl s).drop q3):=by show _=_;rw[hq2,bK,hq3]
 have hB3:=aF a s q2 n c w2 hs D2.out
 rw[hq3] at hB3
 clear hq2 hq3 HQ
 go_wp2_with fail
 refine hB3.mono ?_;rintro e v1 ⟨rfl,hd,hg⟩
 have E1:=ae hd;have K1:=ae (ai G2.out hg);clear hd hg hB3
 obtain⟨f,y,k⟩:=E1.out.cells
 have c1:=k.c1
 clear k
 cases ht:lf mB ((bl s).drop q3) with
 | none=>
  have HT:=ae ht
  have EN:Hid (bV 3 ((bl s).drop (q+1))=none):=jP (by rw[SK.out];exact ht)
  clear ht
  go_wp2_with fail
  refine(cL eX a s q3 n c v1 hs E1.out HT).mono ?_;rintro e v2 ⟨rfl,hd,hg⟩
  have E2:=ae hd;have K2:=ae (ai K1.out hg);clear hd hg c1
  go_wp2_with fail
  go_ret3
  exact bh.no EN.out K2.out E2.out
 | some x=>
  obtain⟨v,r⟩:=x
  have HT:=ae ht
  obtain⟨t1,t2,t3,t4⟩:=dD E1.out.le ht
  have EN:Hid (bV 3 ((bl s).drop (q+1))=jM 3 v r):=jQ (by decide) (by rw[SK.out];exact ht)
  have hvz:(bC v).size≤4294967280:=by rw[bS];omega
  obtain⟨q4,hq4⟩:∃ q4,q3+v.length+aA aO ((bl s).drop (q3+v.length))=q4:=⟨_,rfl⟩
  have SK2:Hid (aH r=(bl s).drop q4):=by show _=_;rw[←t2,bK,hq4]
  have HQ4:Hid (p≤q4):=by have:=HQ3.out;show _≤_;omega
  have HB4:=ae (fun (c':Int) (W:World) (hD:DR W a s (q3+v.length) n c')=>aF a s (q3+v.length) n c' W hs hD)
  rw[hq4] at HB4
  clear ht t1 t2 t3 t4 hq4
  go_wp2_with fail
  refine(ct eX v r a s q3 n c v1 hs E1.out HT).mono ?_;rintro e v2 ⟨rfl,hd,hg⟩
  have E2:=ae hd;have K2:=ae (ai K1.out hg);clear hd hg c1
  go_wp2_with fail
  refine(aQ 1 (bC v) _ (HG.out.kept K2.out).gl (by omega)).mono ?_;rintro e v3 ⟨rfl,hb⟩
  have E3:=ae (E2.out.below hb);have K3:=ae (cJ K2.out hb);clear hb
  go_wp2_with fail
  refine(fu _ _ a s _ n c v3 E3.out).mono ?_;rintro e v4 ⟨rfl,hd,hg⟩
  have E4:=ae hd;have K4:=ae (ai K3.out hg);clear hd hg
  have NC:=ae (eF c (cG 1 (bC v)))
  generalize jo c (cG 1 (bC v))=c' at E4 NC
  go_wp2_with fail
  refine(HB4.out c' v4 E4.out).mono ?_;rintro e v5 ⟨rfl,hd,hg⟩
  have E5:=ae hd;have K5:=ae (ai K4.out hg);clear hd hg
  cases hh:ay 41 ((bl s).drop q4) with
  | false=>
   have HH:=ae hh
   have EM:Hid (bV 3 ((bl s).drop (q+1))=none):=by show _=_;rw[EN.out];exact ow (by rw[SK2.out];exact hh)
   clear hh
   go_wp2_with fail
   refine(aC 41 a s q4 n c' v5 hs E5.out HH).mono ?_;rintro e v6 ⟨rfl,hd,hg⟩
   have E6:=ae hd;have K6:=ae (ai K5.out hg);clear hd hg
   go_wp2_with fail
   go_ret3
   exact bh.no EM.out K6.out E6.out
  | true=>
   have HH:=ae hh
   obtain⟨q5,hq5⟩:∃ q5,q4+1+aA aO ((bl s).drop (q4+1))=q5:=⟨_,rfl⟩
   have EM:Hid (bV 3 ((bl s).drop (q+1))=some (3,v,(bl s).drop q5)):=by
    show _=_;rw[EN.out,lj (by rw[SK2.out];exact hh),SK2.out,List.drop_drop,bK,hq5]
   have HB5:=ae (fun (W:World) (hD:DR W a s (q4+1) n c')=>aF a s (q4+1) n c' W hs hD)
   rw[hq5] at HB5
   have HQ5:Hid (p≤q5):=by have:=HQ4.out;show _≤_;omega
   clear hh hq5
   go_wp2_with fail
   refine(aJ 41 a s q4 n c' v5 hs E5.out HH).mono ?_;rintro e v6 ⟨rfl,hd,hg⟩
   have E6:=ae hd;have K6:=ae (ai K5.out hg);clear hd hg
   go_wp2_with fail
   refine(HB5.out v6 E6.out).mono ?_;rintro e v7 ⟨rfl,hd,hg⟩
   have E7:=ae hd;have K7:=ae (ai K6.out hg);clear hd hg
   go_wp2_with fail
   go_ret3
   exact bh.yes EM.out K7.out E7.out HQ5.out rfl NC.out
theorem qu (a:Nat)(s:BA)(p n q:Nat)(c:Int)(w:World)(hs:s.size≤4294967280)(hG:pm a w)(h:DR w a s p n c)(hq:p+aA aO ((bl s).drop p)=q)
  (H0:Hid (ay 61 ((bl s).drop q)=false))(H1:Hid (ay 60 ((bl s).drop q)=true))(H2:Hid (ay 60 ((bl s).drop (q+1))=true)):
  Calls Tryz.prog 244 #[.pointer (some ⟨a,0,none⟩)] w (bh (bV 1 ((bl s).drop (q+2))) a s p n c w):=by
 have hB:=aF a s p n c w hs h
 rw[hq] at hB
 have HQ:Hid (p≤q):=by show _≤_;omega
 have HG:=ae hG
 clear hG hq h
 go_enter Tryz.func244,Tryz.ntmps244
 go_wp2_with fail
 refine hB.mono ?_;rintro e w1 ⟨rfl,hd,hg⟩
 have D1:=ae hd;have G1:=ae hg;clear hd hg hB
 go_wp2_with fail
 refine(aC 61 a s q n c w1 hs D1.out H0).mono ?_;rintro e w2 ⟨rfl,hd,hg⟩
 have D2:=ae hd;have G2:=ae (ai G1.out hg);clear hd hg D1 G1 H0
 go_wp2_with fail
 refine(aJ 60 a s q n c w2 hs D2.out H1).mono ?_;rintro e w3 ⟨rfl,hd,hg⟩
 have D3:=ae hd;have G3:=ae (ai G2.out hg);clear hd hg D2 G2 H1
 go_wp2_with fail
 refine(aJ 60 a s (q+1) n c w3 hs D3.out H2).mono ?_;rintro e w4 ⟨rfl,hd,hg⟩
 have D4:=ae hd;have G4:=ae (ai G3.out hg);clear hd hg D3 G3 H2
 obtain⟨q2,hq2⟩:∃ q2,(q+2)=q2:=⟨_,rfl⟩
 obtain⟨q3,hq3⟩:∃ q3,q2+aA aO ((bl s).drop q2)=q3:=⟨_,rfl⟩
 rw[hq2] at D4
 have HQ3:Hid (p≤q3):=by have:=HQ.out;show _≤_;omega
 have SK:Hid (aH ((bl s).drop (q+2))=(bl s).drop q3):=by show _=_;rw[hq2,bK,hq3]
 have hB3:=aF a s q2 n c w4 hs D4.out
 rw[hq3] at hB3
 clear hq2 hq3 HQ
 go_wp2_with fail
 refine hB3.mono ?_;rintro e v1 ⟨rfl,hd,hg⟩
 have E1:=ae hd;have K1:=ae (ai G4.out hg);clear hd hg hB3
 obtain⟨f,y,k⟩:=E1.out.cells
 have c1:=k.c1
 clear k
 cases ht:lf mB ((bl s).drop q3) with
 | none=>
  have HT:=ae ht
  have EN:Hid (bV 1 ((bl s).drop (q+2))=none):=jP (by rw[SK.out];exact ht)
  clear ht
  go_wp2_with fail
  refine(cL eX a s q3 n c v1 hs E1.out HT).mono ?_;rintro e v2 ⟨rfl,hd,hg⟩
  have E2:=ae hd;have K2:=ae (ai K1.out hg);clear hd hg c1
  go_wp2_with fail
  go_ret3
  exact bh.no EN.out K2.out E2.out
 | some x=>
  obtain⟨v,r⟩:=x
  have HT:=ae ht
  obtain⟨t1,t2,t3,t4⟩:=dD E1.out.le ht
  have EN:Hid (bV 1 ((bl s).drop (q+2))=jM 1 v r):=jQ (by decide) (by rw[SK.out];exact ht)
  have hvz:(bC v).size≤4294967280:=by rw[bS];omega
  obtain⟨q4,hq4⟩:∃ q4,q3+v.length+aA aO ((bl s).drop (q3+v.length))=q4:=⟨_,rfl⟩
  have SK2:Hid (aH r=(bl s).drop q4):=by show _=_;rw[←t2,bK,hq4]
  have HQ4:Hid (p≤q4):=by have:=HQ3.out;show _≤_;omega
  have HB4:=ae (fun (c':Int) (W:World) (hD:DR W a s (q3+v.length) n c')=>aF a s (q3+v.length) n c' W hs hD)
  rw[hq4] at HB4
  clear ht t1 t2 t3 t4 hq4
  go_wp2_with fail
  refine(ct eX v r a s q3 n c v1 hs E1.out HT).mono ?_;rintro e v2 ⟨rfl,hd,hg⟩
  have E2:=ae hd;have K2:=ae (ai K1.out hg);clear hd hg c1
  go_wp2_with fail
  refine(aQ 1 (bC v) _ (HG.out.kept K2.out).gl (by omega)).mono ?_;rintro e v3 ⟨rfl,hb⟩
  have E3:=ae (E2.out.below hb);have K3:=ae (cJ K2.out hb);clear hb
  go_wp2_with fail
  refine(fu _ _ a s _ n c v3 E3.out).mono ?_;rintro e v4 ⟨rfl,hd,hg⟩
  have E4:=ae hd;have K4:=ae (ai K3.out hg);clear hd hg
  have NC:=ae (eF c (cG 1 (bC v)))
  generalize jo c (cG 1 (bC v))=c' at E4 NC
  go_wp2_with fail
  refine(HB4.out c' v4 E4.out).mono ?_;rintro e v5 ⟨rfl,hd,hg⟩
  have E5:=ae hd;have K5:=ae (ai K4.out hg);clear hd hg
  cases hh:ay 41 ((bl s).drop q4) with
  | false=>
   have HH:=ae hh
   have EM:Hid (bV 1 ((bl s).drop (q+2))=none):=by show _=_;rw[EN.out];exact ow (by rw[SK2.out];exact hh)
   clear hh
   go_wp2_with fail
   refine(aC 41 a s q4 n c' v5 hs E5.out HH).mono ?_;rintro e v6 ⟨rfl,hd,hg⟩
   have E6:=ae hd;have K6:=ae (ai K5.out hg);clear hd hg
   go_wp2_with fail
   go_ret3
   exact bh.no EM.out K6.out E6.out
  | true=>
   have HH:=ae hh
   obtain⟨q5,hq5⟩:∃ q5,q4+1+aA aO ((bl s).drop (q4+1))=q5:=⟨_,rfl⟩
   have EM:Hid (bV 1 ((bl s).drop (q+2))=some (1,v,(bl s).drop q5)):=by
    show _=_;rw[EN.out,lj (by rw[SK2.out];exact hh),SK2.out,List.drop_drop,bK,hq5]
   have HB5:=ae (fun (W:World) (hD:DR W a s (q4+1) n c')=>aF a s (q4+1) n c' W hs hD)
   rw[hq5] at HB5
   have HQ5:Hid (p≤q5):=by have:=HQ4.out;show _≤_;omega
   clear hh hq5
   go_wp2_with fail
   refine(aJ 41 a s q4 n c' v5 hs E5.out HH).mono ?_;rintro e v6 ⟨rfl,hd,hg⟩
   have E6:=ae hd;have K6:=ae (ai K5.out hg);clear hd hg
   go_wp2_with fail
   refine(HB5.out v6 E6.out).mono ?_;rintro e v7 ⟨rfl,hd,hg⟩
   have E7:=ae hd;have K7:=ae (ai K6.out hg);clear hd hg
   go_wp2_with fail
   go_ret3
   exact bh.yes EM.out K7.out E7.out HQ5.out rfl NC.out
theorem qv (a:Nat)(s:BA)(p n q:Nat)(c:Int)(w:World)(hs:s.size≤4294967280)(hG:pm a w)(h:DR w a s p n c)(hq:p+aA aO ((bl s).drop p)=q)
  (H0:Hid (ay 61 ((bl s).drop q)=false))(H1:Hid (ay 60 ((bl s).drop q)=true))(H2:Hid (ay 60 ((bl s).drop (q+1))=false))(H3:Hid (ay 61 ((bl s).drop (q+1))=true)):
  Calls Tryz.prog 244 #[.pointer (some ⟨a,0,none⟩)] w (bh (bV 2 ((bl s).drop (q+2))) a s p n c w):=by
 have hB:=aF a s p n c w hs h
 rw[hq] at hB
 have HQ:Hid (p≤q):=by show _≤_;omega
 have HG:=ae hG
 clear hG hq h
 go_enter Tryz.func244,Tryz.ntmps244
 go_wp2_with fail
 refine hB.mono ?_;rintro e w1 ⟨rfl,hd,hg⟩
 have D1:=ae hd;have G1:=ae hg;clear hd hg hB
 go_wp2_with fail
 refine(aC 61 a s q n c w1 hs D1.out H0).mono ?_;rintro e w2 ⟨rfl,hd,hg⟩
 have D2:=ae hd;have G2:=ae (ai G1.out hg);clear hd hg D1 G1 H0
 go_wp2_with fail
 refine(aJ 60 a s q n c w2 hs D2.out H1).mono ?_;rintro e w3 ⟨rfl,hd,hg⟩
 have D3:=ae hd;have G3:=ae (ai G2.out hg);clear hd hg D2 G2 H1
 go_wp2_with fail
 refine(aC 60 a s (q+1) n c w3 hs D3.out H2).mono ?_;rintro e w4 ⟨rfl,hd,hg⟩
 have D4:=ae hd;have G4:=ae (ai G3.out hg);clear hd hg D3 G3 H2
 go_wp2_with fail
 refine(aJ 61 a s (q+1) n c w4 hs D4.out H3).mono ?_;rintro e w5 ⟨rfl,hd,hg⟩
 have D5:=ae hd;have G5:=ae (ai G4.out hg);clear hd hg D4 G4 H3
 obtain⟨q2,hq2⟩:∃ q2,(q+2)=q2:=⟨_,rfl⟩
 obtain⟨q3,hq3⟩:∃ q3,q2+aA aO ((bl s).drop q2)=q3:=⟨_,rfl⟩
 rw[hq2] at D5
 have HQ3:Hid (p≤q3):=by have:=HQ.out;show _≤_;omega
 have SK:Hid (aH ((bl s).drop (q+2))=(bl s).drop q3):=by show _=_;rw[hq2,bK,hq3]
 have hB3:=aF a s q2 n c w5 hs D5.out
 rw[hq3] at hB3
 clear hq2 hq3 HQ
 go_wp2_with fail
 refine hB3.mono ?_;rintro e v1 ⟨rfl,hd,hg⟩
 have E1:=ae hd;have K1:=ae (ai G5.out hg);clear hd hg hB3
 obtain⟨f,y,k⟩:=E1.out.cells
 have c1:=k.c1
 clear k
 cases ht:lf mB ((bl s).drop q3) with
 | none=>
  have HT:=ae ht
  have EN:Hid (bV 2 ((bl s).drop (q+2))=none):=jP (by rw[SK.out];exact ht)
  clear ht
  go_wp2_with fail
  refine(cL eX a s q3 n c v1 hs E1.out HT).mono ?_;rintro e v2 ⟨rfl,hd,hg⟩
  have E2:=ae hd;have K2:=ae (ai K1.out hg);clear hd hg c1
  go_wp2_with fail
  go_ret3
  exact bh.no EN.out K2.out E2.out
 | some x=>
  obtain⟨v,r⟩:=x
  have HT:=ae ht
  obtain⟨t1,t2,t3,t4⟩:=dD E1.out.le ht
  have EN:Hid (bV 2 ((bl s).drop (q+2))=jM 2 v r):=jQ (by decide) (by rw[SK.out];exact ht)
  have hvz:(bC v).size≤4294967280:=by rw[bS];omega
  obtain⟨q4,hq4⟩:∃ q4,q3+v.length+aA aO ((bl s).drop (q3+v.length))=q4:=⟨_,rfl⟩
  have SK2:Hid (aH r=(bl s).drop q4):=by show _=_;rw[←t2,bK,hq4]
  have HQ4:Hid (p≤q4):=by have:=HQ3.out;show _≤_;omega
  have HB4:=ae (fun (c':Int) (W:World) (hD:DR W a s (q3+v.length) n c')=>aF a s (q3+v.length) n c' W hs hD)
  rw[hq4] at HB4
  clear ht t1 t2 t3 t4 hq4
  go_wp2_with fail
  refine(ct eX v r a s q3 n c v1 hs E1.out HT).mono ?_;rintro e v2 ⟨rfl,hd,hg⟩
  have E2:=ae hd;have K2:=ae (ai K1.out hg);clear hd hg c1
  go_wp2_with fail
  refine(aQ 1 (bC v) _ (HG.out.kept K2.out).gl (by omega)).mono ?_;rintro e v3 ⟨rfl,hb⟩
  have E3:=ae (E2.out.below hb);have K3:=ae (cJ K2.out hb);clear hb
  go_wp2_with fail
  refine(fu _ _ a s _ n c v3 E3.out).mono ?_;rintro e v4 ⟨rfl,hd,hg⟩
  have E4:=ae hd;have K4:=ae (ai K3.out hg);clear hd hg
  have NC:=ae (eF c (cG 1 (bC v)))
  generalize jo c (cG 1 (bC v))=c' at E4 NC
  go_wp2_with fail
  refine(HB4.out c' v4 E4.out).mono ?_;rintro e v5 ⟨rfl,hd,hg⟩
  have E5:=ae hd;have K5:=ae (ai K4.out hg);clear hd hg
  cases hh:ay 41 ((bl s).drop q4) with
  | false=>
   have HH:=ae hh
   have EM:Hid (bV 2 ((bl s).drop (q+2))=none):=by show _=_;rw[EN.out];exact ow (by rw[SK2.out];exact hh)
   clear hh
   go_wp2_with fail
   refine(aC 41 a s q4 n c' v5 hs E5.out HH).mono ?_;rintro e v6 ⟨rfl,hd,hg⟩
   have E6:=ae hd;have K6:=ae (ai K5.out hg);clear hd hg
   go_wp2_with fail
   go_ret3
   exact bh.no EM.out K6.out E6.out
  | true=>
   have HH:=ae hh
   obtain⟨q5,hq5⟩:∃ q5,q4+1+aA aO ((bl s).drop (q4+1))=q5:=⟨_,rfl⟩
   have EM:Hid (bV 2 ((bl s).drop (q+2))=some (2,v,(bl s).drop q5)):=by
    show _=_;rw[EN.out,lj (by rw[SK2.out];exact hh),SK2.out,List.drop_drop,bK,hq5]
   have HB5:=ae (fun (W:World) (hD:DR W a s (q4+1) n c')=>aF a s (q4+1) n c' W hs hD)
   rw[hq5] at HB5
   have HQ5:Hid (p≤q5):=by have:=HQ4.out;show _≤_;omega
   clear hh hq5
   go_wp2_with fail
   refine(aJ 41 a s q4 n c' v5 hs E5.out HH).mono ?_;rintro e v6 ⟨rfl,hd,hg⟩
   have E6:=ae hd;have K6:=ae (ai K5.out hg);clear hd hg
   go_wp2_with fail
   refine(HB5.out v6 E6.out).mono ?_;rintro e v7 ⟨rfl,hd,hg⟩
   have E7:=ae hd;have K7:=ae (ai K6.out hg);clear hd hg
   go_wp2_with fail
   go_ret3
   exact bh.yes EM.out K7.out E7.out HQ5.out rfl NC.out
theorem qw (a:Nat)(s:BA)(p n q:Nat)(c:Int)(w:World)(hs:s.size≤4294967280)(hG:pm a w)(h:DR w a s p n c)(hq:p+aA aO ((bl s).drop p)=q)
  (H0:Hid (ay 61 ((bl s).drop q)=false))(H1:Hid (ay 60 ((bl s).drop q)=false))(H2:Hid (ay 62 ((bl s).drop q)=true))(H3:Hid (ay 62 ((bl s).drop (q+1))=true)):
  Calls Tryz.prog 244 #[.pointer (some ⟨a,0,none⟩)] w (bh (bV 5 ((bl s).drop (q+2))) a s p n c w):=by
 have hB:=aF a s p n c w hs h
 rw[hq] at hB
 have HQ:Hid (p≤q):=by show _≤_;omega
 have HG:=ae hG
 clear hG hq h
 go_enter Tryz.func244,Tryz.ntmps244
 go_wp2_with fail
 refine hB.mono ?_;rintro e w1 ⟨rfl,hd,hg⟩
 have D1:=ae hd;have G1:=ae hg;clear hd hg hB
 go_wp2_with fail
 refine(aC 61 a s q n c w1 hs D1.out H0).mono ?_;rintro e w2 ⟨rfl,hd,hg⟩
 have D2:=ae hd;have G2:=ae (ai G1.out hg);clear hd hg D1 G1 H0
 go_wp2_with fail
 refine(aC 60 a s q n c w2 hs D2.out H1).mono ?_;rintro e w3 ⟨rfl,hd,hg⟩
 have D3:=ae hd;have G3:=ae (ai G2.out hg);clear hd hg D2 G2 H1
 go_wp2_with fail
 refine(aJ 62 a s q n c w3 hs D3.out H2).mono ?_;rintro e w4 ⟨rfl,hd,hg⟩
 have D4:=ae hd;have G4:=ae (ai G3.out hg);clear hd hg D3 G3 H2
 go_wp2_with fail
 refine(aJ 62 a s (q+1) n c w4 hs D4.out H3).mono ?_;rintro e w5 ⟨rfl,hd,hg⟩
 have D5:=ae hd;have G5:=ae (ai G4.out hg);clear hd hg D4 G4 H3
 obtain⟨q2,hq2⟩:∃ q2,(q+2)=q2:=⟨_,rfl⟩
 obtain⟨q3,hq3⟩:∃ q3,q2+aA aO ((bl s).drop q2)=q3:=⟨_,rfl⟩
 rw[hq2] at D5
 have HQ3:Hid (p≤q3):=by have:=HQ.out;show _≤_;omega
 have SK:Hid (aH ((bl s).drop (q+2))=(bl s).drop q3):=by show _=_;rw[hq2,bK,hq3]
 have hB3:=aF a s q2 n c w5 hs D5.out
 rw[hq3] at hB3
 clear hq2 hq3 HQ
 go_wp2_with fail
 refine hB3.mono ?_;rintro e v1 ⟨rfl,hd,hg⟩
 have E1:=ae hd;have K1:=ae (ai G5.out hg);clear hd hg hB3
 obtain⟨f,y,k⟩:=E1.out.cells
 have c1:=k.c1
 clear k
 cases ht:lf mB ((bl s).drop q3) with
 | none=>
  have HT:=ae ht
  have EN:Hid (bV 5 ((bl s).drop (q+2))=none):=jP (by rw[SK.out];exact ht)
  clear ht
  go_wp2_with fail
  refine(cL eX a s q3 n c v1 hs E1.out HT).mono ?_;rintro e v2 ⟨rfl,hd,hg⟩
  have E2:=ae hd;have K2:=ae (ai K1.out hg);clear hd hg c1
  go_wp2_with fail
  go_ret3
  exact bh.no EN.out K2.out E2.out
 | some x=>
  obtain⟨v,r⟩:=x
  have HT:=ae ht
  obtain⟨t1,t2,t3,t4⟩:=dD E1.out.le ht
  have EN:Hid (bV 5 ((bl s).drop (q+2))=jM 5 v r):=jQ (by decide) (by rw[SK.out];exact ht)
  have hvz:(bC v).size≤4294967280:=by rw[bS];omega
  obtain⟨q4,hq4⟩:∃ q4,q3+v.length+aA aO ((bl s).drop (q3+v.length))=q4:=⟨_,rfl⟩
  have SK2:Hid (aH r=(bl s).drop q4):=by show _=_;rw[←t2,bK,hq4]
  have HQ4:Hid (p≤q4):=by have:=HQ3.out;show _≤_;omega
  have HB4:=ae (fun (c':Int) (W:World) (hD:DR W a s (q3+v.length) n c')=>aF a s (q3+v.length) n c' W hs hD)
  rw[hq4] at HB4
  clear ht t1 t2 t3 t4 hq4
  go_wp2_with fail
  refine(ct eX v r a s q3 n c v1 hs E1.out HT).mono ?_;rintro e v2 ⟨rfl,hd,hg⟩
  have E2:=ae hd;have K2:=ae (ai K1.out hg);clear hd hg c1
  go_wp2_with fail
  refine(aQ 1 (bC v) _ (HG.out.kept K2.out).gl (by omega)).mono ?_;rintro e v3 ⟨rfl,hb⟩
  have E3:=ae (E2.out.below hb);have K3:=ae (cJ K2.out hb);clear hb
  go_wp2_with fail
  refine(fu _ _ a s _ n c v3 E3.out).mono ?_;rintro e v4 ⟨rfl,hd,hg⟩
  have E4:=ae hd;have K4:=ae (ai K3.out hg);clear hd hg
  have NC:=ae (eF c (cG 1 (bC v)))
  generalize jo c (cG 1 (bC v))=c' at E4 NC
  go_wp2_with fail
  refine(HB4.out c' v4 E4.out).mono ?_;rintro e v5 ⟨rfl,hd,hg⟩
  have E5:=ae hd;have K5:=ae (ai K4.out hg);clear hd hg
  cases hh:ay 41 ((bl s).drop q4) with
  | false=>
   have HH:=ae hh
   have EM:Hid (bV 5 ((bl s).drop (q+2))=none):=by show _=_;rw[EN.out];exact ow (by rw[SK2.out];exact hh)
   clear hh
   go_wp2_with fail
   refine(aC 41 a s q4 n c' v5 hs E5.out HH).mono ?_;rintro e v6 ⟨rfl,hd,hg⟩
   have E6:=ae hd;have K6:=ae (ai K5.out hg);clear hd hg
   go_wp2_with fail
   go_ret3
   exact bh.no EM.out K6.out E6.out
  | true=>
   have HH:=ae hh
   obtain⟨q5,hq5⟩:∃ q5,q4+1+aA aO ((bl s).drop (q4+1))=q5:=⟨_,rfl⟩
   have EM:Hid (bV 5 ((bl s).drop (q+2))=some (5,v,(bl s).drop q5)):=by
    show _=_;rw[EN.out,lj (by rw[SK2.out];exact hh),SK2.out,List.drop_drop,bK,hq5]
   have HB5:=ae (fun (W:World) (hD:DR W a s (q4+1) n c')=>aF a s (q4+1) n c' W hs hD)
   rw[hq5] at HB5
   have HQ5:Hid (p≤q5):=by have:=HQ4.out;show _≤_;omega
   clear hh hq5
   go_wp2_with fail
   refine(aJ 41 a s q4 n c' v5 hs E5.out HH).mono ?_;rintro e v6 ⟨rfl,hd,hg⟩
   have E6:=ae hd;have K6:=ae (ai K5.out hg);clear hd hg
   go_wp2_with fail
   refine(HB5.out v6 E6.out).mono ?_;rintro e v7 ⟨rfl,hd,hg⟩
   have E7:=ae hd;have K7:=ae (ai K6.out hg);clear hd hg
   go_wp2_with fail
   go_ret3
   exact bh.yes EM.out K7.out E7.out HQ5.out rfl NC.out
theorem qz (a:Nat)(s:BA)(p n q:Nat)(c:Int)(w:World)(hs:s.size≤4294967280)(hG:pm a w)(h:DR w a s p n c)(hq:p+aA aO ((bl s).drop p)=q)
  (H0:Hid (ay 61 ((bl s).drop q)=false))(H1:Hid (ay 60 ((bl s).drop q)=false))(H2:Hid (ay 62 ((bl s).drop q)=true))(H3:Hid (ay 62 ((bl s).drop (q+1))=false))(H4:Hid (ay 61 ((bl s).drop (q+1))=true)):
  Calls Tryz.prog 244 #[.pointer (some ⟨a,0,none⟩)] w (bh (bV 4 ((bl s).drop (q+2))) a s p n c w):=by
 have hB:=aF a s p n c w hs h
 rw[hq] at hB
 have HQ:Hid (p≤q):=by show _≤_;omega
 have HG:=ae hG
 clear hG hq h
 go_enter Tryz.func244,Tryz.ntmps244
 go_wp2_with fail
 refine hB.mono ?_;rintro e w1 ⟨rfl,hd,hg⟩
 have D1:=ae hd;have G1:=ae hg;clear hd hg hB
 go_wp2_with fail
 refine(aC 61 a s q n c w1 hs D1.out H0).mono ?_;rintro e w2 ⟨rfl,hd,hg⟩
 have D2:=ae hd;have G2:=ae (ai G1.out hg);clear hd hg D1 G1 H0
 go_wp2_with fail
 refine(aC 60 a s q n c w2 hs D2.out H1).mono ?_;rintro e w3 ⟨rfl,hd,hg⟩
 have D3:=ae hd;have G3:=ae (ai G2.out hg);clear hd hg D2 G2 H1
 go_wp2_with fail
 refine(aJ 62 a s q n c w3 hs D3.out H2).mono ?_;rintro e w4 ⟨rfl,hd,hg⟩
 have D4:=ae hd;have G4:=ae (ai G3.out hg);clear hd hg D3 G3 H2
 go_wp2_with fail
 refine(aC 62 a s (q+1) n c w4 hs D4.out H3).mono ?_;rintro e w5 ⟨rfl,hd,hg⟩
 have D5:=ae hd;have G5:=ae (ai G4.out hg);clear hd hg D4 G4 H3
 go_wp2_with fail
 refine(aJ 61 a s (q+1) n c w5 hs D5.out H4).mono ?_;rintro e w6 ⟨rfl,hd,hg⟩
 have D6:=ae hd;have G6:=ae (ai G5.out hg);clear hd hg D5 G5 H4
 obtain⟨q2,hq2⟩:∃ q2,(q+2)=q2:=⟨_,rfl⟩
 obtain⟨q3,hq3⟩:∃ q3,q2+aA aO ((bl s).drop q2)=q3:=⟨_,rfl⟩
 rw[hq2] at D6
 have HQ3:Hid (p≤q3):=by have:=HQ.out;show _≤_;omega
 have SK:Hid (aH ((bl s).drop (q+2))=(bl s).drop q3):=by show _=_;rw[hq2,bK,hq3]
 have hB3:=aF a s q2 n c w6 hs D6.out
 rw[hq3] at hB3
 clear hq2 hq3 HQ
 go_wp2_with fail
 refine hB3.mono ?_;rintro e v1 ⟨rfl,hd,hg⟩
 have E1:=ae hd;have K1:=ae (ai G6.out hg);clear hd hg hB3
 obtain⟨f,y,k⟩:=E1.out.cells
 have c1:=k.c1
 clear k
 cases ht:lf mB ((bl s).drop q3) with
 | none=>
  have HT:=ae ht
  have EN:Hid (bV 4 ((bl s).drop (q+2))=none):=jP (by rw[SK.out];exact ht)
  clear ht
  go_wp2_with fail
  refine(cL eX a s q3 n c v1 hs E1.out HT).mono ?_;rintro e v2 ⟨rfl,hd,hg⟩
  have E2:=ae hd;have K2:=ae (ai K1.out hg);clear hd hg c1
  go_wp2_with fail
  go_ret3
  exact bh.no EN.out K2.out E2.out
 | some x=>
  obtain⟨v,r⟩:=x
  have HT:=ae ht
  obtain⟨t1,t2,t3,t4⟩:=dD E1.out.le ht
  have EN:Hid (bV 4 ((bl s).drop (q+2))=jM 4 v r):=jQ (by decide) (by rw[SK.out];exact ht)
  have hvz:(bC v).size≤4294967280:=by rw[bS];omega
  obtain⟨q4,hq4⟩:∃ q4,q3+v.length+aA aO ((bl s).drop (q3+v.length))=q4:=⟨_,rfl⟩
  have SK2:Hid (aH r=(bl s).drop q4):=by show _=_;rw[←t2,bK,hq4]
  have HQ4:Hid (p≤q4):=by have:=HQ3.out;show _≤_;omega
  have HB4:=ae (fun (c':Int) (W:World) (hD:DR W a s (q3+v.length) n c')=>aF a s (q3+v.length) n c' W hs hD)
  rw[hq4] at HB4
  clear ht t1 t2 t3 t4 hq4
  go_wp2_with fail
  refine(ct eX v r a s q3 n c v1 hs E1.out HT).mono ?_;rintro e v2 ⟨rfl,hd,hg⟩
  have E2:=ae hd;have K2:=ae (ai K1.out hg);clear hd hg c1
  go_wp2_with fail
  refine(aQ 1 (bC v) _ (HG.out.kept K2.out).gl (by omega)).mono ?_;rintro e v3 ⟨rfl,hb⟩
  have E3:=ae (E2.out.below hb);have K3:=ae (cJ K2.out hb);clear hb
  go_wp2_with fail
  refine(fu _ _ a s _ n c v3 E3.out).mono ?_;rintro e v4 ⟨rfl,hd,hg⟩
  have E4:=ae hd;have K4:=ae (ai K3.out hg);clear hd hg
  have NC:=ae (eF c (cG 1 (bC v)))
  generalize jo c (cG 1 (bC v))=c' at E4 NC
  go_wp2_with fail
  refine(HB4.out c' v4 E4.out).mono ?_;rintro e v5 ⟨rfl,hd,hg⟩
  have E5:=ae hd;have K5:=ae (ai K4.out hg);clear hd hg
  cases hh:ay 41 ((bl s).drop q4) with
  | false=>
   have HH:=ae hh
   have EM:Hid (bV 4 ((bl s).drop (q+2))=none):=by show _=_;rw[EN.out];exact ow (by rw[SK2.out];exact hh)
   clear hh
   go_wp2_with fail
   refine(aC 41 a s q4 n c' v5 hs E5.out HH).mono ?_;rintro e v6 ⟨rfl,hd,hg⟩
   have E6:=ae hd;have K6:=ae (ai K5.out hg);clear hd hg
   go_wp2_with fail
   go_ret3
   exact bh.no EM.out K6.out E6.out
  | true=>
   have HH:=ae hh
   obtain⟨q5,hq5⟩:∃ q5,q4+1+aA aO ((bl s).drop (q4+1))=q5:=⟨_,rfl⟩
   have EM:Hid (bV 4 ((bl s).drop (q+2))=some (4,v,(bl s).drop q5)):=by
    show _=_;rw[EN.out,lj (by rw[SK2.out];exact hh),SK2.out,List.drop_drop,bK,hq5]
   have HB5:=ae (fun (W:World) (hD:DR W a s (q4+1) n c')=>aF a s (q4+1) n c' W hs hD)
   rw[hq5] at HB5
   have HQ5:Hid (p≤q5):=by have:=HQ4.out;show _≤_;omega
   clear hh hq5
   go_wp2_with fail
   refine(aJ 41 a s q4 n c' v5 hs E5.out HH).mono ?_;rintro e v6 ⟨rfl,hd,hg⟩
   have E6:=ae hd;have K6:=ae (ai K5.out hg);clear hd hg
   go_wp2_with fail
   refine(HB5.out v6 E6.out).mono ?_;rintro e v7 ⟨rfl,hd,hg⟩
   have E7:=ae hd;have K7:=ae (ai K6.out hg);clear hd hg
   go_wp2_with fail
   go_ret3
   exact bh.yes EM.out K7.out E7.out HQ5.out rfl NC.out
theorem qA (a:Nat)(s:BA)(p n q:Nat)(c:Int)(w:World)(hs:s.size≤4294967280)(hG:pm a w)(h:DR w a s p n c)(hq:p+aA aO ((bl s).drop p)=q)
  (H0:Hid (ay 61 ((bl s).drop q)=false))(H1:Hid (ay 60 ((bl s).drop q)=true))(H2:Hid (ay 60 ((bl s).drop (q+1))=false))(H3:Hid (ay 61 ((bl s).drop (q+1))=false)):
  Calls Tryz.prog 244 #[.pointer (some ⟨a,0,none⟩)] w (bh (bV 0 ((bl s).drop (q+1))) a s p n c w):=by
 have hB:=aF a s p n c w hs h
 rw[hq] at hB
 have HQ:Hid (p≤q):=by show _≤_;omega
 have HG:=ae hG
 clear hG hq h
 go_enter Tryz.func244,Tryz.ntmps244
 go_wp2_with fail
 refine hB.mono ?_;rintro e w1 ⟨rfl,hd,hg⟩
 have D1:=ae hd;have G1:=ae hg;clear hd hg hB
 go_wp2_with fail
 refine(aC 61 a s q n c w1 hs D1.out H0).mono ?_;rintro e w2 ⟨rfl,hd,hg⟩
 have D2:=ae hd;have G2:=ae (ai G1.out hg);clear hd hg D1 G1 H0
 go_wp2_with fail
 refine(aJ 60 a s q n c w2 hs D2.out H1).mono ?_;rintro e w3 ⟨rfl,hd,hg⟩
 have D3:=ae hd;have G3:=ae (ai G2.out hg);clear hd hg D2 G2 H1
 go_wp2_with fail
 refine(aC 60 a s (q+1) n c w3 hs D3.out H2).mono ?_;rintro e w4 ⟨rfl,hd,hg⟩
 have D4:=ae hd;have G4:=ae (ai G3.out hg);clear hd hg D3 G3 H2
 go_wp2_with fail
 refine(aC 61 a s (q+1) n c w4 hs D4.out H3).mono ?_;rintro e w5 ⟨rfl,hd,hg⟩
 have D5:=ae hd;have G5:=ae (ai G4.out hg);clear hd hg D4 G4 H3
 go_wp2_with fail
 go_ret3
 exact bh.no (by unfold bV;rfl) G5.out D5.out
theorem qB (a:Nat)(s:BA)(p n q:Nat)(c:Int)(w:World)(hs:s.size≤4294967280)(hG:pm a w)(h:DR w a s p n c)(hq:p+aA aO ((bl s).drop p)=q)
  (H0:Hid (ay 61 ((bl s).drop q)=false))(H1:Hid (ay 60 ((bl s).drop q)=false))(H2:Hid (ay 62 ((bl s).drop q)=true))(H3:Hid (ay 62 ((bl s).drop (q+1))=false))(H4:Hid (ay 61 ((bl s).drop (q+1))=false)):
  Calls Tryz.prog 244 #[.pointer (some ⟨a,0,none⟩)] w (bh (bV 0 ((bl s).drop (q+1))) a s p n c w):=by
 have hB:=aF a s p n c w hs h
 rw[hq] at hB
 have HQ:Hid (p≤q):=by show _≤_;omega
 have HG:=ae hG
 clear hG hq h
 go_enter Tryz.func244,Tryz.ntmps244
 go_wp2_with fail
 refine hB.mono ?_;rintro e w1 ⟨rfl,hd,hg⟩
 have D1:=ae hd;have G1:=ae hg;clear hd hg hB
 go_wp2_with fail
 refine(aC 61 a s q n c w1 hs D1.out H0).mono ?_;rintro e w2 ⟨rfl,hd,hg⟩
 have D2:=ae hd;have G2:=ae (ai G1.out hg);clear hd hg D1 G1 H0
 go_wp2_with fail
 refine(aC 60 a s q n c w2 hs D2.out H1).mono ?_;rintro e w3 ⟨rfl,hd,hg⟩
 have D3:=ae hd;have G3:=ae (ai G2.out hg);clear hd hg D2 G2 H1
 go_wp2_with fail
 refine(aJ 62 a s q n c w3 hs D3.out H2).mono ?_;rintro e w4 ⟨rfl,hd,hg⟩
 have D4:=ae hd;have G4:=ae (ai G3.out hg);clear hd hg D3 G3 H2
 go_wp2_with fail
 refine(aC 62 a s (q+1) n c w4 hs D4.out H3).mono ?_;rintro e w5 ⟨rfl,hd,hg⟩
 have D5:=ae hd;have G5:=ae (ai G4.out hg);clear hd hg D4 G4 H3
 go_wp2_with fail
 refine(aC 61 a s (q+1) n c w5 hs D5.out H4).mono ?_;rintro e w6 ⟨rfl,hd,hg⟩
 have D6:=ae hd;have G6:=ae (ai G5.out hg);clear hd hg D5 G5 H4
 go_wp2_with fail
 go_ret3
 exact bh.no (by unfold bV;rfl) G6.out D6.out
theorem qC (a:Nat)(s:BA)(p n q:Nat)(c:Int)(w:World)(hs:s.size≤4294967280)(hG:pm a w)(h:DR w a s p n c)(hq:p+aA aO ((bl s).drop p)=q)
  (H0:Hid (ay 61 ((bl s).drop q)=false))(H1:Hid (ay 60 ((bl s).drop q)=false))(H2:Hid (ay 62 ((bl s).drop q)=false)):
  Calls Tryz.prog 244 #[.pointer (some ⟨a,0,none⟩)] w (bh (bV 0 ((bl s).drop q)) a s p n c w):=by
 have hB:=aF a s p n c w hs h
 rw[hq] at hB
 have HQ:Hid (p≤q):=by show _≤_;omega
 have HG:=ae hG
 clear hG hq h
 go_enter Tryz.func244,Tryz.ntmps244
 go_wp2_with fail
 refine hB.mono ?_;rintro e w1 ⟨rfl,hd,hg⟩
 have D1:=ae hd;have G1:=ae hg;clear hd hg hB
 go_wp2_with fail
 refine(aC 61 a s q n c w1 hs D1.out H0).mono ?_;rintro e w2 ⟨rfl,hd,hg⟩
 have D2:=ae hd;have G2:=ae (ai G1.out hg);clear hd hg D1 G1 H0
 go_wp2_with fail
 refine(aC 60 a s q n c w2 hs D2.out H1).mono ?_;rintro e w3 ⟨rfl,hd,hg⟩
 have D3:=ae hd;have G3:=ae (ai G2.out hg);clear hd hg D2 G2 H1
 go_wp2_with fail
 refine(aC 62 a s q n c w3 hs D3.out H2).mono ?_;rintro e w4 ⟨rfl,hd,hg⟩
 have D4:=ae hd;have G4:=ae (ai G3.out hg);clear hd hg D3 G3 H2
 go_wp2_with fail
 go_ret3
 exact bh.no (by unfold bV;rfl) G4.out D4.out
theorem uQ (a:Nat)(s:BA)(p n:Nat)(c:Int)(w:World)(hs:s.size≤4294967280)(hG:pm a w)(h:DR w a s p n c):
  Calls Tryz.prog 244 #[.pointer (some ⟨a,0,none⟩)] w (bh (uK ((bl s).drop p)) a s p n c w):=by
 obtain⟨q,hq⟩:∃ q,p+aA aO ((bl s).drop p)=q:=⟨_,rfl⟩
 have e0:uK ((bl s).drop p)=bV (re ((bl s).drop q)).1 (re ((bl s).drop q)).2:=by unfold uK;rw[bK,hq]
 rw[e0]
 cases h61:ay 61 ((bl s).drop q) with
 | true=>
  have e:re ((bl s).drop q)=(3,(bl s).drop (q+1)):=by unfold re;rw[h61,List.drop_drop];rfl
  rw[e];exact qt a s p n q c w hs hG h hq h61
 | false=>
 cases h60:ay 60 ((bl s).drop q) with
 | true=>
  cases k60:ay 60 ((bl s).drop (q+1)) with
  | true=>
   have e:re ((bl s).drop q)=(1,(bl s).drop (q+2)):=by unfold re;rw[h61,h60,List.drop_drop,k60,List.drop_drop];rfl
   rw[e];exact qu a s p n q c w hs hG h hq h61 h60 k60
  | false=>
  cases k61:ay 61 ((bl s).drop (q+1)) with
  | true=>
   have e:re ((bl s).drop q)=(2,(bl s).drop (q+2)):=by unfold re;rw[h61,h60,List.drop_drop,k60,k61,List.drop_drop];rfl
   rw[e];exact qv a s p n q c w hs hG h hq h61 h60 k60 k61
  | false=>
   have e:re ((bl s).drop q)=(0,(bl s).drop (q+1)):=by unfold re;rw[h61,h60,List.drop_drop,k60,k61];rfl
   rw[e];exact qA a s p n q c w hs hG h hq h61 h60 k60 k61
 | false=>
 cases h62:ay 62 ((bl s).drop q) with
 | true=>
  cases k62:ay 62 ((bl s).drop (q+1)) with
  | true=>
   have e:re ((bl s).drop q)=(5,(bl s).drop (q+2)):=by unfold re;rw[h61,h60,h62,List.drop_drop,k62,List.drop_drop];rfl
   rw[e];exact qw a s p n q c w hs hG h hq h61 h60 h62 k62
  | false=>
  cases k61:ay 61 ((bl s).drop (q+1)) with
  | true=>
   have e:re ((bl s).drop q)=(4,(bl s).drop (q+2)):=by unfold re;rw[h61,h60,h62,List.drop_drop,k62,k61,List.drop_drop];rfl
   rw[e];exact qz a s p n q c w hs hG h hq h61 h60 h62 k62 k61
  | false=>
   have e:re ((bl s).drop q)=(0,(bl s).drop (q+1)):=by unfold re;rw[h61,h60,h62,List.drop_drop,k62,k61];rfl
   rw[e];exact qB a s p n q c w hs hG h hq h61 h60 h62 k62 k61
 | false=>
  have e:re ((bl s).drop q)=(0,(bl s).drop q):=by unfold re;rw[h61,h60,h62];rfl
  rw[e];exact qC a s p n q c w hs hG h hq h61 h60 h62
end
end Go.Proofs.YtaohgmcbpafdeaaGreatDoor
