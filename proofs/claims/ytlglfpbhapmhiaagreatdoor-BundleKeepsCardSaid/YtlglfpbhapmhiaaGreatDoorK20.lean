/- A part of the proof. -/
import Derived.Test.YtlglfpbhapmhiaaGreatDoorK19
set_option maxRecDepth 100000
set_option maxHeartbeats 20000000
set_option linter.unusedVariables false
set_option linter.unusedSimpArgs false
namespace Go.Proofs.YtlglfpbhapmhiaaGreatDoor
section
open Go.RowKit Go.Deep
def oO (a:Nat)(w:World):Prop:=∃ w0,Gl w0∧Below w0.heap.size w0 w∧w0.heap.size≤a
theorem oO.gl {a:Nat}{w:World}(h:oO a w):Gl w:=by obtain⟨w0,h1,h2,_⟩:=h;exact h1.below h2
theorem oO.kept {a:Nat}{w w':World}(h:oO a w)(hg:w.grownBy w' (some a)):oO a w':=by
 obtain⟨w0,h1,h2,h3⟩:=h;exact⟨w0,h1,cY h2 hg h3,h3⟩
theorem oO.below {a:Nat}{w w':World}(h:oO a w)(hb:Below w.heap.size w w'):oO a w':=by
 obtain⟨w0,h1,h2,h3⟩:=h;exact⟨w0,h1,ap h2 hb,h3⟩
def bw (r:Option (Nat×LU×LU))(a:Nat)(s:BA)(p n:Nat)(c:Int)(w:World)(e:Ending)(w':World):Prop:=
 w.grownBy w' (some a)∧match r with
  | none=>e=.returned (.tuple #[.int .i64 0,.string ⟨#[]⟩,.bool false])∧∃ p' c',DR w' a s p' n c'
  | some (op,v,r)=>e=.returned (.tuple #[.int .i64 op,.string (bG v),.bool true])∧∃ p' c',p≤p'∧DR w' a s p' n c'∧(bl s).drop p'=r∧(c'=0↔c=0∧cJ 1 (bG v)=0)
theorem bw.no {r:Option (Nat×LU×LU)}{a:Nat}{s:BA}{p n p':Nat}{c c':Int}{w w':World}(hr:r=none)(hg:w.grownBy w' (some a))(h:DR w' a s p' n c'):bw r a s p n c w (.returned (.tuple #[.int .i64 0,.string ⟨#[]⟩,.bool false])) w':=by
 subst hr;exact⟨hg,rfl,_,_,h⟩
theorem bw.yes {r:Option (Nat×LU×LU)}{op:Nat}{v r':LU}{a:Nat}{s:BA}{p n p':Nat}{c c':Int}{w w':World}(hr:r=some (op,v,r'))(hg:w.grownBy w' (some a))(h:DR w' a s p' n c')(hp:p≤p')(hd:(bl s).drop p'=r')(hc:c'=0↔c=0∧cJ 1 (bG v)=0):bw r a s p n c w (.returned (.tuple #[.int .i64 op,.string (bG v),.bool true])) w':=by
 subst hr;exact⟨hg,rfl,_,_,hp,h,hd,hc⟩
theorem jO {op:Nat}{l:LU}(h:kU mp (aK l)=none):bX op l=none:=by unfold bX;rw[h];split<;>rfl
theorem jP {op:Nat}{l v r:LU}(ho:op≠0)(h:kU mp (aK l)=some (v,r)):bX op l=jL op v r:=by unfold bX;rw[if_neg ho,h]
theorem nU {op:Nat}{v r:LU}(h:ay 41 (aK r)=false):jL op v r=none:=by unfold jL;rw[h];rfl
theorem kX {op:Nat}{v r:LU}(h:ay 41 (aK r)=true):jL op v r=some (op,v,aK ((aK r).drop 1)):=by unfold jL;rw[h];rfl
theorem pO (a:Nat)(s:BA)(p n q:Nat)(c:Int)(w:World)(hs:s.size≤4294967280)(hG:oO a w)(h:DR w a s p n c)(hq:p+aA aS ((bl s).drop p)=q)
  (H0:Hid (ay 61 ((bl s).drop q)=true)):
  Calls Tryz.prog 260 #[.pointer (some ⟨a,0,none⟩)] w (bw (bX 3 ((bl s).drop (q+1))) a s p n c w):=by
 have hB:=aG a s p n c w hs h
 rw[hq] at hB
 have HQ:Hid (p≤q):=by show _≤_;omega
 have HG:=ae hG
 clear hG hq h
 go_enter Tryz.func260,Tryz.ntmps260
 go_wp2_with fail
 refine hB.mono ?_;rintro e w1 ⟨rfl,hd,hg⟩
 have D1:=ae hd;have G1:=ae hg;clear hd hg hB
 go_wp2_with fail
 refine(aM 61 a s q n c w1 hs D1.out H0).mono ?_;rintro e w2 ⟨rfl,hd,hg⟩
 have D2:=ae hd;have G2:=ae (aj G1.out hg);clear hd hg D1 G1 H0
 obtain⟨q2,hq2⟩:∃ q2,(q+1)=q2:=⟨_,rfl⟩
 obtain⟨q3,hq3⟩:∃ q3,q2+aA aS ((bl s).drop q2)=q3:=⟨_,rfl⟩
 rw[hq2] at D2
 have HQ3:Hid (p≤q3):=by have:=HQ.out;show _≤_;omega
 have SK:Hid (aK ((bl s).drop (q+1))=(bl s).drop q3):=by show _=_;rw[hq2,bQ,hq3]
 have hB3:=aG a s q2 n c w2 hs D2.out
 rw[hq3] at hB3
 clear hq2 hq3 HQ
 go_wp2_with fail
 refine hB3.mono ?_;rintro e v1 ⟨rfl,hd,hg⟩
 have E1:=ae hd;have K1:=ae (aj G2.out hg);clear hd hg hB3
 obtain⟨f,y,k⟩:=E1.out.cells
 have c1:=k.c1
 clear k
 cases ht:kU mp ((bl s).drop q3) with
 | none=>
  have HT:=ae ht
  have EN:Hid (bX 3 ((bl s).drop (q+1))=none):=jO (by rw[SK.out];exact ht)
  clear ht
  go_wp2_with fail
  refine(cI eT a s q3 n c v1 hs E1.out HT).mono ?_;rintro e v2 ⟨rfl,hd,hg⟩
  have E2:=ae hd;have K2:=ae (aj K1.out hg);clear hd hg c1
  go_wp2_with fail
  go_ret3
  exact bw.no EN.out K2.out E2.out
 | some x=>
  obtain⟨v,r⟩:=x
  have HT:=ae ht
  obtain⟨t1,t2,t3,t4⟩:=dz E1.out.le ht
  have EN:Hid (bX 3 ((bl s).drop (q+1))=jL 3 v r):=jP (by decide) (by rw[SK.out];exact ht)
  have hvz:(bG v).size≤4294967280:=by rw[bV];omega
  obtain⟨q4,hq4⟩:∃ q4,q3+v.length+aA aS ((bl s).drop (q3+v.length))=q4:=⟨_,rfl⟩
  have SK2:Hid (aK r=(bl s).drop q4):=by show _=_;rw[←t2,bQ,hq4]
  have HQ4:Hid (p≤q4):=by have:=HQ3.out;show _≤_;omega
  have HB4:=ae (fun (c':Int) (W:World) (hD:DR W a s (q3+v.length) n c')=>aG a s (q3+v.length) n c' W hs hD)
  rw[hq4] at HB4
  clear ht t1 t2 t3 t4 hq4
  go_wp2_with fail
  refine(cu eT v r a s q3 n c v1 hs E1.out HT).mono ?_;rintro e v2 ⟨rfl,hd,hg⟩
  have E2:=ae hd;have K2:=ae (aj K1.out hg);clear hd hg c1
  go_wp2_with fail
  refine(aU 1 (bG v) _ (HG.out.kept K2.out).gl (by omega)).mono ?_;rintro e v3 ⟨rfl,hb⟩
  have E3:=ae (E2.out.below hb);have K3:=ae (bh K2.out hb);clear hb
  go_wp2_with fail
  refine(fA _ _ a s _ n c v3 E3.out).mono ?_;rintro e v4 ⟨rfl,hd,hg⟩
  have E4:=ae hd;have K4:=ae (aj K3.out hg);clear hd hg
  have NC:=ae (eB c (cJ 1 (bG v)))
  generalize jo c (cJ 1 (bG v))=c' at E4 NC
  go_wp2_with fail
  refine(HB4.out c' v4 E4.out).mono ?_;rintro e v5 ⟨rfl,hd,hg⟩
  have E5:=ae hd;have K5:=ae (aj K4.out hg);clear hd hg
  cases hh:ay 41 ((bl s).drop q4) with
  | false=>
   have HH:=ae hh
   have EM:Hid (bX 3 ((bl s).drop (q+1))=none):=by show _=_;rw[EN.out];exact nU (by rw[SK2.out];exact hh)
   clear hh
   go_wp2_with fail
   refine(aC 41 a s q4 n c' v5 hs E5.out HH).mono ?_;rintro e v6 ⟨rfl,hd,hg⟩
   have E6:=ae hd;have K6:=ae (aj K5.out hg);clear hd hg
   go_wp2_with fail
   go_ret3
   exact bw.no EM.out K6.out E6.out
  | true=>
   have HH:=ae hh
   obtain⟨q5,hq5⟩:∃ q5,q4+1+aA aS ((bl s).drop (q4+1))=q5:=⟨_,rfl⟩
   have EM:Hid (bX 3 ((bl s).drop (q+1))=some (3,v,(bl s).drop q5)):=by
    show _=_;rw[EN.out,kX (by rw[SK2.out];exact hh),SK2.out,List.drop_drop,bQ,hq5]
   have HB5:=ae (fun (W:World) (hD:DR W a s (q4+1) n c')=>aG a s (q4+1) n c' W hs hD)
   rw[hq5] at HB5
   have HQ5:Hid (p≤q5):=by have:=HQ4.out;show _≤_;omega
   clear hh hq5
   go_wp2_with fail
   refine(aM 41 a s q4 n c' v5 hs E5.out HH).mono ?_;rintro e v6 ⟨rfl,hd,hg⟩
   have E6:=ae hd;have K6:=ae (aj K5.out hg);clear hd hg
   go_wp2_with fail
   refine(HB5.out v6 E6.out).mono ?_;rintro e v7 ⟨rfl,hd,hg⟩
   have E7:=ae hd;have K7:=ae (aj K6.out hg);clear hd hg
   go_wp2_with fail
   go_ret3
   exact bw.yes EM.out K7.out E7.out HQ5.out rfl NC.out
theorem pP (a:Nat)(s:BA)(p n q:Nat)(c:Int)(w:World)(hs:s.size≤4294967280)(hG:oO a w)(h:DR w a s p n c)(hq:p+aA aS ((bl s).drop p)=q)
  (H0:Hid (ay 61 ((bl s).drop q)=false))(H1:Hid (ay 60 ((bl s).drop q)=true))(H2:Hid (ay 60 ((bl s).drop (q+1))=true)):
  Calls Tryz.prog 260 #[.pointer (some ⟨a,0,none⟩)] w (bw (bX 1 ((bl s).drop (q+2))) a s p n c w):=by
 have hB:=aG a s p n c w hs h
 rw[hq] at hB
 have HQ:Hid (p≤q):=by show _≤_;omega
 have HG:=ae hG
 clear hG hq h
 go_enter Tryz.func260,Tryz.ntmps260
 go_wp2_with fail
 refine hB.mono ?_;rintro e w1 ⟨rfl,hd,hg⟩
 have D1:=ae hd;have G1:=ae hg;clear hd hg hB
 go_wp2_with fail
 refine(aC 61 a s q n c w1 hs D1.out H0).mono ?_;rintro e w2 ⟨rfl,hd,hg⟩
 have D2:=ae hd;have G2:=ae (aj G1.out hg);clear hd hg D1 G1 H0
 go_wp2_with fail
 refine(aM 60 a s q n c w2 hs D2.out H1).mono ?_;rintro e w3 ⟨rfl,hd,hg⟩
 have D3:=ae hd;have G3:=ae (aj G2.out hg);clear hd hg D2 G2 H1
 go_wp2_with fail
 refine(aM 60 a s (q+1) n c w3 hs D3.out H2).mono ?_;rintro e w4 ⟨rfl,hd,hg⟩
 have D4:=ae hd;have G4:=ae (aj G3.out hg);clear hd hg D3 G3 H2
 obtain⟨q2,hq2⟩:∃ q2,(q+2)=q2:=⟨_,rfl⟩
 obtain⟨q3,hq3⟩:∃ q3,q2+aA aS ((bl s).drop q2)=q3:=⟨_,rfl⟩
 rw[hq2] at D4
 have HQ3:Hid (p≤q3):=by have:=HQ.out;show _≤_;omega
 have SK:Hid (aK ((bl s).drop (q+2))=(bl s).drop q3):=by show _=_;rw[hq2,bQ,hq3]
 have hB3:=aG a s q2 n c w4 hs D4.out
 rw[hq3] at hB3
 clear hq2 hq3 HQ
 go_wp2_with fail
 refine hB3.mono ?_;rintro e v1 ⟨rfl,hd,hg⟩
 have E1:=ae hd;have K1:=ae (aj G4.out hg);clear hd hg hB3
 obtain⟨f,y,k⟩:=E1.out.cells
 have c1:=k.c1
 clear k
 cases ht:kU mp ((bl s).drop q3) with
 | none=>
  have HT:=ae ht
  have EN:Hid (bX 1 ((bl s).drop (q+2))=none):=jO (by rw[SK.out];exact ht)
  clear ht
  go_wp2_with fail
  refine(cI eT a s q3 n c v1 hs E1.out HT).mono ?_;rintro e v2 ⟨rfl,hd,hg⟩
  have E2:=ae hd;have K2:=ae (aj K1.out hg);clear hd hg c1
  go_wp2_with fail
  go_ret3
  exact bw.no EN.out K2.out E2.out
 | some x=>
  obtain⟨v,r⟩:=x
  have HT:=ae ht
  obtain⟨t1,t2,t3,t4⟩:=dz E1.out.le ht
  have EN:Hid (bX 1 ((bl s).drop (q+2))=jL 1 v r):=jP (by decide) (by rw[SK.out];exact ht)
  have hvz:(bG v).size≤4294967280:=by rw[bV];omega
  obtain⟨q4,hq4⟩:∃ q4,q3+v.length+aA aS ((bl s).drop (q3+v.length))=q4:=⟨_,rfl⟩
  have SK2:Hid (aK r=(bl s).drop q4):=by show _=_;rw[←t2,bQ,hq4]
  have HQ4:Hid (p≤q4):=by have:=HQ3.out;show _≤_;omega
  have HB4:=ae (fun (c':Int) (W:World) (hD:DR W a s (q3+v.length) n c')=>aG a s (q3+v.length) n c' W hs hD)
  rw[hq4] at HB4
  clear ht t1 t2 t3 t4 hq4
  go_wp2_with fail
  refine(cu eT v r a s q3 n c v1 hs E1.out HT).mono ?_;rintro e v2 ⟨rfl,hd,hg⟩
  have E2:=ae hd;have K2:=ae (aj K1.out hg);clear hd hg c1
  go_wp2_with fail
  refine(aU 1 (bG v) _ (HG.out.kept K2.out).gl (by omega)).mono ?_;rintro e v3 ⟨rfl,hb⟩
  have E3:=ae (E2.out.below hb);have K3:=ae (bh K2.out hb);clear hb
  go_wp2_with fail
  refine(fA _ _ a s _ n c v3 E3.out).mono ?_;rintro e v4 ⟨rfl,hd,hg⟩
  have E4:=ae hd;have K4:=ae (aj K3.out hg);clear hd hg
  have NC:=ae (eB c (cJ 1 (bG v)))
  generalize jo c (cJ 1 (bG v))=c' at E4 NC
  go_wp2_with fail
  refine(HB4.out c' v4 E4.out).mono ?_;rintro e v5 ⟨rfl,hd,hg⟩
  have E5:=ae hd;have K5:=ae (aj K4.out hg);clear hd hg
  cases hh:ay 41 ((bl s).drop q4) with
  | false=>
   have HH:=ae hh
   have EM:Hid (bX 1 ((bl s).drop (q+2))=none):=by show _=_;rw[EN.out];exact nU (by rw[SK2.out];exact hh)
   clear hh
   go_wp2_with fail
   refine(aC 41 a s q4 n c' v5 hs E5.out HH).mono ?_;rintro e v6 ⟨rfl,hd,hg⟩
   have E6:=ae hd;have K6:=ae (aj K5.out hg);clear hd hg
   go_wp2_with fail
   go_ret3
   exact bw.no EM.out K6.out E6.out
  | true=>
   have HH:=ae hh
   obtain⟨q5,hq5⟩:∃ q5,q4+1+aA aS ((bl s).drop (q4+1))=q5:=⟨_,rfl⟩
   have EM:Hid (bX 1 ((bl s).drop (q+2))=some (1,v,(bl s).drop q5)):=by
    show _=_;rw[EN.out,kX (by rw[SK2.out];exact hh),SK2.out,List.drop_drop,bQ,hq5]
   have HB5:=ae (fun (W:World) (hD:DR W a s (q4+1) n c')=>aG a s (q4+1) n c' W hs hD)
   rw[hq5] at HB5
   have HQ5:Hid (p≤q5):=by have:=HQ4.out;show _≤_;omega
   clear hh hq5
   go_wp2_with fail
   refine(aM 41 a s q4 n c' v5 hs E5.out HH).mono ?_;rintro e v6 ⟨rfl,hd,hg⟩
   have E6:=ae hd;have K6:=ae (aj K5.out hg);clear hd hg
   go_wp2_with fail
   refine(HB5.out v6 E6.out).mono ?_;rintro e v7 ⟨rfl,hd,hg⟩
   have E7:=ae hd;have K7:=ae (aj K6.out hg);clear hd hg
   go_wp2_with fail
   go_ret3
   exact bw.yes EM.out K7.out E7.out HQ5.out rfl NC.out
theorem pQ (a:Nat)(s:BA)(p n q:Nat)(c:Int)(w:World)(hs:s.size≤4294967280)(hG:oO a w)(h:DR w a s p n c)(hq:p+aA aS ((bl s).drop p)=q)
  (H0:Hid (ay 61 ((bl s).drop q)=false))(H1:Hid (ay 60 ((bl s).drop q)=true))(H2:Hid (ay 60 ((bl s).drop (q+1))=false))(H3:Hid (ay 61 ((bl s).drop (q+1))=true)):
  Calls Tryz.prog 260 #[.pointer (some ⟨a,0,none⟩)] w (bw (bX 2 ((bl s).drop (q+2))) a s p n c w):=by
 have hB:=aG a s p n c w hs h
 rw[hq] at hB
 have HQ:Hid (p≤q):=by show _≤_;omega
 have HG:=ae hG
 clear hG hq h
 go_enter Tryz.func260,Tryz.ntmps260
 go_wp2_with fail
 refine hB.mono ?_;rintro e w1 ⟨rfl,hd,hg⟩
 have D1:=ae hd;have G1:=ae hg;clear hd hg hB
 go_wp2_with fail
 refine(aC 61 a s q n c w1 hs D1.out H0).mono ?_;rintro e w2 ⟨rfl,hd,hg⟩
 have D2:=ae hd;have G2:=ae (aj G1.out hg);clear hd hg D1 G1 H0
 go_wp2_with fail
 refine(aM 60 a s q n c w2 hs D2.out H1).mono ?_;rintro e w3 ⟨rfl,hd,hg⟩
 have D3:=ae hd;have G3:=ae (aj G2.out hg);clear hd hg D2 G2 H1
 go_wp2_with fail
 refine(aC 60 a s (q+1) n c w3 hs D3.out H2).mono ?_;rintro e w4 ⟨rfl,hd,hg⟩
 have D4:=ae hd;have G4:=ae (aj G3.out hg);clear hd hg D3 G3 H2
 go_wp2_with fail
 refine(aM 61 a s (q+1) n c w4 hs D4.out H3).mono ?_;rintro e w5 ⟨rfl,hd,hg⟩
 have D5:=ae hd;have G5:=ae (aj G4.out hg);clear hd hg D4 G4 H3
 obtain⟨q2,hq2⟩:∃ q2,(q+2)=q2:=⟨_,rfl⟩
 obtain⟨q3,hq3⟩:∃ q3,q2+aA aS ((bl s).drop q2)=q3:=⟨_,rfl⟩
 rw[hq2] at D5
 have HQ3:Hid (p≤q3):=by have:=HQ.out;show _≤_;omega
 have SK:Hid (aK ((bl s).drop (q+2))=(bl s).drop q3):=by show _=_;rw[hq2,bQ,hq3]
 have hB3:=aG a s q2 n c w5 hs D5.out
 rw[hq3] at hB3
 clear hq2 hq3 HQ
 go_wp2_with fail
 refine hB3.mono ?_;rintro e v1 ⟨rfl,hd,hg⟩
 have E1:=ae hd;have K1:=ae (aj G5.out hg);clear hd hg hB3
 obtain⟨f,y,k⟩:=E1.out.cells
 have c1:=k.c1
 clear k
 cases ht:kU mp ((bl s).drop q3) with
 | none=>
  have HT:=ae ht
  have EN:Hid (bX 2 ((bl s).drop (q+2))=none):=jO (by rw[SK.out];exact ht)
  clear ht
  go_wp2_with fail
  refine(cI eT a s q3 n c v1 hs E1.out HT).mono ?_;rintro e v2 ⟨rfl,hd,hg⟩
  have E2:=ae hd;have K2:=ae (aj K1.out hg);clear hd hg c1
  go_wp2_with fail
  go_ret3
  exact bw.no EN.out K2.out E2.out
 | some x=>
  obtain⟨v,r⟩:=x
  have HT:=ae ht
  obtain⟨t1,t2,t3,t4⟩:=dz E1.out.le ht
  have EN:Hid (bX 2 ((bl s).drop (q+2))=jL 2 v r):=jP (by decide) (by rw[SK.out];exact ht)
  have hvz:(bG v).size≤4294967280:=by rw[bV];omega
  obtain⟨q4,hq4⟩:∃ q4,q3+v.length+aA aS ((bl s).drop (q3+v.length))=q4:=⟨_,rfl⟩
  have SK2:Hid (aK r=(bl s).drop q4):=by show _=_;rw[←t2,bQ,hq4]
  have HQ4:Hid (p≤q4):=by have:=HQ3.out;show _≤_;omega
  have HB4:=ae (fun (c':Int) (W:World) (hD:DR W a s (q3+v.length) n c')=>aG a s (q3+v.length) n c' W hs hD)
  rw[hq4] at HB4
  clear ht t1 t2 t3 t4 hq4
  go_wp2_with fail
  refine(cu eT v r a s q3 n c v1 hs E1.out HT).mono ?_;rintro e v2 ⟨rfl,hd,hg⟩
  have E2:=ae hd;have K2:=ae (aj K1.out hg);clear hd hg c1
  go_wp2_with fail
  refine(aU 1 (bG v) _ (HG.out.kept K2.out).gl (by omega)).mono ?_;rintro e v3 ⟨rfl,hb⟩
  have E3:=ae (E2.out.below hb);have K3:=ae (bh K2.out hb);clear hb
  go_wp2_with fail
  refine(fA _ _ a s _ n c v3 E3.out).mono ?_;rintro e v4 ⟨rfl,hd,hg⟩
  have E4:=ae hd;have K4:=ae (aj K3.out hg);clear hd hg
  have NC:=ae (eB c (cJ 1 (bG v)))
  generalize jo c (cJ 1 (bG v))=c' at E4 NC
  go_wp2_with fail
  refine(HB4.out c' v4 E4.out).mono ?_;rintro e v5 ⟨rfl,hd,hg⟩
  have E5:=ae hd;have K5:=ae (aj K4.out hg);clear hd hg
  cases hh:ay 41 ((bl s).drop q4) with
  | false=>
   have HH:=ae hh
   have EM:Hid (bX 2 ((bl s).drop (q+2))=none):=by show _=_;rw[EN.out];exact nU (by rw[SK2.out];exact hh)
   clear hh
   go_wp2_with fail
   refine(aC 41 a s q4 n c' v5 hs E5.out HH).mono ?_;rintro e v6 ⟨rfl,hd,hg⟩
   have E6:=ae hd;have K6:=ae (aj K5.out hg);clear hd hg
   go_wp2_with fail
   go_ret3
   exact bw.no EM.out K6.out E6.out
  | true=>
   have HH:=ae hh
   obtain⟨q5,hq5⟩:∃ q5,q4+1+aA aS ((bl s).drop (q4+1))=q5:=⟨_,rfl⟩
   have EM:Hid (bX 2 ((bl s).drop (q+2))=some (2,v,(bl s).drop q5)):=by
    show _=_;rw[EN.out,kX (by rw[SK2.out];exact hh),SK2.out,List.drop_drop,bQ,hq5]
   have HB5:=ae (fun (W:World) (hD:DR W a s (q4+1) n c')=>aG a s (q4+1) n c' W hs hD)
   rw[hq5] at HB5
   have HQ5:Hid (p≤q5):=by have:=HQ4.out;show _≤_;omega
   clear hh hq5
   go_wp2_with fail
   refine(aM 41 a s q4 n c' v5 hs E5.out HH).mono ?_;rintro e v6 ⟨rfl,hd,hg⟩
   have E6:=ae hd;have K6:=ae (aj K5.out hg);clear hd hg
   go_wp2_with fail
   refine(HB5.out v6 E6.out).mono ?_;rintro e v7 ⟨rfl,hd,hg⟩
   have E7:=ae hd;have K7:=ae (aj K6.out hg);clear hd hg
   go_wp2_with fail
   go_ret3
   exact bw.yes EM.out K7.out E7.out HQ5.out rfl NC.out
theorem pR (a:Nat)(s:BA)(p n q:Nat)(c:Int)(w:World)(hs:s.size≤4294967280)(hG:oO a w)(h:DR w a s p n c)(hq:p+aA aS ((bl s).drop p)=q)
  (H0:Hid (ay 61 ((bl s).drop q)=false))(H1:Hid (ay 60 ((bl s).drop q)=false))(H2:Hid (ay 62 ((bl s).drop q)=true))(H3:Hid (ay 62 ((bl s).drop (q+1))=true)):
  Calls Tryz.prog 260 #[.pointer (some ⟨a,0,none⟩)] w (bw (bX 5 ((bl s).drop (q+2))) a s p n c w):=by
 have hB:=aG a s p n c w hs h
 rw[hq] at hB
 have HQ:Hid (p≤q):=by show _≤_;omega
 have HG:=ae hG
 clear hG hq h
 go_enter Tryz.func260,Tryz.ntmps260
 go_wp2_with fail
 refine hB.mono ?_;rintro e w1 ⟨rfl,hd,hg⟩
 have D1:=ae hd;have G1:=ae hg;clear hd hg hB
 go_wp2_with fail
 refine(aC 61 a s q n c w1 hs D1.out H0).mono ?_;rintro e w2 ⟨rfl,hd,hg⟩
 have D2:=ae hd;have G2:=ae (aj G1.out hg);clear hd hg D1 G1 H0
 go_wp2_with fail
 refine(aC 60 a s q n c w2 hs D2.out H1).mono ?_;rintro e w3 ⟨rfl,hd,hg⟩
 have D3:=ae hd;have G3:=ae (aj G2.out hg);clear hd hg D2 G2 H1
 go_wp2_with fail
 refine(aM 62 a s q n c w3 hs D3.out H2).mono ?_;rintro e w4 ⟨rfl,hd,hg⟩
 have D4:=ae hd;have G4:=ae (aj G3.out hg);clear hd hg D3 G3 H2
 go_wp2_with fail
 refine(aM 62 a s (q+1) n c w4 hs D4.out H3).mono ?_;rintro e w5 ⟨rfl,hd,hg⟩
 have D5:=ae hd;have G5:=ae (aj G4.out hg);clear hd hg D4 G4 H3
 obtain⟨q2,hq2⟩:∃ q2,(q+2)=q2:=⟨_,rfl⟩
 obtain⟨q3,hq3⟩:∃ q3,q2+aA aS ((bl s).drop q2)=q3:=⟨_,rfl⟩
 rw[hq2] at D5
 have HQ3:Hid (p≤q3):=by have:=HQ.out;show _≤_;omega
 have SK:Hid (aK ((bl s).drop (q+2))=(bl s).drop q3):=by show _=_;rw[hq2,bQ,hq3]
 have hB3:=aG a s q2 n c w5 hs D5.out
 rw[hq3] at hB3
 clear hq2 hq3 HQ
 go_wp2_with fail
 refine hB3.mono ?_;rintro e v1 ⟨rfl,hd,hg⟩
 have E1:=ae hd;have K1:=ae (aj G5.out hg);clear hd hg hB3
 obtain⟨f,y,k⟩:=E1.out.cells
 have c1:=k.c1
 clear k
 cases ht:kU mp ((bl s).drop q3) with
 | none=>
  have HT:=ae ht
  have EN:Hid (bX 5 ((bl s).drop (q+2))=none):=jO (by rw[SK.out];exact ht)
  clear ht
  go_wp2_with fail
  refine(cI eT a s q3 n c v1 hs E1.out HT).mono ?_;rintro e v2 ⟨rfl,hd,hg⟩
  have E2:=ae hd;have K2:=ae (aj K1.out hg);clear hd hg c1
  go_wp2_with fail
  go_ret3
  exact bw.no EN.out K2.out E2.out
 | some x=>
  obtain⟨v,r⟩:=x
  have HT:=ae ht
  obtain⟨t1,t2,t3,t4⟩:=dz E1.out.le ht
  have EN:Hid (bX 5 ((bl s).drop (q+2))=jL 5 v r):=jP (by decide) (by rw[SK.out];exact ht)
  have hvz:(bG v).size≤4294967280:=by rw[bV];omega
  obtain⟨q4,hq4⟩:∃ q4,q3+v.length+aA aS ((bl s).drop (q3+v.length))=q4:=⟨_,rfl⟩
  have SK2:Hid (aK r=(bl s).drop q4):=by show _=_;rw[←t2,bQ,hq4]
  have HQ4:Hid (p≤q4):=by have:=HQ3.out;show _≤_;omega
  have HB4:=ae (fun (c':Int) (W:World) (hD:DR W a s (q3+v.length) n c')=>aG a s (q3+v.length) n c' W hs hD)
  rw[hq4] at HB4
  clear ht t1 t2 t3 t4 hq4
  go_wp2_with fail
  refine(cu eT v r a s q3 n c v1 hs E1.out HT).mono ?_;rintro e v2 ⟨rfl,hd,hg⟩
  have E2:=ae hd;have K2:=ae (aj K1.out hg);clear hd hg c1
  go_wp2_with fail
  refine(aU 1 (bG v) _ (HG.out.kept K2.out).gl (by omega)).mono ?_;rintro e v3 ⟨rfl,hb⟩
  have E3:=ae (E2.out.below hb);have K3:=ae (bh K2.out hb);clear hb
  go_wp2_with fail
  refine(fA _ _ a s _ n c v3 E3.out).mono ?_;rintro e v4 ⟨rfl,hd,hg⟩
  have E4:=ae hd;have K4:=ae (aj K3.out hg);clear hd hg
  have NC:=ae (eB c (cJ 1 (bG v)))
  generalize jo c (cJ 1 (bG v))=c' at E4 NC
  go_wp2_with fail
  refine(HB4.out c' v4 E4.out).mono ?_;rintro e v5 ⟨rfl,hd,hg⟩
  have E5:=ae hd;have K5:=ae (aj K4.out hg);clear hd hg
  cases hh:ay 41 ((bl s).drop q4) with
  | false=>
   have HH:=ae hh
   have EM:Hid (bX 5 ((bl s).drop (q+2))=none):=by show _=_;rw[EN.out];exact nU (by rw[SK2.out];exact hh)
   clear hh
   go_wp2_with fail
   refine(aC 41 a s q4 n c' v5 hs E5.out HH).mono ?_;rintro e v6 ⟨rfl,hd,hg⟩
   have E6:=ae hd;have K6:=ae (aj K5.out hg);clear hd hg
   go_wp2_with fail
   go_ret3
   exact bw.no EM.out K6.out E6.out
  | true=>
   have HH:=ae hh
   obtain⟨q5,hq5⟩:∃ q5,q4+1+aA aS ((bl s).drop (q4+1))=q5:=⟨_,rfl⟩
   have EM:Hid (bX 5 ((bl s).drop (q+2))=some (5,v,(bl s).drop q5)):=by
    show _=_;rw[EN.out,kX (by rw[SK2.out];exact hh),SK2.out,List.drop_drop,bQ,hq5]
   have HB5:=ae (fun (W:World) (hD:DR W a s (q4+1) n c')=>aG a s (q4+1) n c' W hs hD)
   rw[hq5] at HB5
   have HQ5:Hid (p≤q5):=by have:=HQ4.out;show _≤_;omega
   clear hh hq5
   go_wp2_with fail
   refine(aM 41 a s q4 n c' v5 hs E5.out HH).mono ?_;rintro e v6 ⟨rfl,hd,hg⟩
   have E6:=ae hd;have K6:=ae (aj K5.out hg);clear hd hg
   go_wp2_with fail
   refine(HB5.out v6 E6.out).mono ?_;rintro e v7 ⟨rfl,hd,hg⟩
   have E7:=ae hd;have K7:=ae (aj K6.out hg);clear hd hg
   go_wp2_with fail
   go_ret3
   exact bw.yes EM.out K7.out E7.out HQ5.out rfl NC.out
theorem pS (a:Nat)(s:BA)(p n q:Nat)(c:Int)(w:World)(hs:s.size≤4294967280)(hG:oO a w)(h:DR w a s p n c)(hq:p+aA aS ((bl s).drop p)=q)
  (H0:Hid (ay 61 ((bl s).drop q)=false))(H1:Hid (ay 60 ((bl s).drop q)=false))(H2:Hid (ay 62 ((bl s).drop q)=true))(H3:Hid (ay 62 ((bl s).drop (q+1))=false))(H4:Hid (ay 61 ((bl s).drop (q+1))=true)):
  Calls Tryz.prog 260 #[.pointer (some ⟨a,0,none⟩)] w (bw (bX 4 ((bl s).drop (q+2))) a s p n c w):=by
 have hB:=aG a s p n c w hs h
 rw[hq] at hB
 have HQ:Hid (p≤q):=by show _≤_;omega
 have HG:=ae hG
 clear hG hq h
 go_enter Tryz.func260,Tryz.ntmps260
 go_wp2_with fail
 refine hB.mono ?_;rintro e w1 ⟨rfl,hd,hg⟩
 have D1:=ae hd;have G1:=ae hg;clear hd hg hB
 go_wp2_with fail
 refine(aC 61 a s q n c w1 hs D1.out H0).mono ?_;rintro e w2 ⟨rfl,hd,hg⟩
 have D2:=ae hd;have G2:=ae (aj G1.out hg);clear hd hg D1 G1 H0
 go_wp2_with fail
 refine(aC 60 a s q n c w2 hs D2.out H1).mono ?_;rintro e w3 ⟨rfl,hd,hg⟩
 have D3:=ae hd;have G3:=ae (aj G2.out hg);clear hd hg D2 G2 H1
 go_wp2_with fail
 refine(aM 62 a s q n c w3 hs D3.out H2).mono ?_;rintro e w4 ⟨rfl,hd,hg⟩
 have D4:=ae hd;have G4:=ae (aj G3.out hg);clear hd hg D3 G3 H2
 go_wp2_with fail
 refine(aC 62 a s (q+1) n c w4 hs D4.out H3).mono ?_;rintro e w5 ⟨rfl,hd,hg⟩
 have D5:=ae hd;have G5:=ae (aj G4.out hg);clear hd hg D4 G4 H3
 go_wp2_with fail
 refine(aM 61 a s (q+1) n c w5 hs D5.out H4).mono ?_;rintro e w6 ⟨rfl,hd,hg⟩
 have D6:=ae hd;have G6:=ae (aj G5.out hg);clear hd hg D5 G5 H4
 obtain⟨q2,hq2⟩:∃ q2,(q+2)=q2:=⟨_,rfl⟩
 obtain⟨q3,hq3⟩:∃ q3,q2+aA aS ((bl s).drop q2)=q3:=⟨_,rfl⟩
 rw[hq2] at D6
 have HQ3:Hid (p≤q3):=by have:=HQ.out;show _≤_;omega
 have SK:Hid (aK ((bl s).drop (q+2))=(bl s).drop q3):=by show _=_;rw[hq2,bQ,hq3]
 have hB3:=aG a s q2 n c w6 hs D6.out
 rw[hq3] at hB3
 clear hq2 hq3 HQ
 go_wp2_with fail
 refine hB3.mono ?_;rintro e v1 ⟨rfl,hd,hg⟩
 have E1:=ae hd;have K1:=ae (aj G6.out hg);clear hd hg hB3
 obtain⟨f,y,k⟩:=E1.out.cells
 have c1:=k.c1
 clear k
 cases ht:kU mp ((bl s).drop q3) with
 | none=>
  have HT:=ae ht
  have EN:Hid (bX 4 ((bl s).drop (q+2))=none):=jO (by rw[SK.out];exact ht)
  clear ht
  go_wp2_with fail
  refine(cI eT a s q3 n c v1 hs E1.out HT).mono ?_;rintro e v2 ⟨rfl,hd,hg⟩
  have E2:=ae hd;have K2:=ae (aj K1.out hg);clear hd hg c1
  go_wp2_with fail
  go_ret3
  exact bw.no EN.out K2.out E2.out
 | some x=>
  obtain⟨v,r⟩:=x
  have HT:=ae ht
  obtain⟨t1,t2,t3,t4⟩:=dz E1.out.le ht
  have EN:Hid (bX 4 ((bl s).drop (q+2))=jL 4 v r):=jP (by decide) (by rw[SK.out];exact ht)
  have hvz:(bG v).size≤4294967280:=by rw[bV];omega
  obtain⟨q4,hq4⟩:∃ q4,q3+v.length+aA aS ((bl s).drop (q3+v.length))=q4:=⟨_,rfl⟩
  have SK2:Hid (aK r=(bl s).drop q4):=by show _=_;rw[←t2,bQ,hq4]
  have HQ4:Hid (p≤q4):=by have:=HQ3.out;show _≤_;omega
  have HB4:=ae (fun (c':Int) (W:World) (hD:DR W a s (q3+v.length) n c')=>aG a s (q3+v.length) n c' W hs hD)
  rw[hq4] at HB4
  clear ht t1 t2 t3 t4 hq4
  go_wp2_with fail
  refine(cu eT v r a s q3 n c v1 hs E1.out HT).mono ?_;rintro e v2 ⟨rfl,hd,hg⟩
  have E2:=ae hd;have K2:=ae (aj K1.out hg);clear hd hg c1
  go_wp2_with fail
  refine(aU 1 (bG v) _ (HG.out.kept K2.out).gl (by omega)).mono ?_;rintro e v3 ⟨rfl,hb⟩
  have E3:=ae (E2.out.below hb);have K3:=ae (bh K2.out hb);clear hb
  go_wp2_with fail
  refine(fA _ _ a s _ n c v3 E3.out).mono ?_;rintro e v4 ⟨rfl,hd,hg⟩
  have E4:=ae hd;have K4:=ae (aj K3.out hg);clear hd hg
  have NC:=ae (eB c (cJ 1 (bG v)))
  generalize jo c (cJ 1 (bG v))=c' at E4 NC
  go_wp2_with fail
  refine(HB4.out c' v4 E4.out).mono ?_;rintro e v5 ⟨rfl,hd,hg⟩
  have E5:=ae hd;have K5:=ae (aj K4.out hg);clear hd hg
  cases hh:ay 41 ((bl s).drop q4) with
  | false=>
   have HH:=ae hh
   have EM:Hid (bX 4 ((bl s).drop (q+2))=none):=by show _=_;rw[EN.out];exact nU (by rw[SK2.out];exact hh)
   clear hh
   go_wp2_with fail
   refine(aC 41 a s q4 n c' v5 hs E5.out HH).mono ?_;rintro e v6 ⟨rfl,hd,hg⟩
   have E6:=ae hd;have K6:=ae (aj K5.out hg);clear hd hg
   go_wp2_with fail
   go_ret3
   exact bw.no EM.out K6.out E6.out
  | true=>
   have HH:=ae hh
   obtain⟨q5,hq5⟩:∃ q5,q4+1+aA aS ((bl s).drop (q4+1))=q5:=⟨_,rfl⟩
   have EM:Hid (bX 4 ((bl s).drop (q+2))=some (4,v,(bl s).drop q5)):=by
    show _=_;rw[EN.out,kX (by rw[SK2.out];exact hh),SK2.out,List.drop_drop,bQ,hq5]
   have HB5:=ae (fun (W:World) (hD:DR W a s (q4+1) n c')=>aG a s (q4+1) n c' W hs hD)
   rw[hq5] at HB5
   have HQ5:Hid (p≤q5):=by have:=HQ4.out;show _≤_;omega
   clear hh hq5
   go_wp2_with fail
   refine(aM 41 a s q4 n c' v5 hs E5.out HH).mono ?_;rintro e v6 ⟨rfl,hd,hg⟩
   have E6:=ae hd;have K6:=ae (aj K5.out hg);clear hd hg
   go_wp2_with fail
   refine(HB5.out v6 E6.out).mono ?_;rintro e v7 ⟨rfl,hd,hg⟩
   have E7:=ae hd;have K7:=ae (aj K6.out hg);clear hd hg
   go_wp2_with fail
   go_ret3
   exact bw.yes EM.out K7.out E7.out HQ5.out rfl NC.out
theorem pT (a:Nat)(s:BA)(p n q:Nat)(c:Int)(w:World)(hs:s.size≤4294967280)(hG:oO a w)(h:DR w a s p n c)(hq:p+aA aS ((bl s).drop p)=q)
  (H0:Hid (ay 61 ((bl s).drop q)=false))(H1:Hid (ay 60 ((bl s).drop q)=true))(H2:Hid (ay 60 ((bl s).drop (q+1))=false))(H3:Hid (ay 61 ((bl s).drop (q+1))=false)):
  Calls Tryz.prog 260 #[.pointer (some ⟨a,0,none⟩)] w (bw (bX 0 ((bl s).drop (q+1))) a s p n c w):=by
 have hB:=aG a s p n c w hs h
 rw[hq] at hB
 have HQ:Hid (p≤q):=by show _≤_;omega
 have HG:=ae hG
 clear hG hq h
 go_enter Tryz.func260,Tryz.ntmps260
 go_wp2_with fail
 refine hB.mono ?_;rintro e w1 ⟨rfl,hd,hg⟩
 have D1:=ae hd;have G1:=ae hg;clear hd hg hB
 go_wp2_with fail
 refine(aC 61 a s q n c w1 hs D1.out H0).mono ?_;rintro e w2 ⟨rfl,hd,hg⟩
 have D2:=ae hd;have G2:=ae (aj G1.out hg);clear hd hg D1 G1 H0
 go_wp2_with fail
 refine(aM 60 a s q n c w2 hs D2.out H1).mono ?_;rintro e w3 ⟨rfl,hd,hg⟩
 have D3:=ae hd;have G3:=ae (aj G2.out hg);clear hd hg D2 G2 H1
 go_wp2_with fail
 refine(aC 60 a s (q+1) n c w3 hs D3.out H2).mono ?_;rintro e w4 ⟨rfl,hd,hg⟩
 have D4:=ae hd;have G4:=ae (aj G3.out hg);clear hd hg D3 G3 H2
 go_wp2_with fail
 refine(aC 61 a s (q+1) n c w4 hs D4.out H3).mono ?_;rintro e w5 ⟨rfl,hd,hg⟩
 have D5:=ae hd;have G5:=ae (aj G4.out hg);clear hd hg D4 G4 H3
 go_wp2_with fail
 go_ret3
 exact bw.no (by unfold bX;rfl) G5.out D5.out
theorem pU (a:Nat)(s:BA)(p n q:Nat)(c:Int)(w:World)(hs:s.size≤4294967280)(hG:oO a w)(h:DR w a s p n c)(hq:p+aA aS ((bl s).drop p)=q)
  (H0:Hid (ay 61 ((bl s).drop q)=false))(H1:Hid (ay 60 ((bl s).drop q)=false))(H2:Hid (ay 62 ((bl s).drop q)=true))(H3:Hid (ay 62 ((bl s).drop (q+1))=false))(H4:Hid (ay 61 ((bl s).drop (q+1))=false)):
  Calls Tryz.prog 260 #[.pointer (some ⟨a,0,none⟩)] w (bw (bX 0 ((bl s).drop (q+1))) a s p n c w):=by
 have hB:=aG a s p n c w hs h
 rw[hq] at hB
 have HQ:Hid (p≤q):=by show _≤_;omega
 have HG:=ae hG
 clear hG hq h
 go_enter Tryz.func260,Tryz.ntmps260
 go_wp2_with fail
 refine hB.mono ?_;rintro e w1 ⟨rfl,hd,hg⟩
 have D1:=ae hd;have G1:=ae hg;clear hd hg hB
 go_wp2_with fail
 refine(aC 61 a s q n c w1 hs D1.out H0).mono ?_;rintro e w2 ⟨rfl,hd,hg⟩
 have D2:=ae hd;have G2:=ae (aj G1.out hg);clear hd hg D1 G1 H0
 go_wp2_with fail
 refine(aC 60 a s q n c w2 hs D2.out H1).mono ?_;rintro e w3 ⟨rfl,hd,hg⟩
 have D3:=ae hd;have G3:=ae (aj G2.out hg);clear hd hg D2 G2 H1
 go_wp2_with fail
 refine(aM 62 a s q n c w3 hs D3.out H2).mono ?_;rintro e w4 ⟨rfl,hd,hg⟩
 have D4:=ae hd;have G4:=ae (aj G3.out hg);clear hd hg D3 G3 H2
 go_wp2_with fail
 refine(aC 62 a s (q+1) n c w4 hs D4.out H3).mono ?_;rintro e w5 ⟨rfl,hd,hg⟩
 have D5:=ae hd;have G5:=ae (aj G4.out hg);clear hd hg D4 G4 H3
 go_wp2_with fail
 refine(aC 61 a s (q+1) n c w5 hs D5.out H4).mono ?_;rintro e w6 ⟨rfl,hd,hg⟩
 have D6:=ae hd;have G6:=ae (aj G5.out hg);clear hd hg D5 G5 H4
 go_wp2_with fail
 go_ret3
 exact bw.no (by unfold bX;rfl) G6.out D6.out
theorem pV (a:Nat)(s:BA)(p n q:Nat)(c:Int)(w:World)(hs:s.size≤4294967280)(hG:oO a w)(h:DR w a s p n c)(hq:p+aA aS ((bl s).drop p)=q)
  (H0:Hid (ay 61 ((bl s).drop q)=false))(H1:Hid (ay 60 ((bl s).drop q)=false))(H2:Hid (ay 62 ((bl s).drop q)=false)):
  Calls Tryz.prog 260 #[.pointer (some ⟨a,0,none⟩)] w (bw (bX 0 ((bl s).drop q)) a s p n c w):=by
 have hB:=aG a s p n c w hs h
 rw[hq] at hB
 have HQ:Hid (p≤q):=by show _≤_;omega
 have HG:=ae hG
 clear hG hq h
 go_enter Tryz.func260,Tryz.ntmps260
 go_wp2_with fail
 refine hB.mono ?_;rintro e w1 ⟨rfl,hd,hg⟩
 have D1:=ae hd;have G1:=ae hg;clear hd hg hB
 go_wp2_with fail
 refine(aC 61 a s q n c w1 hs D1.out H0).mono ?_;rintro e w2 ⟨rfl,hd,hg⟩
 have D2:=ae hd;have G2:=ae (aj G1.out hg);clear hd hg D1 G1 H0
 go_wp2_with fail
 refine(aC 60 a s q n c w2 hs D2.out H1).mono ?_;rintro e w3 ⟨rfl,hd,hg⟩
 have D3:=ae hd;have G3:=ae (aj G2.out hg);clear hd hg D2 G2 H1
 go_wp2_with fail
 refine(aC 62 a s q n c w3 hs D3.out H2).mono ?_;rintro e w4 ⟨rfl,hd,hg⟩
 have D4:=ae hd;have G4:=ae (aj G3.out hg);clear hd hg D3 G3 H2
 go_wp2_with fail
 go_ret3
 exact bw.no (by unfold bX;rfl) G4.out D4.out
theorem tV (a:Nat)(s:BA)(p n:Nat)(c:Int)(w:World)(hs:s.size≤4294967280)(hG:oO a w)(h:DR w a s p n c):
  Calls Tryz.prog 260 #[.pointer (some ⟨a,0,none⟩)] w (bw (tO ((bl s).drop p)) a s p n c w):=by
 obtain⟨q,hq⟩:∃ q,p+aA aS ((bl s).drop p)=q:=⟨_,rfl⟩
 have e0:tO ((bl s).drop p)=bX (qt ((bl s).drop q)).1 (qt ((bl s).drop q)).2:=by unfold tO;rw[bQ,hq]
 rw[e0]
 cases h61:ay 61 ((bl s).drop q) with
 | true=>
  have e:qt ((bl s).drop q)=(3,(bl s).drop (q+1)):=by unfold qt;rw[h61,List.drop_drop];rfl
  rw[e];exact pO a s p n q c w hs hG h hq h61
 | false=>
 cases h60:ay 60 ((bl s).drop q) with
 | true=>
  cases k60:ay 60 ((bl s).drop (q+1)) with
  | true=>
   have e:qt ((bl s).drop q)=(1,(bl s).drop (q+2)):=by unfold qt;rw[h61,h60,List.drop_drop,k60,List.drop_drop];rfl
   rw[e];exact pP a s p n q c w hs hG h hq h61 h60 k60
  | false=>
  cases k61:ay 61 ((bl s).drop (q+1)) with
  | true=>
   have e:qt ((bl s).drop q)=(2,(bl s).drop (q+2)):=by unfold qt;rw[h61,h60,List.drop_drop,k60,k61,List.drop_drop];rfl
   rw[e];exact pQ a s p n q c w hs hG h hq h61 h60 k60 k61
  | false=>
   have e:qt ((bl s).drop q)=(0,(bl s).drop (q+1)):=by unfold qt;rw[h61,h60,List.drop_drop,k60,k61];rfl
   rw[e];exact pT a s p n q c w hs hG h hq h61 h60 k60 k61
 | false=>
 cases h62:ay 62 ((bl s).drop q) with
 | true=>
  cases k62:ay 62 ((bl s).drop (q+1)) with
  | true=>
   have e:qt ((bl s).drop q)=(5,(bl s).drop (q+2)):=by unfold qt;rw[h61,h60,h62,List.drop_drop,k62,List.drop_drop];rfl
   rw[e];exact pR a s p n q c w hs hG h hq h61 h60 h62 k62
  | false=>
  cases k61:ay 61 ((bl s).drop (q+1)) with
  | true=>
   have e:qt ((bl s).drop q)=(4,(bl s).drop (q+2)):=by unfold qt;rw[h61,h60,h62,List.drop_drop,k62,k61,List.drop_drop];rfl
   rw[e];exact pS a s p n q c w hs hG h hq h61 h60 h62 k62 k61
  | false=>
   have e:qt ((bl s).drop q)=(0,(bl s).drop (q+1)):=by unfold qt;rw[h61,h60,h62,List.drop_drop,k62,k61];rfl
   rw[e];exact pU a s p n q c w hs hG h hq h61 h60 h62 k62 k61
 | false=>
  have e:qt ((bl s).drop q)=(0,(bl s).drop q):=by unfold qt;rw[h61,h60,h62];rfl
  rw[e];exact pV a s p n q c w hs hG h hq h61 h60 h62
end
end Go.Proofs.YtlglfpbhapmhiaaGreatDoor
