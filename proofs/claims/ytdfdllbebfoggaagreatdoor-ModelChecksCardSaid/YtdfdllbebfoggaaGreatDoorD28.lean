/- A part of the proof that ModelChecks holds. No condition. -/
import Derived.Test.YtdfdllbebfoggaaGreatDoorD27
set_option maxRecDepth 100000
set_option maxHeartbeats 20000000
set_option linter.unusedVariables false
set_option linter.unusedSimpArgs false
namespace Go.Proofs.YtdfdllbebfoggaaGreatDoor
section
open Go.RowKit Go.Deep
def GlA (a:Nat)(w:World):Prop:=∃ w0,Gl w0∧Below w0.heap.size w0 w∧w0.heap.size≤a
theorem GlA.gl {a:Nat}{w:World}(h:GlA a w):Gl w:=by obtain⟨w0,h1,h2,_⟩:=h;exact h1.below h2
theorem GlA.kept {a:Nat}{w w':World}(h:GlA a w)(hg:w.grownBy w' (some a)):GlA a w':=by
 obtain⟨w0,h1,h2,h3⟩:=h;exact⟨w0,h1,below_grown h2 hg h3,h3⟩
theorem GlA.below {a:Nat}{w w':World}(h:GlA a w)(hb:Below w.heap.size w w'):GlA a w':=by
 obtain⟨w0,h1,h2,h3⟩:=h;exact⟨w0,h1,bthen h2 hb,h3⟩
def RelPost (r:Option (Nat×LU×LU))(a:Nat)(s:BA)(p n:Nat)(c:Int)(w:World)(e:Ending)(w':World):Prop:=
 w.grownBy w' (some a)∧match r with
  | none=>e=.returned (.tuple #[.int .i64 0,.string ⟨#[]⟩,.bool false])∧∃ p' c',DR w' a s p' n c'
  | some (op,v,r)=>e=.returned (.tuple #[.int .i64 op,.string (mkB v),.bool true])∧∃ p' c',p≤p'∧DR w' a s p' n c'∧(bl s).drop p'=r∧(c'=0↔c=0∧verE 1 (mkB v)=0)
theorem RelPost.no {r:Option (Nat×LU×LU)}{a:Nat}{s:BA}{p n p':Nat}{c c':Int}{w w':World}(hr:r=none)(hg:w.grownBy w' (some a))(h:DR w' a s p' n c'):RelPost r a s p n c w (.returned (.tuple #[.int .i64 0,.string ⟨#[]⟩,.bool false])) w':=by
 subst hr;exact⟨hg,rfl,_,_,h⟩
theorem RelPost.yes {r:Option (Nat×LU×LU)}{op:Nat}{v r':LU}{a:Nat}{s:BA}{p n p':Nat}{c c':Int}{w w':World}(hr:r=some (op,v,r'))(hg:w.grownBy w' (some a))(h:DR w' a s p' n c')(hp:p≤p')(hd:(bl s).drop p'=r')(hc:c'=0↔c=0∧verE 1 (mkB v)=0):RelPost r a s p n c w (.returned (.tuple #[.int .i64 op,.string (mkB v),.bool true])) w':=by
 subst hr;exact⟨hg,rfl,_,_,hp,h,hd,hc⟩
theorem relV_none {op:Nat}{l:LU}(h:tok nendV (skipL l)=none):dRelV op l=none:=by unfold dRelV;rw[h];split<;>rfl
theorem relV_some {op:Nat}{l v r:LU}(ho:op≠0)(h:tok nendV (skipL l)=some (v,r)):dRelV op l=dRelE op v r:=by unfold dRelV;rw[if_neg ho,h]
theorem relE_no {op:Nat}{v r:LU}(h:head0 41 (skipL r)=false):dRelE op v r=none:=by unfold dRelE;rw[h];rfl
theorem relE_yes {op:Nat}{v r:LU}(h:head0 41 (skipL r)=true):dRelE op v r=some (op,v,skipL ((skipL r).drop 1)):=by unfold dRelE;rw[h];rfl
theorem ddep_relation_a (a:Nat)(s:BA)(p n q:Nat)(c:Int)(w:World)(hs:s.size≤4294967280)(hG:GlA a w)(h:DR w a s p n c)(hq:p+runN blankB ((bl s).drop p)=q)
  (H0:Hid (head0 61 ((bl s).drop q)=true)):
  Calls Tryz.prog 266 #[.pointer (some ⟨a,0,none⟩)] w (RelPost (dRelV 3 ((bl s).drop (q+1))) a s p n c w):=by
 have hB:=ddep_blanks a s p n c w hs h
 rw[hq] at hB
 have HQ:Hid (p≤q):=by show _≤_;omega
 have HG:=hid hG
 clear hG hq h
 go_enter Tryz.func266,Tryz.ntmps266
 go_wp2_with fail
 refine hB.mono ?_;rintro e w1 ⟨rfl,hd,hg⟩
 have D1:=hid hd;have G1:=hid hg;clear hd hg hB
 go_wp2_with fail
 refine(ddep_sign_yes 61 a s q n c w1 hs D1.out H0).mono ?_;rintro e w2 ⟨rfl,hd,hg⟩
 have D2:=hid hd;have G2:=hid (grown_thru G1.out hg);clear hd hg D1 G1 H0
 obtain⟨q2,hq2⟩:∃ q2,(q+1)=q2:=⟨_,rfl⟩
 obtain⟨q3,hq3⟩:∃ q3,q2+runN blankB ((bl s).drop q2)=q3:=⟨_,rfl⟩
 rw[hq2] at D2
 have HQ3:Hid (p≤q3):=by have:=HQ.out;show _≤_;omega
 have SK:Hid (skipL ((bl s).drop (q+1))=(bl s).drop q3):=by show _=_;rw[hq2,skip_at,hq3]
 have hB3:=ddep_blanks a s q2 n c w2 hs D2.out
 rw[hq3] at hB3
 clear hq2 hq3 HQ
 go_wp2_with fail
 refine hB3.mono ?_;rintro e v1 ⟨rfl,hd,hg⟩
 have E1:=hid hd;have K1:=hid (grown_thru G2.out hg);clear hd hg hB3
 obtain⟨f,y,k⟩:=E1.out.cells
 have c1:=k.c1
 clear k
 cases ht:tok nendV ((bl s).drop q3) with
 | none=>
  have HT:=hid ht
  have EN:Hid (dRelV 3 ((bl s).drop (q+1))=none):=relV_none (by rw[SK.out];exact ht)
  clear ht
  go_wp2_with fail
  refine(ddep_until_none endsV_eq a s q3 n c v1 hs E1.out HT).mono ?_;rintro e v2 ⟨rfl,hd,hg⟩
  have E2:=hid hd;have K2:=hid (grown_thru K1.out hg);clear hd hg c1
  go_wp2_with fail
  go_ret3
  exact RelPost.no EN.out K2.out E2.out
 | some x=>
  obtain⟨v,r⟩:=x
  have HT:=hid ht
  obtain⟨t1,t2,t3,t4⟩:=tok_place E1.out.le ht
  have EN:Hid (dRelV 3 ((bl s).drop (q+1))=dRelE 3 v r):=relV_some (by decide) (by rw[SK.out];exact ht)
  have hvz:(mkB v).size≤4294967280:=by rw[mk_size];omega
  obtain⟨q4,hq4⟩:∃ q4,q3+v.length+runN blankB ((bl s).drop (q3+v.length))=q4:=⟨_,rfl⟩
  have SK2:Hid (skipL r=(bl s).drop q4):=by show _=_;rw[←t2,skip_at,hq4]
  have HQ4:Hid (p≤q4):=by have:=HQ3.out;show _≤_;omega
  have HB4:=hid (fun (c':Int) (W:World) (hD:DR W a s (q3+v.length) n c')=>ddep_blanks a s (q3+v.length) n c' W hs hD)
  rw[hq4] at HB4
  clear ht t1 t2 t3 t4 hq4
  go_wp2_with fail
  refine(ddep_until_some endsV_eq v r a s q3 n c v1 hs E1.out HT).mono ?_;rintro e v2 ⟨rfl,hd,hg⟩
  have E2:=hid hd;have K2:=hid (grown_thru K1.out hg);clear hd hg c1
  go_wp2_with fail
  refine(version_Check_any 1 (mkB v) _ (HG.out.kept K2.out).gl (by omega)).mono ?_;rintro e v3 ⟨rfl,hb⟩
  have E3:=hid (E2.out.below hb);have K3:=hid (only_below K2.out hb);clear hb
  go_wp2_with fail
  refine(ddep_note _ _ a s _ n c v3 E3.out).mono ?_;rintro e v4 ⟨rfl,hd,hg⟩
  have E4:=hid hd;have K4:=hid (grown_thru K3.out hg);clear hd hg
  have NC:=hid (noteC_zero c (verE 1 (mkB v)))
  generalize noteC c (verE 1 (mkB v))=c' at E4 NC
  go_wp2_with fail
  refine(HB4.out c' v4 E4.out).mono ?_;rintro e v5 ⟨rfl,hd,hg⟩
  have E5:=hid hd;have K5:=hid (grown_thru K4.out hg);clear hd hg
  cases hh:head0 41 ((bl s).drop q4) with
  | false=>
   have HH:=hid hh
   have EM:Hid (dRelV 3 ((bl s).drop (q+1))=none):=by show _=_;rw[EN.out];exact relE_no (by rw[SK2.out];exact hh)
   clear hh
   go_wp2_with fail
   refine(ddep_sign_no 41 a s q4 n c' v5 hs E5.out HH).mono ?_;rintro e v6 ⟨rfl,hd,hg⟩
   have E6:=hid hd;have K6:=hid (grown_thru K5.out hg);clear hd hg
   go_wp2_with fail
   go_ret3
   exact RelPost.no EM.out K6.out E6.out
  | true=>
   have HH:=hid hh
   obtain⟨q5,hq5⟩:∃ q5,q4+1+runN blankB ((bl s).drop (q4+1))=q5:=⟨_,rfl⟩
   have EM:Hid (dRelV 3 ((bl s).drop (q+1))=some (3,v,(bl s).drop q5)):=by
    show _=_;rw[EN.out,relE_yes (by rw[SK2.out];exact hh),SK2.out,List.drop_drop,skip_at,hq5]
   have HB5:=hid (fun (W:World) (hD:DR W a s (q4+1) n c')=>ddep_blanks a s (q4+1) n c' W hs hD)
   rw[hq5] at HB5
   have HQ5:Hid (p≤q5):=by have:=HQ4.out;show _≤_;omega
   clear hh hq5
   go_wp2_with fail
   refine(ddep_sign_yes 41 a s q4 n c' v5 hs E5.out HH).mono ?_;rintro e v6 ⟨rfl,hd,hg⟩
   have E6:=hid hd;have K6:=hid (grown_thru K5.out hg);clear hd hg
   go_wp2_with fail
   refine(HB5.out v6 E6.out).mono ?_;rintro e v7 ⟨rfl,hd,hg⟩
   have E7:=hid hd;have K7:=hid (grown_thru K6.out hg);clear hd hg
   go_wp2_with fail
   go_ret3
   exact RelPost.yes EM.out K7.out E7.out HQ5.out rfl NC.out
theorem ddep_relation_b (a:Nat)(s:BA)(p n q:Nat)(c:Int)(w:World)(hs:s.size≤4294967280)(hG:GlA a w)(h:DR w a s p n c)(hq:p+runN blankB ((bl s).drop p)=q)
  (H0:Hid (head0 61 ((bl s).drop q)=false))(H1:Hid (head0 60 ((bl s).drop q)=true))(H2:Hid (head0 60 ((bl s).drop (q+1))=true)):
  Calls Tryz.prog 266 #[.pointer (some ⟨a,0,none⟩)] w (RelPost (dRelV 1 ((bl s).drop (q+2))) a s p n c w):=by
 have hB:=ddep_blanks a s p n c w hs h
 rw[hq] at hB
 have HQ:Hid (p≤q):=by show _≤_;omega
 have HG:=hid hG
 clear hG hq h
 go_enter Tryz.func266,Tryz.ntmps266
 go_wp2_with fail
 refine hB.mono ?_;rintro e w1 ⟨rfl,hd,hg⟩
 have D1:=hid hd;have G1:=hid hg;clear hd hg hB
 go_wp2_with fail
 refine(ddep_sign_no 61 a s q n c w1 hs D1.out H0).mono ?_;rintro e w2 ⟨rfl,hd,hg⟩
 have D2:=hid hd;have G2:=hid (grown_thru G1.out hg);clear hd hg D1 G1 H0
 go_wp2_with fail
 refine(ddep_sign_yes 60 a s q n c w2 hs D2.out H1).mono ?_;rintro e w3 ⟨rfl,hd,hg⟩
 have D3:=hid hd;have G3:=hid (grown_thru G2.out hg);clear hd hg D2 G2 H1
 go_wp2_with fail
 refine(ddep_sign_yes 60 a s (q+1) n c w3 hs D3.out H2).mono ?_;rintro e w4 ⟨rfl,hd,hg⟩
 have D4:=hid hd;have G4:=hid (grown_thru G3.out hg);clear hd hg D3 G3 H2
 obtain⟨q2,hq2⟩:∃ q2,(q+2)=q2:=⟨_,rfl⟩
 obtain⟨q3,hq3⟩:∃ q3,q2+runN blankB ((bl s).drop q2)=q3:=⟨_,rfl⟩
 rw[hq2] at D4
 have HQ3:Hid (p≤q3):=by have:=HQ.out;show _≤_;omega
 have SK:Hid (skipL ((bl s).drop (q+2))=(bl s).drop q3):=by show _=_;rw[hq2,skip_at,hq3]
 have hB3:=ddep_blanks a s q2 n c w4 hs D4.out
 rw[hq3] at hB3
 clear hq2 hq3 HQ
 go_wp2_with fail
 refine hB3.mono ?_;rintro e v1 ⟨rfl,hd,hg⟩
 have E1:=hid hd;have K1:=hid (grown_thru G4.out hg);clear hd hg hB3
 obtain⟨f,y,k⟩:=E1.out.cells
 have c1:=k.c1
 clear k
 cases ht:tok nendV ((bl s).drop q3) with
 | none=>
  have HT:=hid ht
  have EN:Hid (dRelV 1 ((bl s).drop (q+2))=none):=relV_none (by rw[SK.out];exact ht)
  clear ht
  go_wp2_with fail
  refine(ddep_until_none endsV_eq a s q3 n c v1 hs E1.out HT).mono ?_;rintro e v2 ⟨rfl,hd,hg⟩
  have E2:=hid hd;have K2:=hid (grown_thru K1.out hg);clear hd hg c1
  go_wp2_with fail
  go_ret3
  exact RelPost.no EN.out K2.out E2.out
 | some x=>
  obtain⟨v,r⟩:=x
  have HT:=hid ht
  obtain⟨t1,t2,t3,t4⟩:=tok_place E1.out.le ht
  have EN:Hid (dRelV 1 ((bl s).drop (q+2))=dRelE 1 v r):=relV_some (by decide) (by rw[SK.out];exact ht)
  have hvz:(mkB v).size≤4294967280:=by rw[mk_size];omega
  obtain⟨q4,hq4⟩:∃ q4,q3+v.length+runN blankB ((bl s).drop (q3+v.length))=q4:=⟨_,rfl⟩
  have SK2:Hid (skipL r=(bl s).drop q4):=by show _=_;rw[←t2,skip_at,hq4]
  have HQ4:Hid (p≤q4):=by have:=HQ3.out;show _≤_;omega
  have HB4:=hid (fun (c':Int) (W:World) (hD:DR W a s (q3+v.length) n c')=>ddep_blanks a s (q3+v.length) n c' W hs hD)
  rw[hq4] at HB4
  clear ht t1 t2 t3 t4 hq4
  go_wp2_with fail
  refine(ddep_until_some endsV_eq v r a s q3 n c v1 hs E1.out HT).mono ?_;rintro e v2 ⟨rfl,hd,hg⟩
  have E2:=hid hd;have K2:=hid (grown_thru K1.out hg);clear hd hg c1
  go_wp2_with fail
  refine(version_Check_any 1 (mkB v) _ (HG.out.kept K2.out).gl (by omega)).mono ?_;rintro e v3 ⟨rfl,hb⟩
  have E3:=hid (E2.out.below hb);have K3:=hid (only_below K2.out hb);clear hb
  go_wp2_with fail
  refine(ddep_note _ _ a s _ n c v3 E3.out).mono ?_;rintro e v4 ⟨rfl,hd,hg⟩
  have E4:=hid hd;have K4:=hid (grown_thru K3.out hg);clear hd hg
  have NC:=hid (noteC_zero c (verE 1 (mkB v)))
  generalize noteC c (verE 1 (mkB v))=c' at E4 NC
  go_wp2_with fail
  refine(HB4.out c' v4 E4.out).mono ?_;rintro e v5 ⟨rfl,hd,hg⟩
  have E5:=hid hd;have K5:=hid (grown_thru K4.out hg);clear hd hg
  cases hh:head0 41 ((bl s).drop q4) with
  | false=>
   have HH:=hid hh
   have EM:Hid (dRelV 1 ((bl s).drop (q+2))=none):=by show _=_;rw[EN.out];exact relE_no (by rw[SK2.out];exact hh)
   clear hh
   go_wp2_with fail
   refine(ddep_sign_no 41 a s q4 n c' v5 hs E5.out HH).mono ?_;rintro e v6 ⟨rfl,hd,hg⟩
   have E6:=hid hd;have K6:=hid (grown_thru K5.out hg);clear hd hg
   go_wp2_with fail
   go_ret3
   exact RelPost.no EM.out K6.out E6.out
  | true=>
   have HH:=hid hh
   obtain⟨q5,hq5⟩:∃ q5,q4+1+runN blankB ((bl s).drop (q4+1))=q5:=⟨_,rfl⟩
   have EM:Hid (dRelV 1 ((bl s).drop (q+2))=some (1,v,(bl s).drop q5)):=by
    show _=_;rw[EN.out,relE_yes (by rw[SK2.out];exact hh),SK2.out,List.drop_drop,skip_at,hq5]
   have HB5:=hid (fun (W:World) (hD:DR W a s (q4+1) n c')=>ddep_blanks a s (q4+1) n c' W hs hD)
   rw[hq5] at HB5
   have HQ5:Hid (p≤q5):=by have:=HQ4.out;show _≤_;omega
   clear hh hq5
   go_wp2_with fail
   refine(ddep_sign_yes 41 a s q4 n c' v5 hs E5.out HH).mono ?_;rintro e v6 ⟨rfl,hd,hg⟩
   have E6:=hid hd;have K6:=hid (grown_thru K5.out hg);clear hd hg
   go_wp2_with fail
   refine(HB5.out v6 E6.out).mono ?_;rintro e v7 ⟨rfl,hd,hg⟩
   have E7:=hid hd;have K7:=hid (grown_thru K6.out hg);clear hd hg
   go_wp2_with fail
   go_ret3
   exact RelPost.yes EM.out K7.out E7.out HQ5.out rfl NC.out
theorem ddep_relation_c (a:Nat)(s:BA)(p n q:Nat)(c:Int)(w:World)(hs:s.size≤4294967280)(hG:GlA a w)(h:DR w a s p n c)(hq:p+runN blankB ((bl s).drop p)=q)
  (H0:Hid (head0 61 ((bl s).drop q)=false))(H1:Hid (head0 60 ((bl s).drop q)=true))(H2:Hid (head0 60 ((bl s).drop (q+1))=false))(H3:Hid (head0 61 ((bl s).drop (q+1))=true)):
  Calls Tryz.prog 266 #[.pointer (some ⟨a,0,none⟩)] w (RelPost (dRelV 2 ((bl s).drop (q+2))) a s p n c w):=by
 have hB:=ddep_blanks a s p n c w hs h
 rw[hq] at hB
 have HQ:Hid (p≤q):=by show _≤_;omega
 have HG:=hid hG
 clear hG hq h
 go_enter Tryz.func266,Tryz.ntmps266
 go_wp2_with fail
 refine hB.mono ?_;rintro e w1 ⟨rfl,hd,hg⟩
 have D1:=hid hd;have G1:=hid hg;clear hd hg hB
 go_wp2_with fail
 refine(ddep_sign_no 61 a s q n c w1 hs D1.out H0).mono ?_;rintro e w2 ⟨rfl,hd,hg⟩
 have D2:=hid hd;have G2:=hid (grown_thru G1.out hg);clear hd hg D1 G1 H0
 go_wp2_with fail
 refine(ddep_sign_yes 60 a s q n c w2 hs D2.out H1).mono ?_;rintro e w3 ⟨rfl,hd,hg⟩
 have D3:=hid hd;have G3:=hid (grown_thru G2.out hg);clear hd hg D2 G2 H1
 go_wp2_with fail
 refine(ddep_sign_no 60 a s (q+1) n c w3 hs D3.out H2).mono ?_;rintro e w4 ⟨rfl,hd,hg⟩
 have D4:=hid hd;have G4:=hid (grown_thru G3.out hg);clear hd hg D3 G3 H2
 go_wp2_with fail
 refine(ddep_sign_yes 61 a s (q+1) n c w4 hs D4.out H3).mono ?_;rintro e w5 ⟨rfl,hd,hg⟩
 have D5:=hid hd;have G5:=hid (grown_thru G4.out hg);clear hd hg D4 G4 H3
 obtain⟨q2,hq2⟩:∃ q2,(q+2)=q2:=⟨_,rfl⟩
 obtain⟨q3,hq3⟩:∃ q3,q2+runN blankB ((bl s).drop q2)=q3:=⟨_,rfl⟩
 rw[hq2] at D5
 have HQ3:Hid (p≤q3):=by have:=HQ.out;show _≤_;omega
 have SK:Hid (skipL ((bl s).drop (q+2))=(bl s).drop q3):=by show _=_;rw[hq2,skip_at,hq3]
 have hB3:=ddep_blanks a s q2 n c w5 hs D5.out
 rw[hq3] at hB3
 clear hq2 hq3 HQ
 go_wp2_with fail
 refine hB3.mono ?_;rintro e v1 ⟨rfl,hd,hg⟩
 have E1:=hid hd;have K1:=hid (grown_thru G5.out hg);clear hd hg hB3
 obtain⟨f,y,k⟩:=E1.out.cells
 have c1:=k.c1
 clear k
 cases ht:tok nendV ((bl s).drop q3) with
 | none=>
  have HT:=hid ht
  have EN:Hid (dRelV 2 ((bl s).drop (q+2))=none):=relV_none (by rw[SK.out];exact ht)
  clear ht
  go_wp2_with fail
  refine(ddep_until_none endsV_eq a s q3 n c v1 hs E1.out HT).mono ?_;rintro e v2 ⟨rfl,hd,hg⟩
  have E2:=hid hd;have K2:=hid (grown_thru K1.out hg);clear hd hg c1
  go_wp2_with fail
  go_ret3
  exact RelPost.no EN.out K2.out E2.out
 | some x=>
  obtain⟨v,r⟩:=x
  have HT:=hid ht
  obtain⟨t1,t2,t3,t4⟩:=tok_place E1.out.le ht
  have EN:Hid (dRelV 2 ((bl s).drop (q+2))=dRelE 2 v r):=relV_some (by decide) (by rw[SK.out];exact ht)
  have hvz:(mkB v).size≤4294967280:=by rw[mk_size];omega
  obtain⟨q4,hq4⟩:∃ q4,q3+v.length+runN blankB ((bl s).drop (q3+v.length))=q4:=⟨_,rfl⟩
  have SK2:Hid (skipL r=(bl s).drop q4):=by show _=_;rw[←t2,skip_at,hq4]
  have HQ4:Hid (p≤q4):=by have:=HQ3.out;show _≤_;omega
  have HB4:=hid (fun (c':Int) (W:World) (hD:DR W a s (q3+v.length) n c')=>ddep_blanks a s (q3+v.length) n c' W hs hD)
  rw[hq4] at HB4
  clear ht t1 t2 t3 t4 hq4
  go_wp2_with fail
  refine(ddep_until_some endsV_eq v r a s q3 n c v1 hs E1.out HT).mono ?_;rintro e v2 ⟨rfl,hd,hg⟩
  have E2:=hid hd;have K2:=hid (grown_thru K1.out hg);clear hd hg c1
  go_wp2_with fail
  refine(version_Check_any 1 (mkB v) _ (HG.out.kept K2.out).gl (by omega)).mono ?_;rintro e v3 ⟨rfl,hb⟩
  have E3:=hid (E2.out.below hb);have K3:=hid (only_below K2.out hb);clear hb
  go_wp2_with fail
  refine(ddep_note _ _ a s _ n c v3 E3.out).mono ?_;rintro e v4 ⟨rfl,hd,hg⟩
  have E4:=hid hd;have K4:=hid (grown_thru K3.out hg);clear hd hg
  have NC:=hid (noteC_zero c (verE 1 (mkB v)))
  generalize noteC c (verE 1 (mkB v))=c' at E4 NC
  go_wp2_with fail
  refine(HB4.out c' v4 E4.out).mono ?_;rintro e v5 ⟨rfl,hd,hg⟩
  have E5:=hid hd;have K5:=hid (grown_thru K4.out hg);clear hd hg
  cases hh:head0 41 ((bl s).drop q4) with
  | false=>
   have HH:=hid hh
   have EM:Hid (dRelV 2 ((bl s).drop (q+2))=none):=by show _=_;rw[EN.out];exact relE_no (by rw[SK2.out];exact hh)
   clear hh
   go_wp2_with fail
   refine(ddep_sign_no 41 a s q4 n c' v5 hs E5.out HH).mono ?_;rintro e v6 ⟨rfl,hd,hg⟩
   have E6:=hid hd;have K6:=hid (grown_thru K5.out hg);clear hd hg
   go_wp2_with fail
   go_ret3
   exact RelPost.no EM.out K6.out E6.out
  | true=>
   have HH:=hid hh
   obtain⟨q5,hq5⟩:∃ q5,q4+1+runN blankB ((bl s).drop (q4+1))=q5:=⟨_,rfl⟩
   have EM:Hid (dRelV 2 ((bl s).drop (q+2))=some (2,v,(bl s).drop q5)):=by
    show _=_;rw[EN.out,relE_yes (by rw[SK2.out];exact hh),SK2.out,List.drop_drop,skip_at,hq5]
   have HB5:=hid (fun (W:World) (hD:DR W a s (q4+1) n c')=>ddep_blanks a s (q4+1) n c' W hs hD)
   rw[hq5] at HB5
   have HQ5:Hid (p≤q5):=by have:=HQ4.out;show _≤_;omega
   clear hh hq5
   go_wp2_with fail
   refine(ddep_sign_yes 41 a s q4 n c' v5 hs E5.out HH).mono ?_;rintro e v6 ⟨rfl,hd,hg⟩
   have E6:=hid hd;have K6:=hid (grown_thru K5.out hg);clear hd hg
   go_wp2_with fail
   refine(HB5.out v6 E6.out).mono ?_;rintro e v7 ⟨rfl,hd,hg⟩
   have E7:=hid hd;have K7:=hid (grown_thru K6.out hg);clear hd hg
   go_wp2_with fail
   go_ret3
   exact RelPost.yes EM.out K7.out E7.out HQ5.out rfl NC.out
theorem ddep_relation_d (a:Nat)(s:BA)(p n q:Nat)(c:Int)(w:World)(hs:s.size≤4294967280)(hG:GlA a w)(h:DR w a s p n c)(hq:p+runN blankB ((bl s).drop p)=q)
  (H0:Hid (head0 61 ((bl s).drop q)=false))(H1:Hid (head0 60 ((bl s).drop q)=false))(H2:Hid (head0 62 ((bl s).drop q)=true))(H3:Hid (head0 62 ((bl s).drop (q+1))=true)):
  Calls Tryz.prog 266 #[.pointer (some ⟨a,0,none⟩)] w (RelPost (dRelV 5 ((bl s).drop (q+2))) a s p n c w):=by
 have hB:=ddep_blanks a s p n c w hs h
 rw[hq] at hB
 have HQ:Hid (p≤q):=by show _≤_;omega
 have HG:=hid hG
 clear hG hq h
 go_enter Tryz.func266,Tryz.ntmps266
 go_wp2_with fail
 refine hB.mono ?_;rintro e w1 ⟨rfl,hd,hg⟩
 have D1:=hid hd;have G1:=hid hg;clear hd hg hB
 go_wp2_with fail
 refine(ddep_sign_no 61 a s q n c w1 hs D1.out H0).mono ?_;rintro e w2 ⟨rfl,hd,hg⟩
 have D2:=hid hd;have G2:=hid (grown_thru G1.out hg);clear hd hg D1 G1 H0
 go_wp2_with fail
 refine(ddep_sign_no 60 a s q n c w2 hs D2.out H1).mono ?_;rintro e w3 ⟨rfl,hd,hg⟩
 have D3:=hid hd;have G3:=hid (grown_thru G2.out hg);clear hd hg D2 G2 H1
 go_wp2_with fail
 refine(ddep_sign_yes 62 a s q n c w3 hs D3.out H2).mono ?_;rintro e w4 ⟨rfl,hd,hg⟩
 have D4:=hid hd;have G4:=hid (grown_thru G3.out hg);clear hd hg D3 G3 H2
 go_wp2_with fail
 refine(ddep_sign_yes 62 a s (q+1) n c w4 hs D4.out H3).mono ?_;rintro e w5 ⟨rfl,hd,hg⟩
 have D5:=hid hd;have G5:=hid (grown_thru G4.out hg);clear hd hg D4 G4 H3
 obtain⟨q2,hq2⟩:∃ q2,(q+2)=q2:=⟨_,rfl⟩
 obtain⟨q3,hq3⟩:∃ q3,q2+runN blankB ((bl s).drop q2)=q3:=⟨_,rfl⟩
 rw[hq2] at D5
 have HQ3:Hid (p≤q3):=by have:=HQ.out;show _≤_;omega
 have SK:Hid (skipL ((bl s).drop (q+2))=(bl s).drop q3):=by show _=_;rw[hq2,skip_at,hq3]
 have hB3:=ddep_blanks a s q2 n c w5 hs D5.out
 rw[hq3] at hB3
 clear hq2 hq3 HQ
 go_wp2_with fail
 refine hB3.mono ?_;rintro e v1 ⟨rfl,hd,hg⟩
 have E1:=hid hd;have K1:=hid (grown_thru G5.out hg);clear hd hg hB3
 obtain⟨f,y,k⟩:=E1.out.cells
 have c1:=k.c1
 clear k
 cases ht:tok nendV ((bl s).drop q3) with
 | none=>
  have HT:=hid ht
  have EN:Hid (dRelV 5 ((bl s).drop (q+2))=none):=relV_none (by rw[SK.out];exact ht)
  clear ht
  go_wp2_with fail
  refine(ddep_until_none endsV_eq a s q3 n c v1 hs E1.out HT).mono ?_;rintro e v2 ⟨rfl,hd,hg⟩
  have E2:=hid hd;have K2:=hid (grown_thru K1.out hg);clear hd hg c1
  go_wp2_with fail
  go_ret3
  exact RelPost.no EN.out K2.out E2.out
 | some x=>
  obtain⟨v,r⟩:=x
  have HT:=hid ht
  obtain⟨t1,t2,t3,t4⟩:=tok_place E1.out.le ht
  have EN:Hid (dRelV 5 ((bl s).drop (q+2))=dRelE 5 v r):=relV_some (by decide) (by rw[SK.out];exact ht)
  have hvz:(mkB v).size≤4294967280:=by rw[mk_size];omega
  obtain⟨q4,hq4⟩:∃ q4,q3+v.length+runN blankB ((bl s).drop (q3+v.length))=q4:=⟨_,rfl⟩
  have SK2:Hid (skipL r=(bl s).drop q4):=by show _=_;rw[←t2,skip_at,hq4]
  have HQ4:Hid (p≤q4):=by have:=HQ3.out;show _≤_;omega
  have HB4:=hid (fun (c':Int) (W:World) (hD:DR W a s (q3+v.length) n c')=>ddep_blanks a s (q3+v.length) n c' W hs hD)
  rw[hq4] at HB4
  clear ht t1 t2 t3 t4 hq4
  go_wp2_with fail
  refine(ddep_until_some endsV_eq v r a s q3 n c v1 hs E1.out HT).mono ?_;rintro e v2 ⟨rfl,hd,hg⟩
  have E2:=hid hd;have K2:=hid (grown_thru K1.out hg);clear hd hg c1
  go_wp2_with fail
  refine(version_Check_any 1 (mkB v) _ (HG.out.kept K2.out).gl (by omega)).mono ?_;rintro e v3 ⟨rfl,hb⟩
  have E3:=hid (E2.out.below hb);have K3:=hid (only_below K2.out hb);clear hb
  go_wp2_with fail
  refine(ddep_note _ _ a s _ n c v3 E3.out).mono ?_;rintro e v4 ⟨rfl,hd,hg⟩
  have E4:=hid hd;have K4:=hid (grown_thru K3.out hg);clear hd hg
  have NC:=hid (noteC_zero c (verE 1 (mkB v)))
  generalize noteC c (verE 1 (mkB v))=c' at E4 NC
  go_wp2_with fail
  refine(HB4.out c' v4 E4.out).mono ?_;rintro e v5 ⟨rfl,hd,hg⟩
  have E5:=hid hd;have K5:=hid (grown_thru K4.out hg);clear hd hg
  cases hh:head0 41 ((bl s).drop q4) with
  | false=>
   have HH:=hid hh
   have EM:Hid (dRelV 5 ((bl s).drop (q+2))=none):=by show _=_;rw[EN.out];exact relE_no (by rw[SK2.out];exact hh)
   clear hh
   go_wp2_with fail
   refine(ddep_sign_no 41 a s q4 n c' v5 hs E5.out HH).mono ?_;rintro e v6 ⟨rfl,hd,hg⟩
   have E6:=hid hd;have K6:=hid (grown_thru K5.out hg);clear hd hg
   go_wp2_with fail
   go_ret3
   exact RelPost.no EM.out K6.out E6.out
  | true=>
   have HH:=hid hh
   obtain⟨q5,hq5⟩:∃ q5,q4+1+runN blankB ((bl s).drop (q4+1))=q5:=⟨_,rfl⟩
   have EM:Hid (dRelV 5 ((bl s).drop (q+2))=some (5,v,(bl s).drop q5)):=by
    show _=_;rw[EN.out,relE_yes (by rw[SK2.out];exact hh),SK2.out,List.drop_drop,skip_at,hq5]
   have HB5:=hid (fun (W:World) (hD:DR W a s (q4+1) n c')=>ddep_blanks a s (q4+1) n c' W hs hD)
   rw[hq5] at HB5
   have HQ5:Hid (p≤q5):=by have:=HQ4.out;show _≤_;omega
   clear hh hq5
   go_wp2_with fail
   refine(ddep_sign_yes 41 a s q4 n c' v5 hs E5.out HH).mono ?_;rintro e v6 ⟨rfl,hd,hg⟩
   have E6:=hid hd;have K6:=hid (grown_thru K5.out hg);clear hd hg
   go_wp2_with fail
   refine(HB5.out v6 E6.out).mono ?_;rintro e v7 ⟨rfl,hd,hg⟩
   have E7:=hid hd;have K7:=hid (grown_thru K6.out hg);clear hd hg
   go_wp2_with fail
   go_ret3
   exact RelPost.yes EM.out K7.out E7.out HQ5.out rfl NC.out
theorem ddep_relation_e (a:Nat)(s:BA)(p n q:Nat)(c:Int)(w:World)(hs:s.size≤4294967280)(hG:GlA a w)(h:DR w a s p n c)(hq:p+runN blankB ((bl s).drop p)=q)
  (H0:Hid (head0 61 ((bl s).drop q)=false))(H1:Hid (head0 60 ((bl s).drop q)=false))(H2:Hid (head0 62 ((bl s).drop q)=true))(H3:Hid (head0 62 ((bl s).drop (q+1))=false))(H4:Hid (head0 61 ((bl s).drop (q+1))=true)):
  Calls Tryz.prog 266 #[.pointer (some ⟨a,0,none⟩)] w (RelPost (dRelV 4 ((bl s).drop (q+2))) a s p n c w):=by
 have hB:=ddep_blanks a s p n c w hs h
 rw[hq] at hB
 have HQ:Hid (p≤q):=by show _≤_;omega
 have HG:=hid hG
 clear hG hq h
 go_enter Tryz.func266,Tryz.ntmps266
 go_wp2_with fail
 refine hB.mono ?_;rintro e w1 ⟨rfl,hd,hg⟩
 have D1:=hid hd;have G1:=hid hg;clear hd hg hB
 go_wp2_with fail
 refine(ddep_sign_no 61 a s q n c w1 hs D1.out H0).mono ?_;rintro e w2 ⟨rfl,hd,hg⟩
 have D2:=hid hd;have G2:=hid (grown_thru G1.out hg);clear hd hg D1 G1 H0
 go_wp2_with fail
 refine(ddep_sign_no 60 a s q n c w2 hs D2.out H1).mono ?_;rintro e w3 ⟨rfl,hd,hg⟩
 have D3:=hid hd;have G3:=hid (grown_thru G2.out hg);clear hd hg D2 G2 H1
 go_wp2_with fail
 refine(ddep_sign_yes 62 a s q n c w3 hs D3.out H2).mono ?_;rintro e w4 ⟨rfl,hd,hg⟩
 have D4:=hid hd;have G4:=hid (grown_thru G3.out hg);clear hd hg D3 G3 H2
 go_wp2_with fail
 refine(ddep_sign_no 62 a s (q+1) n c w4 hs D4.out H3).mono ?_;rintro e w5 ⟨rfl,hd,hg⟩
 have D5:=hid hd;have G5:=hid (grown_thru G4.out hg);clear hd hg D4 G4 H3
 go_wp2_with fail
 refine(ddep_sign_yes 61 a s (q+1) n c w5 hs D5.out H4).mono ?_;rintro e w6 ⟨rfl,hd,hg⟩
 have D6:=hid hd;have G6:=hid (grown_thru G5.out hg);clear hd hg D5 G5 H4
 obtain⟨q2,hq2⟩:∃ q2,(q+2)=q2:=⟨_,rfl⟩
 obtain⟨q3,hq3⟩:∃ q3,q2+runN blankB ((bl s).drop q2)=q3:=⟨_,rfl⟩
 rw[hq2] at D6
 have HQ3:Hid (p≤q3):=by have:=HQ.out;show _≤_;omega
 have SK:Hid (skipL ((bl s).drop (q+2))=(bl s).drop q3):=by show _=_;rw[hq2,skip_at,hq3]
 have hB3:=ddep_blanks a s q2 n c w6 hs D6.out
 rw[hq3] at hB3
 clear hq2 hq3 HQ
 go_wp2_with fail
 refine hB3.mono ?_;rintro e v1 ⟨rfl,hd,hg⟩
 have E1:=hid hd;have K1:=hid (grown_thru G6.out hg);clear hd hg hB3
 obtain⟨f,y,k⟩:=E1.out.cells
 have c1:=k.c1
 clear k
 cases ht:tok nendV ((bl s).drop q3) with
 | none=>
  have HT:=hid ht
  have EN:Hid (dRelV 4 ((bl s).drop (q+2))=none):=relV_none (by rw[SK.out];exact ht)
  clear ht
  go_wp2_with fail
  refine(ddep_until_none endsV_eq a s q3 n c v1 hs E1.out HT).mono ?_;rintro e v2 ⟨rfl,hd,hg⟩
  have E2:=hid hd;have K2:=hid (grown_thru K1.out hg);clear hd hg c1
  go_wp2_with fail
  go_ret3
  exact RelPost.no EN.out K2.out E2.out
 | some x=>
  obtain⟨v,r⟩:=x
  have HT:=hid ht
  obtain⟨t1,t2,t3,t4⟩:=tok_place E1.out.le ht
  have EN:Hid (dRelV 4 ((bl s).drop (q+2))=dRelE 4 v r):=relV_some (by decide) (by rw[SK.out];exact ht)
  have hvz:(mkB v).size≤4294967280:=by rw[mk_size];omega
  obtain⟨q4,hq4⟩:∃ q4,q3+v.length+runN blankB ((bl s).drop (q3+v.length))=q4:=⟨_,rfl⟩
  have SK2:Hid (skipL r=(bl s).drop q4):=by show _=_;rw[←t2,skip_at,hq4]
  have HQ4:Hid (p≤q4):=by have:=HQ3.out;show _≤_;omega
  have HB4:=hid (fun (c':Int) (W:World) (hD:DR W a s (q3+v.length) n c')=>ddep_blanks a s (q3+v.length) n c' W hs hD)
  rw[hq4] at HB4
  clear ht t1 t2 t3 t4 hq4
  go_wp2_with fail
  refine(ddep_until_some endsV_eq v r a s q3 n c v1 hs E1.out HT).mono ?_;rintro e v2 ⟨rfl,hd,hg⟩
  have E2:=hid hd;have K2:=hid (grown_thru K1.out hg);clear hd hg c1
  go_wp2_with fail
  refine(version_Check_any 1 (mkB v) _ (HG.out.kept K2.out).gl (by omega)).mono ?_;rintro e v3 ⟨rfl,hb⟩
  have E3:=hid (E2.out.below hb);have K3:=hid (only_below K2.out hb);clear hb
  go_wp2_with fail
  refine(ddep_note _ _ a s _ n c v3 E3.out).mono ?_;rintro e v4 ⟨rfl,hd,hg⟩
  have E4:=hid hd;have K4:=hid (grown_thru K3.out hg);clear hd hg
  have NC:=hid (noteC_zero c (verE 1 (mkB v)))
  generalize noteC c (verE 1 (mkB v))=c' at E4 NC
  go_wp2_with fail
  refine(HB4.out c' v4 E4.out).mono ?_;rintro e v5 ⟨rfl,hd,hg⟩
  have E5:=hid hd;have K5:=hid (grown_thru K4.out hg);clear hd hg
  cases hh:head0 41 ((bl s).drop q4) with
  | false=>
   have HH:=hid hh
   have EM:Hid (dRelV 4 ((bl s).drop (q+2))=none):=by show _=_;rw[EN.out];exact relE_no (by rw[SK2.out];exact hh)
   clear hh
   go_wp2_with fail
   refine(ddep_sign_no 41 a s q4 n c' v5 hs E5.out HH).mono ?_;rintro e v6 ⟨rfl,hd,hg⟩
   have E6:=hid hd;have K6:=hid (grown_thru K5.out hg);clear hd hg
   go_wp2_with fail
   go_ret3
   exact RelPost.no EM.out K6.out E6.out
  | true=>
   have HH:=hid hh
   obtain⟨q5,hq5⟩:∃ q5,q4+1+runN blankB ((bl s).drop (q4+1))=q5:=⟨_,rfl⟩
   have EM:Hid (dRelV 4 ((bl s).drop (q+2))=some (4,v,(bl s).drop q5)):=by
    show _=_;rw[EN.out,relE_yes (by rw[SK2.out];exact hh),SK2.out,List.drop_drop,skip_at,hq5]
   have HB5:=hid (fun (W:World) (hD:DR W a s (q4+1) n c')=>ddep_blanks a s (q4+1) n c' W hs hD)
   rw[hq5] at HB5
   have HQ5:Hid (p≤q5):=by have:=HQ4.out;show _≤_;omega
   clear hh hq5
   go_wp2_with fail
   refine(ddep_sign_yes 41 a s q4 n c' v5 hs E5.out HH).mono ?_;rintro e v6 ⟨rfl,hd,hg⟩
   have E6:=hid hd;have K6:=hid (grown_thru K5.out hg);clear hd hg
   go_wp2_with fail
   refine(HB5.out v6 E6.out).mono ?_;rintro e v7 ⟨rfl,hd,hg⟩
   have E7:=hid hd;have K7:=hid (grown_thru K6.out hg);clear hd hg
   go_wp2_with fail
   go_ret3
   exact RelPost.yes EM.out K7.out E7.out HQ5.out rfl NC.out
theorem ddep_relation_x (a:Nat)(s:BA)(p n q:Nat)(c:Int)(w:World)(hs:s.size≤4294967280)(hG:GlA a w)(h:DR w a s p n c)(hq:p+runN blankB ((bl s).drop p)=q)
  (H0:Hid (head0 61 ((bl s).drop q)=false))(H1:Hid (head0 60 ((bl s).drop q)=true))(H2:Hid (head0 60 ((bl s).drop (q+1))=false))(H3:Hid (head0 61 ((bl s).drop (q+1))=false)):
  Calls Tryz.prog 266 #[.pointer (some ⟨a,0,none⟩)] w (RelPost (dRelV 0 ((bl s).drop (q+1))) a s p n c w):=by
 have hB:=ddep_blanks a s p n c w hs h
 rw[hq] at hB
 have HQ:Hid (p≤q):=by show _≤_;omega
 have HG:=hid hG
 clear hG hq h
 go_enter Tryz.func266,Tryz.ntmps266
 go_wp2_with fail
 refine hB.mono ?_;rintro e w1 ⟨rfl,hd,hg⟩
 have D1:=hid hd;have G1:=hid hg;clear hd hg hB
 go_wp2_with fail
 refine(ddep_sign_no 61 a s q n c w1 hs D1.out H0).mono ?_;rintro e w2 ⟨rfl,hd,hg⟩
 have D2:=hid hd;have G2:=hid (grown_thru G1.out hg);clear hd hg D1 G1 H0
 go_wp2_with fail
 refine(ddep_sign_yes 60 a s q n c w2 hs D2.out H1).mono ?_;rintro e w3 ⟨rfl,hd,hg⟩
 have D3:=hid hd;have G3:=hid (grown_thru G2.out hg);clear hd hg D2 G2 H1
 go_wp2_with fail
 refine(ddep_sign_no 60 a s (q+1) n c w3 hs D3.out H2).mono ?_;rintro e w4 ⟨rfl,hd,hg⟩
 have D4:=hid hd;have G4:=hid (grown_thru G3.out hg);clear hd hg D3 G3 H2
 go_wp2_with fail
 refine(ddep_sign_no 61 a s (q+1) n c w4 hs D4.out H3).mono ?_;rintro e w5 ⟨rfl,hd,hg⟩
 have D5:=hid hd;have G5:=hid (grown_thru G4.out hg);clear hd hg D4 G4 H3
 go_wp2_with fail
 go_ret3
 exact RelPost.no (by unfold dRelV;rfl) G5.out D5.out
theorem ddep_relation_y (a:Nat)(s:BA)(p n q:Nat)(c:Int)(w:World)(hs:s.size≤4294967280)(hG:GlA a w)(h:DR w a s p n c)(hq:p+runN blankB ((bl s).drop p)=q)
  (H0:Hid (head0 61 ((bl s).drop q)=false))(H1:Hid (head0 60 ((bl s).drop q)=false))(H2:Hid (head0 62 ((bl s).drop q)=true))(H3:Hid (head0 62 ((bl s).drop (q+1))=false))(H4:Hid (head0 61 ((bl s).drop (q+1))=false)):
  Calls Tryz.prog 266 #[.pointer (some ⟨a,0,none⟩)] w (RelPost (dRelV 0 ((bl s).drop (q+1))) a s p n c w):=by
 have hB:=ddep_blanks a s p n c w hs h
 rw[hq] at hB
 have HQ:Hid (p≤q):=by show _≤_;omega
 have HG:=hid hG
 clear hG hq h
 go_enter Tryz.func266,Tryz.ntmps266
 go_wp2_with fail
 refine hB.mono ?_;rintro e w1 ⟨rfl,hd,hg⟩
 have D1:=hid hd;have G1:=hid hg;clear hd hg hB
 go_wp2_with fail
 refine(ddep_sign_no 61 a s q n c w1 hs D1.out H0).mono ?_;rintro e w2 ⟨rfl,hd,hg⟩
 have D2:=hid hd;have G2:=hid (grown_thru G1.out hg);clear hd hg D1 G1 H0
 go_wp2_with fail
 refine(ddep_sign_no 60 a s q n c w2 hs D2.out H1).mono ?_;rintro e w3 ⟨rfl,hd,hg⟩
 have D3:=hid hd;have G3:=hid (grown_thru G2.out hg);clear hd hg D2 G2 H1
 go_wp2_with fail
 refine(ddep_sign_yes 62 a s q n c w3 hs D3.out H2).mono ?_;rintro e w4 ⟨rfl,hd,hg⟩
 have D4:=hid hd;have G4:=hid (grown_thru G3.out hg);clear hd hg D3 G3 H2
 go_wp2_with fail
 refine(ddep_sign_no 62 a s (q+1) n c w4 hs D4.out H3).mono ?_;rintro e w5 ⟨rfl,hd,hg⟩
 have D5:=hid hd;have G5:=hid (grown_thru G4.out hg);clear hd hg D4 G4 H3
 go_wp2_with fail
 refine(ddep_sign_no 61 a s (q+1) n c w5 hs D5.out H4).mono ?_;rintro e w6 ⟨rfl,hd,hg⟩
 have D6:=hid hd;have G6:=hid (grown_thru G5.out hg);clear hd hg D5 G5 H4
 go_wp2_with fail
 go_ret3
 exact RelPost.no (by unfold dRelV;rfl) G6.out D6.out
theorem ddep_relation_z (a:Nat)(s:BA)(p n q:Nat)(c:Int)(w:World)(hs:s.size≤4294967280)(hG:GlA a w)(h:DR w a s p n c)(hq:p+runN blankB ((bl s).drop p)=q)
  (H0:Hid (head0 61 ((bl s).drop q)=false))(H1:Hid (head0 60 ((bl s).drop q)=false))(H2:Hid (head0 62 ((bl s).drop q)=false)):
  Calls Tryz.prog 266 #[.pointer (some ⟨a,0,none⟩)] w (RelPost (dRelV 0 ((bl s).drop q)) a s p n c w):=by
 have hB:=ddep_blanks a s p n c w hs h
 rw[hq] at hB
 have HQ:Hid (p≤q):=by show _≤_;omega
 have HG:=hid hG
 clear hG hq h
 go_enter Tryz.func266,Tryz.ntmps266
 go_wp2_with fail
 refine hB.mono ?_;rintro e w1 ⟨rfl,hd,hg⟩
 have D1:=hid hd;have G1:=hid hg;clear hd hg hB
 go_wp2_with fail
 refine(ddep_sign_no 61 a s q n c w1 hs D1.out H0).mono ?_;rintro e w2 ⟨rfl,hd,hg⟩
 have D2:=hid hd;have G2:=hid (grown_thru G1.out hg);clear hd hg D1 G1 H0
 go_wp2_with fail
 refine(ddep_sign_no 60 a s q n c w2 hs D2.out H1).mono ?_;rintro e w3 ⟨rfl,hd,hg⟩
 have D3:=hid hd;have G3:=hid (grown_thru G2.out hg);clear hd hg D2 G2 H1
 go_wp2_with fail
 refine(ddep_sign_no 62 a s q n c w3 hs D3.out H2).mono ?_;rintro e w4 ⟨rfl,hd,hg⟩
 have D4:=hid hd;have G4:=hid (grown_thru G3.out hg);clear hd hg D3 G3 H2
 go_wp2_with fail
 go_ret3
 exact RelPost.no (by unfold dRelV;rfl) G4.out D4.out
theorem ddep_relation (a:Nat)(s:BA)(p n:Nat)(c:Int)(w:World)(hs:s.size≤4294967280)(hG:GlA a w)(h:DR w a s p n c):
  Calls Tryz.prog 266 #[.pointer (some ⟨a,0,none⟩)] w (RelPost (dRel ((bl s).drop p)) a s p n c w):=by
 obtain⟨q,hq⟩:∃ q,p+runN blankB ((bl s).drop p)=q:=⟨_,rfl⟩
 have e0:dRel ((bl s).drop p)=dRelV (dOp ((bl s).drop q)).1 (dOp ((bl s).drop q)).2:=by unfold dRel;rw[skip_at,hq]
 rw[e0]
 cases h61:head0 61 ((bl s).drop q) with
 | true=>
  have e:dOp ((bl s).drop q)=(3,(bl s).drop (q+1)):=by unfold dOp;rw[h61,List.drop_drop];rfl
  rw[e];exact ddep_relation_a a s p n q c w hs hG h hq h61
 | false=>
 cases h60:head0 60 ((bl s).drop q) with
 | true=>
  cases k60:head0 60 ((bl s).drop (q+1)) with
  | true=>
   have e:dOp ((bl s).drop q)=(1,(bl s).drop (q+2)):=by unfold dOp;rw[h61,h60,List.drop_drop,k60,List.drop_drop];rfl
   rw[e];exact ddep_relation_b a s p n q c w hs hG h hq h61 h60 k60
  | false=>
  cases k61:head0 61 ((bl s).drop (q+1)) with
  | true=>
   have e:dOp ((bl s).drop q)=(2,(bl s).drop (q+2)):=by unfold dOp;rw[h61,h60,List.drop_drop,k60,k61,List.drop_drop];rfl
   rw[e];exact ddep_relation_c a s p n q c w hs hG h hq h61 h60 k60 k61
  | false=>
   have e:dOp ((bl s).drop q)=(0,(bl s).drop (q+1)):=by unfold dOp;rw[h61,h60,List.drop_drop,k60,k61];rfl
   rw[e];exact ddep_relation_x a s p n q c w hs hG h hq h61 h60 k60 k61
 | false=>
 cases h62:head0 62 ((bl s).drop q) with
 | true=>
  cases k62:head0 62 ((bl s).drop (q+1)) with
  | true=>
   have e:dOp ((bl s).drop q)=(5,(bl s).drop (q+2)):=by unfold dOp;rw[h61,h60,h62,List.drop_drop,k62,List.drop_drop];rfl
   rw[e];exact ddep_relation_d a s p n q c w hs hG h hq h61 h60 h62 k62
  | false=>
  cases k61:head0 61 ((bl s).drop (q+1)) with
  | true=>
   have e:dOp ((bl s).drop q)=(4,(bl s).drop (q+2)):=by unfold dOp;rw[h61,h60,h62,List.drop_drop,k62,k61,List.drop_drop];rfl
   rw[e];exact ddep_relation_e a s p n q c w hs hG h hq h61 h60 h62 k62 k61
  | false=>
   have e:dOp ((bl s).drop q)=(0,(bl s).drop (q+1)):=by unfold dOp;rw[h61,h60,h62,List.drop_drop,k62,k61];rfl
   rw[e];exact ddep_relation_y a s p n q c w hs hG h hq h61 h60 h62 k62 k61
 | false=>
  have e:dOp ((bl s).drop q)=(0,(bl s).drop q):=by unfold dOp;rw[h61,h60,h62];rfl
  rw[e];exact ddep_relation_z a s p n q c w hs hG h hq h61 h60 h62
end
end Go.Proofs.YtdfdllbebfoggaaGreatDoor
