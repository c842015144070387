/- A part of the proof. -/
import Derived.Test.YtkmjcombhjombaaGreatDoorK04
import Derived.Test.YtkmjcombhjombaaGreatDoorK05
set_option maxRecDepth 100000
set_option maxHeartbeats 20000000
set_option linter.unusedVariables false
set_option linter.unusedSimpArgs false
namespace Go.Proofs.YtkmjcombhjombaaGreatDoor
variable{ar nm sm ver:BA}{br fs gv nd sp:Value}{w w1 w2:World}
section
open Go.RowKit
def oU (a b:BA)(c:Int):Value:=.agg #[.string a,.string b,.int .i64 c]
theorem jW (what nm:BA)(c:Int)(a:Addr)(w:World)(ha:w.cell? a=some (.string nm))(hs:a.spot=none)(hlt:a.block<w.heap.size):Calls Tryz.prog 64 #[.string what,.int .i64 c,.pointer (some a)] w fun e w'=>e=.returned (oU nm what c)/\Below w.heap.size w w':=by
 obtain⟨b,o,y⟩:=a;subst hs;simp only at hlt;go_in;go_wp2;refine bodyPost_ret (v:=oU nm what c) (by simp[results,Tryz.results64,go_sem,oU]) rfl ⟨rfl,?_⟩;exact bR.alloc lr _
def pR (n:Int)(x:BA):Bool:=decide (aw n 0=x\/aw n 1=x\/aw n 2=x)
theorem Ga (b:Nat)(n:Int)(x:BA)(w:World)(h0:w.cell? ⟨b,0,none⟩=some (.string (aw n 0)))(h1:w.cell? ⟨b,1,none⟩=some (.string (aw n 1)))(h2:w.cell? ⟨b,2,none⟩=some (.string (aw n 2))):Calls Tryz.prog 67 #[.slice (some ⟨b,0,none⟩) 3 3,.string x] w fun e w'=>e=.returned (.bool (pR n x))/\w'=w:=
 (Tryz.slices_Contains_string b 0 3 3 [aw n 0,aw n 1,aw n 2] x w (by simp) (by omega) (fun j z=>by
  simp at z;rcases(by omega:j=0\/j=1\/j=2) with rfl | rfl | rfl<;>simpa)).mono fun _ _ ⟨y,D⟩=>⟨by
   rw[y];congr 2;rw[bI,Lib.containsS_iff];simp only[pR,decide_eq_true_iff,List.take,List.mem_cons,List.not_mem_nil,or_false];exact⟨fun h=>by rcases h with h | h | h<;>simp[h],fun h=>by rcases h with h | h | h<;>simp[h]⟩,D⟩
def sD (nm:BA)(fo no:Bool)(ev:Int)(ao so ndo bo go:Bool)(fw:BA)(fe se:Int):Value:=
 if fo=false then oU nm ⟨#[102,111,114,109,97,116]⟩ 9 else if no=false then oU nm ⟨#[110,97,109,101]⟩ 10 else if ev≠0 then oU nm ⟨#[118,101,114,115,105,111,110]⟩ ev
 else if ao=false then oU nm ⟨#[97,114,99,104]⟩ 1 else if so=false then oU nm ⟨#[115,117,109,109,97,114,121]⟩ 3 else if ndo=false then oU nm ⟨#[110,101,101,100,115]⟩ 3
 else if bo=false then oU nm ⟨#[98,97,114,115]⟩ 3 else if go=false then oU nm ⟨#[103,105,118,101,115]⟩ 3 else if fe≠0 then oU nm fw fe
 else if se≠0 then oU nm ⟨#[115,99,114,105,112,116,115]⟩ se else oU ⟨#[]⟩ ⟨#[]⟩ 0
structure xN (w w1:World) (nm ver ar sm:BA) (nd br gv fs sp:Value):Prop where
 bel:Below w.heap.size w w1
 sz:w.heap.size+1<w1.heap.size
 c0:w1.cell? ⟨w.heap.size,0,none⟩=some (.string nm)
 c1:w1.cell? ⟨w.heap.size,1,none⟩=some (.string ver)
 c2:w1.cell? ⟨w.heap.size,2,none⟩=some (.string ar)
 c3:w1.cell? ⟨w.heap.size,3,none⟩=some (.string sm)
 c4:w1.cell? ⟨w.heap.size,4,none⟩=some nd
 c5:w1.cell? ⟨w.heap.size,5,none⟩=some br
 c6:w1.cell? ⟨w.heap.size,6,none⟩=some gv
 c7:w1.cell? ⟨w.heap.size,7,none⟩=some fs
 c8:w1.cell? ⟨w.heap.size,8,none⟩=some sp
 r0:w1.cell? ⟨w.heap.size+1,0,none⟩=some (.string ⟨#[]⟩)
 r1:w1.cell? ⟨w.heap.size+1,1,none⟩=some (.string ⟨#[]⟩)
 r2:w1.cell? ⟨w.heap.size+1,2,none⟩=some (.int .i64 0)
 f0:w1.frozen? ⟨w.heap.size+1,0,none⟩=false
 f1:w1.frozen? ⟨w.heap.size+1,1,none⟩=false
 f2:w1.frozen? ⟨w.heap.size+1,2,none⟩=false
theorem xN.step (h:xN w w1 nm ver ar sm nd br gv fs sp)(hb:Below w1.heap.size w1 w2):xN w w2 nm ver ar sm nd br gv fs sp:=by
 have D:=h.sz;have y:∀ o,w2.cell? ⟨w.heap.size,o,none⟩=w1.cell? ⟨w.heap.size,o,none⟩:=fun o=>hb.cell (p:=⟨w.heap.size,o,none⟩) (by show w.heap.size<_;omega);have F:∀ o,w2.cell? ⟨w.heap.size+1,o,none⟩=w1.cell? ⟨w.heap.size+1,o,none⟩:=fun o=>hb.cell (p:=⟨w.heap.size+1,o,none⟩) D;have z:∀ o,w2.frozen? ⟨w.heap.size+1,o,none⟩=w1.frozen? ⟨w.heap.size+1,o,none⟩:=fun o=>hb.frozen (p:=⟨w.heap.size+1,o,none⟩) D
 exact⟨jc h.bel hb,Nat.lt_of_lt_of_le D hb.size,(y _).trans h.c0,(y _).trans h.c1,(y _).trans h.c2,(y _).trans h.c3,(y _).trans h.c4,(y _).trans h.c5,(y _).trans h.c6,(y _).trans h.c7,(y _).trans h.c8,
  (F _).trans h.r0,(F _).trans h.r1,(F _).trans h.r2,(z _).trans h.f0,(z _).trans h.f1,(z _).trans h.f2⟩
theorem xN.start (w:World)(nm ver ar sm:BA)(nd br gv fs sp:Value)
  (hb:Below ((w.alloc (.cells #[.string nm,.string ver,.string ar,.string sm,nd,br,gv,fs,sp] 38)).alloc (.cells #[.string ⟨#[]⟩,.string ⟨#[]⟩,.int .i64 0] 49)).heap.size ((w.alloc (.cells #[.string nm,.string ver,.string ar,.string sm,nd,br,gv,fs,sp] 38)).alloc (.cells #[.string ⟨#[]⟩,.string ⟨#[]⟩,.int .i64 0] 49)) w1):xN w w1 nm ver ar sm nd br gv fs sp:=by
 have F:=hb.size;simp at F;have y:∀ o,w1.cell? ⟨w.heap.size,o,none⟩=_:=fun o=>hb.cell (p:=⟨w.heap.size,o,none⟩) (by simp;omega);have D:∀ o,w1.cell? ⟨w.heap.size+1,o,none⟩=_:=fun o=>hb.cell (p:=⟨w.heap.size+1,o,none⟩) (by simp);have z:∀ o,w1.frozen? ⟨w.heap.size+1,o,none⟩=_:=fun o=>hb.frozen (p:=⟨w.heap.size+1,o,none⟩) (by simp)
 exact⟨((bR.alloc lr _).alloc (by simp) _).trans (hb.mono (by simp;omega)),by omega,(y _).trans (by simp),(y _).trans (by simp),(y _).trans (by simp),(y _).trans (by simp),(y _).trans (by simp),(y _).trans (by simp),(y _).trans (by simp),(y _).trans (by simp),(y _).trans (by simp),
  (D _).trans (by simp),(D _).trans (by simp),(D _).trans (by simp),(z _).trans (by simp),(z _).trans (by simp),(z _).trans (by simp)⟩
theorem mK (tmps:Array Value)(h:xN w w2 nm ver ar sm nd br gv fs sp)(ht:tmps[4]?=some (.pointer (some ⟨w.heap.size+1,0,none⟩)))(a b:BA)(c:Int):
  (results Tryz.f34 tmps).run Tryz.prog (((w2.setCell ⟨w.heap.size+1,0,none⟩ (.string a)).setCell ⟨w.heap.size+1,1,none⟩ (.string b)).setCell ⟨w.heap.size+1,2,none⟩ (.int .i64 c)) =
   .ok (oU a b c) (((w2.setCell ⟨w.heap.size+1,0,none⟩ (.string a)).setCell ⟨w.heap.size+1,1,none⟩ (.string b)).setCell ⟨w.heap.size+1,2,none⟩ (.int .i64 c)):=by
 obtain⟨y,sz,M,I,J,U,Y,R,V,H,K,F,z,D,N,O,X⟩:=h;simp[results,Tryz.results34,ht,go_sem,oU,F,z,D]
theorem nU (h:xN w w2 nm ver ar sm nd br gv fs sp)(a b c:Value):
  Below w.heap.size w (((w2.setCell ⟨w.heap.size+1,0,none⟩ a).setCell ⟨w.heap.size+1,1,none⟩ b).setCell ⟨w.heap.size+1,2,none⟩ c):=
 ((h.bel.setCell (p:=⟨w.heap.size+1,0,none⟩) (by simp) a).setCell (p:=⟨w.heap.size+1,1,none⟩) (by simp) b).setCell (p:=⟨w.heap.size+1,2,none⟩) (by simp) c
theorem uA (s:BA)(w:World)(hs:s.size<=9223372036854775807):Calls Tryz.prog 68 #[.string s] w fun e w'=>e=.returned (.bool (Cz (bl s)))/\Below w.heap.size w w':=
 (wH s w hs).mono fun _ _ ⟨y,z⟩=>⟨y,by rw[<-z];exact bR⟩
theorem sZ (n:Int)(w:World):Calls Tryz.prog 33 #[.int .i64 n] w fun e w'=>e=.returned (.bool (pN n))/\Below w.heap.size w w':=
 (oy n w).mono fun _ _ ⟨y,z⟩=>⟨y,by rw[<-z];exact bR⟩
theorem wI (n:Int)(nm ver ar sm:BA)(na ba ga fa sa:Option Addr)(nl nc bl' bc gl gc fl fc sl sc:Nat)(w:World)
  (ev fe se:Int)(ndo bo go:Bool)(fw:BA)(hs1:nm.size<=9223372036854775807)(hs2:sm.size<=9223372036854775807)
  (hV:Hid (∀ w1,Below w.heap.size w w1->Calls Tryz.prog 65 #[.int .i64 n,.string ver] w1 fun e w2=>e=.returned (.int .i64 ev)/\Below w1.heap.size w1 w2))
  (hN:Hid (∀ w1,Below w.heap.size w w1->Calls Tryz.prog 69 #[.int .i64 n,.slice na nl nc,.bool false] w1 fun e w2=>e=.returned (.bool ndo)/\Below w1.heap.size w1 w2))
  (hB:Hid (∀ w1,Below w.heap.size w w1->Calls Tryz.prog 69 #[.int .i64 n,.slice ba bl' bc,.bool true] w1 fun e w2=>e=.returned (.bool bo)/\Below w1.heap.size w1 w2))
  (hGv:Hid (∀ w1,Below w.heap.size w w1->Calls Tryz.prog 70 #[.int .i64 n,.slice ga gl gc] w1 fun e w2=>e=.returned (.bool go)/\Below w1.heap.size w1 w2))
  (hF:Hid (∀ w1,Below w.heap.size w w1->Calls Tryz.prog 71 #[.int .i64 n,.slice fa fl fc] w1 fun e w2=>e=.returned (.tuple #[.string fw,.int .i64 fe])/\Below w1.heap.size w1 w2))
  (hS:Hid (∀ w1,Below w.heap.size w w1->Calls Tryz.prog 72 #[.int .i64 n,.slice sa sl sc] w1 fun e w2=>e=.returned (.int .i64 se)/\Below w1.heap.size w1 w2)):Calls Tryz.prog 34 #[.int .i64 n,.agg #[.string nm,.string ver,.string ar,.string sm,.slice na nl nc,.slice ba bl' bc,.slice ga gl gc,.slice fa fl fc,.slice sa sl sc]] w
   fun e w'=>e=.returned (sD nm (pN n) (jZ (bl nm)) ev (pR n ar) (Cz (bl sm)) ndo bo go fw fe se)/\Below w.heap.size w w':=by
 go_in;go_wp2_with fail;refine(sZ _ _).mono ?_;rintro e w1 ⟨rfl,ao⟩;have B1:=xN.start w nm ver ar sm (.slice na nl nc) (.slice ba bl' bc) (.slice ga gl gc) (.slice fa fl fc) (.slice sa sl sc) ao;clear ao;obtain⟨-,sz,F,I,M,O,H,J,K,D,N,-,-,-,-,-,-⟩:=iV B1;have U:=iV B1;clear B1;cases h0:pN n
 ·have V:=iV h0;clear h0;go_wp2_with fail;refine(jW _ nm _ _ _ U.out.c0 rfl (by have:=U.out.sz;show w.heap.size<_;omega)).mono ?_;rintro e wx ⟨rfl,y⟩;have z:=U.out.step y;clear F I M O H J K D N sz;obtain⟨-,sz,F,I,M,O,H,J,K,D,N,r0,r1,r2,f0,f1,f2⟩:=iV z;have R:=iV z;clear z y;unfold oU;go_wp2_with fail;refine bodyPost_ret (mK _ R.out rfl _ _ _) rfl ⟨?_,nU R.out _ _ _⟩;congr 1;simp[sD,V.out]
 have V:=iV h0;clear h0;go_wp2_with fail;refine(pE nm _ hs1).mono ?_;rintro e au ⟨rfl,rfl⟩;cases h1:jZ (bl nm)
 ·have Y:=iV h1;clear h1;go_wp2_with fail;refine(jW _ nm _ _ _ U.out.c0 rfl (by have:=U.out.sz;show w.heap.size<_;omega)).mono ?_;rintro e wx ⟨rfl,y⟩;have z:=U.out.step y;clear F I M O H J K D N sz;obtain⟨-,sz,F,I,M,O,H,J,K,D,N,r0,r1,r2,f0,f1,f2⟩:=iV z;have R:=iV z;clear z y;unfold oU;go_wp2_with fail;refine bodyPost_ret (mK _ R.out rfl _ _ _) rfl ⟨?_,nU R.out _ _ _⟩;congr 1;simp[sD,V.out,Y.out]
 have Y:=iV h1;clear h1;go_wp2_with fail;refine(hV.out _ U.out.bel).mono ?_;rintro e w2 ⟨rfl,ak⟩;have B2:=U.out.step ak;clear ak;clear F I M O H J K D N sz;obtain⟨-,sz,F,I,M,O,H,J,K,D,N,-,-,-,-,-,-⟩:=iV B2;have ad:=iV B2;clear B2;by_cases h2:¬ ev=0
 ·have ax:(ev != 0)=true:=by simpa using h2
  have K2:=iV h2;clear h2;go_wp2_with fail;refine(jW _ nm _ _ _ ad.out.c0 rfl (by have:=ad.out.sz;show w.heap.size<_;omega)).mono ?_;rintro e wx ⟨rfl,y⟩;have z:=ad.out.step y;clear F I M O H J K D N sz;obtain⟨-,sz,F,I,M,O,H,J,K,D,N,r0,r1,r2,f0,f1,f2⟩:=iV z;have R:=iV z;clear z y;unfold oU;go_wp2_with fail;refine bodyPost_ret (mK _ R.out rfl _ _ _) rfl ⟨?_,nU R.out _ _ _⟩;congr 1;simp[sD,V.out,Y.out,K2.out]
 obtain rfl:ev=0:=Decidable.not_not.1 h2;clear h2;go_wp2_with fail;refine(qN _ _).mono ?_;rintro e w3 ⟨rfl,al⟩;have B3:=ad.out.step al;clear al;clear F I M O H J K D N sz;obtain⟨-,sz,F,I,M,O,H,J,K,D,N,-,-,-,-,-,-⟩:=iV B3;have af:=iV B3;clear B3;have ah:w.heap.size<w3.heap.size:=by omega
 go_wp2;go_quiet ((go_at_call 67;exact Calls.quiet_of_same (Ga _ n _ _ (by simp) (by simp) (by simp))));cases h3:pR n ar
 ·have K3:=iV h3;clear h3;go_wp2_with fail;refine(jW _ nm _ _ _ (by exact(af.out.step (jj (bR.alloc lr _) _)).c0) rfl (by exact Nat.lt_trans (Nat.lt_succ_self _) (af.out.step (jj (bR.alloc lr _) _)).sz)).mono ?_;rintro e wx ⟨rfl,y⟩;have z:=(af.out.step (jj (bR.alloc lr _) _)).step y;clear F I M O H J K D N sz ah;obtain⟨-,sz,F,I,M,O,H,J,K,D,N,r0,r1,r2,f0,f1,f2⟩:=iV z;have R:=iV z;clear z y;unfold oU;go_wp2_with fail;refine bodyPost_ret (mK _ R.out rfl _ _ _) rfl ⟨?_,nU R.out _ _ _⟩;congr 1;simp[sD,V.out,Y.out,K3.out]
 have K3:=iV h3;clear h3;go_wp2_with fail;refine(uA sm _ hs2).mono ?_;rintro e w4 ⟨rfl,ai⟩;have B4:=(af.out.step (jj (bR.alloc lr _) _)).step ai;clear ai;clear F I M O H J K D N sz ah;obtain⟨-,sz,F,I,M,O,H,J,K,D,N,-,-,-,-,-,-⟩:=iV B4;have aa:=iV B4;clear B4;cases h4:Cz (bl sm)
 ·have K4:=iV h4;clear h4;go_wp2_with fail;refine(jW _ nm _ _ _ aa.out.c0 rfl (by have:=aa.out.sz;show w.heap.size<_;omega)).mono ?_;rintro e wx ⟨rfl,y⟩;have z:=aa.out.step y;clear F I M O H J K D N sz;obtain⟨-,sz,F,I,M,O,H,J,K,D,N,r0,r1,r2,f0,f1,f2⟩:=iV z;have R:=iV z;clear z y;unfold oU;go_wp2_with fail;refine bodyPost_ret (mK _ R.out rfl _ _ _) rfl ⟨?_,nU R.out _ _ _⟩;congr 1;simp[sD,V.out,Y.out,K3.out,K4.out]
 have K4:=iV h4;clear h4;go_wp2_with fail;refine(hN.out _ aa.out.bel).mono ?_;rintro e w5 ⟨rfl,am⟩;have B5:=aa.out.step am;clear am;clear F I M O H J K D N sz;obtain⟨-,sz,F,I,M,O,H,J,K,D,N,-,-,-,-,-,-⟩:=iV B5;have ab:=iV B5;clear B5;cases ndo
 ·skip
  go_wp2_with fail;refine(jW _ nm _ _ _ ab.out.c0 rfl (by have:=ab.out.sz;show w.heap.size<_;omega)).mono ?_;rintro e wx ⟨rfl,y⟩;have z:=ab.out.step y;clear F I M O H J K D N sz;obtain⟨-,sz,F,I,M,O,H,J,K,D,N,r0,r1,r2,f0,f1,f2⟩:=iV z;have R:=iV z;clear z y;unfold oU;go_wp2_with fail;refine bodyPost_ret (mK _ R.out rfl _ _ _) rfl ⟨?_,nU R.out _ _ _⟩;congr 1;simp[sD,V.out,Y.out,K3.out,K4.out]
 go_wp2_with fail;refine(hB.out _ ab.out.bel).mono ?_;rintro e w6 ⟨rfl,an⟩;have B6:=ab.out.step an;clear an;clear F I M O H J K D N sz;obtain⟨-,sz,F,I,M,O,H,J,K,D,N,-,-,-,-,-,-⟩:=iV B6;have Z:=iV B6;clear B6;cases bo
 ·skip
  go_wp2_with fail;refine(jW _ nm _ _ _ Z.out.c0 rfl (by have:=Z.out.sz;show w.heap.size<_;omega)).mono ?_;rintro e wx ⟨rfl,y⟩;have z:=Z.out.step y;clear F I M O H J K D N sz;obtain⟨-,sz,F,I,M,O,H,J,K,D,N,r0,r1,r2,f0,f1,f2⟩:=iV z;have R:=iV z;clear z y;unfold oU;go_wp2_with fail;refine bodyPost_ret (mK _ R.out rfl _ _ _) rfl ⟨?_,nU R.out _ _ _⟩;congr 1;simp[sD,V.out,Y.out,K3.out,K4.out]
 go_wp2_with fail;refine(hGv.out _ Z.out.bel).mono ?_;rintro e w7 ⟨rfl,aj⟩;have B7:=Z.out.step aj;clear aj;clear F I M O H J K D N sz;obtain⟨-,sz,F,I,M,O,H,J,K,D,N,-,-,-,-,-,-⟩:=iV B7;have ac:=iV B7;clear B7;cases go
 ·skip
  go_wp2_with fail;refine(jW _ nm _ _ _ ac.out.c0 rfl (by have:=ac.out.sz;show w.heap.size<_;omega)).mono ?_;rintro e wx ⟨rfl,y⟩;have z:=ac.out.step y;clear F I M O H J K D N sz;obtain⟨-,sz,F,I,M,O,H,J,K,D,N,r0,r1,r2,f0,f1,f2⟩:=iV z;have R:=iV z;clear z y;unfold oU;go_wp2_with fail;refine bodyPost_ret (mK _ R.out rfl _ _ _) rfl ⟨?_,nU R.out _ _ _⟩;congr 1;simp[sD,V.out,Y.out,K3.out,K4.out]
 go_wp2_with fail;refine(hF.out _ ac.out.bel).mono ?_;rintro e w8 ⟨rfl,ag⟩;have B8:=ac.out.step ag;clear ag;clear F I M O H J K D N sz;obtain⟨-,sz,F,I,M,O,H,J,K,D,N,-,-,-,-,-,-⟩:=iV B8;have X:=iV B8;clear B8;by_cases h5:¬ fe=0
 ·have av:(fe != 0)=true:=by simpa using h5
  have K5:=iV h5;clear h5;go_wp2_with fail;refine(jW _ nm _ _ _ X.out.c0 rfl (by have:=X.out.sz;show w.heap.size<_;omega)).mono ?_;rintro e wx ⟨rfl,y⟩;have z:=X.out.step y;clear F I M O H J K D N sz;obtain⟨-,sz,F,I,M,O,H,J,K,D,N,r0,r1,r2,f0,f1,f2⟩:=iV z;have R:=iV z;clear z y;unfold oU;go_wp2_with fail;refine bodyPost_ret (mK _ R.out rfl _ _ _) rfl ⟨?_,nU R.out _ _ _⟩;congr 1;simp[sD,V.out,Y.out,K3.out,K4.out,K5.out]
 obtain rfl:fe=0:=Decidable.not_not.1 h5;clear h5;go_wp2_with fail;refine(hS.out _ X.out.bel).mono ?_;rintro e w9 ⟨rfl,ap⟩;have B9:=X.out.step ap;clear ap;clear F I M O H J K D N sz;obtain⟨-,sz,F,I,M,O,H,J,K,D,N,-,-,-,-,-,-⟩:=iV B9;have ae:=iV B9;clear B9;by_cases h6:¬ se=0
 ·have aq:(se != 0)=true:=by simpa using h6
  have K6:=iV h6;clear h6;go_wp2_with fail;refine(jW _ nm _ _ _ ae.out.c0 rfl (by have:=ae.out.sz;show w.heap.size<_;omega)).mono ?_;rintro e wx ⟨rfl,y⟩;have z:=ae.out.step y;clear F I M O H J K D N sz;obtain⟨-,sz,F,I,M,O,H,J,K,D,N,r0,r1,r2,f0,f1,f2⟩:=iV z;have R:=iV z;clear z y;unfold oU;go_wp2_with fail;refine bodyPost_ret (mK _ R.out rfl _ _ _) rfl ⟨?_,nU R.out _ _ _⟩;congr 1;simp[sD,V.out,Y.out,K3.out,K4.out,K6.out]
 obtain rfl:se=0:=Decidable.not_not.1 h6;clear h6 F I M O H J K D N sz;have R:=ae;obtain⟨-,sz,F,I,M,O,H,J,K,D,N,r0,r1,r2,f0,f1,f2⟩:=iV R.out;go_wp2_with fail;refine bodyPost_ret (mK _ R.out rfl _ _ _) rfl ⟨?_,nU R.out _ _ _⟩;congr 1;simp[sD,V.out,Y.out,K3.out,K4.out]
def qV (c:UInt8):Bool:=sP c||jV c||c==46||c==95||c==47
def pT (c:UInt8):Bool:=qV c||c==43||c==45||c==58||c==64
def lV (l:LU):Bool:=decide (1<=l.length/\l.length<=64)&&(match l with | c::_=>qV c | []=>false)&&l.all pT
theorem nk (p:UInt8->Bool)(h:(List.range 256).all (fun n=>p (UInt8.ofNat n))=true)(c:UInt8):p c=true:=by
 have:=List.all_eq_true.1 h c.toNat (List.mem_range.2 c.toNat_lt);simpa using this
theorem Vk (c:UInt8)(h1:sP c=false)(h2:jV c=false):(bl ⟨#[46,95,43,45,58,47,64]⟩).contains c=pT c:=by
 simp only[pT,qV,h1,h2,bl];rw[bI];simp
 grind
theorem Vl (c:UInt8)(h:pT c=true):(bl ⟨#[45,43,58,64]⟩).contains c=!qV c:=by
 exact nk (fun c=>!pT c||((bl ⟨#[45,43,58,64]⟩).contains c == !qV c)) (by kernel_rfl) c |> fun y=>by simpa [h] using y
theorem G9 (s:BA)(k:Nat)(h:k<s.size)(h1:pT s[k]=false):lV (bl s)=false:=by
 have:(bl s).all pT=false:=by
  rw[List.all_eq_false];exact⟨s[k],gM (qJ s k h),by rw[h1];simp⟩
 unfold lV;rw[this,Bool.and_false]
theorem NQ (s:BA)(k:Nat)(h:¬ k<s.size)(h0:0<s.size)(h64:s.size<=64)(hf:(bl ⟨#[45,43,58,64]⟩).contains s[0]=false)(ha:((bl s).take k).all pT=true):lV (bl s)=true:=by
 rw[tL (by rw[iX];omega)] at ha;have y:=pi s h0;have D:pT s[0]=true:=by rw[y,List.all_cons,Bool.and_eq_true] at ha;exact ha.1
 have z:qV s[0]=true:=by have:=Vl s[0] D;rw[hf] at this;simpa using this.symm
 unfold lV;rw[ha,iX,dT ⟨by omega,h64⟩];rw[y];simp[z]
theorem NS (s:BA)(h0:0<s.size)(hf:(bl ⟨#[45,43,58,64]⟩).contains s[0]=true):lV (bl s)=false:=by
 cases hn:pT s[0] with
 | false=>exact G9 s 0 h0 hn
 | true=>
  have y:qV s[0]=false:=by have:=Vl s[0] hn;rw[hf] at this;simpa using this.symm
  unfold lV;rw[pi s h0];simp[y]
theorem CE (s:BA)(h:¬ (1<=s.size/\s.size<=64)):lV (bl s)=false:=by
 unfold lV;rw[iX,dF h];rfl
theorem zf (s:BA)(w:World)(hs:s.size<=9223372036854775807):Calls Tryz.prog 152 #[.string s] w fun e w'=>e=.returned (.bool (lV (bl s)))/\w=w':=by
 by_cases R:s.size=0
 ·have O:s.toList=[]:=by rw[iY,kw s R]
  have D:s.toList.isEmpty=true:=by rw[O];rfl
  have E:Hid (lV (bl s)=false):=CE s (by omega);go_in;go_wp2;go_ret;exact⟨iW E.out.symm,rfl⟩
 have N:0<s.size:=by omega
 have D:s.toList.isEmpty=false:=by rw[iY,jB];exact dF R
 have O:¬ s.toList=[]:=by intro h;rw[h] at D;simp at D
 by_cases aa:64<s.size
 ·have E:Hid (lV (bl s)=false):=CE s (by omega);go_in;go_wp2;go_ret;exact⟨iW E.out.symm,rfl⟩
 cases hf:(bl ⟨#[45,43,58,64]⟩).contains s[0] with
 | true=>
  have X:=pO ⟨#[45,43,58,64]⟩ s[0] hf;have E:Hid (lV (bl s)=false):=NS s N hf;clear hf;go_in;go_wp2_with (go_at_call 142;refine(jQ _ s[0] _).mono ?_;rintro e w' ⟨rfl,rfl⟩);go_ret;exact⟨iW E.out.symm,rfl⟩
 | false=>
  have X:=pj ⟨#[45,43,58,64]⟩ s[0] hf;have V:=iV hf;clear hf;go_in;go_wp2_with (go_at_call 142;refine(jQ _ s[0] _).mono ?_;rintro e w' ⟨rfl,rfl⟩);go_loop [21] (fun i=>∃ k:Nat,k<=s.size/\i=.int .i64 k/\Hid (((bl s).take k).all pT=true)) (fun i=>s.size-(intOf i).toNat)
  case atStart=>exact⟨0,z0,rfl,by simp[Hid]⟩
  case round=>
   obtain⟨k,hk,rfl,J⟩:=hrel;by_cases y:k<s.size
   ·go_upto_region 7 with(fail)
    go_cut [5] (fun v Z=>v=.bool (sP s[k])/\w=Z)
    case first=>
     go_wp2_with fail
     all_goals go_meet
     all_goals (refine⟨?_,rfl⟩;congr 1;rw[bI];simp[sP,lF,Ye];omega)
    case rest=>
    obtain⟨rfl,rfl⟩:=hcut;have U:=fun W=>jQ ⟨#[46,95,43,45,58,47,64]⟩ s[k] W;cases hl:sP s[k] with
    | true=>
     have I:Hid (pT s[k]=true):=by show _=_;simp[pT,qV,hl]
     clear hl;go_wp2;go_round
     case rel=>exact⟨k+1,by omega,by go_num,by show _=_;rw[mt s k y,J.out,I.out];rfl⟩
     case measure=>simp[intOf];omega
    | false=>
     by_cases H:48<=s[k].toNat/\s[k].toNat<=57
     ·obtain⟨M,K⟩:=H;have I:Hid (pT s[k]=true):=by show _=_;simp[pT,qV,jV,M,K]
      clear hl;go_wp2;go_round
      case rel=>exact⟨k+1,by omega,by go_num,by show _=_;rw[mt s k y,J.out,I.out];rfl⟩
      case measure=>simp[intOf];omega
     ·have F:jV s[k]=false:=dF H;have z:=Vk s[k] hl F;cases hn2:pT s[k] with
      | true=>
       have Y:=pO ⟨#[46,95,43,45,58,47,64]⟩ s[k] (by rw[z,hn2]);have I:=iV hn2;clear hl z hn2 F U;by_cases M:s[k].toNat<48
       ·clear H;go_wp2_with (go_at_call 142;refine(jQ _ s[k] _).mono ?_;rintro e w' ⟨rfl,rfl⟩);go_round
        case rel=>exact⟨k+1,by omega,by go_num,by show _=_;rw[mt s k y,J.out,I.out];rfl⟩
        case measure=>simp[intOf];omega
       ·have K:57<s[k].toNat:=by omega
        clear H;go_wp2_with (go_at_call 142;refine(jQ _ s[k] _).mono ?_;rintro e w' ⟨rfl,rfl⟩);go_round
        case rel=>exact⟨k+1,by omega,by go_num,by show _=_;rw[mt s k y,J.out,I.out];rfl⟩
        case measure=>simp[intOf];omega
      | false=>
       have Y:=pj ⟨#[46,95,43,45,58,47,64]⟩ s[k] (by rw[z,hn2]);have E:Hid (lV (bl s)=false):=G9 s k y hn2;clear hl z hn2 F U;by_cases M:s[k].toNat<48
       ·clear H;go_wp2_with (go_at_call 142;refine(jQ _ s[k] _).mono ?_;rintro e w' ⟨rfl,rfl⟩);go_ret;exact⟨iW E.out.symm,rfl⟩
       ·have K:57<s[k].toNat:=by omega
        clear H;go_wp2_with (go_at_call 142;refine(jQ _ s[k] _).mono ?_;rintro e w' ⟨rfl,rfl⟩);go_ret;exact⟨iW E.out.symm,rfl⟩
   ·go_wp2;go_ret;exact⟨iW (NQ s k y N (by omega) V.out J.out).symm,rfl⟩
theorem abj {a:Nat}{b:Int}(h:(a:Int)≠b):((a:Int) != b)=true:=by simp[bne,h]
def aaY:LU->Bool
 | c::_=>qV c
 | []=>false
theorem Su (l:LU):lV l=(decide (1<=l.length/\l.length<=64)&&aaY l&&l.all pT):=by cases l<;>rfl
def nK (c:UInt8):Bool:=sP c||jV c||c==46||c==95||c==43||c==45||c==47||c==58
def wN (c:UInt8):Bool:=sP c||jV c||c==47
def AM:LU->Bool
 | c::_=>wN c
 | []=>false
def lz (o:Option Nat)(c:UInt8):Option Nat:=match o with
 | none=>none
 | some n=>if c==40 then some (n+1) else if c==41 then (if n=0 then none else some (n-1)) else if nK c then some n else none
def mC (l:LU):Bool:=decide (1<=l.length/\l.length<=64)&&AM l&&decide (l.foldl lz (some 0)=some 0)
theorem CT:∀ l:LU,l.foldl lz none=none
 | []=>rfl
 | _::r=>CT r
theorem CU {α:Type}(f:α->UInt8->α)(z:α)(s:BA)(k:Nat)(h:k<s.size):((bl s).take (k+1)).foldl f z=f (((bl s).take k).foldl f z) s[k]:=by
 rw[tS (by rw[iX];exact h),List.foldl_append,qt s k h];rfl
theorem zl (s:BA)(k n:Nat)(h:k<s.size)(h0:((bl s).take k).foldl lz (some 0)=some n)(h1:lz (some n) s[k]=none):mC (bl s)=false:=by
 have y:=CU lz (some 0) s k h;rw[h0,h1] at y;have:(bl s).foldl lz (some 0)=none:=by
  rw[<-List.take_append_drop (k+1) (bl s),List.foldl_append,y,CT]
 unfold mC;rw[this];simp
theorem wO (s:BA)(k n m:Nat)(h:k<s.size)(h0:((bl s).take k).foldl lz (some 0)=some n)(h1:lz (some n) s[k]=some m):((bl s).take (k+1)).foldl lz (some 0)=some m:=by
 rw[CU lz (some 0) s k h,h0,h1]
theorem zm (s:BA)(k n:Nat)(h:¬ k<s.size)(h0:((bl s).take k).foldl lz (some 0)=some n)(h1:1<=s.size)(h2:s.size<=64)(h3:AM (bl s)=true):mC (bl s)=decide (n=0):=by
 rw[tL (by rw[iX];omega)] at h0;unfold mC;rw[h0,h3,iX,dT ⟨h1,h2⟩];simp
theorem wP (s:BA)(h:¬ (1<=s.size/\s.size<=64)):mC (bl s)=false:=by
 unfold mC;rw[iX,dF h];rfl
theorem N9 (s:BA)(h:AM (bl s)=false):mC (bl s)=false:=by
 unfold mC;rw[h];simp
theorem Sv (s:BA)(h:0<s.size):AM (bl s)=wN s[0]:=by rw[pi s h];rfl
theorem CW (c:UInt8)(h1:sP c=false)(h2:jV c=false):(bl ⟨#[46,95,43,45,47,58]⟩).contains c=nK c:=by
 exact nk (fun c=>sP c||jV c||((bl ⟨#[46,95,43,45,47,58]⟩).contains c==nK c)) (by kernel_rfl) c |> fun y=>by simpa [h1,h2] using y
theorem kG (c:UInt8)(w:World):Calls Tryz.prog 220 #[.int .u8 c.toNat] w fun e w'=>e=.returned (.bool (sP c))/\w=w':=by
 go_in;go_wp2_with fail
 all_goals go_ret
 all_goals (refine⟨iW ?_,rfl⟩;rw[bI];simp[sP,lF,Ye];omega)
theorem lW (c:UInt8)(w:World):Calls Tryz.prog 221 #[.int .u8 c.toNat] w fun e w'=>e=.returned (.bool (jV c))/\w=w':=by
 go_in;go_wp2_with fail
 all_goals go_ret
 all_goals (refine⟨iW ?_,rfl⟩;rw[bI];simp[jV];omega)
end
section
open Go.RowKit Go.Extern.Stop Go.Stop Go.Extern
theorem VC (b:Nat)(x y:Int)(w:World)(hG:w.cell? ⟨2,0,none⟩=some (.iface 337 (.agg #[.pointer (some ⟨13,191,none⟩)])))(hB:jh w b [.int .i64 0,.int .i64 0]):Calls Tryz.prog 154 #[.iface 242 (.agg #[.int .i64 x,.int .i64 y]),.iface 246 (.pointer (some ⟨b,0,none⟩))] w fun e w'=>e=.returned (.bool true)/\jh w' b [.int .i64 x,.int .i64 y]/\w.grownBy w' (some b):=by
 have e1:=@run_callFunc_extern Tryz.prog 205 _ (fun H=>ReflectliteValue.unpack (H.getD 0 (.tuple #[]))) Tryz.func205 (by kernel_rfl) (by kernel_rfl) (by kernel_rfl) (by kernel_rfl);have e2 := @run_callFunc_extern Tryz.prog 206 _ (ReflectliteValue.methodAny (ReflectliteValue.valueError "reflectlite.Value.Type" 0) (fun t _ _ _ => ReflectliteType.toType t)) Tryz.func206 (by kernel_rfl) (by kernel_rfl) (by kernel_rfl) (by kernel_rfl);have e3 := @run_callFunc_extern Tryz.prog 207 _ (ReflectliteValue.method (ReflectliteValue.valueError "reflectlite.Value.IsNil" 0) ReflectliteValue.isNil) Tryz.func207 (by kernel_rfl) (by kernel_rfl) (by kernel_rfl) (by kernel_rfl);have e4:=@run_callFunc_extern Tryz.prog 311 _ (ReflectliteType.abiMethod fun t=>do pure (.int .u8 (<-Rtype.kind t))) Tryz.func311 (by kernel_rfl) (by kernel_rfl) (by kernel_rfl) (by kernel_rfl);have e5:=@run_callFunc_extern Tryz.prog 324 _ (ReflectliteType.method ReflectliteType.elem) Tryz.func324 (by kernel_rfl) (by kernel_rfl) (by kernel_rfl) (by kernel_rfl);have e6 := @run_callFunc_extern Tryz.prog 325 _ (ReflectliteType.relation "Implements" ReflectliteType.implements_) Tryz.func325 (by kernel_rfl) (by kernel_rfl) (by kernel_rfl) (by kernel_rfl);have e7:=@run_callFunc_extern Tryz.prog 254 _ ReflectliteType.typeOf Tryz.func254 (by kernel_rfl) (by kernel_rfl) (by kernel_rfl) (by kernel_rfl);have e8 := @run_callFunc_extern Tryz.prog 322 _ (ReflectliteType.relation "AssignableTo" ReflectliteType.assignableTo) Tryz.func322 (by kernel_rfl) (by kernel_rfl) (by kernel_rfl) (by kernel_rfl);have e9 := @run_callFunc_extern Tryz.prog 255 _ (ReflectliteValue.method (ReflectliteValue.valueError "reflectlite.Value.Elem" 0) ReflectliteValue.elem) Tryz.func255 (by kernel_rfl) (by kernel_rfl) (by kernel_rfl) (by kernel_rfl);have U:=@run_callFunc_extern Tryz.prog 256 _ ReflectliteValue.set Tryz.func256 (by kernel_rfl) (by kernel_rfl) (by kernel_rfl) (by kernel_rfl);have m1:=vY;have m2:=vZ;have m3:=rm;have m4:=qr;have q1:=Jw;have q2:=La;have q3:=Sy;have q4:=Sz;have q5:=VB;have q6:=SC;have q7:=Db;have q8:=Dc;have q9:=Dd;have D:=World.block_lt_of_cell? _ _ hG;have D:2<w.heap.size:=D;have X:=hB.sz
 let W1:=w.alloc (.cells #[.pointer (some ⟨b,0,none⟩)] 246)
 let W2:=W1.alloc (.cells #[.pointer (some ⟨13,246,none⟩),.pointer (some ⟨w.heap.size,0,none⟩),.int .u64 150] 298)
 let W3:=W2.alloc (.cells #[.pointer (some ⟨13,246,none⟩),.pointer (some ⟨w.heap.size,0,none⟩),.int .u64 150] 298)
 let W4:=W3.alloc (.cells #[.int .i64 x,.int .i64 y] 242)
 have R:jh W1 w.heap.size [.pointer (some ⟨b,0,none⟩)]:=jh.new w _ _;have N:jh W2 w.heap.size [.pointer (some ⟨b,0,none⟩)]:=R.alloc _;have O:jh W3 w.heap.size [.pointer (some ⟨b,0,none⟩)]:=N.alloc _;have M:jh W4 (w.heap.size+1+1+1) [.int .i64 x,.int .i64 y]:=by have:=jh.new W3 [.int .i64 x,.int .i64 y] 242;simpa [W3,W2,W1] using this
 have F:jh W4 b [.int .i64 0,.int .i64 0]:=(((hB.alloc _).alloc _).alloc _).alloc _;have Y:=Oe ⟨w.heap.size,0,none⟩ ⟨b,0,none⟩ W2 (N.cell 0 _ rfl);have V:=Of ⟨w.heap.size,0,none⟩ ⟨b,0,none⟩ W3 (O.cell 0 _ rfl);have Z:=Yt b (w.heap.size+1+1+1) x y _ _ W4 (M.cell 0 _ rfl) (M.cell 1 _ rfl) (F.cell 0 _ rfl) (F.cell 1 _ rfl) (F.free 0 (by simp)) (F.free 1 (by simp));have K:W2.cell? ⟨2,0,none⟩=some (.iface 337 (.agg #[.pointer (some ⟨13,191,none⟩)])):=by
  show((w.alloc _).alloc _).cell? _=_;rw[World.cell?_alloc_lt _ _ ⟨2,0,none⟩ (by simp;omega),World.cell?_alloc_lt _ _ ⟨2,0,none⟩ D];exact hG
 have J:Hid (jh ((W4.setCell ⟨b,0,none⟩ (.int .i64 x)).setCell ⟨b,1,none⟩ (.int .i64 y)) b [.int .i64 x,.int .i64 y]):=(F.set 0 (by simp) _).set 1 (by simp) _;have I:Hid (w.grownBy ((W4.setCell ⟨b,0,none⟩ (.int .i64 x)).setCell ⟨b,1,none⟩ (.int .i64 y)) (some b)):=by
  have z:Below w.heap.size w W4:=(((bR.alloc lr _).alloc (by simp) _).alloc (by simp;omega) _).alloc (by simp;omega) _;have g4:w.grownBy W4 (some b):=⟨z.os,z.tape,z.output,z.size,fun i hi _=>z.block i hi⟩
  exact ji (ji g4 (.inl rfl) _) (.inl rfl) _
 simp only[W4,W3,W2,W1] at Y V Z K J I;clear R N O M F hB;clear W4 W3 W2 W1;go_in;go_wp2;refine wp_loop_rounds 1 ?_;rw[rounds_succ];go_wp2;go_ret;exact⟨rfl,J.out,I.out⟩
theorem Jx (t:Addr)(w:World):(ReflectliteValue.unpack (.iface 247 (.pointer (some t)))).run Tryz.prog w
  = .ok (.agg #[.pointer (some ⟨13,247,none⟩),.pointer (some ⟨w.heap.size,0,none⟩),.int .u64 150]) (w.alloc (.cells #[.pointer (some t)] 247)):=by kernel_rfl
theorem SF (a : Addr) (w : World) : (ReflectliteValue.methodAny (ReflectliteValue.valueError "reflectlite.Value.Type" 0) (fun t _ _ _ => ReflectliteType.toType t) #[.agg #[.pointer (some ⟨13, 247, none⟩), .pointer (some a), .int .u64 150]]).run Tryz.prog w
  = .ok (.iface 337 (.agg #[.pointer (some ⟨13,247,none⟩)])) w:=by kernel_rfl
theorem SG (w:World):((ReflectliteType.abiMethod fun t=>(fun a:Nat=>Value.int IntKind.u8 (a:Int)) <$> Rtype.kind t) #[.pointer (some ⟨13,247,none⟩)]).run Tryz.prog w=.ok (.int .u8 22) w:=by kernel_rfl
theorem SH (w:World):(ReflectliteType.method ReflectliteType.elem #[.agg #[.pointer (some ⟨13,247,none⟩)]]).run Tryz.prog w=.ok (.iface 337 (.agg #[.pointer (some ⟨13,45,none⟩)])) w:=by kernel_rfl
theorem Df (w : World) : (ReflectliteType.relation "Implements" ReflectliteType.implements_ #[.agg #[.pointer (some ⟨13, 45, none⟩)], .iface 337 (.agg #[.pointer (some ⟨13, 191, none⟩)])]).run Tryz.prog w = .ok (.bool true) w := by kernel_rfl
theorem Oi (v:Value)(w:World):(ReflectliteType.typeOf #[.iface 45 v]).run Tryz.prog w=.ok (.iface 337 (.agg #[.pointer (some ⟨13,45,none⟩)])) w:=by kernel_rfl
theorem Dg (w : World) : (ReflectliteType.relation "AssignableTo" ReflectliteType.assignableTo #[.agg #[.pointer (some ⟨13, 45, none⟩)], .iface 337 (.agg #[.pointer (some ⟨13, 45, none⟩)])]).run Tryz.prog w = .ok (.bool true) w := by kernel_rfl
theorem Dh (a:Addr)(w:World):(ReflectliteValue.parts (.agg #[.pointer (some ⟨13,247,none⟩),.pointer (some a),.int .u64 150])).run Tryz.prog w=.ok (some (247,a,150)) w:=by kernel_rfl
theorem Oj (a p:Addr)(W:World)(ha:W.cell? a=some (.pointer (some p))):
  (ReflectliteValue.method (ReflectliteValue.valueError "reflectlite.Value.IsNil" 0) ReflectliteValue.isNil #[.agg #[.pointer (some ⟨13, 247, none⟩), .pointer (some a), .int .u64 150]]).run Tryz.prog W = .ok (.bool false) W := by
 rw[rlm];simp only[Sem.run_bind,Dh,Result.andThen];simp[ReflectliteValue.isNil,loadVar,isAgg,underlying,Tryz.underlying247,ha,Result.andThen]
theorem Lc (w:World):(Rtype.elem? 247).run Tryz.prog w=.ok (some 45) w:=by kernel_rfl
theorem Z9 (p:Addr)(w:World):(ReflectliteValue.mk 45 p ReflectliteValue.flagAddr).run Tryz.prog w=.ok (.agg #[.pointer (some ⟨13,45,none⟩),.pointer (some p),.int .u64 386]) w:=by kernel_rfl
theorem Ok (a p:Addr)(W:World)(ha:W.cell? a=some (.pointer (some p))):
  (ReflectliteValue.method (ReflectliteValue.valueError "reflectlite.Value.Elem" 0) ReflectliteValue.elem #[.agg #[.pointer (some ⟨13, 247, none⟩), .pointer (some a), .int .u64 150]]).run Tryz.prog W
   = .ok (.agg #[.pointer (some ⟨13,45,none⟩),.pointer (some p),.int .u64 386]) W:=by
 rw[rlm];simp only[Sem.run_bind,Dh,Result.andThen];simp[ReflectliteValue.elem,loadVar,isAgg,underlying,Tryz.underlying247,ha,Result.andThen,Lc,Z9]
theorem Ol (a:Addr)(w:World):(ReflectliteValue.parts (.agg #[.pointer (some ⟨13,45,none⟩),.pointer (some a),.int .u64 386])).run Tryz.prog w=.ok (some (45,a,386)) w:=by kernel_rfl
theorem SI (a:Addr)(w:World):(ReflectliteValue.parts (.agg #[.pointer (some ⟨13,45,none⟩),.pointer (some a),.int .u64 130])).run Tryz.prog w=.ok (some (45,a,130)) w:=by kernel_rfl
theorem Om (w:World):(Rtype.directlyAssignable 45 45).run Tryz.prog w=.ok true w:=by kernel_rfl
theorem VD (w:World):((ReflectliteType.abiMethod fun t=>(fun a:Nat=>Value.int IntKind.u8 (a:Int)) <$> Rtype.kind t) #[.pointer (some ⟨13,45,none⟩)]).run Tryz.prog w=.ok (.int .u8 2) w:=by kernel_rfl
theorem Ld (c:Int)(w:World):(ReflectliteValue.unpack (.iface 45 (.int .i64 c))).run Tryz.prog w
  = .ok (.agg #[.pointer (some ⟨13,45,none⟩),.pointer (some ⟨w.heap.size,0,none⟩),.int .u64 130]) (w.alloc (.cells #[.int .i64 c] 45)):=by kernel_rfl
theorem Bu (w : World) : (ReflectliteType.relation "AssignableTo" ReflectliteType.assignableTo #[.agg #[.pointer (some ⟨13, 242, none⟩)], .iface 337 (.agg #[.pointer (some ⟨13, 45, none⟩)])]).run Tryz.prog w = .ok (.bool false) w := by kernel_rfl
theorem Bv (n : Nat) (v : Value) (w : World) : (Go.method (n + 1) 242 v "Unwrap").run Tryz.prog w = .ok (316, v) w := by kernel_rfl
theorem Le (v:Value)(w:World):(Instr.typeAssert (.iface 242 v) 191 342 true).run Tryz.prog w=.ok (.tuple #[.nilIface,.bool false]) w:=run_typeAssert_lacksB Tryz.underlying342 (by kernel_rfl) (by kernel_rfl) v _ w
theorem Lf (v:Value)(w:World):(Instr.typeAssert (.iface 242 v) 191 345 true).run Tryz.prog w=.ok (.tuple #[.iface 242 v,.bool true]) w:=by kernel_rfl
theorem Yu (b c:Nat)(y:Int)(o1:Value)(W:World)(hb0:W.cell? ⟨c,0,none⟩=some (.int .i64 y))(h0:W.cell? ⟨b,0,none⟩=some o1)(f0:W.frozen? ⟨b,0,none⟩=false):
  (ReflectliteValue.set #[.agg #[.pointer (some ⟨13,45,none⟩),.pointer (some ⟨b,0,none⟩),.int .u64 386],.agg #[.pointer (some ⟨13,45,none⟩),.pointer (some ⟨c,0,none⟩),.int .u64 130]]).run Tryz.prog W
   = .ok (.tuple #[]) (W.setCell ⟨b,0,none⟩ (.int .i64 y)):=by
 rw[rls];simp only[Sem.run_bind,Ol,SI,Result.andThen];simp[ReflectliteValue.flagAddr,loadVar,isAgg,underlying,Tryz.underlying45,hb0,Result.andThen,Om,storeVar,Value.cells,storeCells,Addr.add];rw[run_store Tryz.prog W ⟨b,0,none⟩ _ _ (by rfl)];simp[h0,f0]
theorem VE (b:Nat)(x y:Int)(w:World)(hG:w.cell? ⟨2,0,none⟩=some (.iface 337 (.agg #[.pointer (some ⟨13,191,none⟩)])))(hB:jh w b [.int .i64 0]):Calls Tryz.prog 154 #[.iface 242 (.agg #[.int .i64 x,.int .i64 y]),.iface 247 (.pointer (some ⟨b,0,none⟩))] w fun e w'=>e=.returned (.bool true)/\jh w' b [.int .i64 y]/\w.grownBy w' (some b):=by
 have e1:=@run_callFunc_extern Tryz.prog 205 _ (fun F=>ReflectliteValue.unpack (F.getD 0 (.tuple #[]))) Tryz.func205 (by kernel_rfl) (by kernel_rfl) (by kernel_rfl) (by kernel_rfl);have e2 := @run_callFunc_extern Tryz.prog 206 _ (ReflectliteValue.methodAny (ReflectliteValue.valueError "reflectlite.Value.Type" 0) (fun t _ _ _ => ReflectliteType.toType t)) Tryz.func206 (by kernel_rfl) (by kernel_rfl) (by kernel_rfl) (by kernel_rfl);have e3 := @run_callFunc_extern Tryz.prog 207 _ (ReflectliteValue.method (ReflectliteValue.valueError "reflectlite.Value.IsNil" 0) ReflectliteValue.isNil) Tryz.func207 (by kernel_rfl) (by kernel_rfl) (by kernel_rfl) (by kernel_rfl);have e4:=@run_callFunc_extern Tryz.prog 311 _ (ReflectliteType.abiMethod fun t=>do pure (.int .u8 (<-Rtype.kind t))) Tryz.func311 (by kernel_rfl) (by kernel_rfl) (by kernel_rfl) (by kernel_rfl);have e5:=@run_callFunc_extern Tryz.prog 324 _ (ReflectliteType.method ReflectliteType.elem) Tryz.func324 (by kernel_rfl) (by kernel_rfl) (by kernel_rfl) (by kernel_rfl);have e6 := @run_callFunc_extern Tryz.prog 325 _ (ReflectliteType.relation "Implements" ReflectliteType.implements_) Tryz.func325 (by kernel_rfl) (by kernel_rfl) (by kernel_rfl) (by kernel_rfl);have e7:=@run_callFunc_extern Tryz.prog 254 _ ReflectliteType.typeOf Tryz.func254 (by kernel_rfl) (by kernel_rfl) (by kernel_rfl) (by kernel_rfl);have e8 := @run_callFunc_extern Tryz.prog 322 _ (ReflectliteType.relation "AssignableTo" ReflectliteType.assignableTo) Tryz.func322 (by kernel_rfl) (by kernel_rfl) (by kernel_rfl) (by kernel_rfl);have e9 := @run_callFunc_extern Tryz.prog 255 _ (ReflectliteValue.method (ReflectliteValue.valueError "reflectlite.Value.Elem" 0) ReflectliteValue.elem) Tryz.func255 (by kernel_rfl) (by kernel_rfl) (by kernel_rfl) (by kernel_rfl);have U:=@run_callFunc_extern Tryz.prog 256 _ ReflectliteValue.set Tryz.func256 (by kernel_rfl) (by kernel_rfl) (by kernel_rfl) (by kernel_rfl);have m1:=vY;have m2:=vZ;have m3:=rm;have m4:=qr;have m5:=Bv;have q1:=Jx;have q2:=Ld;have q3:=SF;have q4:=SG;have q5:=VD;have q6:=SH;have q7:=Df;have q8:=Dc;have q9:=Bu;have aa:=Oi;have ab:=Dg;have ad:=Le;have ac:=Lf;have D:=World.block_lt_of_cell? _ _ hG;have D:2<w.heap.size:=D;have Y:=hB.sz
 let W1:=w.alloc (.cells #[.pointer (some ⟨b,0,none⟩)] 247)
 let W2:=W1.alloc (.cells #[.pointer (some ⟨13,247,none⟩),.pointer (some ⟨w.heap.size,0,none⟩),.int .u64 150] 298)
 let W3:=W2.alloc (.cells #[.pointer (some ⟨13,247,none⟩),.pointer (some ⟨w.heap.size,0,none⟩),.int .u64 150] 298)
 let W4:=W3.alloc (.cells #[.int .i64 x,.int .i64 y] 242)
 let W5:=W4.alloc (.cells #[.int .i64 y] 45)
 have O:jh W1 w.heap.size [.pointer (some ⟨b,0,none⟩)]:=jh.new w _ _;have M:jh W2 w.heap.size [.pointer (some ⟨b,0,none⟩)]:=O.alloc _;have N:jh W4 w.heap.size [.pointer (some ⟨b,0,none⟩)]:=(M.alloc _).alloc _;have R:jh W5 (w.heap.size+1+1+1+1) [.int .i64 y]:=by have:=jh.new W4 [.int .i64 y] 45;simpa [W4,W3,W2,W1] using this
 have J:jh W5 b [.int .i64 0]:=((((hB.alloc _).alloc _).alloc _).alloc _).alloc _;have Z:=Oj ⟨w.heap.size,0,none⟩ ⟨b,0,none⟩ W2 (M.cell 0 _ rfl);have X:=Ok ⟨w.heap.size,0,none⟩ ⟨b,0,none⟩ W4 (N.cell 0 _ rfl);have st:=Yu b (w.heap.size+1+1+1+1) y _ W5 (R.cell 0 _ rfl) (J.cell 0 _ rfl) (J.free 0 (by simp));have K:W2.cell? ⟨2,0,none⟩=some (.iface 337 (.agg #[.pointer (some ⟨13,191,none⟩)])):=by
  show((w.alloc _).alloc _).cell? _=_;rw[World.cell?_alloc_lt _ _ ⟨2,0,none⟩ (by simp;omega),World.cell?_alloc_lt _ _ ⟨2,0,none⟩ D];exact hG
 have I:Hid (jh (W5.setCell ⟨b,0,none⟩ (.int .i64 y)) b [.int .i64 y]):=J.set 0 (by simp) _;have H:Hid (w.grownBy (W5.setCell ⟨b,0,none⟩ (.int .i64 y)) (some b)):=by
  have z:Below w.heap.size w W5:=((((bR.alloc lr _).alloc (by simp) _).alloc (by simp;omega) _).alloc (by simp;omega) _).alloc (by simp;omega) _;have V:w.grownBy W5 (some b):=⟨z.os,z.tape,z.output,z.size,fun i hi _=>z.block i hi⟩
  exact ji V (.inl rfl) _
 simp only[W5,W4,W3,W2,W1] at Z X st K I H;clear O M N R J hB;clear W5 W4 W3 W2 W1;go_in;go_wp2;refine wp_loop_rounds 2 ?_;rw[rounds_succ];go_wp2;rw[rounds_succ];go_wp2;go_ret;exact⟨rfl,I.out,H.out⟩
end
section
open Go.RowKit
theorem jh.grown {wr w':World}{b c:Nat}{vs:List Value}(h:jh wr c vs)(hg:wr.grownBy w' (some b))(hne:c≠b):jh w' c vs:=by
 have y:w'.heap[c]?=wr.heap[c]?:=hg.block c h.sz (by intro e;injection e with e;exact hne e);refine⟨Nat.lt_of_lt_of_le h.sz hg.size,fun j u D=>?_,fun j z=>?_⟩
 ·exact(World.cell?_of_block (a:=⟨c,j,none⟩) y).trans (h.cell j u D)
 ·exact(World.frozen?_of_block (a:=⟨c,j,none⟩) y).trans (h.free j z)
def nC (f:BA)(a c:Int):Value:=.agg #[.string f,.int .i64 a,.int .i64 c]
theorem Jy (x y p:Int)(w:World)(hG:QN w):Calls Tryz.prog 98 #[.iface 242 (.agg #[.int .i64 x,.int .i64 y]),.int .i64 p] w fun e w'=>(∃ a:Int,e=.returned (nC ⟨#[]⟩ a y))/\Below w.heap.size w w':=by
 have Y:=iV hG;clear hG;go_in;go_wp2_with fail
 let W1:=w.alloc (.cells #[.string ⟨#[]⟩,.int .i64 0,.int .i64 0] 132)
 let W2:=W1.alloc (.cells #[.string ⟨#[]⟩,.int .i64 p,.int .i64 3] 132)
 let W3:=W2.alloc (.cells #[.int .i64 0,.int .i64 0] 242)
 have A3:jh W3 w.heap.size [.string ⟨#[]⟩,.int .i64 0,.int .i64 0]:=((jh.new w _ _).alloc _).alloc _;have F3:jh W3 (w.heap.size+1) [.string ⟨#[]⟩,.int .i64 p,.int .i64 3]:=by have:=(jh.new W1 [.string ⟨#[]⟩,.int .i64 p,.int .i64 3] 132).alloc (.cells #[.int .i64 0,.int .i64 0] 242);simpa [W1] using this
 have X:jh W3 (w.heap.size+1+1) [.int .i64 0,.int .i64 0]:=by have:=jh.new W2 [.int .i64 0,.int .i64 0] 242;simpa [W2,W1] using this
 have N:Below w.heap.size w W3:=((bR.alloc lr _).alloc (by simp) _).alloc (by simp;omega) _;refine(VC (w.heap.size+1+1) x y W3 (Y.out.below N).2 X).mono ?_;rintro e F ⟨rfl,t1,z⟩;have KA:Hid (jh F w.heap.size [.string ⟨#[]⟩,.int .i64 0,.int .i64 0]):=A3.grown z (by omega);have R:Hid (jh F (w.heap.size+1) [.string ⟨#[]⟩,.int .i64 p,.int .i64 3]):=F3.grown z (by omega);have KT:Hid (jh F (w.heap.size+1+1) [.int .i64 x,.int .i64 y]):=t1;have BB:Hid (Below w.heap.size w F):=N.grown z N.size (fun j I=>by injection I with I;omega);clear t1 z A3 F3 X N;clear W3 W2 W1;have f1:=R.out.cell 1 _ rfl;have O:=R.out.free 1 (by simp);have V:=KT.out.cell 0 _ rfl;go_wp2_with fail;have ae:=KA.out.sz;have ac:=KT.out.sz;obtain⟨q,hq⟩:∃ q,wrap64 (p+x)=q:=⟨_,rfl⟩
 let V1:=(F.setCell ⟨w.heap.size+1,1,none⟩ (.int .i64 (wrap64 (p+x)))).alloc (.cells #[.int .i64 0] 45)
 have A1:jh V1 w.heap.size [.string ⟨#[]⟩,.int .i64 0,.int .i64 0]:=(KA.out.far (by omega) _).alloc _;have F1:jh V1 (w.heap.size+1) [.string ⟨#[]⟩,.int .i64 (wrap64 (p+x)),.int .i64 3]:=(R.out.set 1 (by simp) _).alloc _;have Z:jh V1 F.heap.size [.int .i64 0]:=by have:=jh.new (F.setCell ⟨w.heap.size+1,1,none⟩ (.int .i64 (wrap64 (p+x)))) [.int .i64 0] 45;simpa using this
 have M:Below w.heap.size w V1:=(jb BB.out (by omega) _).alloc (by simp;omega) _;refine(VE F.heap.size x y V1 (Y.out.below M).2 Z).mono ?_;rintro e J ⟨rfl,U,D⟩;have H:Hid (jh J w.heap.size [.string ⟨#[]⟩,.int .i64 0,.int .i64 0]):=A1.grown D (by omega);have K:Hid (jh J (w.heap.size+1) [.string ⟨#[]⟩,.int .i64 q,.int .i64 3]):=by rw[<-hq];exact F1.grown D (by omega)
 have LT:Hid (jh J F.heap.size [.int .i64 y]):=U;have CB:Hid (Below w.heap.size w J):=M.grown D M.size (fun j I=>by injection I with I;omega);clear U D A1 F1 Z M;clear V1;clear f1 O V;have f0:=K.out.cell 0 _ rfl;have f1:=K.out.cell 1 _ rfl;have f2:=K.out.cell 2 _ rfl;have af:=K.out.free 2 (by simp);have V:=LT.out.cell 0 _ rfl;have a0:=H.out.cell 0 _ rfl;have a1:=H.out.cell 1 _ rfl;have a2:=H.out.cell 2 _ rfl;have ab:=H.out.free 0 (by simp);have aa:=H.out.free 1 (by simp);have ad:=H.out.free 2 (by simp);go_wp2_with fail;refine bodyPost_ret (v:=.agg #[.string ⟨#[]⟩,.int .i64 q,.int .i64 y]) (by simp[results,Tryz.results98,go_sem,a0,a1,a2]) rfl ⟨⟨q,rfl⟩,?_⟩;exact jb (jb (jb (jb CB.out (Nat.le_succ _) _) lr _) lr _) lr _
theorem vv (s:BA)(w:World)(hs:s.size<=9223372036854775807):Calls Tryz.prog 164 #[.string s] w fun e w'=>e=.returned (.bool (mC (bl s)))/\w=w':=by
 by_cases h0:s.size=0
 ·have he:s.toList=[]:=by rw[iY,kw s h0]
  have aa:s.toList.isEmpty=true:=by rw[he];rfl
  have E:Hid (mC (bl s)=false):=wP s (by omega);go_in;go_wp2;go_ret;exact⟨iW E.out.symm,rfl⟩
 have hp:0<s.size:=by omega
 have aa:s.toList.isEmpty=false:=by rw[iY,jB];exact dF h0
 have he:¬ s.toList=[]:=by intro h;rw[h] at aa;simp at aa
 by_cases af:64<s.size
 ·have E:Hid (mC (bl s)=false):=wP s (by omega);go_in;go_wp2;go_ret;exact⟨iW E.out.symm,rfl⟩
 have ae:decide (64<(s.size:Int))=false:=dF (by omega);obtain⟨U,ac⟩:∃ U:UInt8,s[0]=U:=⟨_,rfl⟩
 have HH:=iV (Sv s hp);rw[ac] at HH;cases hl:sP U with
 | true=>
  have HD:Hid (AM (bl s)=true):=by show _=_;rw[HH.out];simp[wN,hl]
  have F:=fun W=>kG U W;rw[hl] at F;clear hl;go_in;go_wp2_with fail;refine(F _).mono ?_;rintro e w' ⟨rfl,rfl⟩;go_wp2_with fail;clear F;go_loop [3,32] (fun o i=>∃ k n:Nat,k<=s.size/\n<=k/\o=.int .i64 n/\i=.int .i64 k/\Hid (((bl s).take k).foldl lz (some 0)=some n)) (fun _ i=>s.size-(intOf i).toNat)
  case atStart=>exact⟨0,0,z0,lr,rfl,rfl,by simp[Hid]⟩
  case round=>
   obtain⟨k,n,hk,hn,rfl,rfl,X⟩:=hrel;by_cases M:k<s.size
   ·obtain⟨c,hc⟩:∃ c:UInt8,s[k]=c:=⟨_,rfl⟩
    have N:=iV (fun m=>wO s k n m M X.out);have Y:=iV (zl s k n M X.out);rw[hc] at N Y;have D:∀ n:UInt8,c=n↔c.toNat=n.toNat:=fun n=>UInt8.toNat_inj.symm;by_cases R:c.toNat=40
    ·have y:(c==40)=true:=by rw[beq_iff_eq,D];exact R
     have K:=iV (N.out (n+1) (by simp[lz,y]));clear y D;go_wp2;go_round
     case rel=>exact⟨k+1,n+1,by omega,by omega,by go_num,by go_num,K⟩
     case measure=>simp[intOf];omega
    have y:(c==40)=false:=by rw[bF,ne_eq,D];exact R
    by_cases O:c.toNat=41
    ·have z:(c==41)=true:=by rw[beq_iff_eq,D];exact O
     by_cases V:n=0
     ·have E:=iV (Y.out (by simp[lz,y,z,V]));subst V;clear y z D;go_wp2;go_ret;exact⟨iW E.out.symm,rfl⟩
     ·have K:=iV (N.out (n-1) (by simp[lz,y,z,V]));obtain⟨m,rfl⟩:∃ m,n=m+1:=⟨n-1,by omega⟩
      clear y z D;go_wp2;go_round
      case rel=>exact⟨k+1,m,by omega,by omega,by go_num,by go_num,K⟩
      case measure=>simp[intOf];omega
    have z:(c==41)=false:=by rw[bF,ne_eq,D];exact O
    cases hl:sP c with
    | true=>
     have H:nK c=true:=by simp[nK,hl]
     have K:=iV (N.out (n) (by simp[lz,y,z,H]));have F:=fun W=>kG c W;rw[hl] at F;clear hl H y z D;go_wp2_with fail;refine(F _).mono ?_;rintro e w' ⟨rfl,rfl⟩;go_wp2;go_round
     case rel=>exact⟨k+1,n,by omega,by omega,by go_num,by go_num,K⟩
     case measure=>simp[intOf];omega
    | false=>
     cases hd:jV c with
     | true=>
      have H:nK c=true:=by simp[nK,hd]
      have K:=iV (N.out (n) (by simp[lz,y,z,H]));have F:=fun W=>kG c W;rw[hl] at F;have I:=fun W=>lW c W;rw[hd] at I;clear hl hd H y z D;go_wp2_with fail;refine(F _).mono ?_;rintro e w' ⟨rfl,rfl⟩;go_wp2_with fail;refine(I _).mono ?_;rintro e w' ⟨rfl,rfl⟩;go_wp2;go_round
      case rel=>exact⟨k+1,n,by omega,by omega,by go_num,by go_num,K⟩
      case measure=>simp[intOf];omega
     | false=>
      have J:=CW c hl hd;cases H:nK c with
      | true=>
       have hx:=pO ⟨#[46,95,43,45,47,58]⟩ c (by rw[J,H]);have K:=iV (N.out (n) (by simp[lz,y,z,H]));have F:=fun W=>kG c W;rw[hl] at F;have I:=fun W=>lW c W;rw[hd] at I;clear hl hd H J y z D;go_wp2_with fail;refine(F _).mono ?_;rintro e w' ⟨rfl,rfl⟩;go_wp2_with fail;refine(I _).mono ?_;rintro e w' ⟨rfl,rfl⟩;go_wp2_with fail;refine(jQ _ c _).mono ?_;rintro e w' ⟨rfl,rfl⟩;go_wp2;go_round
       case rel=>exact⟨k+1,n,by omega,by omega,by go_num,by go_num,K⟩
       case measure=>simp[intOf];omega
      | false=>
       have hx:=pj ⟨#[46,95,43,45,47,58]⟩ c (by rw[J,H]);have E:=iV (Y.out (by simp[lz,y,z,H]));have F:=fun W=>kG c W;rw[hl] at F;have I:=fun W=>lW c W;rw[hd] at I;clear hl hd H J y z D;go_wp2_with fail;refine(F _).mono ?_;rintro e w' ⟨rfl,rfl⟩;go_wp2_with fail;refine(I _).mono ?_;rintro e w' ⟨rfl,rfl⟩;go_wp2_with fail;refine(jQ _ c _).mono ?_;rintro e w' ⟨rfl,rfl⟩;go_wp2;go_ret;exact⟨iW E.out.symm,rfl⟩
   ·have E:=iV (zm s k n M X.out (by omega) (by omega) HD.out);go_wp2;go_ret;exact⟨iW (by rw[E.out,bI];simp),rfl⟩
 | false=>
  cases hd:jV U with
  | true=>
   have HD:Hid (AM (bl s)=true):=by show _=_;rw[HH.out];simp[wN,hd]
   have F:=fun W=>kG U W;rw[hl] at F;have I:=fun W=>lW U W;rw[hd] at I;clear hl hd;go_in;go_wp2_with fail;refine(F _).mono ?_;rintro e w' ⟨rfl,rfl⟩;go_wp2_with fail;refine(I _).mono ?_;rintro e w' ⟨rfl,rfl⟩;go_wp2_with fail;clear F I;go_loop [3,32] (fun o i=>∃ k n:Nat,k<=s.size/\n<=k/\o=.int .i64 n/\i=.int .i64 k/\Hid (((bl s).take k).foldl lz (some 0)=some n)) (fun _ i=>s.size-(intOf i).toNat)
   case atStart=>exact⟨0,0,z0,lr,rfl,rfl,by simp[Hid]⟩
   case round=>
    obtain⟨k,n,hk,hn,rfl,rfl,X⟩:=hrel;by_cases M:k<s.size
    ·obtain⟨c,hc⟩:∃ c:UInt8,s[k]=c:=⟨_,rfl⟩
     have N:=iV (fun m=>wO s k n m M X.out);have Y:=iV (zl s k n M X.out);rw[hc] at N Y;have D:∀ n:UInt8,c=n↔c.toNat=n.toNat:=fun n=>UInt8.toNat_inj.symm;by_cases R:c.toNat=40
     ·have y:(c==40)=true:=by rw[beq_iff_eq,D];exact R
      have K:=iV (N.out (n+1) (by simp[lz,y]));clear y D;go_wp2;go_round
      case rel=>exact⟨k+1,n+1,by omega,by omega,by go_num,by go_num,K⟩
      case measure=>simp[intOf];omega
     have y:(c==40)=false:=by rw[bF,ne_eq,D];exact R
     by_cases O:c.toNat=41
     ·have z:(c==41)=true:=by rw[beq_iff_eq,D];exact O
      by_cases V:n=0
      ·have E:=iV (Y.out (by simp[lz,y,z,V]));subst V;clear y z D;go_wp2;go_ret;exact⟨iW E.out.symm,rfl⟩
      ·have K:=iV (N.out (n-1) (by simp[lz,y,z,V]));obtain⟨m,rfl⟩:∃ m,n=m+1:=⟨n-1,by omega⟩
       clear y z D;go_wp2;go_round
       case rel=>exact⟨k+1,m,by omega,by omega,by go_num,by go_num,K⟩
       case measure=>simp[intOf];omega
     have z:(c==41)=false:=by rw[bF,ne_eq,D];exact O
     cases hl:sP c with
     | true=>
      have H:nK c=true:=by simp[nK,hl]
      have K:=iV (N.out (n) (by simp[lz,y,z,H]));have F:=fun W=>kG c W;rw[hl] at F;clear hl H y z D;go_wp2_with fail;refine(F _).mono ?_;rintro e w' ⟨rfl,rfl⟩;go_wp2;go_round
      case rel=>exact⟨k+1,n,by omega,by omega,by go_num,by go_num,K⟩
      case measure=>simp[intOf];omega
     | false=>
      cases hd:jV c with
      | true=>
       have H:nK c=true:=by simp[nK,hd]
       have K:=iV (N.out (n) (by simp[lz,y,z,H]));have F:=fun W=>kG c W;rw[hl] at F;have I:=fun W=>lW c W;rw[hd] at I;clear hl hd H y z D;go_wp2_with fail;refine(F _).mono ?_;rintro e w' ⟨rfl,rfl⟩;go_wp2_with fail;refine(I _).mono ?_;rintro e w' ⟨rfl,rfl⟩;go_wp2;go_round
       case rel=>exact⟨k+1,n,by omega,by omega,by go_num,by go_num,K⟩
       case measure=>simp[intOf];omega
      | false=>
       have J:=CW c hl hd;cases H:nK c with
       | true=>
        have hx:=pO ⟨#[46,95,43,45,47,58]⟩ c (by rw[J,H]);have K:=iV (N.out (n) (by simp[lz,y,z,H]));have F:=fun W=>kG c W;rw[hl] at F;have I:=fun W=>lW c W;rw[hd] at I;clear hl hd H J y z D;go_wp2_with fail;refine(F _).mono ?_;rintro e w' ⟨rfl,rfl⟩;go_wp2_with fail;refine(I _).mono ?_;rintro e w' ⟨rfl,rfl⟩;go_wp2_with fail;refine(jQ _ c _).mono ?_;rintro e w' ⟨rfl,rfl⟩;go_wp2;go_round
        case rel=>exact⟨k+1,n,by omega,by omega,by go_num,by go_num,K⟩
        case measure=>simp[intOf];omega
       | false=>
        have hx:=pj ⟨#[46,95,43,45,47,58]⟩ c (by rw[J,H]);have E:=iV (Y.out (by simp[lz,y,z,H]));have F:=fun W=>kG c W;rw[hl] at F;have I:=fun W=>lW c W;rw[hd] at I;clear hl hd H J y z D;go_wp2_with fail;refine(F _).mono ?_;rintro e w' ⟨rfl,rfl⟩;go_wp2_with fail;refine(I _).mono ?_;rintro e w' ⟨rfl,rfl⟩;go_wp2_with fail;refine(jQ _ c _).mono ?_;rintro e w' ⟨rfl,rfl⟩;go_wp2;go_ret;exact⟨iW E.out.symm,rfl⟩
    ·have E:=iV (zm s k n M X.out (by omega) (by omega) HD.out);go_wp2;go_ret;exact⟨iW (by rw[E.out,bI];simp),rfl⟩
  | false=>
   by_cases Z:U.toNat=47
   ·have ab:U=47:=UInt8.toNat_inj.1 Z;have HD:Hid (AM (bl s)=true):=by show _=_;rw[HH.out];simp[wN,ab]
    clear ab;have F:=fun W=>kG U W;rw[hl] at F;have I:=fun W=>lW U W;rw[hd] at I;have ad:((U.toNat:Int) != 47)=false:=by simp[Z]
    clear hl hd Z;go_in;go_wp2_with fail;refine(F _).mono ?_;rintro e w' ⟨rfl,rfl⟩;go_wp2_with fail;refine(I _).mono ?_;rintro e w' ⟨rfl,rfl⟩;go_wp2_with fail;clear F I;go_loop [3,32] (fun o i=>∃ k n:Nat,k<=s.size/\n<=k/\o=.int .i64 n/\i=.int .i64 k/\Hid (((bl s).take k).foldl lz (some 0)=some n)) (fun _ i=>s.size-(intOf i).toNat)
    case atStart=>exact⟨0,0,z0,lr,rfl,rfl,by simp[Hid]⟩
    case round=>
     obtain⟨k,n,hk,hn,rfl,rfl,X⟩:=hrel;by_cases M:k<s.size
     ·obtain⟨c,hc⟩:∃ c:UInt8,s[k]=c:=⟨_,rfl⟩
      have N:=iV (fun m=>wO s k n m M X.out);have Y:=iV (zl s k n M X.out);rw[hc] at N Y;have D:∀ n:UInt8,c=n↔c.toNat=n.toNat:=fun n=>UInt8.toNat_inj.symm;by_cases R:c.toNat=40
      ·have y:(c==40)=true:=by rw[beq_iff_eq,D];exact R
       have K:=iV (N.out (n+1) (by simp[lz,y]));clear y D;go_wp2;go_round
       case rel=>exact⟨k+1,n+1,by omega,by omega,by go_num,by go_num,K⟩
       case measure=>simp[intOf];omega
      have y:(c==40)=false:=by rw[bF,ne_eq,D];exact R
      by_cases O:c.toNat=41
      ·have z:(c==41)=true:=by rw[beq_iff_eq,D];exact O
       by_cases V:n=0
       ·have E:=iV (Y.out (by simp[lz,y,z,V]));subst V;clear y z D;go_wp2;go_ret;exact⟨iW E.out.symm,rfl⟩
       ·have K:=iV (N.out (n-1) (by simp[lz,y,z,V]));obtain⟨m,rfl⟩:∃ m,n=m+1:=⟨n-1,by omega⟩
        clear y z D;go_wp2;go_round
        case rel=>exact⟨k+1,m,by omega,by omega,by go_num,by go_num,K⟩
        case measure=>simp[intOf];omega
      have z:(c==41)=false:=by rw[bF,ne_eq,D];exact O
      cases hl:sP c with
      | true=>
       have H:nK c=true:=by simp[nK,hl]
       have K:=iV (N.out (n) (by simp[lz,y,z,H]));have F:=fun W=>kG c W;rw[hl] at F;clear hl H y z D;go_wp2_with fail;refine(F _).mono ?_;rintro e w' ⟨rfl,rfl⟩;go_wp2;go_round
       case rel=>exact⟨k+1,n,by omega,by omega,by go_num,by go_num,K⟩
       case measure=>simp[intOf];omega
      | false=>
       cases hd:jV c with
       | true=>
        have H:nK c=true:=by simp[nK,hd]
        have K:=iV (N.out (n) (by simp[lz,y,z,H]));have F:=fun W=>kG c W;rw[hl] at F;have I:=fun W=>lW c W;rw[hd] at I;clear hl hd H y z D;go_wp2_with fail;refine(F _).mono ?_;rintro e w' ⟨rfl,rfl⟩;go_wp2_with fail;refine(I _).mono ?_;rintro e w' ⟨rfl,rfl⟩;go_wp2;go_round
        case rel=>exact⟨k+1,n,by omega,by omega,by go_num,by go_num,K⟩
        case measure=>simp[intOf];omega
       | false=>
        have J:=CW c hl hd;cases H:nK c with
        | true=>
         have hx:=pO ⟨#[46,95,43,45,47,58]⟩ c (by rw[J,H]);have K:=iV (N.out (n) (by simp[lz,y,z,H]));have F:=fun W=>kG c W;rw[hl] at F;have I:=fun W=>lW c W;rw[hd] at I;clear hl hd H J y z D;go_wp2_with fail;refine(F _).mono ?_;rintro e w' ⟨rfl,rfl⟩;go_wp2_with fail;refine(I _).mono ?_;rintro e w' ⟨rfl,rfl⟩;go_wp2_with fail;refine(jQ _ c _).mono ?_;rintro e w' ⟨rfl,rfl⟩;go_wp2;go_round
         case rel=>exact⟨k+1,n,by omega,by omega,by go_num,by go_num,K⟩
         case measure=>simp[intOf];omega
        | false=>
         have hx:=pj ⟨#[46,95,43,45,47,58]⟩ c (by rw[J,H]);have E:=iV (Y.out (by simp[lz,y,z,H]));have F:=fun W=>kG c W;rw[hl] at F;have I:=fun W=>lW c W;rw[hd] at I;clear hl hd H J y z D;go_wp2_with fail;refine(F _).mono ?_;rintro e w' ⟨rfl,rfl⟩;go_wp2_with fail;refine(I _).mono ?_;rintro e w' ⟨rfl,rfl⟩;go_wp2_with fail;refine(jQ _ c _).mono ?_;rintro e w' ⟨rfl,rfl⟩;go_wp2;go_ret;exact⟨iW E.out.symm,rfl⟩
     ·have E:=iV (zm s k n M X.out (by omega) (by omega) HD.out);go_wp2;go_ret;exact⟨iW (by rw[E.out,bI];simp),rfl⟩
   ·have E:Hid (mC (bl s)=false):=N9 s (by rw[HH.out];simp only[wN,hl,hd];simp;intro e;exact Z (by rw[e];rfl));have F:=fun W=>kG U W;rw[hl] at F;have I:=fun W=>lW U W;rw[hd] at I;clear hl hd;have ad:=abj (b:=47) (by omega:(U.toNat:Int)≠47);go_in;go_wp2_with fail;refine(F _).mono ?_;rintro e w' ⟨rfl,rfl⟩;go_wp2_with fail;refine(I _).mono ?_;rintro e w' ⟨rfl,rfl⟩;go_wp2;go_ret;exact⟨iW E.out.symm,rfl⟩
end
end Go.Proofs.YtkmjcombhjombaaGreatDoor
