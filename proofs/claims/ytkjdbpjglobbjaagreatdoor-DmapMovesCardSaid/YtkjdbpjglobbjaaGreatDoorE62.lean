/- A part of the proof of a law on dependencies in three formats. No condition. -/
import Derived.Test.YtkjdbpjglobbjaaGreatDoorE55
import Derived.Test.YtkjdbpjglobbjaaGreatDoorE59
import Derived.Test.YtkjdbpjglobbjaaGreatDoorE61
set_option maxRecDepth 100000
set_option maxHeartbeats 20000000
set_option linter.unusedVariables false
set_option linter.unusedSimpArgs false
namespace Go.Proofs.YtkjdbpjglobbjaaGreatDoor
section
open Go.RowKit
theorem Nr {a b:Int}{l:List bW}:(fD a b l).length≤l.length:=by unfold fD;split<;>simp
theorem GZ {a b:Int}{l:List bW}(n:Nat)(h:∀ x∈l,x.gives.length≤n):∀ x∈fD a b l,x.gives.length≤n:=by
 intro x hx
 unfold fD at hx
 split at hx
 ·obtain⟨y,hy,rfl⟩:=List.mem_map.1 hx
  unfold dG;simp only[List.length_map];exact h y hy
 ·simp at hx
theorem Af (a b:Int)(A:Option Addr)(c:Nat)(l:List aB)(w:World)(hG:En w)(hs:kF w A l)(hf:∀ x∈l,x.fits)(hl:l.length≤9223372036854775807):
  Calls Tryz.prog 4 #[.int .i64 a,.int .i64 b,.slice A l.length c] w fun e w'=>e=.returned (.bool true)∧Below w.heap.size w w':=by
 have HG:=ae hG;have HS:=ae hs;have HF:=ae hf;have HL:=ae hl
 clear hG hs hf hl
 go_enter Tryz.func4,Tryz.ntmps4
 go_wp2_with fail
 refine(uy _ HG.out).mono ?_;rintro e w1 ⟨rfl,hb1⟩
 have B1:=ae hb1;clear hb1
 go_wp2_with fail
 refine(sr A c l _ (HS.out.below B1.out) HF.out HL.out).mono ?_;rintro e w2 ⟨bb,rfl,hp,hb2⟩
 have B2:=ae (ah B1.out hb2);clear hb2
 have HP:=ae hp;clear hp
 cases bb
 ·go_wp2_with fail
  go_ret
  exact⟨rfl,B2.out⟩
 have LW:=ae (HP.out rfl)
 have FW:Hid (xF l):=KE LW.out.1 LW.out.2
 clear HP
 go_wp2_with fail
 refine(qL a b A c l _ (HG.out.below B2.out).p (HS.out.below B2.out) FW.out).mono ?_;rintro e w3 ⟨A1,c1,o1,rfl,hs1,hp1,hb3⟩
 have B3:=ae (ah B2.out hb3);clear hb3
 have S1:=ae hs1;have P1:=ae hp1;clear hs1 hp1
 go_wp2_with fail
 refine(Nq a b A c l _ (HS.out.below B3.out) FW.out).mono ?_;rintro e w4 ⟨A2,c2,o2,rfl,hs2,hp2,hb4⟩
 have B4:=ae (ah B3.out hb4)
 have S2:=ae hs2;have P2:=ae hp2
 have S14:=ae (S1.out.below hb4)
 clear hs2 hp2 hb4
 have HSS:=ae (GY A1 A2 c1 c2 o1 o2 w4 S14.out S2.out (by rw[P1.out,P2.out])
  (by have h1:=congrArg List.length P1.out;have h2:=Nr (a:=a) (b:=b) (l:=l.map aB.plain);have h3:=LW.out.1;simp only[List.length_map] at h1 h2;omega)
  (fun x hx=>by
   have hm:x.plain∈fD a b (l.map aB.plain):=by rw[←P1.out];exact List.mem_map.2 ⟨x,hx,rfl⟩
   have:=GZ 1000000 (fun y hy=>by obtain⟨z,hz,rfl⟩:=List.mem_map.1 hy;have:=(LW.out.2 z hz).2.2.1;show z.gives.length≤_;omega) _ hm
   exact this))
 generalize o1.length=n1 at *
 generalize o2.length=n2 at *
 generalize dC a b (l.map aB.plain)=ee at *
 go_wp2_with fail
 refine HSS.out.mono ?_;rintro e w5 ⟨rfl,hb5⟩
 have B5:=ae (ah B4.out hb5);clear hb5
 go_wp2_with fail
 go_ret
 exact⟨by simp,B5.out⟩
end
end Go.Proofs.YtkjdbpjglobbjaaGreatDoor
