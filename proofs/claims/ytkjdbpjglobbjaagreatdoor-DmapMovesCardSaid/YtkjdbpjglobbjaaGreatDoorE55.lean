/- A part of the proof of a law on dependencies in three formats. No condition. -/
import Derived.Test.YtkjdbpjglobbjaaGreatDoorE51
import Derived.Test.YtkjdbpjglobbjaaGreatDoorE53
set_option maxRecDepth 100000
set_option maxHeartbeats 20000000
set_option linter.unusedVariables false
set_option linter.unusedSimpArgs false
namespace Go.Proofs.YtkjdbpjglobbjaaGreatDoor
section
open Go.RowKit
theorem UK (T:aj)(h:T.pl=.node eE [.atom (bl Uw) 4 (bl So),.atom (bl UJ) 0 []])(hc:T.cnt≤64)(hg:dH T):Ql JK T:=by
 cases hg with
 | atom nm aop ver=>
  rw[oJ _ _ _ _ _ _ _ rfl] at h
  cases h
 | node op ka kc kids ho hcl hk=>
  rw[oK _ _ _ _ _ _ _ (kg ho).1] at h
  injection h with h1 h2
  rw[ik] at h2
  match kids,h2,hk with
  | [],h2,_=>simp at h2
  | [k0],h2,_=>simp at h2
  | k0::k1::k2::r,h2,_=>simp at h2
  | [k0,k1],h2,hk=>
   injection h2 with h3 h4
   refine⟨dp h1,by show[k0,k1].length≤_;simp,k0,rfl,?_⟩
   cases hk k0 (by simp) with
   | atom nm aop ver=>
    rw[oJ _ _ _ _ _ _ _ rfl] at h3
    injection h3 with h5 h6 h7
    obtain rfl:=dp h5
    obtain rfl:=dp h7
    subst h6
    exact⟨rfl,⟨rfl,rfl,Qr,Qr,Um,by decide,by decide⟩⟩
   | node op2 ka2 kc2 kids2 ho2=>
    rw[oK _ _ _ _ _ _ _ (kg ho2).1] at h3
    cases h3
theorem Qw (A:Option Addr)(c:Nat)(N:Option Addr)(nc:Nat)(w:World)(hG:Gl w)(hs:kT w A JK)(hn:Rd w 1 N 1 (strCells [N7])):
  Calls Tryz.prog 16 #[.int .i64 2,.slice A 1 c,.slice N 1 nc,.bool false] w fun e w'=>e=.returned (.tuple #[.bool true,.int .i64 0])∧Below w.heap.size w w':=
 Ac A c JK N nc N7 _ w hG hs hn (by decide) Sr UK
theorem uy (w:World)(hG:En w):Calls Tryz.prog 6 #[] w fun e w'=>e=.returned (.bool true)∧Below w.heap.size w w':=by
 have HG:=ae hG
 clear hG
 obtain⟨W1,hW1⟩:∃ W1,w.alloc (.cells #[.string ⟨#[97,97,32,40,62,61,32,49,46,48,45,49,41,32,124,32,98,98]⟩] 9)=W1:=⟨_,rfl⟩
 have B1:Hid (Below w.heap.size w W1):=by rw[←hW1];exact bR.alloc lr _
 have R1:Hid (Rd W1 1 (some ⟨w.heap.size,0,none⟩) 1 (strCells [QZ])):=by
  show Rd _ _ _ _ _
  rw[←hW1]
  exact DK w [.string QZ] 9 1 1 rfl
 have FR:=ae (KC (some ⟨w.heap.size,0,none⟩) 1 W1 (HG.out.below B1.out) R1.out)
 go_enter Tryz.func6,Tryz.ntmps6
 go_wp2_with fail
 clear hW1
 refine FR.out.mono ?_;rintro e w2 ⟨A1,c1,ds,rfl,hb2,hd,hp⟩
 have B2:=ae (ah B1.out hb2)
 have HD:=ae hd;have HP:=ae hp
 clear hb2 hd hp FR R1 B1
 go_wp2_with fail
 refine(Qu A1 c1 ds w2 (HG.out.below B2.out) HD.out HP.out).mono ?_;rintro e w3 ⟨N,nc,M,mc,rfl,hb3,hn⟩
 have B3:=ae (ah B2.out hb3)
 have HN:=ae hn
 have HD3:=ae (HD.out.below hb3)
 clear hb3 hn
 go_wp2_with fail
 refine(Qv A1 c1 ds w3 (HG.out.below B3.out) HD3.out HP.out).mono ?_;rintro e w4 ⟨N2,nc2,M2,mc2,rfl,hb4⟩
 have B4:=ae (ah B3.out hb4)
 have HN4:=ae (HN.out.below hb4)
 clear hb4
 obtain⟨W5,hW5⟩:∃ W5,w4.alloc (.cells #[.string ⟨#[97,97]⟩,.string ⟨#[49,46,48,45,49]⟩,.slice none 0 0] 48)=W5:=⟨_,rfl⟩
 have B45:Hid (Below w4.heap.size w4 W5):=by rw[←hW5];exact bR.alloc lr _
 have B5:=ae (ah B4.out B45.out)
 have R5:Hid (kT W5 (some ⟨w4.heap.size,0,none⟩) JK):=by
  show kT _ _ _
  rw[←hW5]
  exact⟨DK w4 JK.cells 48 3 1 rfl⟩
 have HN5:=ae (HN4.out.below B45.out)
 go_wp2_with fail
 clear hW5
 refine(Qw (some ⟨w4.heap.size,0,none⟩) 1 N nc W5 (HG.out.below B5.out).e.1 R5.out HN5.out).mono ?_;rintro e w6 ⟨rfl,hb6⟩
 have B6:=ae (ah B5.out hb6)
 have HN6:=HN5.out.below hb6
 clear hb6
 obtain⟨b,off,hA,he⟩:=HN6.2 (by omega)
 have e0:=he 0 _ rfl
 unfold N7 at e0
 simp only[Nat.add_zero] at e0
 have hix:∀ W,(Instr.indexAt 25 (.slice N 1 nc) (.int .i64 0)).run Tryz.prog W=.ok (.pointer (some ⟨b,off,none⟩)) W:=fun W=>by
  have:=aH (T:=25) (E:=9) (sz:=1) (n:=1) (k:=0) (c:=nc) Tryz.underlying25 rfl Tryz.sizeOf9 hA (by omega) W
  simpa using this
 clear hA he HN6
 go_wp2_with fail
 go_ret
 exact⟨rfl,B6.out⟩
end
end Go.Proofs.YtkjdbpjglobbjaaGreatDoor
