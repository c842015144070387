/- A part of the proof. -/
import Derived.Test.YtaohgmcbpafdeaaGreatDoorA35
import Derived.Test.YtaohgmcbpafdeaaGreatDoorA37
set_option maxRecDepth 100000
set_option maxHeartbeats 20000000
set_option linter.unusedVariables false
set_option linter.unusedSimpArgs false
namespace Go.Proofs.YtaohgmcbpafdeaaGreatDoor
section
open Go.RowKit Go.Deep
theorem CU {T:aj}(h:fy T)(hcn:T.cnt≤64)(hht:T.ht≤32)(w:World)(hG:Gl w)(hO:bB w 0 none T):
  Calls Tryz.prog 114 #[T.val] w fun e w'=>e=.returned (.tuple #[.string (bC (dS T.pl)),.int .i64 0])∧Below w.heap.size w w':=by
 have HG:=ae hG
 have HO:=ae hO
 obtain⟨W1,hW1⟩:∃ W1,w.alloc (.cells #[.string T.op,.string T.nm,.int .i64 T.aop,.string T.ver,.slice T.ka T.kids.length T.kc] 179)=W1:=⟨_,rfl⟩
 have B1:Hid (Below w.heap.size w W1):=by rw[←hW1];exact bR.alloc lr _
 have K1:Hid (ax W1 w.heap.size T.cells):=by rw[←hW1];exact ax.new w T.cells _
 have k0:=K1.out.cell 0 _ rfl
 have k1:=K1.out.cell 1 _ rfl
 have k2:=K1.out.cell 2 _ rfl
 have k3:=K1.out.cell 3 _ rfl
 have k4:=K1.out.cell 4 _ rfl
 have hC:=ly T 0 h.shape hcn hht W1 (HG.out.below B1.out) (HO.out.low B1.out) (fun W g o=>CJ h W g o hcn)
 have HT:Hid (∀ W,Gl W→bB W 0 none T→Calls Tryz.prog 163 #[T.val] W fun e w'=>e=.returned (.string (bC (dS T.pl)))∧Below W.heap.size W w'):=fun W g o=>Gy h W g o hcn
 clear h hcn hht hG hO
 obtain⟨X,hX⟩:∃ X,bC (dS T.pl)=X:=⟨_,rfl⟩
 rw[hX] at HT ⊢
 clear hX
 unfold aj.val at *
 go_enter Tryz.func114,Tryz.ntmps114
 go_wp2_with fail
 clear hW1
 refine hC.mono ?_;rintro e w2 ⟨rfl,hb⟩
 have B2:=ae (aq B1.out hb)
 have K2:=ae (K1.out.below hb)
 clear hb k0 k1 k2 k3 k4 hC
 have k0:=K2.out.cell 0 _ rfl
 have k1:=K2.out.cell 1 _ rfl
 have k2:=K2.out.cell 2 _ rfl
 have k3:=K2.out.cell 3 _ rfl
 have k4:=K2.out.cell 4 _ rfl
 go_wp2_with fail
 refine(HT.out w2 (HG.out.below B2.out) (HO.out.low B2.out)).mono ?_;rintro e w3 ⟨rfl,hb⟩
 have B3:=ae (aq B2.out hb)
 clear hb
 go_wp2_with fail
 go_ret2
 exact⟨rfl,B3.out⟩
theorem zY (w:World)(hG:Gl w):
  Calls Tryz.prog 114 #[lp.val] w fun e w'=>e=.returned (.tuple #[.string ⟨#[]⟩,.int .i64 10])∧Below w.heap.size w w':=by
 have HG:=ae hG
 have hC:=ly lp 10 dL.zero (by decide) (by decide) (w.alloc (.cells #[.string ⟨#[]⟩,.string ⟨#[]⟩,.int .i64 0,.string ⟨#[]⟩,.slice none 0 0] 179)) (HG.out.alloc _) (tG _ _ _ _ _ _) (fun W _ _=>zN W)
 rw[lX] at hC ⊢
 have B1:Hid (Below w.heap.size w (w.alloc (.cells #[.string ⟨#[]⟩,.string ⟨#[]⟩,.int .i64 0,.string ⟨#[]⟩,.slice none 0 0] 179))):=bR.alloc lr _
 clear hG
 go_enter Tryz.func114,Tryz.ntmps114
 go_wp2_with fail
 refine hC.mono ?_;rintro e w2 ⟨rfl,hb⟩
 have B2:=ae (aq B1.out hb)
 clear hb hC
 go_wp2_with fail
 go_ret2
 exact⟨rfl,B2.out⟩
theorem vf {l:LU}(h:fp l=none):iW l=false:=by unfold iW;rw[h];simp
theorem vg {l:LU}{d:oN}(h:fp l=some d)(h0:l≠[]):iW l=decide (dS d=l):=by
 unfold iW;rw[h];simp[h0]
theorem tM (s:BA)(w:World)(hG:Gl w)(hs:s.size≤1000000):
  Calls Tryz.prog 79 #[.int .i64 2,.string s] w (sZ s (iW (bl s)) w):=by
 have HG:=ae hG;clear hG
 have B0:Hid (Below w.heap.size w (w.alloc (.cells #[.string ⟨#[]⟩,.int .i64 0,.int .i64 0] 172))):=bR.alloc lr _
 have K0:Hid (ax (w.alloc (.cells #[.string ⟨#[]⟩,.int .i64 0,.int .i64 0] 172)) w.heap.size [.string ⟨#[]⟩,.int .i64 0,.int .i64 0]):=ax.new w _ _
 go_enter Tryz.func79,Tryz.ntmps79
 go_wp2_with fail
 refine(CT s _ (HG.out.below B0.out) (by omega)).mono ?_;rintro e w1 ⟨T,f,a,code,rfl,hb1,hpost⟩
 have B1:=ae (aq B0.out hb1)
 have K1:=ae (K0.out.below hb1)
 have hlt1:w.heap.size<w1.heap.size:=K1.out.sz
 have hne1:¬ w.heap.size=w1.heap.size:=by omega
 clear hb1
 cases hp:fp (bl s) with
 | none=>
  rw[hp] at hpost
  obtain⟨hc,rfl⟩:=hpost
  have EN:=ae (vf hp)
  have hc1:(code==0)=false:=by simp[hc]
  clear hp hc
  obtain⟨W3,hW3⟩:∃ W3,(w1.alloc (.cells #[.string ⟨#[]⟩,.string ⟨#[]⟩,.int .i64 0,.string ⟨#[]⟩,.slice none 0 0] 179)).alloc (.cells #[.string f,.int .i64 a,.int .i64 code] 172)=W3:=⟨_,rfl⟩
  have B3:Hid (Below w1.heap.size w1 W3):=by rw[←hW3];exact(bR.alloc lr _).alloc (by simp) _
  have D3:Hid (ax W3 w1.heap.size [.string ⟨#[]⟩,.string ⟨#[]⟩,.int .i64 0,.string ⟨#[]⟩,.slice none 0 0]):=by rw[←hW3];exact(ax.new w1 [.string ⟨#[]⟩,.string ⟨#[]⟩,.int .i64 0,.string ⟨#[]⟩,.slice none 0 0] _).alloc _
  have F3:Hid (ax W3 (w1.heap.size+1) [.string f,.int .i64 a,.int .i64 code]):=by
   have:=ax.new (w1.alloc (.cells #[.string ⟨#[]⟩,.string ⟨#[]⟩,.int .i64 0,.string ⟨#[]⟩,.slice none 0 0] 179)) [.string f,.int .i64 a,.int .i64 code] 172
   rw[←hW3];show ax _ _ _;simpa using this
  have K3:=ae (K1.out.below B3.out)
  have BB:=ae (aq B1.out B3.out)
  have r0:=K3.out.cell 0 _ rfl
  have r1:=K3.out.cell 1 _ rfl
  have r2:=K3.out.cell 2 _ rfl
  have fr0:=K3.out.free 0 (by simp)
  have fr1:=K3.out.free 1 (by simp)
  have fr2:=K3.out.free 2 (by simp)
  have d0:=F3.out.cell 0 _ rfl
  have d1:=F3.out.cell 1 _ rfl
  have d2:=F3.out.cell 2 _ rfl
  have e0:=D3.out.cell 0 _ rfl
  have e1:=D3.out.cell 1 _ rfl
  have e2:=D3.out.cell 2 _ rfl
  have e3:=D3.out.cell 3 _ rfl
  have e4:=D3.out.cell 4 _ rfl
  have KS:=ae (((K3.out.set 0 (by simp) (.string f)).set 1 (by simp) (.int .i64 a)).set 2 (by simp) (.int .i64 code))
  have BS:=ae (ak (j:=2) (ak (j:=1) (ak (j:=0) BB.out lr (.string f)) lr (.int .i64 a)) lr (.int .i64 code))
  have hP:=zY _ (HG.out.below BS.out)
  unfold ec
  rw[lX] at hP ⊢
  go_upto_region 14 with(fail)
  clear hW3
  go_wp2_with fail
  refine hP.mono ?_;rintro e w4 ⟨rfl,hb4⟩
  have c2:=(KS.out.below hb4).cell 2 _ rfl
  have B4:=ae (aq BS.out hb4)
  clear hb4
  go_wp2_with fail
  go_ret2
  exact⟨_,false,rfl,B4.out,fun _=>by rw[EN.out];simp⟩
 | some t=>
  rw[hp] at hpost
  obtain⟨rfl,hT,hgd,hown,hht,hcn⟩:=hpost
  have EN:Hid (s.size≠0→(bC (dS T.pl)=s↔iW (bl s)=true)):=fun h0=>by rw[vg hp (Jl h0),←hT,decide_eq_true_iff];exact po
  clear hp hT
  obtain⟨W3,hW3⟩:∃ W3,(w1.alloc (.cells #[.string T.op,.string T.nm,.int .i64 T.aop,.string T.ver,.slice T.ka T.kids.length T.kc] 179)).alloc (.cells #[.string f,.int .i64 a,.int .i64 0] 172)=W3:=⟨_,rfl⟩
  have B3:Hid (Below w1.heap.size w1 W3):=by rw[←hW3];exact(bR.alloc lr _).alloc (by simp) _
  have D3:Hid (ax W3 w1.heap.size T.cells):=by rw[←hW3];exact(ax.new w1 T.cells _).alloc _
  have F3:Hid (ax W3 (w1.heap.size+1) [.string f,.int .i64 a,.int .i64 0]):=by
   have:=ax.new (w1.alloc (.cells #[.string T.op,.string T.nm,.int .i64 T.aop,.string T.ver,.slice T.ka T.kids.length T.kc] 179)) [.string f,.int .i64 a,.int .i64 0] 172
   rw[←hW3];show ax _ _ _;simpa using this
  have K3:=ae (K1.out.below B3.out)
  have BB:=ae (aq B1.out B3.out)
  have r0:=K3.out.cell 0 _ rfl
  have r1:=K3.out.cell 1 _ rfl
  have r2:=K3.out.cell 2 _ rfl
  have fr0:=K3.out.free 0 (by simp)
  have fr1:=K3.out.free 1 (by simp)
  have fr2:=K3.out.free 2 (by simp)
  have d0:=F3.out.cell 0 _ rfl
  have d1:=F3.out.cell 1 _ rfl
  have d2:=F3.out.cell 2 _ rfl
  have e0:=D3.out.cell 0 _ rfl
  have e1:=D3.out.cell 1 _ rfl
  have e2:=D3.out.cell 2 _ rfl
  have e3:=D3.out.cell 3 _ rfl
  have e4:=D3.out.cell 4 _ rfl
  have KS:=ae (((K3.out.set 0 (by simp) (.string f)).set 1 (by simp) (.int .i64 a)).set 2 (by simp) (.int .i64 0))
  have BS:=ae (ak (j:=2) (ak (j:=1) (ak (j:=0) BB.out lr (.string f)) lr (.int .i64 a)) lr (.int .i64 0))
  have hlo:w.heap.size<(w.alloc (.cells #[.string ⟨#[]⟩,.int .i64 0,.int .i64 0] 172)).heap.size:=by simp
  have HOK:=ae (((((hown.low B3.out).kept hlo (aN (j:=0) (.string f))).kept hlo (aN (j:=1) (.int .i64 a))).kept hlo (aN (j:=2) (.int .i64 0))).base z0)
  have hP:=CU hgd hcn hht _ (HG.out.below BS.out) HOK.out
  obtain⟨X,hX⟩:∃ X,bC (dS T.pl)=X:=⟨_,rfl⟩
  rw[hX] at hP EN
  clear hgd hown hht hcn hX hlo
  have HW3:=ae hW3
  clear hW3
  unfold ec aj.val
  unfold aj.val at hP
  go_upto_region 14 with(fail)
  rw[HW3.out]
  go_wp2_with fail
  refine hP.mono ?_;rintro e w4 ⟨rfl,hb4⟩
  have c2:=(KS.out.below hb4).cell 2 _ rfl
  have B4:=ae (aq BS.out hb4)
  clear hb4 hP
  go_wp2_with fail
  go_ret2
  exact⟨X,true,rfl,B4.out,fun h=>by have:=EN.out h;simpa using this⟩
end
end Go.Proofs.YtaohgmcbpafdeaaGreatDoor
