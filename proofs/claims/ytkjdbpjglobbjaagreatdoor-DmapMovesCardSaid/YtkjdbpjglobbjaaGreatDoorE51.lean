/- A part of the proof of a law on dependencies in three formats. No condition. -/
import Derived.Test.YtkjdbpjglobbjaaGreatDoorE47
import Derived.Test.YtkjdbpjglobbjaaGreatDoorE50
set_option maxRecDepth 100000
set_option maxHeartbeats 20000000
set_option linter.unusedVariables false
set_option linter.unusedSimpArgs false
namespace Go.Proofs.YtkjdbpjglobbjaaGreatDoor
section
open Go.RowKit
theorem Qg {w wr:World}{L:List aq}{g n c k:Nat}{x:aq}(h:iT w wr L (some ⟨g,0,none⟩) n c)(hk:L[k]?=some x):wr.cell? ⟨g,k*2,none⟩=some (.bool x.bar)∧wr.cell? ⟨g,k*2+1,none⟩=some (.slice x.aa x.alts.length x.ac):=by
 have hr:=h.ok.row
 obtain⟨b,off,e,he⟩:=hr.elem fI k x hk
 injection e with e;injection e with e1 e2
 have h0:=he 0 _ rfl
 have h1:=he 1 _ rfl
 rw[←e1,←e2] at h0 h1
 simp only[Nat.zero_add,Nat.add_zero] at h0 h1
 exact⟨h0,h1⟩
theorem vB (fmt:Int)(A:Option Addr)(c:Nat)(ds:List aq)(w:World)(hG:En w)(hd:eW w A ds)(hf:oR ds):
  Calls Tryz.prog 8 #[.int .i64 fmt,.slice A ds.length c] w (DH fmt (ds.map aq.pl) w):=by
 obtain⟨i0,hi,hz0,hz1,hz2⟩:=info_parts kN
 obtain⟨i1,hj,hy0,hy1,hy2⟩:=info_parts mg
 have HG:=ae hG;have HD:=ae hd;have HF:=ae hf
 have hlen:=hf.len
 have HIS:=ae fun W=>fR fmt W
 clear hG hd hf
 by_cases hF:dk fmt
 rotate_left
 ·have E:=ae (Sj (l:=ds.map aq.pl) hF)
  rw[dF hF] at HIS
  clear hF
  go_enter Tryz.func8,Tryz.ntmps8
  go_wp2_with fail
  refine(HIS.out _).mono ?_;rintro e w' ⟨rfl,rfl⟩
  go_wp2_with fail
  go_ret3
  exact Ky E.out (by decide) bR
 rw[dT hF] at HIS
 have HFM:=ae hF
 clear hF
 obtain⟨ck,hck⟩:∃ ck,jc (ds.map aq.pl)=ck:=⟨_,rfl⟩
 have HCH:=ae fun W hb=>Jz A c ds W (HG.out.p.below hb) (HD.out.below hb) HF.out
 rw[hck] at HCH
 have HCK:=ae hck
 clear hck
 go_enter Tryz.func8,Tryz.ntmps8
 go_wp2_with fail
 refine(HIS.out _).mono ?_;rintro e w' ⟨rfl,rfl⟩
 clear HIS
 go_wp2_with fail
 refine(HCH.out w bR).mono ?_;rintro e w0 ⟨rfl,hb0⟩
 have B0:=ae hb0
 have hbz0:=hb0.size
 clear hb0 HCH
 by_cases hc0:ck≠0
 ·have E:Hid (rK fmt (ds.map aq.pl)=ck):=by show _=_;rw[Ui HFM.out (by rw[HCK.out];exact hc0)];exact HCK.out
  have q:(ck != 0)=true:=by simpa [bne] using hc0
  have HC0:=ae hc0
  clear hc0
  go_wp2_with fail
  go_ret3
  exact Ky E.out HC0.out B0.out
 have q:(ck != 0)=false:=by rw[Decidable.not_not.1 hc0];rfl
 have HC:Hid (jc (ds.map aq.pl)=0):=by show _=_;rw[HCK.out];exact Decidable.not_not.1 hc0
 clear hc0 HCK
 go_wp2_with (
  at_make
  refine wpList_make_full _ rfl _ _ _ rfl w.heap.size 33 i0 _ 2 Tryz.underlying22 hi hz0 hz1 .i64 .i64 _ _ ds.length rfl rfl rfl rfl (by rw[hz2];omega) (by simp only[maxLen];omega) (by omega) ?_
  intro w1 hr1 hg1)
 have M0:=ae (iT.made B0.out hr1 hg1)
 clear hr1 hg1 q
 go_wp2_with fail
 generalize w0.heap.size=ob at *
 go_loopw [5,28] (fun s5 s28 wr=>∃ (k:Nat) (L:List aq),k≤ds.length∧s5=.slice none 0 0∧s28=.int .i64 k∧Hid (∀ y∈ds.take k,nf fmt y.pl=0)∧Hid (L.map aq.pl=zZ fmt (ds.map aq.pl) k)∧Hid (iT w wr L (some ⟨ob,0,none⟩) ds.length ds.length)) (fun _ i _=>ds.length-(intOf i).toNat)
 case atStart=>exact⟨0,_,z0,rfl,rfl,by simp[Hid],by show _=_;rw[Qd,List.length_map],M0⟩
 case round=>
  clear M0
  obtain⟨k,L,hk,rfl,rfl,HE,HL,S0⟩:=hrel
  by_cases hlt:k<ds.length
  ·obtain⟨d,hdk⟩:∃ d,ds[k]?=some d:=⟨_,gG hlt⟩
   have hm:=gM hdk
   obtain⟨b,off,hA,he⟩:=(HD.out.row.below S0.out.bel).elem fI k d hdk
   have e0:=he 0 _ rfl
   have e1:=he 1 _ rfl
   simp only[Nat.add_zero] at e0
   have hix:=fun W=>aH (T:=22) (E:=33) (sz:=2) (c:=c) Tryz.underlying22 rfl Tryz.sizeOf33 hA hlt W
   have hixo:∀ W,(Instr.indexAt 22 (.slice (some ⟨ob,0,none⟩) ds.length ds.length) (.int .i64 k)).run Tryz.prog W=.ok (.pointer (some ⟨ob,k*2,none⟩)) W:=fun W=>by
    have:=aH (T:=22) (E:=33) (sz:=2) (c:=ds.length) (A:=some ⟨ob,0,none⟩) Tryz.underlying22 rfl Tryz.sizeOf33 rfl hlt W
    simpa using this
   have hal:=HF.out.al d hm
   have HNM:=ae (HF.out.nm d hm);have HVR:=ae (HF.out.ver d hm)
   have HDK:=ae hdk
   have HRA:=ae (HD.out.all d hm)
   have hdp:(ds.map aq.pl)[k]?=some d.pl:=by simp[hdk]
   have HDP:=ae hdp
   obtain⟨al,hall⟩:∃ al,d.alts.length=al:=⟨_,rfl⟩
   obtain⟨db,hdb⟩:∃ db,d.bar=db:=⟨_,rfl⟩
   rw[hall] at e1 hal
   rw[hdb] at e0
   have HAL:=ae hall;have HDB:=ae hdb
   have HKL:Hid (k<(ds.map aq.pl).length):=by show _<_;rw[List.length_map];exact hlt
   clear hdk hA he hm hall hdb hdp
   obtain⟨wo,rfl⟩:∃ wo:World,wo=wr:=⟨_,rfl⟩
   obtain⟨W2,hW2⟩:∃ W2,wo.alloc (.cells #[.bool db,.slice d.aa al d.ac] 33)=W2:=⟨_,rfl⟩
   have B2:Hid (Below wo.heap.size wo W2):=by rw[←hW2];exact bR.alloc lr _
   have K2:Hid (aF W2 wo.heap.size [.bool db,.slice d.aa al d.ac]):=by show aF _ _ _;rw[←hW2];exact aF.new wo [.bool db,.slice d.aa al d.ac] _
   have k0:=K2.out.cell 0 _ rfl
   have k1:=K2.out.cell 1 _ rfl
   have S1:=ae (S0.out.below B2.out)
   have HW2:=ae hW2
   clear hW2
   go_upto_region 10 with(fail)
   rw[HW2.out]
   clear HW2 e0 e1 hix
   obtain⟨bb,hbb⟩:∃ bb,decide (fmt=3∧1<al)=bb:=⟨_,rfl⟩
   go_cut [40] (fun v wx=>v=.bool bb∧W2=wx)
   case first=>
    by_cases f3:fmt=3
    ·have q3:(fmt==3)=true:=by simpa using f3
     by_cases h1:1<al
     ·have q1:decide ((1:Int)<(al:Int))=true:=dT (by omega)
      have q2:decide (1<al)=true:=dT h1
      have hbt:Hid (true=bb):=by show _=_;rw[←hbb,dT ⟨f3,h1⟩]
      clear f3 hbb
      go_wp2_with fail
      go_meet
      exact⟨by rw[←hbt.out],rfl⟩
     ·have q1:decide ((1:Int)<(al:Int))=false:=dF (by omega)
      have q2:decide (1<al)=false:=dF h1
      have hbt:Hid (false=bb):=by show _=_;rw[←hbb,dF (fun h=>h1 h.2)]
      clear f3 hbb
      go_wp2_with fail
      go_meet
      exact⟨by rw[←hbt.out],rfl⟩
    ·have q3:(fmt==3)=false:=by simpa using f3
     have hbt:Hid (false=bb):=by show _=_;rw[←hbb,dF (fun h=>f3 h.1)]
     clear f3 hbb
     go_wp2_with fail
     go_meet
     exact⟨by rw[←hbt.out],rfl⟩
   case rest=>
   obtain⟨rfl,rfl⟩:=hcut
   cases bb
   rotate_left
   ·have E:Hid (rK fmt (ds.map aq.pl)=11):=by
     have h:=dO hbb
     have e:=Ng (d:=d.pl) h.1 (by show 1<d.alts.length;rw[HAL.out];exact h.2)
     show _=_
     rw[Tk HFM.out HC.out HDK.out HE.out (by rw[e];decide)];exact e
    clear hbb
    go_wp2_with fail
    go_ret3
    exact Ky E.out (by decide) S1.out.bel
   have HBB:Hid (¬ (fmt=3∧1<d.pl.alts.length)):=by
    have h:=of_decide_eq_false hbb
    show ¬ (fmt=3∧1<d.alts.length);rw[HAL.out];exact h
   clear hbb
   obtain⟨x,hx1,hx2,hx3,hx4⟩:=Sh HKL.out HL.out d.pl
   obtain⟨c0,_⟩:=Qg S1.out hx1
   have f0:=S1.out.row.frozenAt (k*2)
   have hoz:=(S0.out.row.lt ob rfl).2
   have hne:¬ ob=wo.heap.size:=by omega
   obtain⟨W3,hW3⟩:∃ W3,W2.setCell ⟨ob,k*2,none⟩ (.bool db)=W3:=⟨_,rfl⟩
   have S3:Hid (iT w W3 (L.set k { x with bar:=d.pl.bar }) (some ⟨ob,0,none⟩) ds.length ds.length):=by
    show iT _ _ _ _ _ _;rw[←hW3]
    have:=S1.out.setBar hx1 d.bar
    rw[HDB.out] at this
    show iT _ _ (L.set k { x with bar:=d.bar }) _ _ _
    rw[HDB.out];exact this
   have HL3:=ae hx4
   have K3:Hid (aF W3 wo.heap.size [.bool db,.slice d.aa al d.ac]):=by show aF _ _ _;rw[←hW3];exact K2.out.far hne _
   have k3:=K3.out.cell 1 _ rfl
   have HW3:=ae hW3
   clear hW3 hx1 hx2 hx3 hx4
   go_upto_region 13 with(fail)
   rw[HW3.out]
   clear HW3 k0 k1 c0 f0
   go_wp2_with fail
   clear k3
   go_loopw [5,50] (fun s5 s50 wx=>∃ (j:Nat) (L:List aq),j≤al∧s5=.slice none 0 0∧s50=.int .i64 j∧Hid (∀ g∈d.pl.alts.take j,(bc 1 fmt g).2=0)∧Hid (L.map aq.pl=DE fmt (ds.map aq.pl) k d.pl j)∧Hid (iT w wx L (some ⟨ob,0,none⟩) ds.length ds.length)) (fun _ i _=>al-(intOf i).toNat)
   case atStart=>exact⟨0,_,z0,rfl,rfl,by simp[Hid],HL3,S3⟩
   case round=>
    clear S3 HL3 S0 S1 K2 K3 B2 HL
    obtain⟨j,L2,hj',rfl,rfl,HJ,HL,S0⟩:=hrel
    by_cases hlt4:j<al
    ·obtain⟨a,ha⟩:∃ a,d.pl.alts[j]?=some a:=⟨_,gG (by show j<d.alts.length;rw[HAL.out];exact hlt4)⟩
     have ham:=gM ha
     obtain⟨b3,off3,hA3,he3⟩:=(HRA.out.below S0.out.bel).elem dw j a ha
     have e0:=he3 0 _ rfl
     have e1:=he3 1 _ rfl
     have e2:=he3 2 _ rfl
     simp only[Nat.add_zero] at e0
     have hix3:=fun W=>aH (T:=31) (E:=53) (sz:=3) (n:=al) (c:=d.ac) Tryz.underlying31 rfl Tryz.sizeOf53 hA3 hlt4 W
     have hzn:=HNM.out a ham;have hzv:=HVR.out a ham
     have HAA:=ae ha
     have HTK:=ae (aS ha)
     clear ha hA3 he3 ham
     obtain⟨W5,hW5⟩:∃ W5,wr.alloc (.cells #[.string a.nm,.int .i64 a.op,.string a.ver] 53)=W5:=⟨_,rfl⟩
     have B5:Hid (Below wr.heap.size wr W5):=by rw[←hW5];exact bR.alloc lr _
     have K5:Hid (aF W5 wr.heap.size [.string a.nm,.int .i64 a.op,.string a.ver]):=by show aF _ _ _;rw[←hW5];exact aF.new wr [.string a.nm,.int .i64 a.op,.string a.ver] _
     have S5:=ae (S0.out.below B5.out)
     have q0:=K5.out.cell 0 _ rfl
     have q1:=K5.out.cell 1 _ rfl
     have q2:=K5.out.cell 2 _ rfl
     obtain⟨⟨y,cd⟩,hr⟩:∃ r,bc 1 fmt a=r:=⟨_,rfl⟩
     have HAT:=ae (nK 1 fmt a W5 (HG.out.p.below S5.out.bel) (by omega) (by omega))
     rw[hr] at HAT
     unfold FJ aA.val at HAT
     have HR:=ae hr
     have HW5:=ae hW5
     clear hW5 hr
     go_upto_region 16 with(fail)
     rw[HW5.out]
     clear HW5 e0 e1 e2 hix3
     go_wp2_with fail
     refine HAT.out.mono ?_;rintro e w6 ⟨rfl,hb6⟩
     have S6:=ae (S5.out.below hb6)
     clear hb6 HAT q0 q1 q2
     simp only
     obtain⟨W7,hW7⟩:∃ W7,w6.alloc (.cells #[.string y.nm,.int .i64 y.op,.string y.ver] 53)=W7:=⟨_,rfl⟩
     have B7:Hid (Below w6.heap.size w6 W7):=by rw[←hW7];exact bR.alloc lr _
     have K7:Hid (aF W7 w6.heap.size [.string y.nm,.int .i64 y.op,.string y.ver]):=by show aF _ _ _;rw[←hW7];exact aF.new w6 [.string y.nm,.int .i64 y.op,.string y.ver] _
     have S7:=ae (S6.out.below B7.out)
     have HW7:=ae hW7
     clear hW7
     go_upto_region 17 with(fail)
     rw[HW7.out]
     clear HW7
     by_cases hcd:cd≠0
     ·have qc:(cd != 0)=true:=by simpa [bne] using hcd
      have E:Hid (rK fmt (ds.map aq.pl)=cd):=by
       have e:=Nh HBB.out HAA.out HJ.out (by rw[HR.out];exact hcd)
       rw[HR.out] at e
       show _=_
       rw[Tk HFM.out HC.out HDK.out HE.out (by rw[e];exact hcd)];exact e
      have HCD:=ae hcd
      clear hcd
      go_wp2_with fail
      go_ret3
      exact Ky E.out HCD.out S7.out.bel
     have hcd0:cd=0:=Decidable.not_not.1 hcd
     have qc:(cd != 0)=false:=by rw[hcd0];rfl
     have HZ:Hid ((bc 1 fmt a).2=0):=by show _=_;rw[HR.out];exact hcd0
     have HY:Hid ((bc 1 fmt a).1=y):=by show _=_;rw[HR.out]
     clear hcd hcd0
     obtain⟨X,hX1,hX2,hX3⟩:=Si HKL.out HL.out HAA.out
     rw[HY.out] at hX3
     have HX1:=ae hX1;have HX2:=ae hX2;have HX3:=ae hX3
     obtain⟨_,m1⟩:=Qg S7.out hX1
     rw[hX2] at m1
     have HO7:Hid (W7.ownsRow w.heap.size 53 3 (.slice X.aa j X.ac) j (X.alts.flatMap aA.cells)):=by
      have:=S7.out.al X (gM hX1)
      unfold aq.own at this
      rw[hX2] at this;exact this
     have p0:=K7.out.cell 0 _ rfl
     have p1:=K7.out.cell 1 _ rfl
     have p2:=K7.out.cell 2 _ rfl
     have hwz:=S7.out.bel.size
     have hobz:=(S7.out.row.lt ob rfl).2
     clear hX1 hX2 hX3
     go_wp2_with fail
     go_region_law
      ((refine dj _ (by rfl) _ _ _ (by rfl) w.heap.size 53 i1 _ 3 40 Tryz.underlying31 hj hy0 hy1 hy2 rfl (by omega) (.slice X.aa j X.ac) j _ (by rfl) ((HO7.out.alloc _).drew)
         (W7.heap.size+1) (some ⟨W7.heap.size,0,none⟩) 1 1 [.string y.nm,.int .i64 y.op,.string y.ver] (by rfl) (ir W7 _ _ _ _) (by simp[Value.oneCell']) (by unfold maxLen;omega) (by omega) (by simp;omega) ?_
        intro v1 w8 hown1 hg1 hat1
        obtain⟨G1,c1,rfl⟩:=aG hown1
        have S7d:=ae (S7.out.below (((Below.refl W7.heap.size W7).alloc lr (.cells #[.string y.nm,.int .i64 y.op,.string y.ver] 53)).drew))
        have RW:=ae (S7d.out.row.kept hg1 (gt S7d.out.row ((HO7.out.alloc (.cells #[.string y.nm,.int .i64 y.op,.string y.ver] 53)).drew) (by decide)))
        obtain⟨_,_,ee,hee⟩:=(show Rd w8 2 (some ⟨ob,0,none⟩) L2.length (L2.flatMap aq.cells) from by rw[S7d.out.len];exact bA RW.out).elem fI k X HX1.out
        have m2:=hee 1 _ rfl
        injection ee with ee;injection ee with ee1 ee2;subst ee1;subst ee2
        rw[HX2.out] at m2
        simp only[Nat.zero_add] at m2
        have m2f:=RW.out.frozenAt (k*2+1)))
     all_goals
      have N1:=ae (S7d.out.setAlt HX1.out HX2.out hown1 hg1 hat1)
      clear hown1 hg1 hat1
      go_wp2_with fail
      go_roundw
      case rel=>exact⟨j+1,_,by omega,rfl,by go_num,ae (fun z hz=>by
       rw[HTK.out] at hz
       rcases List.mem_append.1 hz with hz | hz
       ·exact HJ.out z hz
       ·rw[List.mem_singleton.1 hz];exact HZ.out),HX3.out _ _,N1⟩
      case measure=>simp[intOf];omega
    ·obtain rfl:j=al:=by omega
     have HD0:Hid (nf fmt d.pl=0):=Ni HBB.out (fun g hg=>HJ.out g (by rw[tL (by show d.alts.length≤j;rw[HAL.out];exact Nat.le_refl _)];exact hg))
     have HL4:Hid (L2.map aq.pl=zZ fmt (ds.map aq.pl) (k+1)):=by show _=_;rw[←Qe HDP.out,HL.out];rw[show d.pl.alts.length=j from HAL.out]
     have HTK:=ae (aS HDK.out)
     go_wp2_with fail
     go_roundw
     case rel=>exact⟨k+1,L2,by omega,rfl,by go_num,ae (fun z hz=>by
      rw[HTK.out] at hz
      rcases List.mem_append.1 hz with hz | hz
      ·exact HE.out z hz
      ·rw[List.mem_singleton.1 hz];exact HD0.out),HL4,S0⟩
     case measure=>simp[intOf];omega
  ·obtain rfl:k=ds.length:=by omega
   have hall:∀ y∈ds,nf fmt y.pl=0:=fun y hy=>HE.out y (by rw[List.take_length];exact hy)
   have E:=ae (Sk HFM.out HC.out hall)
   have HLL:Hid (L.map aq.pl=(ds.map aq.pl).map (eV 1 fmt)):=by
    have:=HL.out
    rw[show ds.length=(ds.map aq.pl).length by simp,Sg] at this;exact this
   have OK:=ae (Uj HFM.out HC.out (fun y hy=>by obtain⟨z,hz,rfl⟩:=List.mem_map.1 hy;exact hall z hz) HLL.out)
   have HSL:=ae S0.out.len
   have HGW:=ae (HG.out.p.gl.below S0.out.bel)
   have fin:∀ (w6:World)(e:Ending),DC (uW fmt false (ds.map aq.pl)) (uW fmt true (ds.map aq.pl)) wr e w6→DH fmt (ds.map aq.pl) w e w6:=by
    rintro w6 e ⟨A1,c1,A2,c2,ns,bs,h1,h2,h3,h4,h5,h6⟩
    exact⟨A1,c1,A2,c2,ns,bs,by rw[h1,E.out],ah S0.out.bel h2,h3,h4,fun _=>⟨h5,h6⟩,fun h=>absurd E.out h⟩
   have FIN:=ae fin
   clear hall fin hlt
   have hFF:=HFM.out
   unfold dk at hFF
   have h123:fmt=1∨fmt=2∨fmt=3:=by omega
   clear hFF
   rcases h123 with rfl | rfl | rfl
   ·have P:=ae (GQ (some ⟨ob,0,none⟩) ds.length L wr HGW.out S0.out.ok OK.out.len OK.out.al OK.out.told OK.out.cnt)
    rw[HSL.out,HLL.out] at P
    go_wp2_with fail
    refine P.out.mono ?_;rintro e w6 ⟨A1,c1,A2,c2,ns,bs,rfl,h2,h3,h4,h5,h6⟩
    have PP:=ae (FIN.out _ _ ⟨A1,c1,A2,c2,ns,bs,rfl,h2,h3,h4,h5,h6⟩)
    clear h2 h3 h4 h5 h6
    generalize ns.length=nn at *
    generalize bs.length=nb at *
    go_wp2_with fail
    go_ret3
    exact PP.out
   ·have P:=ae (JI (some ⟨ob,0,none⟩) ds.length L wr HGW.out S0.out.ok OK.out.len OK.out.al OK.out.told)
    rw[HSL.out,HLL.out] at P
    go_wp2_with fail
    refine P.out.mono ?_;rintro e w6 ⟨A1,c1,A2,c2,ns,bs,rfl,h2,h3,h4,h5,h6⟩
    have PP:=ae (FIN.out _ _ ⟨A1,c1,A2,c2,ns,bs,rfl,h2,h3,h4,h5,h6⟩)
    clear h2 h3 h4 h5 h6
    generalize ns.length=nn at *
    generalize bs.length=nb at *
    go_wp2_with fail
    go_ret3
    exact PP.out
   ·have P:=ae (JA (some ⟨ob,0,none⟩) ds.length L wr HGW.out S0.out.ok OK.out.len OK.out.told)
    rw[HSL.out,HLL.out] at P
    go_wp2_with fail
    refine P.out.mono ?_;rintro e w6 ⟨A1,c1,ns,rfl,h2,h3,h5⟩
    have PP:=ae (FIN.out _ _ ⟨A1,c1,none,0,ns,[],rfl,h2,h3,Rd.nil _ _ _,h5,(by unfold uW cT;simp)⟩)
    clear h2 h3 h5
    generalize ns.length=nn at *
    go_wp2_with fail
    go_ret3
    exact PP.out
theorem Un {α:Type}{f:α→ba}{ds:List α}(h:ds.map f=Qm):∃ d,ds=[d]∧f d=⟨false,[⟨Uw,4,So⟩,⟨UJ,0,⟨#[]⟩⟩]⟩:=by
 have hl:=congrArg List.length h
 rw[List.length_map] at hl
 obtain⟨d,rfl⟩:=List.length_eq_one_iff.1 hl
 injection h with h1 h2
 exact⟨d,rfl,h1⟩
theorem Qs {ds:List aq}(h:ds.map aq.pl=Qm):oR ds:=by
 obtain⟨d,rfl,hp⟩:=Un h
 have ha:d.alts=[⟨Uw,4,So⟩,⟨UJ,0,⟨#[]⟩⟩]:=congrArg ba.alts hp
 refine⟨by simp,fun x hx=>?_,fun x hx g hg=>?_,fun x hx g hg=>?_⟩
 ·rw[List.mem_singleton.1 hx,ha];decide
 ·rw[List.mem_singleton.1 hx,ha] at hg
  simp at hg
  rcases hg with rfl | rfl<;>decide
 ·rw[List.mem_singleton.1 hx,ha] at hg
  simp at hg
  rcases hg with rfl | rfl<;>decide
theorem Qt {ns:List BA}{t:BA}(h:ns.map bl=[bl t]):ns=[t]:=by
 have hl:=congrArg List.length h
 rw[List.length_map] at hl
 obtain⟨d,rfl⟩:=List.length_eq_one_iff.1 hl
 injection h with h1 h2
 rw[dp h1]
theorem Qu (A:Option Addr)(c:Nat)(ds:List aq)(w:World)(hG:En w)(hd:eW w A ds)(hp:ds.map aq.pl=Qm):
  Calls Tryz.prog 8 #[.int .i64 2,.slice A ds.length c] w fun e w'=>∃ (A1:Option Addr) (c1:Nat) (A2:Option Addr) (c2:Nat),e=.returned (.tuple #[.slice A1 1 c1,.slice A2 0 c2,.int .i64 0])∧Below w.heap.size w w'∧Rd w' 1 A1 1 (strCells [N7]):=by
 refine(vB 2 A c ds w hG hd (Qs hp)).mono fun e w' h=>?_
 rw[hp] at h
 obtain⟨A1,c1,A2,c2,ns,bs,he,hb,h1,h2,h3,_⟩:=h
 obtain⟨h4,h5⟩:=h3 Qo
 rw[Qq] at h4
 rw[Sq] at h5
 obtain rfl:=Qt h4
 obtain rfl:bs=[]:=List.map_eq_nil_iff.1 h5
 rw[Qo] at he
 exact⟨A1,c1,A2,c2,he,hb,h1⟩
theorem Qv (A:Option Addr)(c:Nat)(ds:List aq)(w:World)(hG:En w)(hd:eW w A ds)(hp:ds.map aq.pl=Qm):
  Calls Tryz.prog 8 #[.int .i64 3,.slice A ds.length c] w fun e w'=>∃ (A1:Option Addr) (c1:Nat) (A2:Option Addr) (c2:Nat),e=.returned (.tuple #[.slice A1 0 c1,.slice A2 0 c2,.int .i64 11])∧Below w.heap.size w w':=by
 refine(vB 3 A c ds w hG hd (Qs hp)).mono fun e w' h=>?_
 rw[hp] at h
 obtain⟨A1,c1,A2,c2,ns,bs,he,hb,h1,h2,_,h3⟩:=h
 obtain⟨rfl,rfl⟩:=h3 (by rw[Qp];decide)
 rw[Qp] at he
 exact⟨A1,c1,A2,c2,he,hb⟩
theorem KC (A:Option Addr)(c:Nat)(w:World)(hG:En w)(hr:Rd w 1 A 1 (strCells [QZ])):
  Calls Tryz.prog 9 #[.int .i64 1,.slice A 1 c,.bool false] w fun e w'=>∃ (A1:Option Addr) (c1:Nat) (ds:List aq),e=.returned (.tuple #[.slice A1 ds.length c1,.int .i64 0])∧Below w.heap.size w w'∧eW w' A1 ds∧ds.map aq.pl=Qm:=by
 refine(mo 1 false A c [QZ] w hG hr (by simp) (by intro x hx;rw[List.mem_singleton.1 hx];decide)).mono fun e w' h=>?_
 obtain⟨A1,n,c1,ds,code,he,hb,h⟩:=h
 rw[show[QZ].map bl=[bl QZ] from rfl,Sp,if_pos rfl,Qn] at h
 obtain⟨rfl,h1,h2⟩:=h
 rw[←h2.len] at he
 exact⟨A1,c1,ds,he,hb,h2.ok,h1⟩
theorem DK (w:World)(vs:List Value)(t:TypeId)(sz n:Nat)(h:vs.length=n*sz):Rd (w.alloc (.cells vs.toArray t)) sz (some ⟨w.heap.size,0,none⟩) n vs:=by
 refine⟨h,fun _=>⟨_,_,rfl,fun j u hu=>?_⟩⟩
 have:=(aF.new w vs t).cell j u hu
 simpa using this
def JK:aB:=⟨Uw,So,none,0,[]⟩
end
end Go.Proofs.YtkjdbpjglobbjaaGreatDoor
