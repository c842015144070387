/- A part of the proof of a law on dependencies in three formats. No condition. -/
import Derived.Test.YtkjdbpjglobbjaaGreatDoorE54
set_option maxRecDepth 100000
set_option maxHeartbeats 20000000
set_option linter.unusedVariables false
set_option linter.unusedSimpArgs false
namespace Go.Proofs.YtkjdbpjglobbjaaGreatDoor
section
open Go.RowKit
theorem QJ (c:UInt8):((c.toNat:Int)==126)=decide (c=126):=by
 have:=dV (fun x=>((x.toNat:Int)==126)==decide (x=126)) (by kernel_rfl) c
 simpa using this
theorem Ur (s:BA)(h:0<s.size):cM (bl s)=if aD s[0]=true then 0 else if ((s[0].toNat:Int)==126)=true then -1 else if cD s[0]=true then (s[0].toNat:Int) else 256+(s[0].toNat:Int):=by
 rw[dZ s h]
 unfold cM
 rw[QJ]
 simp only[decide_eq_true_eq]
 rfl
theorem pP (s:BA)(w:World):
  Calls Tryz.prog 218 #[.string s] w fun e w'=>e=.returned (.int .i64 (cM (bl s)))∧w=w':=by
 by_cases h0:s.size=0
 ·have he:s.toList=[]:=by rw[ai,bj s h0]
  have E:Hid (cM (bl s)=0):=by show _=_;rw[bj s h0];rfl
  clear h0
  go_enter Tryz.func218,Tryz.ntmps218
  go_wp2_with fail
  go_ret
  exact⟨az E.out.symm,rfl⟩
 ·have h:0<s.size:=by omega
  have he:s.toList.isEmpty=false:=by rw[ai,aL];simpa using h0
  have he':¬ s.toList=[]:=by intro h;rw[h] at he;simp at he
  have E:=ae (Ur s h)
  have DG:=ae fun W=>cO s[0] W
  have LT:=ae fun W=>eu s[0] W
  have hb:=s[0].toNat_lt
  obtain⟨d1,h1⟩:∃ d,aD s[0]=d:=⟨_,rfl⟩
  obtain⟨d2,h2⟩:∃ d,cD s[0]=d:=⟨_,rfl⟩
  obtain⟨d3,h3⟩:∃ d,((s[0].toNat:Int)==126)=d:=⟨_,rfl⟩
  rw[h1,h2,h3] at E
  rw[h1] at DG
  rw[h2] at LT
  clear h1 h2 h0
  cases d1
  ·cases d3
   ·cases d2
    all_goals
     go_enter Tryz.func218,Tryz.ntmps218
     go_wp2_with fail
     refine(DG.out _).mono ?_;rintro e w' ⟨rfl,rfl⟩
     go_wp2_with fail
     refine(LT.out _).mono ?_;rintro e w' ⟨rfl,rfl⟩
     go_wp2_with fail
     go_ret
     exact⟨az (by rw[E.out];simp),rfl⟩
   ·go_enter Tryz.func218,Tryz.ntmps218
    go_wp2_with fail
    refine(DG.out _).mono ?_;rintro e w' ⟨rfl,rfl⟩
    go_wp2_with fail
    go_ret
    exact⟨az (by rw[E.out];simp),rfl⟩
  ·go_enter Tryz.func218,Tryz.ntmps218
   go_wp2_with fail
   refine(DG.out _).mono ?_;rintro e w' ⟨rfl,rfl⟩
   go_wp2_with fail
   go_ret
   exact⟨az (by rw[E.out];simp),rfl⟩
theorem KR {s:BA}(h:cM (bl s)≠0):1≤s.size:=by
 rcases Nat.eq_zero_or_pos s.size with e | e
 ·exfalso;apply h;rw[bj s e];rfl
 ·exact e
theorem QK (s:BA){b:Bool}(h:s.toList.isEmpty=b):b=decide (s.size=0):=by rw[←h,ai,aL]
def UV (V:(LU×LU) ⊕ Int):(LU×LU) ⊕ Int:=match V with
 | .inr c=>.inr c
 | .inl (a,b)=>if iG (a.take (au aD a)) (b.take (au aD b))≠0 then .inr (iG (a.take (au aD a)) (b.take (au aD b))) else .inl (a.drop (au aD a),b.drop (au aD b))
theorem jW (x0 y0:BA)(w:World)(hx0:x0.size≤1000000)(hy0:y0.size≤1000000):
  Calls Tryz.prog 183 #[.string x0,.string y0] w fun e w'=>e=.returned (.int .i64 (mQ (bl x0) (bl y0)))∧Below w.heap.size w w':=by
 obtain⟨R,hR⟩:∃ R,mQ (bl x0) (bl y0)=R:=⟨_,rfl⟩
 rw[hR]
 have HR0:Hid (mQ (bl x0) (bl y0)=R):=hR
 clear hR
 go_enter Tryz.func183,Tryz.ntmps183
 go_wp2_with fail
 go_loopw [0,1] (fun s0 s1 wr=>∃ x y:BA,s0=.string x∧s1=.string y∧x.size≤1000000∧y.size≤1000000∧Hid (mQ (bl x) (bl y)=R)∧Hid (Below w.heap.size w wr)) (fun s0 s1 _=>mZ s0+mZ s1)
 case atStart=>exact⟨x0,y0,rfl,rfl,hx0,hy0,HR0,bR⟩
 case round=>
  clear HR0 hx0 hy0
  obtain⟨x,y,rfl,rfl,hx,hy,HR,HB⟩:=hrel
  obtain⟨ex,hex⟩:∃ b,x.toList.isEmpty=b:=⟨_,rfl⟩
  obtain⟨ey,hey⟩:∃ b,y.toList.isEmpty=b:=⟨_,rfl⟩
  have EX:=ae (QK x hex)
  have EY:=ae (QK y hey)
  by_cases hboth:ex=true∧ey=true
  ·obtain⟨rfl,rfl⟩:=hboth
   have E:Hid (R=0):=by
    show _=_
    have h1:x.size=0:=dO EX.out.symm
    have h2:y.size=0:=dO EY.out.symm
    rw[←HR.out,bj x h1,bj y h2,sA]
   go_wp2_with fail
   go_ret
   exact⟨az E.out.symm,HB.out⟩
  have NE:Hid (¬ (bl x=[]∧bl y=[])):=by
   rintro⟨h1,h2⟩
   apply hboth
   rw[EX.out,EY.out]
   have k1:=congrArg List.length h1;have k2:=congrArg List.length h2
   rw[af] at k1 k2
   exact⟨dT k1,dT k2⟩
  obtain⟨V,hV⟩:∃ V,nY (bl x) (bl y)=V:=⟨_,rfl⟩
  have HV:=ae hV
  have DN:Hid (Eo (bl x) (bl y)=UV V):=by
   show _=_
   unfold Eo
   rw[if_neg NE.out,hV]
   clear hV HV
   rcases V with⟨a,b⟩ | c<;>rfl
  clear hV
  have hbo:(ex=false)∨(ex=true∧ey=false):=by
   cases ex
   ·exact .inl rfl
   ·cases ey
    ·exact .inr ⟨rfl,rfl⟩
    ·exact absurd ⟨rfl,rfl⟩ hboth
  clear hboth
  rcases hbo with rfl | ⟨rfl,rfl⟩
  all_goals
   clear EX EY
   go_wp2_with fail
   clear hex hey
   go_loopw [0,1] (fun s0 s1 wr=>∃ a b:BA,s0=.string a∧s1=.string b∧a.size≤x.size∧b.size≤y.size∧Hid (nY (bl a) (bl b)=V)∧Hid (Below w.heap.size w wr)) (fun s0 s1 _=>mZ s0+mZ s1)
   case atStart=>exact⟨x,y,rfl,rfl,lr,lr,HV,HB⟩
   case round=>
    clear HV HB
    obtain⟨a,b,rfl,rfl,ha,hb,HV,HB⟩:=hrel
    have O1:=ae fun W=>pP a W
    have O2:=ae fun W=>pP b W
    obtain⟨oa,hoa⟩:∃ o,cM (bl a)=o:=⟨_,rfl⟩
    obtain⟨ob,hob⟩:∃ o,cM (bl b)=o:=⟨_,rfl⟩
    have A1:=ae hoa;have A2:=ae hob
    rw[hoa] at O1
    rw[hob] at O2
    have CC:=ae fun W=>Tryz.cmp_Compare_int oa ob W
    obtain⟨cc,hcc⟩:∃ c,Lib.compareInt oa ob=c:=⟨_,rfl⟩
    have C1:=ae hcc
    rw[hcc] at CC
    clear hoa hob hcc
    by_cases hz:oa=0∧ob=0
    ·obtain⟨rfl,rfl⟩:=hz
     have VV:Hid (V=.inl (bl a,bl b)):=by show _=_;rw[←HV.out,Cb A1.out A2.out]
     have hn:=cJ aD (bl a);have hm:=cJ aD (bl b)
     rw[af] at hn hm
     have R1:=ae fun W=>kh a W (by omega)
     have R2:=ae fun W=>kh b W (by omega)
     obtain⟨n,hnn⟩:∃ n,au aD (bl a)=n:=⟨_,rfl⟩
     obtain⟨m,hmm⟩:∃ m,au aD (bl b)=m:=⟨_,rfl⟩
     have N1:=ae hnn;have M1:=ae hmm
     rw[hnn] at R1 hn
     rw[hmm] at R2 hm
     obtain⟨cv,hcv⟩:∃ cv,iG ((bl a).take n) ((bl b).take m)=cv:=⟨_,rfl⟩
     have AG:Hid (∀ W,Calls Tryz.prog 186 #[.string (a.extract 0 n),.string (b.extract 0 m)] W fun e w'=>e=.returned (.int .i64 cv)∧Below W.heap.size W w'):=by
      intro W;rw[←hcv]
      exact(fN (a.extract 0 n) (b.extract 0 m) W).mono fun e w' ⟨he,hw⟩=>⟨by rw[he,bV,bV],hw⟩
     have DD:Hid (Eo (bl x) (bl y)=if cv≠0 then .inr cv else .inl ((bl a).drop n,(bl b).drop m)):=by
      show _=_
      rw[DN.out,VV.out];unfold UV;simp only;rw[N1.out,M1.out,hcv]
     have e1:Hid ((a.extract n a.size).size=a.size-n):=bm a n
     have e2:Hid ((b.extract m b.size).size=b.size-m):=bm b m
     clear hnn hmm hcv CC C1 A1 A2
     go_wp2_with fail
     refine(O1.out _).mono ?_;rintro e w' ⟨rfl,rfl⟩
     go_wp2_with fail
     refine(O2.out _).mono ?_;rintro e w' ⟨rfl,rfl⟩
     clear O1 O2
     go_wp2_with fail
     refine(R1.out _).mono ?_;rintro e w' ⟨rfl,rfl⟩
     go_wp2_with fail
     refine(R2.out _).mono ?_;rintro e w' ⟨rfl,rfl⟩
     clear R1 R2
     go_wp2_with fail
     have Dr:Below wr.heap.size wr wr.drew:=bR.drew
     go_still_tail 6,(by kernel_rfl)
     change wpList _ _ _ _ _ wr.drew
     have HBD:=ae (ah HB.out Dr)
     clear Dr
     generalize wr.drew=w2 at *
     go_wp2_with fail
     refine(AG.out _).mono ?_;rintro e w3 ⟨rfl,hb3⟩
     have B3:=ae (ah HBD.out hb3)
     clear hb3 HBD HB AG
     by_cases hc0:cv≠0
     ·have qc:(cv != 0)=true:=by simpa [bne] using hc0
      have E:Hid (R=cv):=by show _=_;rw[←HR.out,kV (c:=cv) (by rw[DD.out,if_pos hc0])]
      clear hc0
      go_wp2_with fail
      go_ret
      exact⟨az E.out.symm,B3.out⟩
     have qc:(cv != 0)=false:=by rw[Decidable.not_not.1 hc0];rfl
     have LT:Hid (((bl a).drop n).length+((bl b).drop m).length<(bl x).length+(bl y).length):=QG (p:=((bl a).drop n,(bl b).drop m)) (by rw[DD.out,if_neg hc0])
     have HN:Hid (mQ (bl (a.extract n a.size)) (bl (b.extract m b.size))=R):=by
      show _=_
      rw[←HR.out,nZ (x:=bl x) (y:=bl y) (a:=(bl a).drop n) (b:=(bl b).drop m) (by rw[DD.out,if_neg hc0]),aX,aX]
     clear hc0
     go_wp2_with fail
     go_quiet (fail)
     go_wp2_with fail
     go_roundw
     case rel=>exact⟨_,_,rfl,rfl,by rw[e1.out];omega,by rw[e2.out];omega,HN,bJ B3.out _⟩
     case measure=>
      simp only[mZ]
      have h1:=LT.out;have h2:=e1.out;have h3:=e2.out
      rw[List.length_drop,List.length_drop,af,af,af,af] at h1
      rw[h2,h3];omega
    ·have hz2:oa≠0∨(oa=0∧ob≠0):=by
      by_cases h:oa=0
      ·exact .inr ⟨h,fun h2=>hz ⟨h,h2⟩⟩
      ·exact .inl h
     have ST:Hid (cc≠0→V=.inr cc):=fun h=>by
      rw[←HV.out,Cc (by rw[A1.out,A2.out,C1.out];exact h),A1.out,A2.out,C1.out]
     have NX:Hid (cc=0→nY (bl (a.extract 1 a.size)) (bl (b.extract 1 b.size))=V∧1≤a.size∧1≤b.size):=fun h=>by
      have he:oa=ob:=Ca.1 (by rw[C1.out];exact h)
      have hne:oa≠0:=by
       rcases hz2 with k | ⟨k1,k2⟩
       ·exact k
       ·exact absurd (he.symm.trans k1) k2
      refine⟨?_,KR (by rw[A1.out];exact hne),KR (by rw[A2.out,←he];exact hne)⟩
      rw[←HV.out,aX,aX]
      exact(tR (by rw[A1.out,A2.out,C1.out];exact h) (by rw[A1.out];exact hne)).symm
     clear hz A1 A2 C1 HV
     have W1:Hid (∀ W,Calls Tryz.prog 218 #[.string a] W fun e w'=>e=.returned (.int .i64 oa)∧W=w'):=O1.out
     have Q:((oa != 0)=true)∨((oa != 0)=false∧(ob != 0)=true):=by
      rcases hz2 with k | ⟨k1,k2⟩
      ·exact .inl (by simpa [bne] using k)
      ·exact .inr ⟨by rw[k1];rfl,by simpa [bne] using k2⟩
     clear hz2
     by_cases hc0:cc≠0
     ·have qc:(cc != 0)=true:=by simpa [bne] using hc0
      have E:Hid (R=cc):=by show _=_;rw[←HR.out,kV (c:=cc) (by rw[DN.out,ST.out hc0];rfl)]
      clear hc0 ST NX
      rcases Q with q1 | ⟨q1,q2⟩
      ·go_wp2_with fail
       refine(O1.out _).mono ?_;rintro e w' ⟨rfl,rfl⟩
       go_wp2_with fail
       refine(O1.out _).mono ?_;rintro e w' ⟨rfl,rfl⟩
       go_wp2_with fail
       refine(O2.out _).mono ?_;rintro e w' ⟨rfl,rfl⟩
       go_wp2_with fail
       refine(CC.out _).mono ?_;rintro e w' ⟨rfl,rfl⟩
       go_wp2_with fail
       go_ret
       exact⟨az E.out.symm,HB.out⟩
      ·go_wp2_with fail
       refine(O1.out _).mono ?_;rintro e w' ⟨rfl,rfl⟩
       go_wp2_with fail
       refine(O2.out _).mono ?_;rintro e w' ⟨rfl,rfl⟩
       go_wp2_with fail
       refine(O1.out _).mono ?_;rintro e w' ⟨rfl,rfl⟩
       go_wp2_with fail
       refine(O2.out _).mono ?_;rintro e w' ⟨rfl,rfl⟩
       go_wp2_with fail
       refine(CC.out _).mono ?_;rintro e w' ⟨rfl,rfl⟩
       go_wp2_with fail
       go_ret
       exact⟨az E.out.symm,HB.out⟩
     ·have hc1:cc=0:=Decidable.not_not.1 hc0
      obtain⟨n1,z1,z2⟩:=NX.out hc1
      have qc:(cc != 0)=false:=by rw[hc1];rfl
      have N1:=ae n1
      have e1:Hid ((a.extract 1 a.size).size=a.size-1):=bm a 1
      have e2:Hid ((b.extract 1 b.size).size=b.size-1):=bm b 1
      clear hc0 hc1 n1 ST NX
      rcases Q with q1 | ⟨q1,q2⟩
      ·go_wp2_with fail
       refine(O1.out _).mono ?_;rintro e w' ⟨rfl,rfl⟩
       go_wp2_with fail
       refine(O1.out _).mono ?_;rintro e w' ⟨rfl,rfl⟩
       go_wp2_with fail
       refine(O2.out _).mono ?_;rintro e w' ⟨rfl,rfl⟩
       go_wp2_with fail
       refine(CC.out _).mono ?_;rintro e w' ⟨rfl,rfl⟩
       go_wp2_with fail
       go_quiet (fail)
       go_wp2_with fail
       go_roundw
       case rel=>exact⟨_,_,rfl,rfl,by rw[e1.out];omega,by rw[e2.out];omega,N1,bJ HB.out _⟩
       case measure=>simp only[mZ];have h1:=e1.out;have h2:=e2.out;rw[h1,h2];omega
      ·go_wp2_with fail
       refine(O1.out _).mono ?_;rintro e w' ⟨rfl,rfl⟩
       go_wp2_with fail
       refine(O2.out _).mono ?_;rintro e w' ⟨rfl,rfl⟩
       go_wp2_with fail
       refine(O1.out _).mono ?_;rintro e w' ⟨rfl,rfl⟩
       go_wp2_with fail
       refine(O2.out _).mono ?_;rintro e w' ⟨rfl,rfl⟩
       go_wp2_with fail
       refine(CC.out _).mono ?_;rintro e w' ⟨rfl,rfl⟩
       go_wp2_with fail
       go_quiet (fail)
       go_wp2_with fail
       go_roundw
       case rel=>exact⟨_,_,rfl,rfl,by rw[e1.out];omega,by rw[e2.out];omega,N1,bJ HB.out _⟩
       case measure=>simp only[mZ];have h1:=e1.out;have h2:=e2.out;rw[h1,h2];omega
theorem JO {x y u v:LU}(h:jO x y=jO u v):fv x y=fv u v:=by
 cases hn:jO u v with
 | inr c=>rw[bD hn,bD (h.trans hn)]
 | inl p=>obtain⟨a,b⟩:=p;rw[gE hn,gE (h.trans hn)]
theorem gw {c:UInt8}{r:LU}(h:DJ c=false):sJ (c::r)=c::r:=by
 unfold sJ;rw[eF,h];rfl
theorem jH {c:UInt8}{r:LU}(h:DJ c=true):sJ (c::r)=sJ r:=by
 unfold sJ;rw[eF,h];simp
theorem vE:sJ []=[]:=rfl
theorem SD {c:UInt8}(h:aD c=true):DJ c=false:=by unfold DJ;rw[h];simp
theorem vF {c:UInt8}(h:cD c=true):DJ c=false:=by unfold DJ;rw[h];simp
theorem lz (n:Nat)(r:LU):sJ (aC n++r)=aC n++r:=by
 obtain⟨d,t,e,hd⟩:=fP n
 rw[e];exact gw (SD hd)
theorem dy (c x:UInt8)(r:LU):mv (c::r) x=(c==x):=by
 unfold mv Lib.hasPrefix
 simp[List.isPrefixOf,BEq.comm]
theorem od {c:UInt8}(h:aD c=true):(c==126)=false∧(c==94)=false:=by
 constructor<;>(rw[bF];rintro rfl;revert h;decide)
theorem oe {c:UInt8}(h:be c=true):(c==126)=false∧(c==94)=false:=by
 constructor<;>(rw[bF];rintro rfl;revert h;decide)
theorem KS (u:LU){y:LU}(h:mv y 126=false):iU (126::u) y=.inr (-1):=by
 have e:mv (126::u) 126=true:=by rw[dy];rfl
 unfold iU
 rw[h,e,if_neg (by simp),if_pos rfl]
theorem KU {x:LU}(v:LU)(h:mv x 126=false):iU x (126::v)=.inr 1:=by
 have e:mv (126::v) 126=true:=by rw[dy];rfl
 unfold iU
 rw[h,e,if_neg (by simp),if_neg (by simp),if_pos rfl]
theorem KW {d : UInt8} (y : LU) (h : (d == 126) = false ∧ (d == 94) = false) : iU [] (d :: y) = .inr (-1) := by
  have e1 : mv [] 126 = false := rfl
  have e2 : mv [] 94 = false := rfl
  have e3 : mv (d :: y) 126 = false := by rw [dy]; exact h.1
  have e4 : mv (d :: y) 94 = false := by rw [dy]; exact h.2
  unfold iU
  rw [e1, e2, e3, e4, if_neg (by simp), if_neg (by simp), if_neg (by simp), if_neg (by simp), if_neg (by simp), if_neg (by simp), if_pos (.inl rfl), tN, tP (by simp)]
theorem KX {d:UInt8}(y:LU)(h:(d==126)=false∧(d==94)=false):iU (d::y) []=.inr 1:=by
 have e1:mv [] 126=false:=rfl
 have e2:mv [] 94=false:=rfl
 have e3:mv (d::y) 126=false:=by rw[dy];exact h.1
 have e4:mv (d::y) 94=false:=by rw[dy];exact h.2
 unfold iU
 rw[e1,e2,e3,e4,if_neg (by simp),if_neg (by simp),if_neg (by simp),if_neg (by simp),if_neg (by simp),if_neg (by simp),if_pos (.inr rfl),tN,Ec (by simp)]
theorem sB {x y:LU}{c d:UInt8}{r s:LU}(ex:x=c::r)(ey:y=d::s)(hc:(c==126)=false∧(c==94)=false)(hd:(d==126)=false∧(d==94)=false)(hk:nS (aD c) c=true):
  iU x y=if au (nS (aD c)) y=0 then .inr (if aD c=true then 1 else -1)
   else if N6 (aD c) (x.take (au (nS (aD c)) x)) (y.take (au (nS (aD c)) y))≠0 then .inr (N6 (aD c) (x.take (au (nS (aD c)) x)) (y.take (au (nS (aD c)) y)))
   else .inl (x.drop (au (nS (aD c)) x),y.drop (au (nS (aD c)) y)):=by
 have e1:GS x=aD c:=by rw[ex];rfl
 have hr:au (nS (aD c)) x≠0:=by rw[ex,eF,if_pos hk];omega
 unfold iU
 rw[e1]
 have h1:mv x 126=false:=by rw[ex,dy];exact hc.1
 have h2:mv x 94=false:=by rw[ex,dy];exact hc.2
 have h3:mv y 126=false:=by rw[ey,dy];exact hd.1
 have h4:mv y 94=false:=by rw[ey,dy];exact hd.2
 rw[h1,h2,h3,h4]
 have h5:¬ (x.length=0∨y.length=0):=by rw[ex,ey];simp
 rw[if_neg (by simp),if_neg (by simp),if_neg (by simp),if_neg (by simp),if_neg (by simp),if_neg (by simp),if_neg h5,if_neg hr]
theorem yY (n m:Nat){x y:LU}(hx:Cd x)(hy:Cd y):fv (aC n++x) (aC m++y)=if cI n m≠0 then cI n m else fv x y:=by
 obtain⟨d,t,e1,hd⟩:=fP n
 obtain⟨d',t',e2,hd'⟩:=fP m
 have hk:=sB (x:=aC n++x) (y:=aC m++y) (c:=d) (d:=d') (r:=t++x) (s:=t'++y) (by rw[e1];rfl) (by rw[e2];rfl) (od hd) (od hd') (by rw[hd];exact hd)
 rw[hd] at hk
 have e:jO (aC n++x) (aC m++y)=if cI n m≠0 then .inr (cI n m) else .inl (x,y):=by
  unfold jO
  rw[lz,lz,hk]
  show(if au aD (aC m++y)=0 then _ else if N6 true ((aC n++x).take (au aD (aC n++x))) ((aC m++y).take (au aD (aC m++y)))≠0 then _ else Sum.inl ((aC n++x).drop (au aD (aC n++x)),(aC m++y).drop (au aD (aC m++y))))=_
  have hp:=gY m
  rw[er (cG n) hx,er (cG m) hy,if_neg (by omega),List.take_left,List.take_left,List.drop_left,List.drop_left]
  have:N6 true (aC n) (aC m)=cI n m:=by unfold N6;rw[if_pos rfl];exact sw n m
  rw[this]
  show(if cI n m≠0 then Sum.inr (N6 true ((aC n++x).take (au aD (aC n++x))) ((aC m++y).take (au aD (aC m++y)))) else _)=_
  rw[er (cG n) hx,er (cG m) hy,List.take_left,List.take_left,this]
 by_cases h:cI n m≠0
 ·rw[if_pos h] at e ⊢;exact bD e
 ·rw[if_neg h] at e ⊢;exact gE e
theorem G9:DJ 46=true:=by decide
theorem Us (x y : LU) : fv (46 :: x) (46 :: y) = fv x y := by
  refine JO ?_
  unfold jO
  rw [jH G9, jH G9]
theorem Ha:fv [] []=0:=bD rfl
theorem Ut {t:LU}(h:pO t):sJ t=t:=by
 cases t with
 | nil=>rfl
 | cons x r=>
  rcases h x rfl with h1 | rfl
  ·exact gw (vF (lw h1))
  ·exact gw (by decide)
theorem KY (n:Nat){x t:LU}(ht:pO t):fv t (46::(aC n++x))=-1∧fv (46::(aC n++x)) t=1:=by
 obtain⟨d,r,e,hd⟩:=fP n
 have e2:aC n++x=d::(r++x):=by rw[e];rfl
 cases t with
 | nil=>
  constructor
  ·refine bD ?_
   unfold jO
   rw[jH G9,lz,vE,e2]
   exact KW _ (od hd)
  ·refine bD ?_
   unfold jO
   rw[jH G9,lz,vE,e2]
   exact KX _ (od hd)
 | cons b s=>
  have hs:=Ut ht
  rcases ht b rfl with h1 | rfl
  ·have hbd:=oT h1
   constructor
   ·refine bD ?_
    unfold jO
    rw[jH G9,lz,hs,sB rfl e2 (oe h1) (od hd) (by rw[hbd];exact lw h1),hbd,e2]
    have:au (nS false) (d::(r++x))=0:=by
     rw[eF]
     have hl:cD d=false:=by
      unfold cD zw be
      unfold aD at hd
      have:=dO hd
      rw[dF,dF];rfl
     rw[if_neg (by show ¬ cD d=true;rw[hl];simp)]
    rw[if_pos this];rfl
   ·refine bD ?_
    unfold jO
    rw[jH G9,lz,hs,sB e2 rfl (od hd) (oe h1) (by rw[hd];exact hd),hd]
    have:au (nS true) (b::s)=0:=by
     rw[eF,if_neg (by show ¬ aD b=true;rw[hbd];simp)]
    rw[if_pos this];rfl
  ·constructor
   ·refine bD ?_
    unfold jO
    rw[jH G9,lz,hs,e2]
    exact KS _ (by rw[dy];exact(od hd).1)
   ·refine bD ?_
    unfold jO
    rw[jH G9,lz,hs,e2]
    exact KU _ (by rw[dy];exact(od hd).1)
theorem Ce (n:Nat)(l:List Nat):∃ x,bE 46 ((n::l).map aC)=aC n++x:=by
 cases l with
 | nil=>exact⟨[],by rw[iX,List.append_nil]⟩
 | cons m r=>exact⟨_,gF n m r⟩
theorem KZ:∀ (ns ms:List Nat)(s t:LU),ns≠[]→ms≠[]→pO s→pO t →
  fv (bE 46 (ns.map aC)++s) (bE 46 (ms.map aC)++t)=iW ns ms (fv s t)
 | [],_,_,_,h,_,_,_=>absurd rfl h
 | _::_,[],_,_,_,h,_,_=>absurd rfl h
 | [n],[m],s,t,_,_,hs,ht=>by
  rw[iX,iX,yY n m hs.no ht.no];rfl
 | [n],m::m'::ms,s,t,_,_,hs,ht=>by
  obtain⟨x,e⟩:=Ce m' ms
  rw[iX,gF,List.append_assoc,List.cons_append,yY n m hs.no (jG _),e,List.append_assoc,(KY m' hs).1];rfl
 | n::n'::ns,[m],s,t,_,_,hs,ht=>by
  obtain⟨x,e⟩:=Ce n' ns
  rw[iX,gF,List.append_assoc,List.cons_append,yY n m (jG _) ht.no,e,List.append_assoc,(KY n' ht).2];rfl
 | n::n'::ns,m::m'::ms,s,t,_,_,hs,ht=>by
  rw[gF,gF,List.append_assoc,List.append_assoc,List.cons_append,List.cons_append,yY n m (jG _) (jG _),Us,KZ (n'::ns) (m'::ms) s t (by simp) (by simp) hs ht]
  rfl
theorem K9 (n m:Nat):fv (aC n) (aC m)=cI n m:=by
 have:=yY n m (x:=[]) (y:=[]) (by intro x hx;simp at hx) (by intro x hx;simp at hx)
 rw[List.append_nil,List.append_nil,Ha] at this
 rw[this]
 by_cases h:cI n m≠0
 ·rw[if_pos h]
 ·rw[if_neg h];exact(Decidable.not_not.1 h).symm
theorem La {w r:LU}(h:w.all be=true)(hr:∀ c,r.head?=some c→cD c=false):au cD (w++r)=w.length:=
 lX (by rw[List.all_eq_true] at h ⊢;exact fun c hc=>lw (h c hc)) hr
theorem SE {d:UInt8}(hd:aD d=true):cD d=false:=by
 unfold cD zw be
 unfold aD at hd
 have:=dO hd
 rw[dF,dF];rfl
theorem Lb {w v x y:LU}(hw:w.all be=true)(hv:v.all be=true)(h1:w≠[])(h2:v≠[])(hx:∀ c,x.head?=some c→cD c=false)(hy:∀ c,y.head?=some c→cD c=false):
  fv (w++x) (v++y)=if Lib.compareBytes w v≠0 then Lib.compareBytes w v else fv x y:=by
 obtain⟨a,r,ea⟩:=List.exists_cons_of_ne_nil h1
 obtain⟨b,s,eb⟩:=List.exists_cons_of_ne_nil h2
 have ha:be a=true:=List.all_eq_true.1 hw a (by rw[ea];simp)
 have hb:be b=true:=List.all_eq_true.1 hv b (by rw[eb];simp)
 have had:=oT ha
 have k1:w++x=a::(r++x):=by rw[ea];rfl
 have k2:v++y=b::(s++y):=by rw[eb];rfl
 have s1:sJ (w++x)=w++x:=by rw[k1];exact gw (vF (lw ha))
 have s2:sJ (v++y)=v++y:=by rw[k2];exact gw (vF (lw hb))
 have hk:=sB k1 k2 (oe ha) (oe hb) (by rw[had];exact lw ha)
 rw[had] at hk
 have r1:au (nS false) (w++x)=w.length:=La hw hx
 have r2:au (nS false) (v++y)=v.length:=La hv hy
 have hvp:v.length≠0:=by rw[eb];simp
 have e:jO (w++x) (v++y)=if Lib.compareBytes w v≠0 then .inr (Lib.compareBytes w v) else .inl (x,y):=by
  unfold jO
  rw[s1,s2,hk,r1,r2,if_neg hvp,List.take_left,List.take_left,List.drop_left,List.drop_left]
  rfl
 by_cases h:Lib.compareBytes w v≠0
 ·rw[if_pos h] at e ⊢;exact bD e
 ·rw[if_neg h] at e ⊢;exact gE e
theorem SF (x y : LU) : fv (126 :: x) (126 :: y) = fv x y := by
  refine gE ?_
  unfold jO
  rw [gw (by decide), gw (by decide)]
  unfold iU
  rw [if_pos (by rw [dy, dy]; exact ⟨rfl, rfl⟩)]; rfl
theorem Cf (n:Nat):∀ c,(aC n).head?=some c→cD c=false:=by
 intro c hc
 obtain⟨d,r,e,hd⟩:=fP n
 rw[e] at hc;simp at hc;rw[←hc];exact SE hd
theorem SG {w v:LU}(n m:Nat)(hw:w=[]∨w∈bu)(hv:v=[]∨v∈bu):fv (iY w n) (iY v m)=mO w n v m:=by
 unfold iY mO
 by_cases h1:w=[]
 ·rw[if_pos h1,if_pos h1]
  by_cases h2:v=[]
  ·rw[if_pos h2,if_pos h2];exact Ha
  ·rw[if_neg h2,if_neg h2]
   refine bD ?_
   unfold jO
   rw[gw (by decide),vE]
   unfold iU
   simp only[dy]
   rfl
 ·rw[if_neg h1,if_neg h1]
  by_cases h2:v=[]
  ·rw[if_pos h2,if_pos h2]
   refine bD ?_
   unfold jO
   rw[gw (by decide),vE]
   unfold iU
   simp only[dy]
   rfl
  ·rw[if_neg h2,if_neg h2,SF,Lb (gf (hw.resolve_left h1)) (gf (hv.resolve_left h2)) h1 h2 (Cf n) (Cf m),K9]
theorem yZ (w:LU)(n:Nat):∀ c,(iY w n).head?=some c→cD c=false:=by
 intro c hc
 unfold iY at hc
 split at hc
 ·simp at hc
 ·simp at hc;rw[←hc];decide
theorem Hb {b : UInt8} (hb : be b = true) (w y : LU) (n : Nat) : fv (iY w n) (b :: y) = -1 ∧ fv (b :: y) (iY w n) = 1 := by
  have s1 : sJ (b :: y) = b :: y := gw (vF (lw hb))
  have s2 : sJ (iY w n) = iY w n := by
    unfold iY; split
    · rfl
    · exact gw (by decide)
  constructor
  · refine bD ?_
    unfold jO
    rw [s1, s2]
    unfold iY
    split
    · exact KW _ (oe hb)
    · exact KS _ (by rw [dy]; exact (oe hb).1)
  · refine bD ?_
    unfold jO
    rw [s1, s2]
    unfold iY
    split
    · exact KX _ (oe hb)
    · exact KU _ (by rw [dy]; exact (oe hb).1)
theorem SI {c d:aT}(hc:c.ok)(hd:d.ok):fv (c.lt++bM 1 c) (d.lt++bM 1 d)=jz c d:=by
 have hp:=SG c.pnum d.pnum (qM hc) (qM hd)
 rw[js,js]
 unfold jz
 rcases hc.lt with e1 | ⟨a,e1,ha⟩<;>rcases hd.lt with e2 | ⟨b,e2,hb⟩<;>rw[e1,e2]
 ·exact hp
 ·exact(Hb hb _ _ _).1
 ·exact(Hb ha _ _ _).2
 ·rw[Lb (by simp[ha]) (by simp[hb]) (by simp) (by simp) (yZ _ _) (yZ _ _),hp]
  have:Lib.compareBytes [a] [b]=if a<b then -1 else if b<a then 1 else 0:=by
   unfold Lib.compareBytes Lib.compareBytes;rfl
  rw[this]
  by_cases h1:a<b
  ·simp[h1]
  ·by_cases h2:b<a
   ·simp[h1,h2]
   ·simp[h1,h2]
theorem QL (c:aT):bi 2 c=bi 1 c:=rfl
theorem SJ {c d:aT}(hc:c.ok)(hd:d.ok):fv (bi 2 c) (bi 2 d)=iW c.nums d.nums (jz c d):=by
 rw[QL,QL]
 unfold bi fC
 rw[KZ c.nums d.nums _ _ hc.nums hd.nums (oU hc) (oU hd),SI hc hd]
theorem oV {fmt:Int}(hf:fmt=1∨fmt=2∨fmt=3){c:aT}(ok:c.ok){l:LU}(hl:l=aN fmt c)(hs:bC fmt l≠none):pi fmt l=(vp fmt c,bi fmt c,aC c.rev):=by
 unfold pi
 cases h:bC fmt l with
 | none=>exact absurd h hs
 | some x=>rw[hl] at h;rw[uc hf ok h];rfl
theorem Ny {a b:BA}{c d:aT}(hc:c.ok)(hd:d.ok)(ha:aV 1 a=0)(hb:aV 1 b=0)(ea:bl a=aN 1 c)(eb:bl b=aN 1 d):Ah a b=mP c d:=by
 unfold Ah mP
 rw[if_neg (fun h=>h.elim (fun h=>h ha) (fun h=>h hb)),oV (.inl rfl) hc ea (cZ (.inl rfl) ha).1,oV (.inl rfl) hd eb (cZ (.inl rfl) hb).1]
 simp only
 rw[KJ 1 c d (fun h=>by cases h),SC hc hd,KQ]
theorem Nz {a b:BA}{c d:aT}(hc:c.ok)(hd:d.ok)(ha:aV 2 a=0)(hb:aV 2 b=0)(ea:bl a=aN 2 c)(eb:bl b=aN 2 d):tH a b=mP c d:=by
 unfold tH mP
 rw[if_neg (fun h=>h.elim (fun h=>h ha) (fun h=>h hb)),oV (.inr (.inl rfl)) hc ea (cZ (.inr (.inl rfl)) ha).1,oV (.inr (.inl rfl)) hd eb (cZ (.inr (.inl rfl)) hb).1]
 simp only
 rw[KJ 2 c d (fun h=>by cases h),SJ hc hd,K9]
end
end Go.Proofs.YtkjdbpjglobbjaaGreatDoor
