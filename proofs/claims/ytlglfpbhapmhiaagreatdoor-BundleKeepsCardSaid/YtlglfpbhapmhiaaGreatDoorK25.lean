/- A part of the proof. -/
import Derived.Test.YtlglfpbhapmhiaaGreatDoorK20
import Derived.Test.YtlglfpbhapmhiaaGreatDoorK23
import Derived.Test.YtlglfpbhapmhiaaGreatDoorK24
set_option maxRecDepth 100000
set_option maxHeartbeats 20000000
set_option linter.unusedVariables false
set_option linter.unusedSimpArgs false
namespace Go.Proofs.YtlglfpbhapmhiaaGreatDoor
section
open Go.RowKit Go.Deep
structure TB (w:World) (b:Nat) (v0 v1 v2 v3 v4:Value):Prop where
 c0:w.cell? ⟨b,0,none⟩=some v0
 c1:w.cell? ⟨b,1,none⟩=some v1
 c2:w.cell? ⟨b,2,none⟩=some v2
 c3:w.cell? ⟨b,3,none⟩=some v3
 c4:w.cell? ⟨b,4,none⟩=some v4
 f0:w.frozen? ⟨b,0,none⟩=false
 f1:w.frozen? ⟨b,1,none⟩=false
 f2:w.frozen? ⟨b,2,none⟩=false
 f3:w.frozen? ⟨b,3,none⟩=false
 f4:w.frozen? ⟨b,4,none⟩=false
theorem av.five {w:World}{b:Nat}{v0 v1 v2 v3 v4:Value}(h:av w b [v0,v1,v2,v3,v4]):TB w b v0 v1 v2 v3 v4:=
 ⟨h.cell 0 _ rfl,h.cell 1 _ rfl,h.cell 2 _ rfl,h.cell 3 _ rfl,h.cell 4 _ rfl,h.free 0 (by simp),h.free 1 (by simp),h.free 2 (by simp),h.free 3 (by simp),h.free 4 (by simp)⟩
theorem G0 {l v r:LU}{op:Nat}(h:tO l=some (op,v,r)):op≠0:=by
 unfold tO bX at h
 split at h
 ·cases h
 ·rename_i h0
  split at h
  ·cases h
  ·unfold jL at h
   split at h
   ·injection h with h;injection h with h;subst h;exact h0
   ·cases h
theorem iR.no {r:Option (dn×LU)}{a:Nat}{s:BA}{p n p' n':Nat}{c c':Int}{w w':World}{T:cy}{e:Ending}(hr:r=none)(hg:w.grownBy w' (some a))(h:DR w' a s p' n' c')(he:e=.returned (.tuple #[T.val,.bool false])):iR r a s p n c w e w':=by
 subst hr;exact⟨hg,T,p',n',c',he,h⟩
theorem DY (a:Nat)(s:BA)(p n:Nat)(c:Int)(w:World)(hs:s.size≤4294967280)(hG:oO a w)(h:DR w a s p n c):
  Calls Tryz.prog 234 #[.pointer (some ⟨a,0,none⟩)] w (iR (fT ((bl s).drop p)) a s p n c w):=by
 have HG:=ae hG
 obtain⟨f,y,k⟩:=(h.alloc (.cells #[.string ⟨#[]⟩,.int .i64 0,.string ⟨#[]⟩,.string ⟨#[]⟩,.slice none 0 0] 211)).cells
 have c1:=k.c1
 have T0:Hid (pY w (w.alloc (.cells #[.string ⟨#[]⟩,.int .i64 0,.string ⟨#[]⟩,.string ⟨#[]⟩,.slice none 0 0] 211)) a s p n c [.string ⟨#[]⟩,.int .i64 0,.string ⟨#[]⟩,.string ⟨#[]⟩,.slice none 0 0]):=pY.start h _ _
 have hnp:=h.nle
 have hps:=h.le
 clear hG h k
 generalize hRR:fT ((bl s).drop p)=RR
 cases ht:kU nP ((bl s).drop p) with
 | none=>
  have EN:Hid (RR=none):=by show _=_;rw[←hRR];exact Lp ht
  have HT:=ae ht
  clear ht hRR
  go_enter Tryz.func234,Tryz.ntmps234
  go_wp2_with fail
  refine(cI yk a s p n c _ hs T0.out.dr HT).mono ?_;rintro e w1 ⟨rfl,hd,hg⟩
  have T1:=ae (T0.out.step hg hd);clear hd hg c1 T0
  obtain⟨z0,z1,z2,z3,z4,y0,y1,y2,y3,y4⟩:=T1.out.tb.five
  go_wp2_with fail
  refine bodyPost_ret (v:=.tuple #[.agg #[.string ⟨#[]⟩,.int .i64 0,.string ⟨#[]⟩,.string ⟨#[]⟩,.slice none 0 0],.bool false]) (by simp(maxDischargeDepth:=6) [results,Tryz.results234,go_sem,z0,z1,z2,z3,z4]) rfl ?_
  have TZ:=pY.same (T1.out.set 0 (by simp) (.string ⟨#[]⟩))
  exact iR.no (T:=⟨⟨#[]⟩,0,⟨#[]⟩,⟨#[]⟩,none,0,[]⟩) EN.out TZ.gr TZ.dr rfl
 | some x=>
 obtain⟨nm,r⟩:=x
 have HT0:=ae ht
 obtain⟨t1,t2,t3,t4⟩:=dz hps ht
 obtain⟨p1,hp1⟩:∃ p1,p+nm.length=p1:=⟨_,rfl⟩
 have hU:=cu yk nm r a s p n c _ hs T0.out.dr HT0
 rw[hp1] at hU t2 t4
 have PP:Hid (p<p1):=by show _<_;omega
 have DR1:Hid ((bl s).drop p1=r):=t2
 have hn1:n<p1:=by omega
 have hnz:(bG nm).size≤4294967280:=by rw[bV];omega
 have HR:=ae hRR
 clear ht t1 t2 t3 hp1 hRR
 go_enter Tryz.func234,Tryz.ntmps234
 go_wp2_with fail
 refine hU.mono ?_;rintro e w1 ⟨rfl,hd,hg⟩
 have T1:=ae (T0.out.step hg hd);clear hd hg c1 T0 hU
 obtain⟨z0,z1,z2,z3,z4,y0,y1,y2,y3,y4⟩:=T1.out.tb.five
 have T2:Hid (pY w (w1.setCell ⟨w.heap.size,0,none⟩ (.string (bG nm))) a s p1 n c [.string (bG nm),.int .i64 0,.string ⟨#[]⟩,.string ⟨#[]⟩,.slice none 0 0]):=T1.out.set 0 (by simp) (.string (bG nm))
 obtain⟨f2,y2',k2⟩:=T2.out.dr.cells
 have c2:=k2.c2
 have fc2:=k2.f2
 clear k2 z1 z2 z3 z4 y1 y2 y3 y4
 have T3:Hid (pY w ((w1.setCell ⟨w.heap.size,0,none⟩ (.string (bG nm))).setCell ⟨a,2,none⟩ (.int .i64 ((n:Int)+1))) a s p1 (n+1) c [.string (bG nm),.int .i64 0,.string ⟨#[]⟩,.string ⟨#[]⟩,.slice none 0 0]):=T2.out.step (aR _) (T2.out.dr.count hn1)
 obtain⟨f3,y3',k3⟩:=T3.out.dr.cells
 have d2:=k3.c2
 clear k3
 go_upto_if 30 with(fail)
 clear z0 y0 c2 fc2 d2 T1 T2
 go_cut [] (fun wx=>∃ c1:Int,Hid (pY w wx a s p1 (n+1) c1 [.string (bG nm),.int .i64 0,.string ⟨#[]⟩,.string ⟨#[]⟩,.slice none 0 0])∧Hid (c1=0↔c=0∧n+1≤64))
 case first=>
  by_cases h64:64<n+1
  ·have e64:decide ((64:Int)<(n:Int)+1)=true:=dT (by omega)
   have NC:Hid (jo c 4=0↔c=0∧n+1≤64):=by show _↔_;rw[eB];constructor<;>intro h<;>omega
   go_wp2_with fail
   refine(fA _ 4 a s p1 (n+1) c _ T3.out.dr).mono ?_;rintro e w3 ⟨rfl,hd,hg⟩
   have T4:=ae (T3.out.step hg hd);clear hd hg
   go_wp2_with fail
   go_meet
   exact⟨_,T4,NC⟩
  ·have e64:decide ((64:Int)<(n:Int)+1)=false:=dF (by omega)
   have NC:Hid (c=0↔c=0∧n+1≤64):=by show _↔_;constructor<;>intro h<;>omega
   go_wp2_with fail
   go_meet
   exact⟨_,T3,NC⟩
 case rest=>
 obtain⟨c1,T4,C1⟩:=hcut
 clear T3
 have z0:=T4.out.tb.five.c0
 have hN:=lD (bG nm) wc (by omega)
 rw[et] at hN
 obtain⟨bn,hbn⟩:∃ bn,dX nm=bn:=⟨_,rfl⟩
 rw[hbn] at hN
 have HBN:=ae hbn
 clear hbn
 go_wp2_with fail
 refine hN.mono ?_;rintro e w' ⟨rfl,rfl⟩
 clear hN
 go_upto_if 38 with(fail)
 clear z0
 go_cut [] (fun wx=>∃ c2:Int,Hid (pY w wx a s p1 (n+1) c2 [.string (bG nm),.int .i64 0,.string ⟨#[]⟩,.string ⟨#[]⟩,.slice none 0 0])∧Hid (c2=0↔c1=0∧dX nm=true))
 case first=>
  cases bn with
  | true=>
   go_wp2_with fail
   go_meet
   exact⟨c1,T4,by simp[Hid,HBN.out]⟩
  | false=>
   have NC:Hid (jo c1 10=0↔c1=0∧dX nm=true):=by show _↔_;rw[eB,HBN.out];simp
   go_wp2_with fail
   refine(fA _ 10 a s p1 (n+1) c1 _ T4.out.dr).mono ?_;rintro e w3 ⟨rfl,hd,hg⟩
   have T5:=ae (T4.out.step hg hd);clear hd hg
   go_wp2_with fail
   go_meet
   exact⟨_,T5,NC⟩
 case rest=>
 obtain⟨c2,T5,C2⟩:=hcut
 clear T4 HBN
 obtain⟨b,hb⟩:∃ b,ay 58 ((bl s).drop p1)=b:=⟨_,rfl⟩
 have HB:=ae hb
 clear hb
 go_wp2_with fail
 refine(oP 58 a s p1 (n+1) c2 _ hs T5.out.dr b HB).mono ?_;rintro e w5 ⟨rfl,hd,hg⟩
 have T6:=ae (T5.out.step hg hd);clear hd hg T5
 go_upto_if 43 with(fail)
 go_cut [3] (fun v wx=>∃ (Q:BA) (p3:Nat) (c3:Int),v=.bool true∧Hid (pY w wx a s p3 (n+1) c3 [.string (bG nm),.int .i64 0,.string ⟨#[]⟩,.string Q,.slice none 0 0])∧Hid (jM r=some (bl Q,(bl s).drop p3))∧Hid (p1≤p3)∧Hid (c3=0↔c2=0∧(bl Q=[]∨cQ (bl Q)=true)))
 case first=>
  cases b with
  | false=>
   have EQ:Hid (jM r=some (bl ⟨#[]⟩,(bl s).drop p1)):=by show _=_;rw[DR1.out];exact GX (by rw[←DR1.out];exact HB.out)
   go_wp2_with fail
   go_meet
   exact⟨⟨#[]⟩,p1,c2,rfl,T6.out,EQ,lr,by simp[Hid];intro _;left;rfl⟩
  | true=>
   cases ht:kU ip ((bl s).drop (p1+1)) with
   | none=>
    have HT:=ae ht
    have EN:Hid (RR=none):=by show _=_;rw[←HR.out];exact Lq HT0.out (by rw[uU (by rw[←DR1.out];exact HB.out),←DR1.out,List.drop_drop];exact ht)
    clear ht
    go_wp2_with fail
    refine(ic a s (p1+1) (n+1) c2 _ hs T6.out.dr HT).mono ?_;rintro e w6 ⟨rfl,hd,hg⟩
    have T7:=ae (T6.out.step hg hd);clear hd hg
    obtain⟨z0,z1,z2,z3,z4,y0,y1,y2,y3,y4⟩:=T7.out.tb.five
    go_wp2_with fail
    refine bodyPost_ret (v:=.tuple #[.agg #[.string (bG nm),.int .i64 0,.string ⟨#[]⟩,.string ⟨#[]⟩,.slice none 0 0],.bool false]) (by simp(maxDischargeDepth:=6) [results,Tryz.results234,go_sem,z0,z1,z2,z3,z4]) rfl ?_
    have TZ:=pY.same (T7.out.set 3 (by simp) (.string ⟨#[]⟩))
    exact iR.no (T:=⟨bG nm,0,⟨#[]⟩,⟨#[]⟩,none,0,[]⟩) EN.out TZ.gr TZ.dr rfl
   | some x=>
    obtain⟨q,r1⟩:=x
    have HT:=ae ht
    have hp2:=T6.out.dr.le
    obtain⟨t1,t2,t3,t4⟩:=dz (p:=p1+1) hp2 ht
    have EQ:Hid (jM r=some (bl (bG q),(bl s).drop (p1+1+q.length))):=by show _=_;rw[uU (by rw[←DR1.out];exact HB.out),←DR1.out,List.drop_drop,et,t2];exact ht
    have Q0:Hid (q≠[]):=by intro e;rw[e] at t3;simp at t3
    clear ht t1 t2 t3 hp2
    go_wp2_with fail
    refine(ie q r1 a s (p1+1) (n+1) c2 _ hs T6.out.dr HT).mono ?_;rintro e w6 ⟨rfl,⟨c3,hd,hcc⟩,hg⟩
    have T7:=ae (T6.out.step hg hd);clear hd hg
    have HCC:=ae hcc
    clear hcc
    obtain⟨z0,z1,z2,z3,z4,y0,y1,y2,y3,y4⟩:=T7.out.tb.five
    go_wp2_with fail
    go_meet
    refine⟨bG q,p1+1+q.length,c3,rfl,T7.out.set 3 (by simp) (.string (bG q)),EQ,(by show _≤_;omega),?_⟩
    have h1:=HCC.out;have h2:=Q0.out
    show _↔_
    rw[et];simp[h1,h2]
 case rest=>
 obtain⟨Q,p3,c3,rfl,T7,EQ,P3,C3⟩:=hcut
 clear T6 HB
 obtain⟨p4,hp4⟩:∃ p4,p3+aA aS ((bl s).drop p3)=p4:=⟨_,rfl⟩
 have SK4:Hid (aK ((bl s).drop p3)=(bl s).drop p4):=by show _=_;rw[bQ,hp4]
 have P4:Hid (p1≤p4):=by have:=P3.out;show _≤_;omega
 have hB4:=aG a s p3 (n+1) c3 wc hs T7.out.dr
 rw[hp4] at hB4
 clear hp4
 obtain⟨b,hb⟩:∃ b,ay 40 ((bl s).drop p4)=b:=⟨_,rfl⟩
 have HB:=ae hb
 clear hb
 go_wp2_with fail
 refine hB4.mono ?_;rintro e w7 ⟨rfl,hd,hg⟩
 have T8:=ae (T7.out.step hg hd);clear hd hg hB4 T7
 go_wp2_with fail
 refine(oP 40 a s p4 (n+1) c3 _ hs T8.out.dr b HB).mono ?_;rintro e w8 ⟨rfl,hd,hg⟩
 have T9:=ae (T8.out.step hg hd);clear hd hg T8
 go_upto_if 56 with(fail)
 go_cut [3] (fun v wx=>∃ (op:Nat) (V:BA) (p5:Nat) (c5:Int),v=.bool true∧Hid (pY w wx a s p5 (n+1) c5 [.string (bG nm),.int .i64 op,.string V,.string Q,.slice none 0 0])∧Hid (jn ((bl s).drop p4)=some (op,bl V,(bl s).drop p5))∧Hid (p4≤p5)∧Hid (c5=0↔c3=0∧(op=0∨cJ 1 V=0)))
 case first=>
  cases b with
  | false=>
   have ER:Hid (jn ((bl s).drop p4)=some (0,bl ⟨#[]⟩,(bl s).drop p4)):=GY HB.out
   go_wp2_with fail
   go_meet
   exact⟨0,⟨#[]⟩,p4,c3,rfl,T9.out,ER,lr,by simp[Hid]⟩
  | true=>
   have ER:Hid (jn ((bl s).drop p4)=tO ((bl s).drop (p4+1))):=by show _=_;rw[DV HB.out,List.drop_drop]
   go_wp2_with fail
   refine(tV a s (p4+1) (n+1) c3 _ hs (HG.out.kept T9.out.gr) T9.out.dr).mono ?_;rintro e w9 ⟨hg,hpost⟩
   cases hr:tO ((bl s).drop (p4+1)) with
   | none=>
    rw[hr] at hpost
    obtain⟨rfl,p',c',hd⟩:=hpost
    have T10:=ae (T9.out.step hg hd);clear hd hg
    have EN:Hid (RR=none):=by show _=_;rw[←HR.out];exact Lr HT0.out EQ.out (by rw[SK4.out,ER.out,hr])
    clear hr
    obtain⟨z0,z1,z2,z3,z4,y0,y1,y2,y3,y4⟩:=T10.out.tb.five
    go_wp2_with fail
    refine bodyPost_ret (v:=.tuple #[.agg #[.string (bG nm),.int .i64 0,.string ⟨#[]⟩,.string Q,.slice none 0 0],.bool false]) (by simp(maxDischargeDepth:=6) [results,Tryz.results234,go_sem,z0,z1,z2,z3,z4]) rfl ?_
    have TZ:=pY.same ((T10.out.set 1 (by simp) (.int .i64 0)).set 2 (by simp) (.string ⟨#[]⟩))
    exact iR.no (T:=⟨bG nm,0,⟨#[]⟩,Q,none,0,[]⟩) EN.out TZ.gr TZ.dr rfl
   | some x=>
    obtain⟨op,v,r2⟩:=x
    rw[hr] at hpost
    obtain⟨rfl,p5,c5,hp5,hd,hdr,hcc⟩:=hpost
    have T10:=ae (T9.out.step hg hd);clear hd hg
    have ER2:Hid (jn ((bl s).drop p4)=some (op,bl (bG v),(bl s).drop p5)):=by show _=_;rw[ER.out,hr,et,hdr]
    have op0:Hid (op≠0):=G0 hr
    have HCC:=ae hcc
    have P5:Hid (p4≤p5):=by show _≤_;omega
    clear hr hdr hcc hp5
    obtain⟨z0,z1,z2,z3,z4,y0,y1,y2,y3,y4⟩:=T10.out.tb.five
    go_wp2_with fail
    go_meet
    refine⟨op,bG v,p5,c5,rfl,(T10.out.set 1 (by simp) (.int .i64 op)).set 2 (by simp) (.string (bG v)),ER2,P5,?_⟩
    have h1:=HCC.out;have h2:=op0.out
    show _↔_
    simp[h1,h2]
 case rest=>
 obtain⟨op,V,p5,c5,rfl,T10,ER,P5,C5⟩:=hcut
 clear T9 HB
 obtain⟨b,hb⟩:∃ b,ay 91 ((bl s).drop p5)=b:=⟨_,rfl⟩
 have HB:=ae hb
 clear hb
 go_wp2_with fail
 refine(oP 91 a s p5 (n+1) c5 _ hs T10.out.dr b HB).mono ?_;rintro e w10 ⟨rfl,hd,hg⟩
 have T11:=ae (T10.out.step hg hd);clear hd hg T10
 go_upto_if 71 with(fail)
 go_cut [3] (fun v wx=>∃ (A:OA) (xs:List BA) (cc p6:Nat) (c6:Int),v=.bool true∧Hid (pY w wx a s p6 (n+1) c6 [.string (bG nm),.int .i64 op,.string V,.string Q,.slice A xs.length cc])∧Hid (wx.ownsRow (w.heap.size+1) 9 1 (.slice A xs.length cc) xs.length (az xs))∧Hid (ib ((bl s).drop p5)=some (xs.map bl,(bl s).drop p6))∧Hid (p5≤p6)∧Hid (c6=0↔c5=0∧((xs.map bl).all fun x=>cQ (bW x))=true))
 case first=>
  cases b with
  | false=>
   have EA:Hid (ib ((bl s).drop p5)=some (([]:List BA).map bl,(bl s).drop p5)):=DW HB.out
   go_wp2_with fail
   go_meet
   exact⟨none,[],0,p5,c5,rfl,T11.out,World.ownsRow_nil _ _ _ _,EA,lr,by simp[Hid]⟩
  | true=>
   have EA:Hid (ib ((bl s).drop p5)=eA (((bl s).drop p5).length+1) (aK ((bl s).drop (p5+1)))):=by show _=_;rw[AE HB.out,List.drop_drop]
   have HF:Hid (s.size-(p5+1)<((bl s).drop p5).length+1):=by show _<_;rw[List.length_drop,ah];omega
   have hz10:w.heap.size+1≤w10.heap.size:=T11.out.tb.sz
   go_wp2_with fail
   refine(AD _ a s (p5+1) (n+1) c5 _ hs HF.out T11.out.dr).mono ?_;rintro e w11 hpost
   cases hr:eA (((bl s).drop p5).length+1) (aK ((bl s).drop (p5+1))) with
   | none=>
    rw[hr] at hpost
    obtain⟨hg,rfl,p',c',hd⟩:=hpost
    have T12:=ae (T11.out.step hg hd);clear hd hg
    have EN:Hid (RR=none):=by show _=_;rw[←HR.out];exact Ls HT0.out EQ.out (by rw[SK4.out];exact ER.out) (by rw[EA.out,hr])
    clear hr
    obtain⟨z0,z1,z2,z3,z4,y0,y1,y2,y3,y4⟩:=T12.out.tb.five
    go_wp2_with fail
    refine bodyPost_ret (v:=.tuple #[.agg #[.string (bG nm),.int .i64 op,.string V,.string Q,.slice none 0 0],.bool false]) (by simp(maxDischargeDepth:=6) [results,Tryz.results234,go_sem,z0,z1,z2,z3,z4]) rfl ?_
    have TZ:=pY.same (T12.out.set 4 (by simp) (.slice none 0 0))
    exact iR.no (T:=⟨bG nm,op,V,Q,none,0,[]⟩) EN.out TZ.gr TZ.dr rfl
   | some x=>
    obtain⟨L,r3⟩:=x
    rw[hr] at hpost
    obtain⟨A,m,cc,xs,p6,c6,rfl,hS,rfl,hp6,hdr,hcc⟩:=hpost
    obtain rfl:=hS.len
    have T12:=ae (T11.out.step hS.gr hS.dr)
    have R12:=ae (aN hS.row hz10)
    have EA2:Hid (ib ((bl s).drop p5)=some (xs.map bl,(bl s).drop p6)):=by show _=_;rw[EA.out,hr,hdr]
    have HCC:=ae hcc
    have P6:Hid (p5≤p6):=by show _≤_;omega
    clear hr hdr hcc hp6 hS
    obtain⟨z0,z1,z2,z3,z4,y0,y1,y2,y3,y4⟩:=T12.out.tb.five
    go_wp2_with fail
    go_meet
    exact⟨A,xs,cc,p6,c6,rfl,T12.out.set 4 (by simp) (.slice A xs.length cc),fV R12.out (Nat.lt_succ_self _),EA2,P6,HCC.out⟩
 case rest=>
 obtain⟨A,xs,cc,p6,c6,rfl,T12,R12,EA,P6,C6⟩:=hcut
 clear T11 HB
 have EN:Hid (RR=some (⟨nm,bl Q,op,bl V,xs.map bl⟩,(bl s).drop p6)):=by show _=_;rw[←HR.out];exact Lt HT0.out EQ.out (by rw[SK4.out];exact ER.out) EA.out
 have CF:Hid (c6=0↔c=0∧dn.right ⟨nm,bl Q,op,bl V,xs.map bl⟩=true∧n+1≤64):=by
  have h1:=C1.out;have h2:=C2.out;have h3:=C3.out;have h5:=C5.out;have h6:=C6.out
  show _↔_
  rw[GZ,h6,h5,h3,h2,h1]
  simp only[mo]
  constructor
  ·rintro⟨⟨⟨⟨⟨a1,a2⟩,a3⟩,a4⟩,a5⟩,a6⟩;exact⟨a1,⟨a3,a4,a6,a5⟩,a2⟩
  ·rintro⟨a1,⟨a3,a4,a6,a5⟩,a2⟩;exact⟨⟨⟨⟨⟨a1,a2⟩,a3⟩,a4⟩,a5⟩,a6⟩
 have PF:Hid (p<p6):=by have h1:=PP.out;have h2:=P4.out;have h3:=P5.out;have h4:=P6.out;show _<_;omega
 clear C1 C2 C3 C5 C6
 obtain⟨z0,z1,z2,z3,z4,y0,y1,y2,y3,y4⟩:=T12.out.tb.five
 go_wp2_with fail
 refine bodyPost_ret (v:=.tuple #[.agg #[.string (bG nm),.int .i64 op,.string V,.string Q,.slice A xs.length cc],.bool true]) (by simp(maxDischargeDepth:=6) [results,Tryz.results234,go_sem,z0,z1,z2,z3,z4]) rfl ?_
 have TZ:=pY.same T12.out
 have RZ:=fV (j:=4) (v:=.slice A xs.length cc) (fV (j:=3) (v:=.string Q) (fV (j:=2) (v:=.string V) (fV (j:=1) (v:=.int .i64 op) (fV (j:=0) (v:=.string (bG nm)) R12.out (Nat.lt_succ_self _)) (Nat.lt_succ_self _)) (Nat.lt_succ_self _)) (Nat.lt_succ_self _)) (Nat.lt_succ_self _)
 rw[EN.out]
 refine⟨TZ.gr,⟨bG nm,op,V,Q,A,cc,xs⟩,p6,c6,rfl,by simp only[cy.pl,et],aN RZ (Nat.le_succ _),TZ.dr,PF.out,rfl,CF.out⟩
end
end Go.Proofs.YtlglfpbhapmhiaaGreatDoor
