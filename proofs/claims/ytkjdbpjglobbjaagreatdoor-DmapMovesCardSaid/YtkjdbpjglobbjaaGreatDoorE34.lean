/- A part of the proof of a law on dependencies in three formats. No condition. -/
import Derived.Test.YtkjdbpjglobbjaaGreatDoorE22
import Derived.Test.YtkjdbpjglobbjaaGreatDoorE24
set_option maxRecDepth 100000
set_option maxHeartbeats 20000000
set_option linter.unusedVariables false
set_option linter.unusedSimpArgs false
namespace Go.Proofs.YtkjdbpjglobbjaaGreatDoor
section
open Go.RowKit Go.Deep
structure TB (w:World) (b:Nat) (v0 v1 v2 v3 v4:Value):Prop where
 c0:w.cell? ⟨b,0,none⟩=some v0
 c1:w.cell? ⟨b,1,none⟩=some v1
 c2:w.cell? ⟨b,2,none⟩=some v2
 c3:w.cell? ⟨b,3,none⟩=some v3
 c4:w.cell? ⟨b,4,none⟩=some v4
 f0:w.frozen? ⟨b,0,none⟩=false
 f1:w.frozen? ⟨b,1,none⟩=false
 f2:w.frozen? ⟨b,2,none⟩=false
 f3:w.frozen? ⟨b,3,none⟩=false
 f4:w.frozen? ⟨b,4,none⟩=false
theorem aF.five {w:World}{b:Nat}{v0 v1 v2 v3 v4:Value}(h:aF w b [v0,v1,v2,v3,v4]):TB w b v0 v1 v2 v3 v4:=
 ⟨h.cell 0 _ rfl,h.cell 1 _ rfl,h.cell 2 _ rfl,h.cell 3 _ rfl,h.cell 4 _ rfl,h.free 0 (by simp),h.free 1 (by simp),h.free 2 (by simp),h.free 3 (by simp),h.free 4 (by simp)⟩
theorem Pe {l v r:LU}{op:Nat}(h:wv l=some (op,v,r)):op≠0:=by
 unfold wv cW at h
 split at h
 ·cases h
 ·rename_i h0
  split at h
  ·cases h
  ·unfold li at h
   split at h
   ·injection h with h;injection h with h;subst h;exact h0
   ·cases h
theorem kL.no {r:Option (cL×LU)}{a:Nat}{s:BA}{p n p' n':Nat}{c c':Int}{w w':World}{T:cA}{e:Ending}(hr:r=none)(hg:w.grownBy w' (some a))(h:DR w' a s p' n' c')(he:e=.returned (.tuple #[T.val,.bool false])):kL r a s p n c w e w':=by
 subst hr;exact⟨hg,T,p',n',c',he,h⟩
theorem Mm (a:Nat)(s:BA)(p n:Nat)(c:Int)(w:World)(hs:s.size≤4294967280)(hG:sY a w)(h:DR w a s p n c):
  Calls Tryz.prog 169 #[.pointer (some ⟨a,0,none⟩)] w (kL (gK ((bl s).drop p)) a s p n c w):=by
 have HG:=ae hG
 obtain⟨f,y,k⟩:=(h.alloc (.cells #[.string ⟨#[]⟩,.int .i64 0,.string ⟨#[]⟩,.string ⟨#[]⟩,.slice none 0 0] 81)).cells
 have c1:=k.c1
 have T0:Hid (uX w (w.alloc (.cells #[.string ⟨#[]⟩,.int .i64 0,.string ⟨#[]⟩,.string ⟨#[]⟩,.slice none 0 0] 81)) a s p n c [.string ⟨#[]⟩,.int .i64 0,.string ⟨#[]⟩,.string ⟨#[]⟩,.slice none 0 0]):=uX.start h _ _
 have hnp:=h.nle
 have hps:=h.le
 clear hG h k
 generalize hRR:gK ((bl s).drop p)=RR
 cases ht:mW px ((bl s).drop p) with
 | none=>
  have EN:Hid (RR=none):=by show _=_;rw[←hRR];exact TI ht
  have HT:=ae ht
  clear ht hRR
  go_enter Tryz.func169,Tryz.ntmps169
  go_wp2_with fail
  refine(dQ Fp a s p n c _ hs T0.out.dr HT).mono ?_;rintro e w1 ⟨rfl,hd,hg⟩
  have T1:=ae (T0.out.step hg hd);clear hd hg c1 T0
  obtain⟨z0,z1,z2,z3,z4,y0,y1,y2,y3,y4⟩:=T1.out.tb.five
  go_wp2_with fail
  refine bodyPost_ret (v:=.tuple #[.agg #[.string ⟨#[]⟩,.int .i64 0,.string ⟨#[]⟩,.string ⟨#[]⟩,.slice none 0 0],.bool false]) (by simp(maxDischargeDepth:=6) [results,Tryz.results169,go_sem,z0,z1,z2,z3,z4]) rfl ?_
  have TZ:=uX.same (T1.out.set 0 (by simp) (.string ⟨#[]⟩))
  exact kL.no (T:=⟨⟨#[]⟩,0,⟨#[]⟩,⟨#[]⟩,none,0,[]⟩) EN.out TZ.gr TZ.dr rfl
 | some x=>
 obtain⟨nm,r⟩:=x
 have HT0:=ae ht
 obtain⟨t1,t2,t3,t4⟩:=fo hps ht
 obtain⟨p1,hp1⟩:∃ p1,p+nm.length=p1:=⟨_,rfl⟩
 have hU:=dn Fp nm r a s p n c _ hs T0.out.dr HT0
 rw[hp1] at hU t2 t4
 have PP:Hid (p<p1):=by show _<_;omega
 have DR1:Hid ((bl s).drop p1=r):=t2
 have hn1:n<p1:=by omega
 have hnz:(bz nm).size≤4294967280:=by rw[bQ];omega
 have HR:=ae hRR
 clear ht t1 t2 t3 hp1 hRR
 go_enter Tryz.func169,Tryz.ntmps169
 go_wp2_with fail
 refine hU.mono ?_;rintro e w1 ⟨rfl,hd,hg⟩
 have T1:=ae (T0.out.step hg hd);clear hd hg c1 T0 hU
 obtain⟨z0,z1,z2,z3,z4,y0,y1,y2,y3,y4⟩:=T1.out.tb.five
 have T2:Hid (uX w (w1.setCell ⟨w.heap.size,0,none⟩ (.string (bz nm))) a s p1 n c [.string (bz nm),.int .i64 0,.string ⟨#[]⟩,.string ⟨#[]⟩,.slice none 0 0]):=T1.out.set 0 (by simp) (.string (bz nm))
 obtain⟨f2,y2',k2⟩:=T2.out.dr.cells
 have c2:=k2.c2
 have fc2:=k2.f2
 clear k2 z1 z2 z3 z4 y1 y2 y3 y4
 have T3:Hid (uX w ((w1.setCell ⟨w.heap.size,0,none⟩ (.string (bz nm))).setCell ⟨a,2,none⟩ (.int .i64 ((n:Int)+1))) a s p1 (n+1) c [.string (bz nm),.int .i64 0,.string ⟨#[]⟩,.string ⟨#[]⟩,.slice none 0 0]):=T2.out.step (bN _) (T2.out.dr.count hn1)
 obtain⟨f3,y3',k3⟩:=T3.out.dr.cells
 have d2:=k3.c2
 clear k3
 go_upto_if 30 with(fail)
 clear z0 y0 c2 fc2 d2 T1 T2
 go_cut [] (fun wx=>∃ c1:Int,Hid (uX w wx a s p1 (n+1) c1 [.string (bz nm),.int .i64 0,.string ⟨#[]⟩,.string ⟨#[]⟩,.slice none 0 0])∧Hid (c1=0↔c=0∧n+1≤64))
 case first=>
  by_cases h64:64<n+1
  ·have e64:decide ((64:Int)<(n:Int)+1)=true:=dT (by omega)
   have NC:Hid (lj c 4=0↔c=0∧n+1≤64):=by show _↔_;rw[gj];constructor<;>intro h<;>omega
   go_wp2_with fail
   refine(iz _ 4 a s p1 (n+1) c _ T3.out.dr).mono ?_;rintro e w3 ⟨rfl,hd,hg⟩
   have T4:=ae (T3.out.step hg hd);clear hd hg
   go_wp2_with fail
   go_meet
   exact⟨_,T4,NC⟩
  ·have e64:decide ((64:Int)<(n:Int)+1)=false:=dF (by omega)
   have NC:Hid (c=0↔c=0∧n+1≤64):=by show _↔_;constructor<;>intro h<;>omega
   go_wp2_with fail
   go_meet
   exact⟨_,T3,NC⟩
 case rest=>
 obtain⟨c1,T4,C1⟩:=hcut
 clear T3
 have z0:=T4.out.tb.five.c0
 have hN:=jh (bz nm) wc (by omega)
 rw[cH] at hN
 obtain⟨bn,hbn⟩:∃ bn,bo nm=bn:=⟨_,rfl⟩
 rw[hbn] at hN
 have HBN:=ae hbn
 clear hbn
 go_wp2_with fail
 refine hN.mono ?_;rintro e w' ⟨rfl,rfl⟩
 clear hN
 go_upto_if 38 with(fail)
 clear z0
 go_cut [] (fun wx=>∃ c2:Int,Hid (uX w wx a s p1 (n+1) c2 [.string (bz nm),.int .i64 0,.string ⟨#[]⟩,.string ⟨#[]⟩,.slice none 0 0])∧Hid (c2=0↔c1=0∧bo nm=true))
 case first=>
  cases bn with
  | true=>
   go_wp2_with fail
   go_meet
   exact⟨c1,T4,by simp[Hid,HBN.out]⟩
  | false=>
   have NC:Hid (lj c1 10=0↔c1=0∧bo nm=true):=by show _↔_;rw[gj,HBN.out];simp
   go_wp2_with fail
   refine(iz _ 10 a s p1 (n+1) c1 _ T4.out.dr).mono ?_;rintro e w3 ⟨rfl,hd,hg⟩
   have T5:=ae (T4.out.step hg hd);clear hd hg
   go_wp2_with fail
   go_meet
   exact⟨_,T5,NC⟩
 case rest=>
 obtain⟨c2,T5,C2⟩:=hcut
 clear T4 HBN
 obtain⟨b,hb⟩:∃ b,aE 58 ((bl s).drop p1)=b:=⟨_,rfl⟩
 have HB:=ae hb
 clear hb
 go_wp2_with fail
 refine(tu 58 a s p1 (n+1) c2 _ hs T5.out.dr b HB).mono ?_;rintro e w5 ⟨rfl,hd,hg⟩
 have T6:=ae (T5.out.step hg hd);clear hd hg T5
 go_upto_if 43 with(fail)
 go_cut [3] (fun v wx=>∃ (Q:BA) (p3:Nat) (c3:Int),v=.bool true∧Hid (uX w wx a s p3 (n+1) c3 [.string (bz nm),.int .i64 0,.string ⟨#[]⟩,.string Q,.slice none 0 0])∧Hid (jD r=some (bl Q,(bl s).drop p3))∧Hid (p1≤p3)∧Hid (c3=0↔c2=0∧(bl Q=[]∨eD (bl Q)=true)))
 case first=>
  cases b with
  | false=>
   have EQ:Hid (jD r=some (bl ⟨#[]⟩,(bl s).drop p1)):=by show _=_;rw[DR1.out];exact Pa (by rw[←DR1.out];exact HB.out)
   go_wp2_with fail
   go_meet
   exact⟨⟨#[]⟩,p1,c2,rfl,T6.out,EQ,lr,by simp[Hid];intro _;left;rfl⟩
  | true=>
   cases ht:mW jT ((bl s).drop (p1+1)) with
   | none=>
    have HT:=ae ht
    have EN:Hid (RR=none):=by show _=_;rw[←HR.out];exact TJ HT0.out (by rw[Bj (by rw[←DR1.out];exact HB.out),←DR1.out,List.drop_drop];exact ht)
    clear ht
    go_wp2_with fail
    refine(jL a s (p1+1) (n+1) c2 _ hs T6.out.dr HT).mono ?_;rintro e w6 ⟨rfl,hd,hg⟩
    have T7:=ae (T6.out.step hg hd);clear hd hg
    obtain⟨z0,z1,z2,z3,z4,y0,y1,y2,y3,y4⟩:=T7.out.tb.five
    go_wp2_with fail
    refine bodyPost_ret (v:=.tuple #[.agg #[.string (bz nm),.int .i64 0,.string ⟨#[]⟩,.string ⟨#[]⟩,.slice none 0 0],.bool false]) (by simp(maxDischargeDepth:=6) [results,Tryz.results169,go_sem,z0,z1,z2,z3,z4]) rfl ?_
    have TZ:=uX.same (T7.out.set 3 (by simp) (.string ⟨#[]⟩))
    exact kL.no (T:=⟨bz nm,0,⟨#[]⟩,⟨#[]⟩,none,0,[]⟩) EN.out TZ.gr TZ.dr rfl
   | some x=>
    obtain⟨q,r1⟩:=x
    have HT:=ae ht
    have hp2:=T6.out.dr.le
    obtain⟨t1,t2,t3,t4⟩:=fo (p:=p1+1) hp2 ht
    have EQ:Hid (jD r=some (bl (bz q),(bl s).drop (p1+1+q.length))):=by show _=_;rw[Bj (by rw[←DR1.out];exact HB.out),←DR1.out,List.drop_drop,cH,t2];exact ht
    have Q0:Hid (q≠[]):=by intro e;rw[e] at t3;simp at t3
    clear ht t1 t2 t3 hp2
    go_wp2_with fail
    refine(jM q r1 a s (p1+1) (n+1) c2 _ hs T6.out.dr HT).mono ?_;rintro e w6 ⟨rfl,⟨c3,hd,hcc⟩,hg⟩
    have T7:=ae (T6.out.step hg hd);clear hd hg
    have HCC:=ae hcc
    clear hcc
    obtain⟨z0,z1,z2,z3,z4,y0,y1,y2,y3,y4⟩:=T7.out.tb.five
    go_wp2_with fail
    go_meet
    refine⟨bz q,p1+1+q.length,c3,rfl,T7.out.set 3 (by simp) (.string (bz q)),EQ,(by show _≤_;omega),?_⟩
    have h1:=HCC.out;have h2:=Q0.out
    show _↔_
    rw[cH];simp[h1,h2]
 case rest=>
 obtain⟨Q,p3,c3,rfl,T7,EQ,P3,C3⟩:=hcut
 clear T6 HB
 obtain⟨p4,hp4⟩:∃ p4,p3+au bf ((bl s).drop p3)=p4:=⟨_,rfl⟩
 have SK4:Hid (aJ ((bl s).drop p3)=(bl s).drop p4):=by show _=_;rw[cR,hp4]
 have P4:Hid (p1≤p4):=by have:=P3.out;show _≤_;omega
 have hB4:=aQ a s p3 (n+1) c3 wc hs T7.out.dr
 rw[hp4] at hB4
 clear hp4
 obtain⟨b,hb⟩:∃ b,aE 40 ((bl s).drop p4)=b:=⟨_,rfl⟩
 have HB:=ae hb
 clear hb
 go_wp2_with fail
 refine hB4.mono ?_;rintro e w7 ⟨rfl,hd,hg⟩
 have T8:=ae (T7.out.step hg hd);clear hd hg hB4 T7
 go_wp2_with fail
 refine(tu 40 a s p4 (n+1) c3 _ hs T8.out.dr b HB).mono ?_;rintro e w8 ⟨rfl,hd,hg⟩
 have T9:=ae (T8.out.step hg hd);clear hd hg T8
 go_upto_if 56 with(fail)
 go_cut [3] (fun v wx=>∃ (op:Nat) (V:BA) (p5:Nat) (c5:Int),v=.bool true∧Hid (uX w wx a s p5 (n+1) c5 [.string (bz nm),.int .i64 op,.string V,.string Q,.slice none 0 0])∧Hid (jd ((bl s).drop p4)=some (op,bl V,(bl s).drop p5))∧Hid (p4≤p5)∧Hid (c5=0↔c3=0∧(op=0∨aV 1 V=0)))
 case first=>
  cases b with
  | false=>
   have ER:Hid (jd ((bl s).drop p4)=some (0,bl ⟨#[]⟩,(bl s).drop p4)):=Pb HB.out
   go_wp2_with fail
   go_meet
   exact⟨0,⟨#[]⟩,p4,c3,rfl,T9.out,ER,lr,by simp[Hid]⟩
  | true=>
   have ER:Hid (jd ((bl s).drop p4)=wv ((bl s).drop (p4+1))):=by show _=_;rw[Mk HB.out,List.drop_drop]
   go_wp2_with fail
   refine(zG a s (p4+1) (n+1) c3 _ hs (HG.out.kept T9.out.gr) T9.out.dr).mono ?_;rintro e w9 ⟨hg,hpost⟩
   cases hr:wv ((bl s).drop (p4+1)) with
   | none=>
    rw[hr] at hpost
    obtain⟨rfl,p',c',hd⟩:=hpost
    have T10:=ae (T9.out.step hg hd);clear hd hg
    have EN:Hid (RR=none):=by show _=_;rw[←HR.out];exact TL HT0.out EQ.out (by rw[SK4.out,ER.out,hr])
    clear hr
    obtain⟨z0,z1,z2,z3,z4,y0,y1,y2,y3,y4⟩:=T10.out.tb.five
    go_wp2_with fail
    refine bodyPost_ret (v:=.tuple #[.agg #[.string (bz nm),.int .i64 0,.string ⟨#[]⟩,.string Q,.slice none 0 0],.bool false]) (by simp(maxDischargeDepth:=6) [results,Tryz.results169,go_sem,z0,z1,z2,z3,z4]) rfl ?_
    have TZ:=uX.same ((T10.out.set 1 (by simp) (.int .i64 0)).set 2 (by simp) (.string ⟨#[]⟩))
    exact kL.no (T:=⟨bz nm,0,⟨#[]⟩,Q,none,0,[]⟩) EN.out TZ.gr TZ.dr rfl
   | some x=>
    obtain⟨op,v,r2⟩:=x
    rw[hr] at hpost
    obtain⟨rfl,p5,c5,hp5,hd,hdr,hcc⟩:=hpost
    have T10:=ae (T9.out.step hg hd);clear hd hg
    have ER2:Hid (jd ((bl s).drop p4)=some (op,bl (bz v),(bl s).drop p5)):=by show _=_;rw[ER.out,hr,cH,hdr]
    have op0:Hid (op≠0):=Pe hr
    have HCC:=ae hcc
    have P5:Hid (p4≤p5):=by show _≤_;omega
    clear hr hdr hcc hp5
    obtain⟨z0,z1,z2,z3,z4,y0,y1,y2,y3,y4⟩:=T10.out.tb.five
    go_wp2_with fail
    go_meet
    refine⟨op,bz v,p5,c5,rfl,(T10.out.set 1 (by simp) (.int .i64 op)).set 2 (by simp) (.string (bz v)),ER2,P5,?_⟩
    have h1:=HCC.out;have h2:=op0.out
    show _↔_
    simp[h1,h2]
 case rest=>
 obtain⟨op,V,p5,c5,rfl,T10,ER,P5,C5⟩:=hcut
 clear T9 HB
 obtain⟨b,hb⟩:∃ b,aE 91 ((bl s).drop p5)=b:=⟨_,rfl⟩
 have HB:=ae hb
 clear hb
 go_wp2_with fail
 refine(tu 91 a s p5 (n+1) c5 _ hs T10.out.dr b HB).mono ?_;rintro e w10 ⟨rfl,hd,hg⟩
 have T11:=ae (T10.out.step hg hd);clear hd hg T10
 go_upto_if 71 with(fail)
 go_cut [3] (fun v wx=>∃ (A:Option Addr) (xs:List BA) (cc p6:Nat) (c6:Int),v=.bool true∧Hid (uX w wx a s p6 (n+1) c6 [.string (bz nm),.int .i64 op,.string V,.string Q,.slice A xs.length cc])∧Hid (wx.ownsRow (w.heap.size+1) 9 1 (.slice A xs.length cc) xs.length (strCells xs))∧Hid (gP ((bl s).drop p5)=some (xs.map bl,(bl s).drop p6))∧Hid (p5≤p6)∧Hid (c6=0↔c5=0∧((xs.map bl).all fun x=>eD (cS x))=true))
 case first=>
  cases b with
  | false=>
   have EA:Hid (gP ((bl s).drop p5)=some (([]:List BA).map bl,(bl s).drop p5)):=Ml HB.out
   go_wp2_with fail
   go_meet
   exact⟨none,[],0,p5,c5,rfl,T11.out,World.ownsRow_nil _ _ _ _,EA,lr,by simp[Hid]⟩
  | true=>
   have EA:Hid (gP ((bl s).drop p5)=gh (((bl s).drop p5).length+1) (aJ ((bl s).drop (p5+1)))):=by show _=_;rw[IU HB.out,List.drop_drop]
   have HF:Hid (s.size-(p5+1)<((bl s).drop p5).length+1):=by show _<_;rw[List.length_drop,af];omega
   have hz10:w.heap.size+1≤w10.heap.size:=T11.out.tb.sz
   go_wp2_with fail
   refine(ID _ a s (p5+1) (n+1) c5 _ hs HF.out T11.out.dr).mono ?_;rintro e w11 hpost
   cases hr:gh (((bl s).drop p5).length+1) (aJ ((bl s).drop (p5+1))) with
   | none=>
    rw[hr] at hpost
    obtain⟨hg,rfl,p',c',hd⟩:=hpost
    have T12:=ae (T11.out.step hg hd);clear hd hg
    have EN:Hid (RR=none):=by show _=_;rw[←HR.out];exact TM HT0.out EQ.out (by rw[SK4.out];exact ER.out) (by rw[EA.out,hr])
    clear hr
    obtain⟨z0,z1,z2,z3,z4,y0,y1,y2,y3,y4⟩:=T12.out.tb.five
    go_wp2_with fail
    refine bodyPost_ret (v:=.tuple #[.agg #[.string (bz nm),.int .i64 op,.string V,.string Q,.slice none 0 0],.bool false]) (by simp(maxDischargeDepth:=6) [results,Tryz.results169,go_sem,z0,z1,z2,z3,z4]) rfl ?_
    have TZ:=uX.same (T12.out.set 4 (by simp) (.slice none 0 0))
    exact kL.no (T:=⟨bz nm,op,V,Q,none,0,[]⟩) EN.out TZ.gr TZ.dr rfl
   | some x=>
    obtain⟨L,r3⟩:=x
    rw[hr] at hpost
    obtain⟨A,m,cc,xs,p6,c6,rfl,hS,rfl,hp6,hdr,hcc⟩:=hpost
    obtain rfl:=hS.len
    have T12:=ae (T11.out.step hS.gr hS.dr)
    have R12:=ae (cN hS.row hz10)
    have EA2:Hid (gP ((bl s).drop p5)=some (xs.map bl,(bl s).drop p6)):=by show _=_;rw[EA.out,hr,hdr]
    have HCC:=ae hcc
    have P6:Hid (p5≤p6):=by show _≤_;omega
    clear hr hdr hcc hp6 hS
    obtain⟨z0,z1,z2,z3,z4,y0,y1,y2,y3,y4⟩:=T12.out.tb.five
    go_wp2_with fail
    go_meet
    exact⟨A,xs,cc,p6,c6,rfl,T12.out.set 4 (by simp) (.slice A xs.length cc),iR R12.out (Nat.lt_succ_self _),EA2,P6,HCC.out⟩
 case rest=>
 obtain⟨A,xs,cc,p6,c6,rfl,T12,R12,EA,P6,C6⟩:=hcut
 clear T11 HB
 have EN:Hid (RR=some (⟨nm,bl Q,op,bl V,xs.map bl⟩,(bl s).drop p6)):=by show _=_;rw[←HR.out];exact TN HT0.out EQ.out (by rw[SK4.out];exact ER.out) EA.out
 have CF:Hid (c6=0↔c=0∧cL.right ⟨nm,bl Q,op,bl V,xs.map bl⟩=true∧n+1≤64):=by
  have h1:=C1.out;have h2:=C2.out;have h3:=C3.out;have h5:=C5.out;have h6:=C6.out
  show _↔_
  rw[Pd,h6,h5,h3,h2,h1]
  simp only[iP]
  constructor
  ·rintro⟨⟨⟨⟨⟨a1,a2⟩,a3⟩,a4⟩,a5⟩,a6⟩;exact⟨a1,⟨a3,a4,a6,a5⟩,a2⟩
  ·rintro⟨a1,⟨a3,a4,a6,a5⟩,a2⟩;exact⟨⟨⟨⟨⟨a1,a2⟩,a3⟩,a4⟩,a5⟩,a6⟩
 have PF:Hid (p<p6):=by have h1:=PP.out;have h2:=P4.out;have h3:=P5.out;have h4:=P6.out;show _<_;omega
 clear C1 C2 C3 C5 C6
 obtain⟨z0,z1,z2,z3,z4,y0,y1,y2,y3,y4⟩:=T12.out.tb.five
 go_wp2_with fail
 refine bodyPost_ret (v:=.tuple #[.agg #[.string (bz nm),.int .i64 op,.string V,.string Q,.slice A xs.length cc],.bool true]) (by simp(maxDischargeDepth:=6) [results,Tryz.results169,go_sem,z0,z1,z2,z3,z4]) rfl ?_
 have TZ:=uX.same T12.out
 have RZ:=iR (j:=4) (v:=.slice A xs.length cc) (iR (j:=3) (v:=.string Q) (iR (j:=2) (v:=.string V) (iR (j:=1) (v:=.int .i64 op) (iR (j:=0) (v:=.string (bz nm)) R12.out (Nat.lt_succ_self _)) (Nat.lt_succ_self _)) (Nat.lt_succ_self _)) (Nat.lt_succ_self _)) (Nat.lt_succ_self _)
 rw[EN.out]
 refine⟨TZ.gr,⟨bz nm,op,V,Q,A,cc,xs⟩,p6,c6,rfl,by simp only[cA.pl,cH],cN RZ (Nat.le_succ _),TZ.dr,PF.out,rfl,CF.out⟩
theorem Bk:(Tryz.prog.info? 81).map (fun i=>(i.zero,i.size,i.bytes))=some (some (.agg #[.string ⟨#[]⟩,.int .i64 0,.string ⟨#[]⟩,.string ⟨#[]⟩,.slice none 0 0]),5,80):=by kernel_rfl
theorem FN:(Tryz.prog.info? 79).map (fun i=>(i.zero,i.size,i.bytes))=some (some (.slice none 0 0),1,24):=by kernel_rfl
theorem qx (w:World)(t:TypeId)(a b c d e:Value):jQ (w.alloc (.cells #[a,b,c,d,e] t)) (w.heap.size+1) 5 (some ⟨w.heap.size,0,none⟩) 1 [a,b,c,d,e]:=by
 refine⟨rfl,fun _=>⟨_,rfl,by simp,fun j u hu=>?_⟩⟩
 match j,hu with
 | 0,hu=>simp at hu;subst hu;simp[Addr.add]
 | 1,hu=>simp at hu;subst hu;simp[Addr.add]
 | 2,hu=>simp at hu;subst hu;simp[Addr.add]
 | 3,hu=>simp at hu;subst hu;simp[Addr.add]
 | 4,hu=>simp at hu;subst hu;simp[Addr.add]
 | j+5,hu=>simp at hu
theorem da {w w2:World}{lo lo':Nat}{e1 e2:TypeId}{z1 z2 n1 n2:Nat}{v1 v2:Value}{x1 x2:List Value}(h1:w.ownsRow lo e1 z1 v1 n1 x1)(h2:w.ownsRow lo' e2 z2 v2 n2 x2)(hne:e1≠e2)(hg:w.grownBy w2 v2.ownBlock):w2.ownsRow lo e1 z1 v1 n1 x1:=
 h1.kept hg (gt h1 h2 hne)
structure NZ (w wr:World) (a:Nat) (s:BA) (k n:Nat) (c:Int) (ts:List cA) (A:Option Addr) (m cc:Nat):Prop where
 len:ts.length=m
 row:wr.ownsRow w.heap.size 81 5 (.slice A m cc) m (ts.flatMap cA.cells)
 archs:∀ t∈ts,t.own wr w.heap.size
 dr:DR wr a s k n c
 gr:w.grownBy wr (some a)
 lt:a<w.heap.size
theorem NZ.step {w wr w':World}{a:Nat}{s:BA}{k k' n n':Nat}{c c':Int}{ts:List cA}{A:Option Addr}{m cc:Nat}(h:NZ w wr a s k n c ts A m cc)(hg:wr.grownBy w' (some a))(hd:DR w' a s k' n' c'):NZ w w' a s k' n' c' ts A m cc:=
 ⟨h.len,dh h.row h.lt hg,fun t ht=>(h.archs t ht).kept h.lt hg,hd,ap h.gr hg,h.lt⟩
theorem NZ.alloc {w wr:World}{a:Nat}{s:BA}{k n:Nat}{c:Int}{ts:List cA}{A:Option Addr}{m cc:Nat}(h:NZ w wr a s k n c ts A m cc)(o:Obj):NZ w (wr.alloc o) a s k n c ts A m cc:=
 ⟨h.len,h.row.alloc o,fun t ht=>(h.archs t ht).below (bR.alloc lr o),h.dr.alloc o,vK h.gr o,h.lt⟩
theorem NZ.grow {w wr w2:World}{a:Nat}{s:BA}{k n:Nat}{c:Int}{ts:List cA}{A A1:Option Addr}{m cc c1:Nat}{o1 o2:Obj}{T:cA}(h:NZ w wr a s k n c ts A m cc)(hT:T.own wr w.heap.size)
  (hr:w2.ownsRow w.heap.size 81 5 (.slice A1 (m+1) c1) (m+1) (ts.flatMap cA.cells++T.cells))
  (hg:((wr.alloc o1).alloc o2).grownBy w2 (Value.slice A m cc).ownBlock):NZ w w2 a s k n c (ts++[T]) A1 (m+1) c1:=by
 have ho:=(h.alloc o1).alloc o2
 have hT':T.own ((wr.alloc o1).alloc o2) w.heap.size:=(hT.below (bR.alloc lr o1)).below (bR.alloc lr o2)
 refine⟨by simp[h.len],by rw[List.flatMap_append];simpa using hr,fun t ht=>?_,ho.dr.kept hg ?_,jl ho.gr hg (fun j hj=>(h.row.lt j hj).1),h.lt⟩
 ·rcases List.mem_append.1 ht with ht | ht
  ·exact da (ho.archs t ht) ho.row (by decide) hg
  ·obtain rfl:=List.mem_singleton.1 ht
   exact da hT' ho.row (by decide) hg
 ·intro e;have:=(h.row.lt a e.symm).1;have:=h.lt;omega
def jq (r:Option (List cL×LU))(a:Nat)(s:BA)(p n:Nat)(c:Int)(w:World)(e:Ending)(w':World):Prop:=
 w.grownBy w' (some a)∧match r with
  | none=>e=.returned (.tuple #[.slice none 0 0,.bool false])∧∃ (p' n':Nat) (c':Int),DR w' a s p' n' c'
  | some (g,r)=>∃ (G:aW) (p':Nat) (c':Int),e=.returned (.tuple #[.slice G.ga G.ts.length G.gc,.bool true])∧G.pl=g∧G.own w' w.heap.size∧DR w' a s p' (n+g.length) c'∧p<p'∧(bl s).drop p'=r∧(c'=0↔c=0∧g.all cL.right=true∧n+g.length≤64)
theorem jq.no {r:Option (List cL×LU)}{a:Nat}{s:BA}{p n p' n':Nat}{c c':Int}{w w':World}(hr:r=none)(hg:w.grownBy w' (some a))(h:DR w' a s p' n' c'):jq r a s p n c w (.returned (.tuple #[.slice none 0 0,.bool false])) w':=by
 subst hr;exact⟨hg,rfl,p',n',c',h⟩
theorem jq.yes {r:Option (List cL×LU)}{a:Nat}{s:BA}{p n p':Nat}{c c':Int}{w w':World}{ts:List cA}{A:Option Addr}{m cc:Nat}(hr:r=some (ts.map cA.pl,(bl s).drop p'))(h:NZ w w' a s p' (n+m) c' ts A m cc)(hp:p<p')(hc:c'=0↔c=0∧(ts.map cA.pl).all cL.right=true∧n+m≤64):jq r a s p n c w (.returned (.tuple #[.slice A m cc,.bool true])) w':=by
 subst hr
 obtain rfl:=h.len
 refine⟨h.gr,⟨A,cc,ts⟩,p',c',rfl,rfl,⟨h.row,h.archs⟩,?_,hp,rfl,?_⟩
 ·rw[List.length_map];exact h.dr
 ·rw[List.length_map];exact hc
theorem IV (F:Nat)(a:Nat)(s:BA)(p n:Nat)(c:Int)(w:World)(hs:s.size≤4294967280)(hF:s.size-p<F)(hG:sY a w)(h:DR w a s p n c)(hcn:c=0→n≤64):
  Calls Tryz.prog 125 #[.pointer (some ⟨a,0,none⟩)] w (jq (eS F ((bl s).drop p)) a s p n c w):=by
 obtain⟨i0,hi0,hz0,hz1,hz2⟩:=info_parts Bk
 have HG:=ae hG
 obtain⟨f0,hf0⟩:∃ f0,F=f0+1:=⟨F-1,by omega⟩
 have E0:Hid (eS F ((bl s).drop p)=ij (f0+1) [] ((bl s).drop p)):=by show _=_;rw[zD,hf0]
 have HF0:Hid (s.size-p≤f0):=by show _≤_;omega
 have HCN:=ae hcn
 generalize eS F ((bl s).drop p)=RR at E0
 have S1:Hid (NZ w w a s p n c [] none 0 0):=⟨rfl,World.ownsRow_nil _ _ _ _,by simp,h,World.grownBy.refl _ _,h.sz⟩
 have hps:=h.le
 clear hG hf0 hF hcn h
 go_enter Tryz.func125,Tryz.ntmps125
 go_wp2_with fail
 go_loopw [2,3,4] (fun s2 s3 l wr=>∃ (k m cc f:Nat) (c':Int) (ts:List cA) (A:Option Addr),s2=.slice none 0 0∧s3=.bool false∧l=.slice A m cc∧k≤s.size∧m≤k∧Hid (NZ w wr a s k (n+m) c' ts A m cc)∧Hid (p≤k)∧Hid (RR=ij (f+1) (ts.map cA.pl) ((bl s).drop k))∧Hid (s.size-k≤f)∧Hid (c'=0↔c=0∧(ts.map cA.pl).all cL.right=true∧n+m≤64)) (fun _ _ _ wr=>s.size-C9 a wr)
 case atStart=>exact⟨p,0,0,f0,c,[],none,rfl,rfl,rfl,hps,z0,S1,lr,E0,HF0,by have:=HCN.out;show _↔_;simpa using this⟩
 case round=>
  clear S1 E0 HF0 HCN
  obtain⟨k,m,cc,f,c',ts,A,rfl,rfl,rfl,hk,hmk,HS,HP,HE,HF,HC⟩:=hrel
  go_wp2_with fail
  refine(Mm a s k (n+m) c' wr hs (HG.out.kept HS.out.gr) HS.out.dr).mono ?_;rintro e w2 ⟨hg,hpost⟩
  cases ht:gK ((bl s).drop k) with
  | none=>
   rw[ht] at hpost
   obtain⟨T,p',n',d',rfl,hd⟩:=hpost
   have S2:=ae (HS.out.step hg hd);clear hd hg
   have EN:Hid (RR=none):=by show _=_;rw[HE.out];exact CZ ht
   clear ht
   unfold cA.val
   go_wp2_with fail
   go_ret2
   have:=S2.out.alloc (.cells #[.string T.nm,.int .i64 T.op,.string T.ver,.string T.qual,.slice T.aa T.archs.length T.ac] 81)
   exact jq.no EN.out this.gr this.dr
  | some x=>
   obtain⟨t,r⟩:=x
   rw[ht] at hpost
   obtain⟨T,p',d',rfl,hT,hTo,hd,hpp,hdr,hcc⟩:=hpost
   have S2:=ae (HS.out.step hg hd)
   have HTO:=ae (hTo.base (lo':=w.heap.size) HS.out.gr.size)
   have hps':=hd.le
   have C2:Hid (d'=0↔c=0∧((ts++[T]).map cA.pl).all cL.right=true∧n+(m+1)≤64):=by
    have h1:=HC.out
    show _↔_
    rw[hcc,h1,List.map_append,List.all_append]
    simp only[List.map_cons,List.map_nil,List.all_cons,List.all_nil,Bool.and_true,Bool.and_eq_true,hT]
    constructor
    ·rintro⟨⟨a1,a2,a3⟩,a4,a5⟩;exact⟨a1,⟨a2,a4⟩,by omega⟩
    ·rintro⟨a1,⟨a2,a4⟩,a5⟩;exact⟨⟨a1,a2,by omega⟩,a4,by omega⟩
   have HD:=ae hdr
   have HT:=ae hT
   have HTM:=ae ht
   have hmm:m≤4294967280:=by omega
   have HKK:Hid (k<p'):=hpp
   clear ht hT hTo hd hg hdr hcc hpp
   unfold cA.val
   go_wp2_with (at_builtin;refine ak _ rfl _ _ _ rfl w.heap.size 81 i0 _ 5 80 Tryz.underlying79 hi0 hz0 hz1 hz2 rfl (by omega) (.slice A m cc) m _ rfl ((S2.out.row.alloc _).alloc _) (w2.heap.size+1+1) (some ⟨w2.heap.size+1,0,none⟩) 1 1 T.cells rfl (by have:=qx (w2.alloc (.cells T.cells.toArray 81)) 81 (.string T.nm) (.int .i64 T.op) (.string T.ver) (.string T.qual) (.slice T.aa T.archs.length T.ac);simpa [cA.cells] using this) (by simp[Value.oneCell',cA.cells]) (by simp only[maxLen];omega) (by omega) (by simp;have:=S2.out.gr.size;omega) ?_;intro v1 w3 o1 g1 a1)
   obtain⟨A3,c3,rfl⟩:=aG o1
   have S3:=ae (S2.out.grow (T:=T) HTO.out o1 g1)
   clear o1 g1 a1
   cases hb:aE 124 ((bl s).drop p') with
   | false=>
    have HB:=ae hb
    have EN:Hid (RR=some ((ts++[T]).map cA.pl,(bl s).drop p')):=by
     show _=_;rw[HE.out,Fm HTM.out (by rw[←HD.out];exact hb),List.map_append,HD.out];simp[HT.out]
    have PF:Hid (p<p'):=by have h1:=HP.out;have h2:=HKK.out;show _<_;omega
    clear hb
    go_wp2_with fail
    refine(aM 124 a s p' _ d' w3 hs S3.out.dr HB).mono ?_;rintro e w4 ⟨rfl,hd,hg⟩
    have S4:=ae (S3.out.step hg hd);clear hd hg
    go_wp2_with fail
    go_ret2
    exact jq.yes EN.out S4.out PF.out C2.out
   | true=>
    have HB:=ae hb
    obtain⟨k2,hk2⟩:∃ k2,p'+1+au bf ((bl s).drop (p'+1))=k2:=⟨_,rfl⟩
    have EN:Hid (RR=ij (f-1+1) ((ts++[T]).map cA.pl) ((bl s).drop k2)):=by
     have hf:=HF.out;have h2:=HKK.out
     show _=_
     rw[HE.out,C0 HTM.out (by rw[←HD.out];exact hb),←HD.out,List.drop_drop,cR,hk2,List.map_append,show f-1+1=f by omega];simp[HT.out]
    have HB2:=ae (fun (W:World) (hD:DR W a s (p'+1) (n+(m+1)) d')=>aQ a s (p'+1) (n+(m+1)) d' W hs hD)
    rw[hk2] at HB2
    have HK2:Hid (k<k2):=by have:=HKK.out;show _<_;omega
    have HF2:Hid (s.size-k2≤f-1):=by have:=HF.out;have:=HK2.out;show _≤_;omega
    have HP2:Hid (p≤k2):=by have:=HP.out;have:=HK2.out;show _≤_;omega
    have hmk2:m+1≤k2:=by have:=HK2.out;omega
    clear hb hk2
    go_wp2_with fail
    refine(aZ 124 a s p' _ d' w3 hs S3.out.dr HB).mono ?_;rintro e w4 ⟨rfl,hd,hg⟩
    have S4:=ae (S3.out.step hg hd);clear hd hg
    go_wp2_with fail
    refine(HB2.out w4 S4.out.dr).mono ?_;rintro e w5 ⟨rfl,hd,hg⟩
    have S5:=ae (S4.out.step hg hd);clear hd hg
    have hk2s:=S5.out.dr.le
    go_wp2_with fail
    go_roundw
    case rel=>exact⟨k2,m+1,c3,f-1,d',ts++[T],A3,rfl,rfl,rfl,hk2s,hmk2,S5,HP2,EN,HF2,C2⟩
    case measure=>exact DR.dec S5.out.dr HS.out.dr HK2.out
structure Ds (w wr:World) (a:Nat) (s:BA) (k n:Nat) (c:Int) (gs:List aW) (A:Option Addr) (m cc:Nat):Prop where
 len:gs.length=m
 row:wr.ownsRow w.heap.size 79 1 (.slice A m cc) m (gs.map aW.sl)
 grp:∀ g∈gs,g.own wr w.heap.size
 dr:DR wr a s k n c
 gr:w.grownBy wr (some a)
 lt:a<w.heap.size
theorem Ds.step {w wr w':World}{a:Nat}{s:BA}{k k' n n':Nat}{c c':Int}{gs:List aW}{A:Option Addr}{m cc:Nat}(h:Ds w wr a s k n c gs A m cc)(hg:wr.grownBy w' (some a))(hd:DR w' a s k' n' c'):Ds w w' a s k' n' c' gs A m cc:=
 ⟨h.len,dh h.row h.lt hg,fun t ht=>(h.grp t ht).kept h.lt hg,hd,ap h.gr hg,h.lt⟩
theorem Ds.below {w wr w':World}{a:Nat}{s:BA}{k n:Nat}{c:Int}{gs:List aW}{A:Option Addr}{m cc:Nat}(h:Ds w wr a s k n c gs A m cc)(hb:Below wr.heap.size wr w'):Ds w w' a s k n c gs A m cc:=
 h.step (eK hb _) (h.dr.below hb)
theorem Ds.alloc {w wr:World}{a:Nat}{s:BA}{k n:Nat}{c:Int}{gs:List aW}{A:Option Addr}{m cc:Nat}(h:Ds w wr a s k n c gs A m cc)(o:Obj):Ds w (wr.alloc o) a s k n c gs A m cc:=h.below (bR.alloc lr o)
theorem Ds.drewN {w wr:World}{a:Nat}{s:BA}{k n:Nat}{c:Int}{gs:List aW}{A:Option Addr}{m cc:Nat}(h:Ds w wr a s k n c gs A m cc)(j:Nat):Ds w (wr.drewN j) a s k n c gs A m cc:=h.below ⟨rfl,rfl,rfl,lr,fun _ _=>rfl⟩
theorem aW.own.other {G:aW}{w w2:World}{lo lo':Nat}{z n:Nat}{v:Value}{xs:List Value}(h:G.own w lo)(h2:w.ownsRow lo' 79 z v n xs)(hg:w.grownBy w2 v.ownBlock):G.own w2 lo:=
 ⟨da h.row h2 (by decide) hg,fun t ht=>da (h.archs t ht) h2 (by decide) hg⟩
theorem Ds.grow {w wr w2:World}{a:Nat}{s:BA}{k n:Nat}{c:Int}{gs:List aW}{A A1:Option Addr}{m cc c1:Nat}{o:Obj}{G:aW}(h:Ds w wr a s k n c gs A m cc)(hG:G.own wr w.heap.size)
  (hr:w2.ownsRow w.heap.size 79 1 (.slice A1 (m+1) c1) (m+1) (gs.map aW.sl++[G.sl]))
  (hg:(wr.alloc o).grownBy w2 (Value.slice A m cc).ownBlock):Ds w w2 a s k n c (gs++[G]) A1 (m+1) c1:=by
 have ho:=h.alloc o
 have hG':G.own (wr.alloc o) w.heap.size:=hG.below (bR.alloc lr o)
 refine⟨by simp[h.len],by rw[List.map_append];simpa using hr,fun t ht=>?_,ho.dr.kept hg ?_,jl ho.gr hg (fun j hj=>(h.row.lt j hj).1),h.lt⟩
 ·rcases List.mem_append.1 ht with ht | ht
  ·exact(ho.grp t ht).other ho.row hg
  ·obtain rfl:=List.mem_singleton.1 ht
   exact hG'.other ho.row hg
 ·intro e;have:=(h.row.lt a e.symm).1;have:=h.lt;omega
def I3 (L:List (List cL)):Nat:=(L.map List.length).sum
theorem Ms (L:List (List cL))(g:List cL):I3 (L++[g])=I3 L+g.length:=by simp[I3]
theorem Pq (L:List (List cL)):uJ L=true↔L.all (fun g=>g.all cL.right)=true∧I3 L≤64:=by unfold uJ I3;simp
def gD (r:Option (List (List cL)))(a:Nat)(s:BA)(w:World)(e:Ending)(w':World):Prop:=
 match r with
  | none=>w.grownBy w' (some a)∧e=.returned (.tuple #[.slice none 0 0,.bool false])∧∃ (p' n':Nat) (c':Int),DR w' a s p' n' c'
  | some L=>∃ (A:Option Addr) (m cc:Nat) (gs:List aW) (p' n':Nat) (c':Int),e=.returned (.tuple #[.slice A m cc,.bool true])∧Ds w w' a s p' n' c' gs A m cc∧gs.map aW.pl=L∧(c'=0↔uJ L=true)
theorem gD.no {r:Option (List (List cL))}{a:Nat}{s:BA}{p' n':Nat}{c':Int}{w w':World}(hr:r=none)(hg:w.grownBy w' (some a))(h:DR w' a s p' n' c'):gD r a s w (.returned (.tuple #[.slice none 0 0,.bool false])) w':=by
 subst hr;exact⟨hg,rfl,p',n',c',h⟩
theorem gD.yes {r:Option (List (List cL))}{a:Nat}{s:BA}{p' n':Nat}{c':Int}{w w':World}{gs:List aW}{A:Option Addr}{m cc:Nat}(hr:r=some (gs.map aW.pl))(h:Ds w w' a s p' n' c' gs A m cc)(hc:c'=0↔uJ (gs.map aW.pl)=true):gD r a s w (.returned (.tuple #[.slice A m cc,.bool true])) w':=by
 subst hr;exact⟨A,m,cc,gs,p',n',c',rfl,h,rfl,hc⟩
theorem I7 (a:Nat)(s:BA)(w:World)(hs:s.size≤4294967280)(hG:sY a w)(h:DR w a s 0 0 0):
  Calls Tryz.prog 85 #[.pointer (some ⟨a,0,none⟩)] w (gD (lY (bl s)) a s w):=by
 obtain⟨i0,hi0,hz0,hz1,hz2⟩:=info_parts FN
 have HG:=ae hG
 obtain⟨q,hq⟩:∃ q,0+au bf ((bl s).drop 0)=q:=⟨_,rfl⟩
 have hB:=aQ a s 0 0 0 w hs h
 rw[hq] at hB
 have SK:Hid (aJ (bl s)=(bl s).drop q):=by have:=cR s 0;rw[hq,List.drop_zero] at this;exact this
 have hlt:=h.sz
 generalize hRR:lY (bl s)=RR
 clear hG h hq
 go_enter Tryz.func85,Tryz.ntmps85
 go_wp2_with fail
 refine hB.mono ?_;rintro e w1 ⟨rfl,hd,hg⟩
 have S1:Hid (Ds w w1 a s q 0 0 [] none 0 0):=⟨rfl,World.ownsRow_nil _ _ _ _,by simp,hd,hg,hlt⟩
 have hqs:=hd.le
 obtain⟨f1,y1,k1⟩:=hd.cells
 have c0:=k1.c0
 have c1:=k1.c1
 clear hd hg hB k1
 by_cases hqe:q=s.size
 ·have EN:Hid (RR=some (([]:List aW).map aW.pl)):=by
   show _=_;rw[←hRR];unfold lY;rw[SK.out,lZ s q (by omega)];rfl
  subst hqe
  clear hRR
  go_wp2_with fail
  go_quiet (fail)
  go_wp2_with fail
  go_ret2
  exact gD.yes EN.out (S1.out.drewN _) (by simp[uJ])
 ·have hqlt:q<s.size:=by omega
  have E0:Hid (RR=eJ (s.size+1) [] ((bl s).drop q)):=by
   show _=_;rw[←hRR];unfold lY;rw[SK.out,←wy,af,if_neg];rw[eG s q hqlt];simp
  have hq1:((q:Int)==(s.size:Int))=false:=by simp;omega
  have HF0:Hid (s.size-q≤s.size):=by show _≤_;omega
  clear hRR SK
  go_wp2_with fail
  go_quiet (fail)
  clear c0 c1 hq1 hqe
  have S2:=ae (S1.out.drewN nq)
  clear S1
  go_wp2_with fail
  go_loopw [2,3,4] (fun s2 s3 l wr=>∃ (k m cc f n':Nat) (c':Int) (gs:List aW) (A:Option Addr),s2=.slice none 0 0∧s3=.bool false∧l=.slice A m cc∧k≤s.size∧m≤k∧Hid (Ds w wr a s k n' c' gs A m cc)∧Hid (RR=eJ (f+1) (gs.map aW.pl) ((bl s).drop k))∧Hid (s.size-k≤f)∧Hid (n'=I3 (gs.map aW.pl))∧Hid (c'=0↔(gs.map aW.pl).all (fun g=>g.all cL.right)=true∧n'≤64)) (fun _ _ _ wr=>s.size-C9 a wr)
  case atStart=>exact⟨q,0,0,s.size,0,0,[],none,rfl,rfl,rfl,hqs,z0,S2,E0,HF0,rfl,by show _↔_;simp⟩
  case round=>
   clear S2 E0 HF0
   obtain⟨k,m,cc,f,n',c',gs,A,rfl,rfl,rfl,hk,hmk,HS,HE,HF,HN,HC⟩:=hrel
   have HCN:Hid (c'=0→n'≤64):=by have:=HC.out;show _→_;intro h;exact(this.1 h).2
   have HFL:Hid (s.size-k<((bl s).drop k).length+1):=by show _<_;rw[List.length_drop,af];omega
   go_wp2_with fail
   refine(IV _ a s k n' c' wr hs HFL.out (HG.out.kept HS.out.gr) HS.out.dr HCN.out).mono ?_;rintro e w2 ⟨hg,hpost⟩
   cases ht:eS (((bl s).drop k).length+1) ((bl s).drop k) with
   | none=>
    rw[ht] at hpost
    obtain⟨rfl,p',m',d',hd⟩:=hpost
    have S2:=ae (HS.out.step hg hd);clear hd hg
    have EN:Hid (RR=none):=by show _=_;rw[HE.out];exact zE ht
    clear ht
    go_wp2_with fail
    go_ret2
    exact gD.no EN.out S2.out.gr S2.out.dr
   | some x=>
    obtain⟨g,r⟩:=x
    rw[ht] at hpost
    obtain⟨G,p',d',rfl,hGp,hGo,hd,hpp,hdr,hcc⟩:=hpost
    have S2:=ae (HS.out.step hg hd)
    have HGO:=ae (hGo.base (lo':=w.heap.size) HS.out.gr.size)
    have hps':=hd.le
    have N2:Hid (n'+g.length=I3 ((gs++[G]).map aW.pl)):=by
     have:=HN.out;show _=_;rw[List.map_append,List.map_cons,List.map_nil,Ms,hGp];omega
    have C2:Hid (d'=0↔((gs++[G]).map aW.pl).all (fun g=>g.all cL.right)=true∧n'+g.length≤64):=by
     have h1:=HC.out
     show _↔_
     rw[hcc,h1,List.map_append,List.all_append]
     simp only[List.map_cons,List.map_nil,List.all_cons,List.all_nil,Bool.and_true,Bool.and_eq_true,hGp]
     constructor
     ·rintro⟨⟨a1,a2⟩,a3,a4⟩;exact⟨⟨a1,a3⟩,a4⟩
     ·rintro⟨⟨a1,a3⟩,a4⟩;exact⟨⟨a1,by omega⟩,a3,a4⟩
    have HD:=ae hdr
    have HT:=ae hGp
    have HTM:=ae ht
    have hmm:m≤4294967280:=by omega
    have HKK:Hid (k<p'):=hpp
    generalize n'+g.length=n2 at S2 N2 C2 hd
    obtain⟨gl,hgl⟩:∃ gl,G.ts.length=gl:=⟨_,rfl⟩
    have GSL:Hid (G.sl=.slice G.ga gl G.gc):=by show _=_;unfold aW.sl;rw[hgl]
    rw[hgl]
    clear ht hGp hGo hd hg hdr hcc hpp hgl HCN HFL
    go_wp2_with (at_builtin;refine ak _ rfl _ _ _ rfl w.heap.size 79 i0 _ 1 24 Tryz.underlying67 hi0 hz0 hz1 hz2 rfl (by omega) (.slice A m cc) m _ rfl (S2.out.row.alloc _) (w2.heap.size+1) (some ⟨w2.heap.size,0,none⟩) 1 1 [.slice G.ga gl G.gc] rfl (fQ w2 _ _) (by simp[Value.oneCell']) (by simp only[maxLen];omega) (by omega) (by simp;have:=S2.out.gr.size;omega) ?_;intro v1 w3 o1 g1 a1)
    obtain⟨A3,c3,rfl⟩:=aG o1
    have S3:=ae (S2.out.grow (G:=G) HGO.out (by rw[GSL.out];exact o1) g1)
    clear o1 g1 a1
    obtain⟨f1,y1,k1⟩:=S3.out.dr.cells
    have c0:=k1.c0
    have c1:=k1.c1
    clear k1
    by_cases hpe:p'=s.size
    ·have EN:Hid (RR=some ((gs++[G]).map aW.pl)):=by
      show _=_
      rw[HE.out,C4 (g:=g) (by rw[HTM.out,←HD.out,lZ s p' (by omega)]),List.map_append];simp[HT.out]
     have CF:Hid (d'=0↔uJ ((gs++[G]).map aW.pl)=true):=by show _↔_;rw[C2.out,Pq,N2.out]
     subst hpe
     go_wp2_with fail
     go_quiet (fail)
     go_wp2_with fail
     go_ret2
     exact gD.yes EN.out (S3.out.drewN _) CF.out
    ·have hp1:((p':Int)==(s.size:Int))=false:=by simp;omega
     have RE:Hid (r.isEmpty=false):=by show _=_;rw[←HD.out,eG s p' (by omega)];rfl
     clear hpe
     go_wp2_with fail
     go_quiet (fail)
     have S4:=ae (S3.out.drewN nq)
     clear c0 c1 hp1 S3
     cases hb:aE 44 ((bl s).drop p') with
     | false=>
      have HB:=ae hb
      have EN:Hid (RR=none):=by show _=_;rw[HE.out];exact C7 HTM.out RE.out (by rw[←HD.out];exact hb)
      clear hb
      go_wp2_with fail
      refine(aM 44 a s p' _ d' _ hs S4.out.dr HB).mono ?_;rintro e w4 ⟨rfl,hd,hg⟩
      have S5:=ae (S4.out.step hg hd);clear hd hg
      go_wp2_with fail
      go_ret2
      exact gD.no EN.out S5.out.gr S5.out.dr
     | true=>
      have HB:=ae hb
      obtain⟨k2,hk2⟩:∃ k2,p'+1+au bf ((bl s).drop (p'+1))=k2:=⟨_,rfl⟩
      have EN:Hid (RR=eJ (f-1+1) ((gs++[G]).map aW.pl) ((bl s).drop k2)):=by
       have hf:=HF.out;have h2:=HKK.out
       show _=_
       rw[HE.out,zF HTM.out (by rw[←HD.out];exact hb),←HD.out,List.drop_drop,cR,hk2,List.map_append,show f-1+1=f by omega];simp[HT.out]
      have HB2:=ae (fun (W:World) (hD:DR W a s (p'+1) n2 d')=>aQ a s (p'+1) n2 d' W hs hD)
      rw[hk2] at HB2
      have HK2:Hid (k<k2):=by have:=HKK.out;show _<_;omega
      have HF2:Hid (s.size-k2≤f-1):=by have:=HF.out;have:=HK2.out;show _≤_;omega
      have hmk2:m+1≤k2:=by have:=HK2.out;omega
      clear hb hk2
      go_wp2_with fail
      refine(aZ 44 a s p' _ d' _ hs S4.out.dr HB).mono ?_;rintro e w4 ⟨rfl,hd,hg⟩
      have S5:=ae (S4.out.step hg hd);clear hd hg
      go_wp2_with fail
      refine(HB2.out w4 S5.out.dr).mono ?_;rintro e w5 ⟨rfl,hd,hg⟩
      have S6:=ae (S5.out.step hg hd);clear hd hg
      have hk2s:=S6.out.dr.le
      go_wp2_with fail
      go_roundw
      case rel=>exact⟨k2,m+1,c3,f-1,n2,d',gs++[G],A3,rfl,rfl,rfl,hk2s,hmk2,S6,EN,HF2,N2,C2⟩
      case measure=>exact DR.dec S6.out.dr HS.out.dr HK2.out
theorem UD (s p:BA)(w:World):Calls Tryz.prog 141 #[.string s,.string p] w fun e w'=>e=.returned (.string (bz (Lib.trimPrefix (bl s) (bl p))))∧w=w':=
 (Tryz.strings_TrimPrefix s p w).mono fun _ _ ⟨he,hw⟩=>⟨he,hw.symm⟩
structure cA.okT (t:cA):Prop where
 nm:bo (bl t.nm)=true
 qual:t.qual.size=0∨eD (bl t.qual)=true
 archs:∀ x∈t.archs,eD (cS (bl x))=true
 op:t.op≤5
 ver0:t.op=0→t.ver.size=0
 ver:0<t.op→aV 1 t.ver=0
 nmz:t.nm.size≤64
 qualz:t.qual.size≤32
 verz:t.ver.size≤64
 archz:∀ x∈t.archs,x.size≤33
 few:t.archs.length≤1000000
theorem cA.okT_of {t:cA}(h:t.pl.good):t.okT:=by
 have p:=h.parts
 have z:=h.sizes
 refine⟨p.nm,?_,fun x hx=>p.archs (bl x) (List.mem_map.2 ⟨x,hx,rfl⟩),h.op,fun h0=>?_,fun h0=>?_,?_,?_,?_,fun x hx=>?_,?_⟩
 ·rcases p.qual with h0 | h0
  ·left;rw[←af];exact List.length_eq_zero_iff.2 h0
  ·exact .inr h0
 ·rw[←af];exact List.length_eq_zero_iff.2 (h.ver h0)
 ·have:=p.ver h0;rwa [show bz t.pl.ver=t.ver from iP _] at this
 ·rw[←af];exact z.nm
 ·rw[←af];exact z.qual
 ·rw[←af];exact z.ver
 ·rw[←af];exact z.archs (bl x) (List.mem_map.2 ⟨x,hx,rfl⟩)
 ·have:=h.few;simpa [cA.pl] using this
theorem Jb (t:cA)(h:t.okT)(w:World)(hG:Gl w)(hr:Rd w 1 t.aa t.archs.length (strCells t.archs)):
  Calls Tryz.prog 100 #[t.val] w fun e w'=>e=.returned (.int .i64 0)∧Below w.heap.size w w':=by
 unfold cA.val
 obtain⟨h1,h2,h3,h4,h5,h6,h7,h8,h9,h10,h11⟩:=h
 have HG:=ae hG;have HR:=ae hr
 have hN:=fun W=>jh t.nm W (by omega)
 rw[h1] at hN
 have HA:=ae h3
 have HZ:=ae h10
 have H5:=ae h5
 have H6:=ae h6
 clear hG hr h1 h3 h10 h5 h6
 obtain⟨nm,op,ver,qual,aa,ac,archs⟩:=t
 simp only at *
 obtain⟨W1,hW1⟩:∃ W1,w.alloc (.cells #[.string nm,.int .i64 op,.string ver,.string qual,.slice aa archs.length ac] 81)=W1:=⟨_,rfl⟩
 have K1:Hid (aF W1 w.heap.size [.string nm,.int .i64 op,.string ver,.string qual,.slice aa archs.length ac]):=by rw[←hW1];exact aF.new w _ _
 have B1:Hid (Below w.heap.size w W1):=by rw[←hW1];exact bR.alloc lr _
 obtain⟨c0,c1,c2,c3,c4,f0,f1,f2,f3,f4⟩:=K1.out.five
 clear f0 f1 f2 f3 f4
 go_enter Tryz.func100,Tryz.ntmps100
 go_upto_region 1 with(fail)
 clear hW1
 go_cut [20] (fun v wx=>v=.bool false∧W1=wx)
 case first=>
  by_cases q0:qual.size=0
  ·have he:qual.toList=[]:=by rw[ai,bj qual q0]
   have he2:qual.toList.isEmpty=true:=by rw[he];rfl
   go_wp2_with fail
   refine(hN _).mono ?_;rintro e w' ⟨rfl,rfl⟩
   go_wp2_with fail
   go_meet
   exact⟨rfl,rfl⟩
  ·have he2:qual.toList.isEmpty=false:=by rw[ai,aL];exact dF q0
   have he:¬ qual.toList=[]:=by intro h;rw[h] at he2;simp at he2
   have hW:=fun W=>sX qual W (by omega)
   rw[h2.resolve_left q0] at hW
   go_wp2_with fail
   refine(hN _).mono ?_;rintro e w' ⟨rfl,rfl⟩
   go_wp2_with fail
   refine(hW _).mono ?_;rintro e w' ⟨rfl,rfl⟩
   go_wp2_with fail
   go_meet
   exact⟨rfl,rfl⟩
 case rest=>
 obtain⟨rfl,rfl⟩:=hcut
 clear h2 hN
 go_wp2_with fail
 go_loop [24] (fun i=>∃ k:Nat,k≤archs.length∧i=.int .i64 k) (fun i=>archs.length-(intOf i).toNat)
 case atStart=>exact⟨0,z0,rfl⟩
 case round=>
  obtain⟨k,hk,rfl⟩:=hrel
  by_cases hlt:k<archs.length
  ·obtain⟨x,hx⟩:∃ x,archs[k]?=some x:=⟨_,gG hlt⟩
   obtain⟨b,off,hA,he⟩:=(HR.out.below B1.out).str k x hx
   have hix:=fun W=>aH (T:=25) (E:=9) (sz:=1) (c:=ac) Tryz.underlying25 rfl Tryz.sizeOf9 hA hlt W
   simp only[Nat.mul_one] at hix
   have hT:=fun W=>UD x ⟨#[33]⟩ W
   rw[show bl ⟨#[33]⟩=[33] from rfl,AN] at hT
   have hxz:=HZ.out x (gM hx)
   have hW:=fun W=>sX (bz (cS (bl x))) W (by rw[bQ];have:=Br (bl x);rw[af] at this;omega)
   rw[cH,HA.out x (gM hx)] at hW
   clear hx hA
   go_wp2_with fail
   refine(hT _).mono ?_;rintro e w' ⟨rfl,rfl⟩
   go_wp2_with fail
   refine(hW _).mono ?_;rintro e w' ⟨rfl,rfl⟩
   go_wp2_with fail
   go_round
   case rel=>exact⟨k+1,by omega,by go_num⟩
   case measure=>simp[intOf];omega
  ·by_cases o0:op=0
   ·have hv:=H5.out o0
    have he:ver.toList=[]:=by rw[ai,bj ver hv]
    have he2:ver.toList.isEmpty=true:=by rw[he];rfl
    subst o0
    clear hv
    go_wp2_with fail
    go_ret
    exact⟨rfl,B1.out⟩
   ·have hv:=H6.out (by omega)
    have o1:decide ((op:Int)<0)=false:=dF (by omega)
    have o2:decide ((5:Int)<(op:Int))=false:=dF (by omega)
    have o3:((op:Int)==0)=false:=by simp;omega
    have hC:=fun W hW=>bh 1 ver W hW (by omega)
    rw[hv] at hC
    clear hv o0
    go_wp2_with fail
    refine(hC _ (HG.out.below B1.out)).mono ?_;rintro e w1 ⟨rfl,hb1⟩
    have B2:Hid (Below w.heap.size w w1):=ah B1.out hb1
    clear hb1
    go_wp2_with fail
    go_ret
    exact⟨rfl,B2.out⟩
theorem xK {gs:List aW}{k:Nat}{g:aW}(h:gs[k]?=some g):(gs.map aW.sl)[k]?=some (.slice g.ga g.ts.length g.gc):=by rw[List.getElem?_map,h];rfl
theorem Rd.one {w:World}{A:Option Addr}{n:Nat}{xs:List Value}(h:Rd w 1 A n xs)(i:Nat)(v:Value)(hi:xs[i]?=some v)(hn:i<n):
  ∃ b off,A=some ⟨b,off,none⟩∧w.cell? ⟨b,off+i,none⟩=some v:=by
 obtain⟨b,off,e,hc⟩:=h.2 (by omega)
 exact⟨b,off,e,hc i _ hi⟩
def xL (l:List aW):Nat:=(l.map fun g=>g.ts.length).sum
theorem Bt (l:List aW)(k:Nat)(g:aW)(h:l[k]?=some g):xL (l.take (k+1))=xL (l.take k)+g.ts.length:=by
 obtain⟨hk,hg⟩:=gS h
 unfold xL;rw[tS hk,hg];simp
theorem RV (l:List aW)(k:Nat):xL (l.take k)≤xL l:=by
 conv=>rhs;rw[←List.take_append_drop k l]
 unfold xL;rw[List.map_append,List.sum_append];omega
structure xM (gs:List aW):Prop where
 few:gs.length≤64
 sum:xL gs≤64
 ne:∀ g∈gs,0<g.ts.length
 len:∀ g∈gs,g.ts.length≤64
 ok:∀ g∈gs,∀ t∈g.ts,t.okT
theorem xM.of {gs:List aW}(h:oH (gs.map aW.pl)):xM gs:=by
 have e:((gs.map aW.pl).map List.length).sum=xL gs:=by unfold xL;rw[List.map_map];congr 1;apply List.map_congr_left;intro g _;simp[aW.pl]
 have hs:=h.sum
 rw[e] at hs
 refine⟨by have:=h.few;simpa using this,hs,fun g hg=>?_,fun g hg=>?_,fun g hg t ht=>?_⟩
 ·have:=h.ne g.pl (List.mem_map.2 ⟨g,hg,rfl⟩)
  rcases Nat.eq_zero_or_pos g.ts.length with h0 | h0
  ·exact absurd (by unfold aW.pl;rw[List.length_eq_zero_iff.1 h0];rfl) this
  ·exact h0
 ·have:=TU (L:=gs.map aW.pl) (g:=g.pl) (List.mem_map.2 ⟨g,hg,rfl⟩)
  rw[e] at this;unfold aW.pl at this;rw[List.length_map] at this;omega
 ·exact cA.okT_of (h.good g.pl (List.mem_map.2 ⟨g,hg,rfl⟩) t.pl (List.mem_map.2 ⟨t,ht,rfl⟩))
theorem Jc (A:Option Addr)(c:Nat)(gs:List aW)(hW:xM gs)(w:World)(hG:Gl w)(hr:py w A gs):
  Calls Tryz.prog 61 #[.slice A gs.length c] w fun e w'=>e=.returned (.int .i64 0)∧Below w.heap.size w w':=by
 have HG:=ae hG;have HR:=ae hr;have HW:=ae hW
 have hfew:=hW.few
 clear hG hr hW
 go_enter Tryz.func61,Tryz.ntmps61
 go_wp2_with fail
 go_loop [3,15] (fun n i=>∃ k m:Nat,k≤gs.length∧m≤64∧n=.int .i64 m∧i=.int .i64 k∧Hid (m=xL (gs.take k))) (fun _ i=>gs.length-(intOf i).toNat)
 case atStart=>exact⟨0,0,z0,by omega,rfl,rfl,rfl⟩
 case round=>
  obtain⟨k,m,hk,hm,rfl,rfl,HM⟩:=hrel
  by_cases hlt:k<gs.length
  ·obtain⟨g,hg⟩:∃ g,gs[k]?=some g:=⟨_,gG hlt⟩
   obtain⟨b,off,hA,he⟩:=HR.out.row.one k _ (xK hg) hlt
   have hix:=fun W=>aH (T:=67) (E:=79) (sz:=1) (c:=c) Tryz.underlying67 rfl Tryz.sizeOf79 hA hlt W
   simp only[Nat.mul_one] at hix
   have hgl:=HW.out.len g (gM hg)
   have hm2:m+g.ts.length≤64:=by have h1:=HM.out;have h2:=Bt gs k g hg;have h3:=RV gs (k+1);have h4:=HW.out.sum;omega
   have HM2:Hid (m+g.ts.length=xL (gs.take (k+1))):=by have h1:=HM.out;have h2:=Bt gs k g hg;show _=_;omega
   clear hg hA
   generalize g.ts.length=gl at *
   go_wp2_with fail
   go_round
   case rel=>exact⟨k+1,m+gl,by omega,hm2,by go_num,by go_num,HM2⟩
   case measure=>simp[intOf];omega
  ·have hm3:decide ((64:Int)<(m:Int))=false:=dF (by omega)
   clear HM
   go_wp2_with fail
   go_loop [2,28] (fun s2 i=>∃ k:Nat,k≤gs.length∧s2=.int .i64 0∧i=.int .i64 k) (fun _ i=>gs.length-(intOf i).toNat)
   case atStart=>exact⟨0,z0,rfl,rfl⟩
   case round=>
    obtain⟨j,hj,rfl,rfl⟩:=hrel
    by_cases hlt2:j<gs.length
    ·obtain⟨g,hg⟩:∃ g,gs[j]?=some g:=⟨_,gG hlt2⟩
     obtain⟨b,off,hA,he⟩:=HR.out.row.one j _ (xK hg) hlt2
     have hix:=fun W=>aH (T:=67) (E:=79) (sz:=1) (c:=c) Tryz.underlying67 rfl Tryz.sizeOf79 hA hlt2 W
     simp only[Nat.mul_one] at hix
     have hgl:=HW.out.len g (gM hg)
     have hgp:=HW.out.ne g (gM hg)
     clear hg hA
     generalize g.ts.length=gl at *
     have hg0:((gl:Int)==0)=false:=by simp;omega
     go_wp2_with fail
     go_round
     case rel=>exact⟨j+1,by omega,rfl,by go_num⟩
     case measure=>simp[intOf];omega
    ·go_wp2_with fail
     go_loopw [2,38] (fun s2 i wr=>∃ k:Nat,k≤gs.length∧s2=.int .i64 0∧i=.int .i64 k∧Hid (Below w.heap.size w wr)) (fun _ i _=>gs.length-(intOf i).toNat)
     case atStart=>exact⟨0,z0,rfl,rfl,bR⟩
     case round=>
      obtain⟨i,hi,rfl,rfl,HB⟩:=hrel
      by_cases hlt3:i<gs.length
      ·obtain⟨g,hg⟩:∃ g,gs[i]?=some g:=⟨_,gG hlt3⟩
       have HR1:=ae (HR.out.below HB.out)
       obtain⟨b,off,hA,he⟩:=HR1.out.row.one i _ (xK hg) hlt3
       have hix:=fun W=>aH (T:=67) (E:=79) (sz:=1) (c:=c) Tryz.underlying67 rfl Tryz.sizeOf79 hA hlt3 W
       simp only[Nat.mul_one] at hix
       have hgl:=HW.out.len g (gM hg)
       have HRG:=ae (HR.out.grp g (gM hg))
       have HRA:=ae (HR.out.archs g (gM hg))
       have HTK:=ae (HW.out.ok g (gM hg))
       obtain⟨gl,hgle⟩:∃ gl,g.ts.length=gl:=⟨_,rfl⟩
       rw[hgle] at he hgl
       have HGL:=ae hgle
       clear hg hA hgle HR1
       go_wp2_with fail
       obtain⟨wo,rfl⟩:∃ wo:World,wo=wr:=⟨_,rfl⟩
       go_loopw [2,44] (fun s2 q wr=>∃ k:Nat,k≤gl∧s2=.int .i64 0∧q=.int .i64 k∧Hid (Below w.heap.size w wr)) (fun _ q _=>gl-(intOf q).toNat)
       case atStart=>exact⟨0,z0,rfl,rfl,HB⟩
       case round=>
        obtain⟨q,hq,rfl,rfl,HB1⟩:=hrel
        by_cases hlt4:q<gl
        ·have HL4:Hid (q<g.ts.length):=by have:=HGL.out;show _<_;omega
         obtain⟨t,ht⟩:∃ t,g.ts[q]?=some t:=⟨_,gG HL4.out⟩
         obtain⟨b2,off2,hA2,he2⟩:=(HRG.out.below HB1.out).elem vu q t ht
         have e0:=he2 0 _ rfl
         have e1:=he2 1 _ rfl
         have e2:=he2 2 _ rfl
         have e3:=he2 3 _ rfl
         have e4:=he2 4 _ rfl
         simp only[Nat.add_zero] at e0
         have hix2:=fun W=>aH (T:=79) (E:=81) (sz:=5) (n:=gl) (c:=g.gc) Tryz.underlying79 rfl Tryz.sizeOf81 hA2 hlt4 W
         have TK:=ae (HTK.out t (gM ht))
         have TA:=ae (HRA.out t (gM ht))
         have B2:=ae (HB1.out.alloc HB1.out.size (.cells #[.string t.nm,.int .i64 t.op,.string t.ver,.string t.qual,.slice t.aa t.archs.length t.ac] 81))
         clear ht he2 hA2 he hix
         go_wp2_with fail
         refine(Jb t TK.out _ (HG.out.below B2.out) (TA.out.below B2.out)).mono ?_;rintro e w2 ⟨rfl,hb2⟩
         have B3:Hid (Below w.heap.size w w2):=ah B2.out hb2
         clear hb2 e0 e1 e2 e3 e4 hix2
         go_wp2_with fail
         go_roundw
         case rel=>exact⟨q+1,by omega,rfl,by go_num,B3⟩
         case measure=>simp[intOf];omega
        ·go_wp2_with fail
         go_roundw
         case rel=>exact⟨i+1,by omega,rfl,by go_num,HB1⟩
         case measure=>simp[intOf];omega
      ·go_wp2_with fail
       go_ret
       exact⟨rfl,HB.out⟩
end
end Go.Proofs.YtkjdbpjglobbjaaGreatDoor
