/- A part of the proof. -/
import Derived.Test.YtlglfpbhapmhiaaGreatDoorL18
set_option maxRecDepth 100000
set_option maxHeartbeats 20000000
set_option linter.unusedVariables false
set_option linter.unusedSimpArgs false
namespace Go.Proofs.YtlglfpbhapmhiaaGreatDoor
variable{s:BA}{c c':Int}{l:LU}{a c1 cc k k' lo lo' m n n' p p':Nat}{A A1:OA}{v1 v2:Value}{w w' w2 wr:World}
section
open Go.RowKit Go.Deep
structure TB (w:World) (b:Nat) (v0 v1 v2 v3 v4:Value):Prop where
 c0:w.cell? ⟨b,0,none⟩=some v0
 c1:w.cell? ⟨b,1,none⟩=some v1
 c2:w.cell? ⟨b,2,none⟩=some v2
 c3:w.cell? ⟨b,3,none⟩=some v3
 c4:w.cell? ⟨b,4,none⟩=some v4
 f0:w.frozen? ⟨b,0,none⟩=false
 f1:w.frozen? ⟨b,1,none⟩=false
 f2:w.frozen? ⟨b,2,none⟩=false
 f3:w.frozen? ⟨b,3,none⟩=false
 f4:w.frozen? ⟨b,4,none⟩=false
theorem ax.five {b:Nat}{v0 v3 v4:Value}(h:ax w b [v0,v1,v2,v3,v4]):TB w b v0 v1 v2 v3 v4:=
 ⟨h.cell 0 _ rfl,h.cell 1 _ rfl,h.cell 2 _ rfl,h.cell 3 _ rfl,h.cell 4 _ rfl,h.free 0 (by simp),h.free 1 (by simp),h.free 2 (by simp),h.free 3 (by simp),h.free 4 (by simp)⟩
theorem Mf {v r:LU}{op:Nat}(h:wX l=some (op,v,r)):op≠0:=by
 unfold wX cF at h;split at h
 ·cases h
 ·rename_i h0;split at h
  ·cases h
  ·unfold lG at h;split at h
   ·injection h with h;injection h with h;subst h;exact h0
   ·cases h
theorem km.no {r:Option (ee×LU)}{T:cU}{e:Ending}(hr:r=none)(hg:w.grownBy w' (some a))(h:DR w' a s p' n' c')(he:e=.returned (.tuple #[T.val,.bool false])):km r a s p n c w e w':=by
 subst hr;exact⟨hg,T,p',n',c',he,h⟩
theorem Jh (a:Nat)(s:BA)(p n:Nat)(c:Int)(w:World)(hs:s.size<=4294967280)(hG:qU a w)(h:DR w a s p n c):Calls Tryz.prog 234 #[.pointer (some ⟨a,0,none⟩)] w (km (ib ((bl s).drop p)) a s p n c w):=by
 have HG:=ae hG;obtain⟨f,y,k⟩:=(h.alloc (.cells #[.string ⟨#[]⟩,.int .i64 0,.string ⟨#[]⟩,.string ⟨#[]⟩,.slice none 0 0] 211)).cells;have c1:=k.c1;have T0:Hid (sP w (w.alloc (.cells #[.string ⟨#[]⟩,.int .i64 0,.string ⟨#[]⟩,.string ⟨#[]⟩,.slice none 0 0] 211)) a s p n c [.string ⟨#[]⟩,.int .i64 0,.string ⟨#[]⟩,.string ⟨#[]⟩,.slice none 0 0]):=sP.start h _ _;have hnp:=h.nle;have hps:=h.le;clear hG h k;generalize hRR:ib ((bl s).drop p)=RR;cases ht:mR pT ((bl s).drop p) with
 | none=>
  have EN:Hid (RR=none):=by show _=_;rw[<-hRR];exact QS ht
  have HT:=ae ht;clear ht hRR;go_in;go_wp2_with fail;refine(di Bz a s p n c _ hs T0.out.dr HT).mono ?_;rintro e w1 ⟨rfl,hd,hg⟩;have T1:=ae (T0.out.step hg hd);clear hd hg c1 T0;obtain⟨z0,z1,z2,z3,z4,y0,y1,y2,y3,y4⟩:=T1.out.tb.five;go_wp2_with fail;refine bodyPost_ret (v:=.tuple #[.agg #[.string ⟨#[]⟩,.int .i64 0,.string ⟨#[]⟩,.string ⟨#[]⟩,.slice none 0 0],.bool false]) (by simp(maxDischargeDepth:=6) [results,Tryz.results234,go_sem,z0,z1,z2,z3,z4]) rfl ?_;have TZ:=sP.same (T1.out.set 0 (by simp) (.string ⟨#[]⟩));exact km.no (T:=⟨⟨#[]⟩,0,⟨#[]⟩,⟨#[]⟩,none,0,[]⟩) EN.out TZ.gr TZ.dr rfl
 | some x=>
 obtain⟨nm,r⟩:=x;have HT0:=ae ht;obtain⟨t1,t2,t3,t4⟩:=eC hps ht;obtain⟨p1,hp1⟩:∃ p1,p+nm.length=p1:=⟨_,rfl⟩
 have hU:=cM Bz nm r a s p n c _ hs T0.out.dr HT0;rw[hp1] at hU t2 t4;have PP:Hid (p<p1):=by show _<_;omega
 have DR1:Hid ((bl s).drop p1=r):=t2;have hn1:n<p1:=by omega
 have hnz:(bU nm).size<=4294967280:=by rw[cA];omega
 have HR:=ae hRR;clear ht t1 t2 t3 hp1 hRR;go_in;go_wp2_with fail;refine hU.mono ?_;rintro e w1 ⟨rfl,hd,hg⟩;have T1:=ae (T0.out.step hg hd);clear hd hg c1 T0 hU;obtain⟨z0,z1,z2,z3,z4,y0,y1,y2,y3,y4⟩:=T1.out.tb.five;have T2:Hid (sP w (w1.setCell ⟨w.heap.size,0,none⟩ (.string (bU nm))) a s p1 n c [.string (bU nm),.int .i64 0,.string ⟨#[]⟩,.string ⟨#[]⟩,.slice none 0 0]):=T1.out.set 0 (by simp) (.string (bU nm));obtain⟨f2,y2',k2⟩:=T2.out.dr.cells;have c2:=k2.c2;have fc2:=k2.f2;clear k2 z1 z2 z3 z4 y1 y2 y3 y4;have T3:Hid (sP w ((w1.setCell ⟨w.heap.size,0,none⟩ (.string (bU nm))).setCell ⟨a,2,none⟩ (.int .i64 ((n:Int)+1))) a s p1 (n+1) c [.string (bU nm),.int .i64 0,.string ⟨#[]⟩,.string ⟨#[]⟩,.slice none 0 0]):=T2.out.step (aW _) (T2.out.dr.count hn1);obtain⟨f3,y3',k3⟩:=T3.out.dr.cells;have d2:=k3.c2;clear k3;go_upto_if 30 with(fail)
 clear z0 y0 c2 fc2 d2 T1 T2;go_cut [] (fun wx=>∃ c1:Int,Hid (sP w wx a s p1 (n+1) c1 [.string (bU nm),.int .i64 0,.string ⟨#[]⟩,.string ⟨#[]⟩,.slice none 0 0])/\Hid (c1=0↔c=0/\n+1<=64))
 case first=>
  by_cases h64:64<n+1
  ·have e64:decide ((64:Int)<(n:Int)+1)=true:=dT (by omega);have NC:Hid (kL c 4=0↔c=0/\n+1<=64):=by show _↔_;rw[fG];constructor<;>intro h<;>omega
   go_wp2_with fail;refine(gJ _ 4 a s p1 (n+1) c _ T3.out.dr).mono ?_;rintro e w3 ⟨rfl,hd,hg⟩;have T4:=ae (T3.out.step hg hd);clear hd hg;go_wp2;go_meet;exact⟨_,T4,NC⟩
  ·have e64:decide ((64:Int)<(n:Int)+1)=false:=dF (by omega);have NC:Hid (c=0↔c=0/\n+1<=64):=by show _↔_;constructor<;>intro h<;>omega
   go_wp2;go_meet;exact⟨_,T3,NC⟩
 case rest=>
 obtain⟨c1,T4,C1⟩:=hcut;clear T3;have z0:=T4.out.tb.five.c0;have hN:=nG (bU nm) wc (by omega);rw[fA] at hN;obtain⟨bn,hbn⟩:∃ bn,fg nm=bn:=⟨_,rfl⟩
 rw[hbn] at hN;have HBN:=ae hbn;clear hbn;go_wp2_with fail;refine hN.mono ?_;rintro e w' ⟨rfl,rfl⟩;clear hN;go_upto_if 38 with(fail)
 clear z0;go_cut [] (fun wx=>∃ c2:Int,Hid (sP w wx a s p1 (n+1) c2 [.string (bU nm),.int .i64 0,.string ⟨#[]⟩,.string ⟨#[]⟩,.slice none 0 0])/\Hid (c2=0↔c1=0/\fg nm=true))
 case first=>
  cases bn with
  | true=>
   go_wp2;go_meet;exact⟨c1,T4,by simp[Hid,HBN.out]⟩
  | false=>
   have NC:Hid (kL c1 10=0↔c1=0/\fg nm=true):=by show _↔_;rw[fG,HBN.out];simp
   go_wp2_with fail;refine(gJ _ 10 a s p1 (n+1) c1 _ T4.out.dr).mono ?_;rintro e w3 ⟨rfl,hd,hg⟩;have T5:=ae (T4.out.step hg hd);clear hd hg;go_wp2;go_meet;exact⟨_,T5,NC⟩
 case rest=>
 obtain⟨c2,T5,C2⟩:=hcut;clear T4 HBN;obtain⟨b,hb⟩:∃ b,aA 58 ((bl s).drop p1)=b:=⟨_,rfl⟩
 have HB:=ae hb;clear hb;go_wp2_with fail;refine(qV 58 a s p1 (n+1) c2 _ hs T5.out.dr b HB).mono ?_;rintro e w5 ⟨rfl,hd,hg⟩;have T6:=ae (T5.out.step hg hd);clear hd hg T5;go_upto_if 43 with(fail)
 go_cut [3] (fun v wx=>∃ (Q:BA) (p3:Nat) (c3:Int),v=.bool true/\Hid (sP w wx a s p3 (n+1) c3 [.string (bU nm),.int .i64 0,.string ⟨#[]⟩,.string Q,.slice none 0 0])/\Hid (lH r=some (bl Q,(bl s).drop p3))/\Hid (p1<=p3)/\Hid (c3=0↔c2=0/\(bl Q=[]\/dI (bl Q)=true)))
 case first=>
  cases b with
  | false=>
   have EQ:Hid (lH r=some (bl ⟨#[]⟩,(bl s).drop p1)):=by show _=_;rw[DR1.out];exact Mc (by rw[<-DR1.out];exact HB.out)
   go_wp2;go_meet;exact⟨⟨#[]⟩,p1,c2,rfl,T6.out,EQ,lr,by simp[Hid];intro _;left;rfl⟩
  | true=>
   cases ht:mR jC ((bl s).drop (p1+1)) with
   | none=>
    have HT:=ae ht;have EN:Hid (RR=none):=by show _=_;rw[<-HR.out];exact QT HT0.out (by rw[yp (by rw[<-DR1.out];exact HB.out),<-DR1.out,List.drop_drop];exact ht)
    clear ht;go_wp2_with fail;refine(js a s (p1+1) (n+1) c2 _ hs T6.out.dr HT).mono ?_;rintro e w6 ⟨rfl,hd,hg⟩;have T7:=ae (T6.out.step hg hd);clear hd hg;obtain⟨z0,z1,z2,z3,z4,y0,y1,y2,y3,y4⟩:=T7.out.tb.five;go_wp2_with fail;refine bodyPost_ret (v:=.tuple #[.agg #[.string (bU nm),.int .i64 0,.string ⟨#[]⟩,.string ⟨#[]⟩,.slice none 0 0],.bool false]) (by simp(maxDischargeDepth:=6) [results,Tryz.results234,go_sem,z0,z1,z2,z3,z4]) rfl ?_;have TZ:=sP.same (T7.out.set 3 (by simp) (.string ⟨#[]⟩));exact km.no (T:=⟨bU nm,0,⟨#[]⟩,⟨#[]⟩,none,0,[]⟩) EN.out TZ.gr TZ.dr rfl
   | some x=>
    obtain⟨q,r1⟩:=x;have HT:=ae ht;have hp2:=T6.out.dr.le;obtain⟨t1,t2,t3,t4⟩:=eC (p:=p1+1) hp2 ht;have EQ:Hid (lH r=some (bl (bU q),(bl s).drop (p1+1+q.length))):=by show _=_;rw[yp (by rw[<-DR1.out];exact HB.out),<-DR1.out,List.drop_drop,fA,t2];exact ht
    have Q0:Hid (q≠[]):=by intro e;rw[e] at t3;simp at t3
    clear ht t1 t2 t3 hp2;go_wp2_with fail;refine(jt q r1 a s (p1+1) (n+1) c2 _ hs T6.out.dr HT).mono ?_;rintro e w6 ⟨rfl,⟨c3,hd,hcc⟩,hg⟩;have T7:=ae (T6.out.step hg hd);clear hd hg;have HCC:=ae hcc;clear hcc;obtain⟨z0,z1,z2,z3,z4,y0,y1,y2,y3,y4⟩:=T7.out.tb.five;go_wp2;go_meet;refine⟨bU q,p1+1+q.length,c3,rfl,T7.out.set 3 (by simp) (.string (bU q)),EQ,(by show _<=_;omega),?_⟩;have h1:=HCC.out;have h2:=Q0.out;show _↔_;rw[fA];simp[h1,h2]
 case rest=>
 obtain⟨Q,p3,c3,rfl,T7,EQ,P3,C3⟩:=hcut;clear T6 HB;obtain⟨p4,hp4⟩:∃ p4,p3+aE aX ((bl s).drop p3)=p4:=⟨_,rfl⟩
 have SK4:Hid (aO ((bl s).drop p3)=(bl s).drop p4):=by show _=_;rw[cg,hp4]
 have P4:Hid (p1<=p4):=by have:=P3.out;show _<=_;omega
 have hB4:=aK a s p3 (n+1) c3 wc hs T7.out.dr;rw[hp4] at hB4;clear hp4;obtain⟨b,hb⟩:∃ b,aA 40 ((bl s).drop p4)=b:=⟨_,rfl⟩
 have HB:=ae hb;clear hb;go_wp2_with fail;refine hB4.mono ?_;rintro e w7 ⟨rfl,hd,hg⟩;have T8:=ae (T7.out.step hg hd);clear hd hg hB4 T7;go_wp2_with fail;refine(qV 40 a s p4 (n+1) c3 _ hs T8.out.dr b HB).mono ?_;rintro e w8 ⟨rfl,hd,hg⟩;have T9:=ae (T8.out.step hg hd);clear hd hg T8;go_upto_if 56 with(fail)
 go_cut [3] (fun v wx=>∃ (op:Nat) (V:BA) (p5:Nat) (c5:Int),v=.bool true/\Hid (sP w wx a s p5 (n+1) c5 [.string (bU nm),.int .i64 op,.string V,.string Q,.slice none 0 0])/\Hid (kK ((bl s).drop p4)=some (op,bl V,(bl s).drop p5))/\Hid (p4<=p5)/\Hid (c5=0↔c3=0/\(op=0\/dm 1 V=0)))
 case first=>
  cases b with
  | false=>
   have ER:Hid (kK ((bl s).drop p4)=some (0,bl ⟨#[]⟩,(bl s).drop p4)):=Md HB.out;go_wp2;go_meet;exact⟨0,⟨#[]⟩,p4,c3,rfl,T9.out,ER,lr,by simp[Hid]⟩
  | true=>
   have ER:Hid (kK ((bl s).drop p4)=wX ((bl s).drop (p4+1))):=by show _=_;rw[Jf HB.out,List.drop_drop]
   go_wp2_with fail;refine(xd a s (p4+1) (n+1) c3 _ hs (HG.out.kept T9.out.gr) T9.out.dr).mono ?_;rintro e w9 ⟨hg,hpost⟩;cases hr:wX ((bl s).drop (p4+1)) with
   | none=>
    rw[hr] at hpost;obtain⟨rfl,p',c',hd⟩:=hpost;have T10:=ae (T9.out.step hg hd);clear hd hg;have EN:Hid (RR=none):=by show _=_;rw[<-HR.out];exact QU HT0.out EQ.out (by rw[SK4.out,ER.out,hr])
    clear hr;obtain⟨z0,z1,z2,z3,z4,y0,y1,y2,y3,y4⟩:=T10.out.tb.five;go_wp2_with fail;refine bodyPost_ret (v:=.tuple #[.agg #[.string (bU nm),.int .i64 0,.string ⟨#[]⟩,.string Q,.slice none 0 0],.bool false]) (by simp(maxDischargeDepth:=6) [results,Tryz.results234,go_sem,z0,z1,z2,z3,z4]) rfl ?_;have TZ:=sP.same ((T10.out.set 1 (by simp) (.int .i64 0)).set 2 (by simp) (.string ⟨#[]⟩));exact km.no (T:=⟨bU nm,0,⟨#[]⟩,Q,none,0,[]⟩) EN.out TZ.gr TZ.dr rfl
   | some x=>
    obtain⟨op,v,r2⟩:=x;rw[hr] at hpost;obtain⟨rfl,p5,c5,hp5,hd,hdr,hcc⟩:=hpost;have T10:=ae (T9.out.step hg hd);clear hd hg;have ER2:Hid (kK ((bl s).drop p4)=some (op,bl (bU v),(bl s).drop p5)):=by show _=_;rw[ER.out,hr,fA,hdr]
    have op0:Hid (op≠0):=Mf hr;have HCC:=ae hcc;have P5:Hid (p4<=p5):=by show _<=_;omega
    clear hr hdr hcc hp5;obtain⟨z0,z1,z2,z3,z4,y0,y1,y2,y3,y4⟩:=T10.out.tb.five;go_wp2;go_meet;refine⟨op,bU v,p5,c5,rfl,(T10.out.set 1 (by simp) (.int .i64 op)).set 2 (by simp) (.string (bU v)),ER2,P5,?_⟩;have h1:=HCC.out;have h2:=op0.out;show _↔_;simp[h1,h2]
 case rest=>
 obtain⟨op,V,p5,c5,rfl,T10,ER,P5,C5⟩:=hcut;clear T9 HB;obtain⟨b,hb⟩:∃ b,aA 91 ((bl s).drop p5)=b:=⟨_,rfl⟩
 have HB:=ae hb;clear hb;go_wp2_with fail;refine(qV 91 a s p5 (n+1) c5 _ hs T10.out.dr b HB).mono ?_;rintro e w10 ⟨rfl,hd,hg⟩;have T11:=ae (T10.out.step hg hd);clear hd hg T10;go_upto_if 71 with(fail)
 go_cut [3] (fun v wx=>∃ (A:OA) (xs:List BA) (cc p6:Nat) (c6:Int),v=.bool true/\Hid (sP w wx a s p6 (n+1) c6 [.string (bU nm),.int .i64 op,.string V,.string Q,.slice A xs.length cc])/\Hid (wx.ownsRow (w.heap.size+1) 9 1 (.slice A xs.length cc) xs.length (ay xs))/\Hid (jr ((bl s).drop p5)=some (xs.map bl,(bl s).drop p6))/\Hid (p5<=p6)/\Hid (c6=0↔c5=0/\((xs.map bl).all fun x=>dI (cE x))=true))
 case first=>
  cases b with
  | false=>
   have EA:Hid (jr ((bl s).drop p5)=some (([]:List BA).map bl,(bl s).drop p5)):=Jg HB.out;go_wp2;go_meet;exact⟨none,[],0,p5,c5,rfl,T11.out,World.ownsRow_nil _ _ _ _,EA,lr,by simp[Hid]⟩
  | true=>
   have EA:Hid (jr ((bl s).drop p5)=fF (((bl s).drop p5).length+1) (aO ((bl s).drop (p5+1)))):=by show _=_;rw[EU HB.out,List.drop_drop]
   have HF:Hid (s.size-(p5+1)<((bl s).drop p5).length+1):=by show _<_;rw[List.length_drop,ah];omega
   have hz10:w.heap.size+1<=w10.heap.size:=T11.out.tb.sz;go_wp2_with fail;refine(EP _ a s (p5+1) (n+1) c5 _ hs HF.out T11.out.dr).mono ?_;rintro e w11 hpost;cases hr:fF (((bl s).drop p5).length+1) (aO ((bl s).drop (p5+1))) with
   | none=>
    rw[hr] at hpost;obtain⟨hg,rfl,p',c',hd⟩:=hpost;have T12:=ae (T11.out.step hg hd);clear hd hg;have EN:Hid (RR=none):=by show _=_;rw[<-HR.out];exact QV HT0.out EQ.out (by rw[SK4.out];exact ER.out) (by rw[EA.out,hr])
    clear hr;obtain⟨z0,z1,z2,z3,z4,y0,y1,y2,y3,y4⟩:=T12.out.tb.five;go_wp2_with fail;refine bodyPost_ret (v:=.tuple #[.agg #[.string (bU nm),.int .i64 op,.string V,.string Q,.slice none 0 0],.bool false]) (by simp(maxDischargeDepth:=6) [results,Tryz.results234,go_sem,z0,z1,z2,z3,z4]) rfl ?_;have TZ:=sP.same (T12.out.set 4 (by simp) (.slice none 0 0));exact km.no (T:=⟨bU nm,op,V,Q,none,0,[]⟩) EN.out TZ.gr TZ.dr rfl
   | some x=>
    obtain⟨L,r3⟩:=x;rw[hr] at hpost;obtain⟨A,m,cc,xs,p6,c6,rfl,hS,rfl,hp6,hdr,hcc⟩:=hpost;obtain rfl:=hS.len;have T12:=ae (T11.out.step hS.gr hS.dr);have R12:=ae (aY hS.row hz10);have EA2:Hid (jr ((bl s).drop p5)=some (xs.map bl,(bl s).drop p6)):=by show _=_;rw[EA.out,hr,hdr]
    have HCC:=ae hcc;have P6:Hid (p5<=p6):=by show _<=_;omega
    clear hr hdr hcc hp6 hS;obtain⟨z0,z1,z2,z3,z4,y0,y1,y2,y3,y4⟩:=T12.out.tb.five;go_wp2;go_meet;exact⟨A,xs,cc,p6,c6,rfl,T12.out.set 4 (by simp) (.slice A xs.length cc),ie R12.out (Nat.lt_succ_self _),EA2,P6,HCC.out⟩
 case rest=>
 obtain⟨A,xs,cc,p6,c6,rfl,T12,R12,EA,P6,C6⟩:=hcut;clear T11 HB;have EN:Hid (RR=some (⟨nm,bl Q,op,bl V,xs.map bl⟩,(bl s).drop p6)):=by show _=_;rw[<-HR.out];exact QW HT0.out EQ.out (by rw[SK4.out];exact ER.out) EA.out
 have CF:Hid (c6=0↔c=0/\ee.right ⟨nm,bl Q,op,bl V,xs.map bl⟩=true/\n+1<=64):=by
  have h1:=C1.out;have h2:=C2.out;have h3:=C3.out;have h5:=C5.out;have h6:=C6.out;show _↔_;rw[Me,h6,h5,h3,h2,h1];simp only[oz];constructor
  ·rintro⟨⟨⟨⟨⟨a1,a2⟩,a3⟩,a4⟩,a5⟩,a6⟩;exact⟨a1,⟨a3,a4,a6,a5⟩,a2⟩
  ·rintro⟨a1,⟨a3,a4,a6,a5⟩,a2⟩;exact⟨⟨⟨⟨⟨a1,a2⟩,a3⟩,a4⟩,a5⟩,a6⟩
 have PF:Hid (p<p6):=by have h1:=PP.out;have h2:=P4.out;have h3:=P5.out;have h4:=P6.out;show _<_;omega
 clear C1 C2 C3 C5 C6;obtain⟨z0,z1,z2,z3,z4,y0,y1,y2,y3,y4⟩:=T12.out.tb.five;go_wp2_with fail;refine bodyPost_ret (v:=.tuple #[.agg #[.string (bU nm),.int .i64 op,.string V,.string Q,.slice A xs.length cc],.bool true]) (by simp(maxDischargeDepth:=6) [results,Tryz.results234,go_sem,z0,z1,z2,z3,z4]) rfl ?_;have TZ:=sP.same T12.out;have RZ:=ie (j:=4) (v:=.slice A xs.length cc) (ie (j:=3) (v:=.string Q) (ie (j:=2) (v:=.string V) (ie (j:=1) (v:=.int .i64 op) (ie (j:=0) (v:=.string (bU nm)) R12.out (Nat.lt_succ_self _)) (Nat.lt_succ_self _)) (Nat.lt_succ_self _)) (Nat.lt_succ_self _)) (Nat.lt_succ_self _);rw[EN.out];refine⟨TZ.gr,⟨bU nm,op,V,Q,A,cc,xs⟩,p6,c6,rfl,by simp only[cU.pl,fA],aY RZ (Nat.le_succ _),TZ.dr,PF.out,rfl,CF.out⟩
theorem Ji:(Tryz.prog.info? 211).map (fun i=>(i.zero,i.size,i.bytes))=some (some (.agg #[.string ⟨#[]⟩,.int .i64 0,.string ⟨#[]⟩,.string ⟨#[]⟩,.slice none 0 0]),5,80):=by kernel_rfl
theorem Mh:(Tryz.prog.info? 209).map (fun i=>(i.zero,i.size,i.bytes))=some (some (.slice none 0 0),1,24):=by kernel_rfl
theorem uP (w:World)(t:TypeId)(a b c d e:Value):eQ (w.alloc (.cells #[a,b,c,d,e] t)) (w.heap.size+1) 5 (some ⟨w.heap.size,0,none⟩) 1 [a,b,c,d,e]:=by
 refine⟨rfl,fun _=>⟨_,rfl,by simp,fun j u hu=>?_⟩⟩
 match j,hu with
 | 0,hu=>simp at hu;subst hu;simp[Addr.add]
 | 1,hu=>simp at hu;subst hu;simp[Addr.add]
 | 2,hu=>simp at hu;subst hu;simp[Addr.add]
 | 3,hu=>simp at hu;subst hu;simp[Addr.add]
 | 4,hu=>simp at hu;subst hu;simp[Addr.add]
 | j+5,hu=>simp at hu
theorem mh {e1 e2:TypeId}{z1 z2 n1 n2:Nat}{x1 x2:LV}(h1:w.ownsRow lo e1 z1 v1 n1 x1)(h2:w.ownsRow lo' e2 z2 v2 n2 x2)(hne:e1≠e2)(hg:w.grownBy w2 v2.ownBlock):w2.ownsRow lo e1 z1 v1 n1 x1:=
 h1.kept hg (Fa h1 h2 hne)
structure KZ (w wr:World) (a:Nat) (s:BA) (k n:Nat) (c:Int) (ts:List cU) (A:OA) (m cc:Nat):Prop where
 len:ts.length=m
 row:wr.ownsRow w.heap.size 211 5 (.slice A m cc) m (ts.flatMap cU.cells)
 archs:∀ t∈ts,t.own wr w.heap.size
 dr:DR wr a s k n c
 gr:w.grownBy wr (some a)
 lt:a<w.heap.size
theorem KZ.step {ts:List cU}(h:KZ w wr a s k n c ts A m cc)(hg:wr.grownBy w' (some a))(hd:DR w' a s k' n' c'):KZ w w' a s k' n' c' ts A m cc:=
 ⟨h.len,aP h.row h.lt hg,fun t ht=>(h.archs t ht).kept h.lt hg,hd,ak h.gr hg,h.lt⟩
theorem KZ.alloc {ts:List cU}(h:KZ w wr a s k n c ts A m cc)(o:Obj):KZ w (wr.alloc o) a s k n c ts A m cc:=
 ⟨h.len,h.row.alloc o,fun t ht=>(h.archs t ht).below (bR.alloc lr o),h.dr.alloc o,eK h.gr o,h.lt⟩
theorem KZ.grow {ts:List cU}{o1 o2:Obj}{T:cU}(h:KZ w wr a s k n c ts A m cc)(hT:T.own wr w.heap.size)
  (hr:w2.ownsRow w.heap.size 211 5 (.slice A1 (m+1) c1) (m+1) (ts.flatMap cU.cells++T.cells))
  (hg:((wr.alloc o1).alloc o2).grownBy w2 (Value.slice A m cc).ownBlock):KZ w w2 a s k n c (ts++[T]) A1 (m+1) c1:=by
 have ho:=(h.alloc o1).alloc o2;have hT':T.own ((wr.alloc o1).alloc o2) w.heap.size:=(hT.below (bR.alloc lr o1)).below (bR.alloc lr o2);refine⟨by simp[h.len],by rw[List.flatMap_append];simpa using hr,fun t ht=>?_,ho.dr.kept hg ?_,iL ho.gr hg (fun j hj=>(h.row.lt j hj).1),h.lt⟩
 ·rcases List.mem_append.1 ht with ht | ht
  ·exact mh (ho.archs t ht) ho.row (by decide) hg
  ·obtain rfl:=List.mem_singleton.1 ht;exact mh hT' ho.row (by decide) hg
 ·intro e;have:=(h.row.lt a e.symm).1;have:=h.lt;omega
def iM (r:Option (List ee×LU))(a:Nat)(s:BA)(p n:Nat)(c:Int)(w:World)(e:Ending)(w':World):Prop:=
 w.grownBy w' (some a)/\match r with
  | none=>e=.returned (.tuple #[.slice none 0 0,.bool false])/\∃ (p' n':Nat) (c':Int),DR w' a s p' n' c'
  | some (g,r)=>∃ (G:bM) (p':Nat) (c':Int),e=.returned (.tuple #[.slice G.ga G.ts.length G.gc,.bool true])/\G.pl=g/\G.own w' w.heap.size/\DR w' a s p' (n+g.length) c'/\p<p'/\(bl s).drop p'=r/\(c'=0↔c=0/\g.all ee.right=true/\n+g.length<=64)
theorem iM.no {r:Option (List ee×LU)}(hr:r=none)(hg:w.grownBy w' (some a))(h:DR w' a s p' n' c'):iM r a s p n c w (.returned (.tuple #[.slice none 0 0,.bool false])) w':=by
 subst hr;exact⟨hg,rfl,p',n',c',h⟩
theorem iM.yes {r:Option (List ee×LU)}{ts:List cU}(hr:r=some (ts.map cU.pl,(bl s).drop p'))(h:KZ w w' a s p' (n+m) c' ts A m cc)(hp:p<p')(hc:c'=0↔c=0/\(ts.map cU.pl).all ee.right=true/\n+m<=64):iM r a s p n c w (.returned (.tuple #[.slice A m cc,.bool true])) w':=by
 subst hr;obtain rfl:=h.len;refine⟨h.gr,⟨A,cc,ts⟩,p',c',rfl,rfl,⟨h.row,h.archs⟩,?_,hp,rfl,?_⟩
 ·rw[List.length_map];exact h.dr
 ·rw[List.length_map];exact hc
theorem Fb (F:Nat)(a:Nat)(s:BA)(p n:Nat)(c:Int)(w:World)(hs:s.size<=4294967280)(hF:s.size-p<F)(hG:qU a w)(h:DR w a s p n c)(hcn:c=0->n<=64):Calls Tryz.prog 204 #[.pointer (some ⟨a,0,none⟩)] w (iM (fh F ((bl s).drop p)) a s p n c w):=by
 obtain⟨i0,hi0,hz0,hz1,hz2⟩:=info_parts Ji;have HG:=ae hG;obtain⟨f0,hf0⟩:∃ f0,F=f0+1:=⟨F-1,by omega⟩
 have E0:Hid (fh F ((bl s).drop p)=gD (f0+1) [] ((bl s).drop p)):=by show _=_;rw[xa,hf0]
 have HF0:Hid (s.size-p<=f0):=by show _<=_;omega
 have HCN:=ae hcn;generalize fh F ((bl s).drop p)=RR at E0;have S1:Hid (KZ w w a s p n c [] none 0 0):=⟨rfl,World.ownsRow_nil _ _ _ _,by simp,h,World.grownBy.refl _ _,h.sz⟩
 have hps:=h.le;clear hG hf0 hF hcn h;go_in;go_wp2;go_loopw [2,3,4] (fun s2 s3 l wr=>∃ (k m cc f:Nat) (c':Int) (ts:List cU) (A:OA),s2=.slice none 0 0/\s3=.bool false/\l=.slice A m cc/\k<=s.size/\m<=k/\Hid (KZ w wr a s k (n+m) c' ts A m cc)/\Hid (p<=k)/\Hid (RR=gD (f+1) (ts.map cU.pl) ((bl s).drop k))/\Hid (s.size-k<=f)/\Hid (c'=0↔c=0/\(ts.map cU.pl).all ee.right=true/\n+m<=64)) (fun _ _ _ wr=>s.size-zJ a wr)
 case atStart=>exact⟨p,0,0,f0,c,[],none,rfl,rfl,rfl,hps,z0,S1,lr,E0,HF0,by have:=HCN.out;show _↔_;simpa using this⟩
 case round=>
  clear S1 E0 HF0 HCN;obtain⟨k,m,cc,f,c',ts,A,rfl,rfl,rfl,hk,hmk,HS,HP,HE,HF,HC⟩:=hrel;go_wp2_with fail;refine(Jh a s k (n+m) c' wr hs (HG.out.kept HS.out.gr) HS.out.dr).mono ?_;rintro e w2 ⟨hg,hpost⟩;cases ht:ib ((bl s).drop k) with
  | none=>
   rw[ht] at hpost;obtain⟨T,p',n',d',rfl,hd⟩:=hpost;have S2:=ae (HS.out.step hg hd);clear hd hg;have EN:Hid (RR=none):=by show _=_;rw[HE.out];exact zE ht
   clear ht;unfold cU.val;go_wp2;go_ret2;have:=S2.out.alloc (.cells #[.string T.nm,.int .i64 T.op,.string T.ver,.string T.qual,.slice T.aa T.archs.length T.ac] 211);exact iM.no EN.out this.gr this.dr
  | some x=>
   obtain⟨t,r⟩:=x;rw[ht] at hpost;obtain⟨T,p',d',rfl,hT,hTo,hd,hpp,hdr,hcc⟩:=hpost;have S2:=ae (HS.out.step hg hd);have HTO:=ae (hTo.base (lo':=w.heap.size) HS.out.gr.size);have hps':=hd.le;have C2:Hid (d'=0↔c=0/\((ts++[T]).map cU.pl).all ee.right=true/\n+(m+1)<=64):=by
    have h1:=HC.out;show _↔_;rw[hcc,h1,List.map_append,List.all_append];simp only[List.map_cons,List.map_nil,List.all_cons,List.all_nil,Bool.and_true,Bool.and_eq_true,hT];constructor
    ·rintro⟨⟨a1,a2,a3⟩,a4,a5⟩;exact⟨a1,⟨a2,a4⟩,by omega⟩
    ·rintro⟨a1,⟨a2,a4⟩,a5⟩;exact⟨⟨a1,a2,by omega⟩,a4,by omega⟩
   have HD:=ae hdr;have HT:=ae hT;have HTM:=ae ht;have hmm:m<=4294967280:=by omega
   have HKK:Hid (k<p'):=hpp;clear ht hT hTo hd hg hdr hcc hpp;unfold cU.val;go_wp2_with (at_builtin;refine au _ rfl _ _ _ rfl w.heap.size 211 i0 _ 5 80 Tryz.underlying209 hi0 hz0 hz1 hz2 rfl (by omega) (.slice A m cc) m _ rfl ((S2.out.row.alloc _).alloc _) (w2.heap.size+1+1) (some ⟨w2.heap.size+1,0,none⟩) 1 1 T.cells rfl (by have:=uP (w2.alloc (.cells T.cells.toArray 211)) 211 (.string T.nm) (.int .i64 T.op) (.string T.ver) (.string T.qual) (.slice T.aa T.archs.length T.ac);simpa [cU.cells] using this) (by simp[Value.oneCell',cU.cells]) (by simp only[maxLen];omega) (by omega) (by simp;have:=S2.out.gr.size;omega) ?_;intro v1 w3 o1 g1 a1);obtain⟨A3,c3,rfl⟩:=aN o1;have S3:=ae (S2.out.grow (T:=T) HTO.out o1 g1);clear o1 g1 a1;cases hb:aA 124 ((bl s).drop p') with
   | false=>
    have HB:=ae hb;have EN:Hid (RR=some ((ts++[T]).map cU.pl,(bl s).drop p')):=by
     show _=_;rw[HE.out,By HTM.out (by rw[<-HD.out];exact hb),List.map_append,HD.out];simp[HT.out]
    have PF:Hid (p<p'):=by have h1:=HP.out;have h2:=HKK.out;show _<_;omega
    clear hb;go_wp2_with fail;refine(aG 124 a s p' _ d' w3 hs S3.out.dr HB).mono ?_;rintro e w4 ⟨rfl,hd,hg⟩;have S4:=ae (S3.out.step hg hd);clear hd hg;go_wp2;go_ret2;exact iM.yes EN.out S4.out PF.out C2.out
   | true=>
    have HB:=ae hb;obtain⟨k2,hk2⟩:∃ k2,p'+1+aE aX ((bl s).drop (p'+1))=k2:=⟨_,rfl⟩
    have EN:Hid (RR=gD (f-1+1) ((ts++[T]).map cU.pl) ((bl s).drop k2)):=by
     have hf:=HF.out;have h2:=HKK.out;show _=_;rw[HE.out,zF HTM.out (by rw[<-HD.out];exact hb),<-HD.out,List.drop_drop,cg,hk2,List.map_append,show f-1+1=f by omega];simp[HT.out]
    have HB2:=ae (fun (W:World) (hD:DR W a s (p'+1) (n+(m+1)) d')=>aK a s (p'+1) (n+(m+1)) d' W hs hD);rw[hk2] at HB2;have HK2:Hid (k<k2):=by have:=HKK.out;show _<_;omega
    have HF2:Hid (s.size-k2<=f-1):=by have:=HF.out;have:=HK2.out;show _<=_;omega
    have HP2:Hid (p<=k2):=by have:=HP.out;have:=HK2.out;show _<=_;omega
    have hmk2:m+1<=k2:=by have:=HK2.out;omega
    clear hb hk2;go_wp2_with fail;refine(aQ 124 a s p' _ d' w3 hs S3.out.dr HB).mono ?_;rintro e w4 ⟨rfl,hd,hg⟩;have S4:=ae (S3.out.step hg hd);clear hd hg;go_wp2_with fail;refine(HB2.out w4 S4.out.dr).mono ?_;rintro e w5 ⟨rfl,hd,hg⟩;have S5:=ae (S4.out.step hg hd);clear hd hg;have hk2s:=S5.out.dr.le;go_wp2;go_roundw
    case rel=>exact⟨k2,m+1,c3,f-1,d',ts++[T],A3,rfl,rfl,rfl,hk2s,hmk2,S5,HP2,EN,HF2,C2⟩
    case measure=>exact DR.dec S5.out.dr HS.out.dr HK2.out
structure zQ (w wr:World) (a:Nat) (s:BA) (k n:Nat) (c:Int) (gs:List bM) (A:OA) (m cc:Nat):Prop where
 len:gs.length=m
 row:wr.ownsRow w.heap.size 209 1 (.slice A m cc) m (gs.map bM.sl)
 grp:∀ g∈gs,g.own wr w.heap.size
 dr:DR wr a s k n c
 gr:w.grownBy wr (some a)
 lt:a<w.heap.size
theorem zQ.step {gs:List bM}(h:zQ w wr a s k n c gs A m cc)(hg:wr.grownBy w' (some a))(hd:DR w' a s k' n' c'):zQ w w' a s k' n' c' gs A m cc:=
 ⟨h.len,aP h.row h.lt hg,fun t ht=>(h.grp t ht).kept h.lt hg,hd,ak h.gr hg,h.lt⟩
theorem zQ.below {gs:List bM}(h:zQ w wr a s k n c gs A m cc)(hb:Below wr.heap.size wr w'):zQ w w' a s k n c gs A m cc:=
 h.step (dW hb _) (h.dr.below hb)
theorem zQ.alloc {gs:List bM}(h:zQ w wr a s k n c gs A m cc)(o:Obj):zQ w (wr.alloc o) a s k n c gs A m cc:=h.below (bR.alloc lr o)
theorem zQ.drewN {gs:List bM}(h:zQ w wr a s k n c gs A m cc)(j:Nat):zQ w (wr.drewN j) a s k n c gs A m cc:=h.below ⟨rfl,rfl,rfl,lr,fun _ _=>rfl⟩
theorem bM.own.other {G:bM}{z:Nat}{v:Value}{xs:LV}(h:G.own w lo)(h2:w.ownsRow lo' 209 z v n xs)(hg:w.grownBy w2 v.ownBlock):G.own w2 lo:=
 ⟨mh h.row h2 (by decide) hg,fun t ht=>mh (h.archs t ht) h2 (by decide) hg⟩
theorem zQ.grow {gs:List bM}{o:Obj}{G:bM}(h:zQ w wr a s k n c gs A m cc)(hG:G.own wr w.heap.size)
  (hr:w2.ownsRow w.heap.size 209 1 (.slice A1 (m+1) c1) (m+1) (gs.map bM.sl++[G.sl]))
  (hg:(wr.alloc o).grownBy w2 (Value.slice A m cc).ownBlock):zQ w w2 a s k n c (gs++[G]) A1 (m+1) c1:=by
 have ho:=h.alloc o;have hG':G.own (wr.alloc o) w.heap.size:=hG.below (bR.alloc lr o);refine⟨by simp[h.len],by rw[List.map_append];simpa using hr,fun t ht=>?_,ho.dr.kept hg ?_,iL ho.gr hg (fun j hj=>(h.row.lt j hj).1),h.lt⟩
 ·rcases List.mem_append.1 ht with ht | ht
  ·exact(ho.grp t ht).other ho.row hg
  ·obtain rfl:=List.mem_singleton.1 ht;exact hG'.other ho.row hg
 ·intro e;have:=(h.row.lt a e.symm).1;have:=h.lt;omega
def Fc (L:List (List ee)):Nat:=(L.map List.length).sum
theorem Jj (L:List (List ee))(g:List ee):Fc (L++[g])=Fc L+g.length:=by simp[Fc]
theorem Mi (L:List (List ee)):wY L=true↔L.all (fun g=>g.all ee.right)=true/\Fc L<=64:=by unfold wY Fc;simp
def fV (r:Option (List (List ee)))(a:Nat)(s:BA)(w:World)(e:Ending)(w':World):Prop:=
 match r with
  | none=>w.grownBy w' (some a)/\e=.returned (.tuple #[.slice none 0 0,.bool false])/\∃ (p' n':Nat) (c':Int),DR w' a s p' n' c'
  | some L=>∃ (A:OA) (m cc:Nat) (gs:List bM) (p' n':Nat) (c':Int),e=.returned (.tuple #[.slice A m cc,.bool true])/\zQ w w' a s p' n' c' gs A m cc/\gs.map bM.pl=L/\(c'=0↔wY L=true)
theorem fV.no {r:Option (List (List ee))}(hr:r=none)(hg:w.grownBy w' (some a))(h:DR w' a s p' n' c'):fV r a s w (.returned (.tuple #[.slice none 0 0,.bool false])) w':=by
 subst hr;exact⟨hg,rfl,p',n',c',h⟩
theorem fV.yes {r:Option (List (List ee))}{gs:List bM}(hr:r=some (gs.map bM.pl))(h:zQ w w' a s p' n' c' gs A m cc)(hc:c'=0↔wY (gs.map bM.pl)=true):fV r a s w (.returned (.tuple #[.slice A m cc,.bool true])) w':=by
 subst hr;exact⟨A,m,cc,gs,p',n',c',rfl,h,rfl,hc⟩
theorem Fd (a:Nat)(s:BA)(w:World)(hs:s.size<=4294967280)(hG:qU a w)(h:DR w a s 0 0 0):Calls Tryz.prog 171 #[.pointer (some ⟨a,0,none⟩)] w (fV (mS (bl s)) a s w):=by
 obtain⟨i0,hi0,hz0,hz1,hz2⟩:=info_parts Mh;have HG:=ae hG;obtain⟨q,hq⟩:∃ q,0+aE aX ((bl s).drop 0)=q:=⟨_,rfl⟩
 have hB:=aK a s 0 0 0 w hs h;rw[hq] at hB;have SK:Hid (aO (bl s)=(bl s).drop q):=by have:=cg s 0;rw[hq,List.drop_zero] at this;exact this
 have hlt:=h.sz;generalize hRR:mS (bl s)=RR;clear hG h hq;go_in;go_wp2_with fail;refine hB.mono ?_;rintro e w1 ⟨rfl,hd,hg⟩;have S1:Hid (zQ w w1 a s q 0 0 [] none 0 0):=⟨rfl,World.ownsRow_nil _ _ _ _,by simp,hd,hg,hlt⟩
 have hqs:=hd.le;obtain⟨f1,y1,k1⟩:=hd.cells;have c0:=k1.c0;have c1:=k1.c1;clear hd hg hB k1;by_cases hqe:q=s.size
 ·have EN:Hid (RR=some (([]:List bM).map bM.pl)):=by
   show _=_;rw[<-hRR];unfold mS;rw[SK.out,lI s q (by omega)];rfl
  subst hqe;clear hRR;go_wp2;go_quiet (fail);go_wp2;go_ret2;exact fV.yes EN.out (S1.out.drewN _) (by simp[wY])
 ·have hqlt:q<s.size:=by omega
  have E0:Hid (RR=dV (s.size+1) [] ((bl s).drop q)):=by
   show _=_;rw[<-hRR];unfold mS;rw[SK.out,<-uv,ah,if_neg];rw[dN s q hqlt];simp
  have hq1:((q:Int)==(s.size:Int))=false:=by simp;omega
  have HF0:Hid (s.size-q<=s.size):=by show _<=_;omega
  clear hRR SK;go_wp2;go_quiet (fail);clear c0 c1 hq1 hqe;have S2:=ae (S1.out.drewN nq);clear S1;go_wp2;go_loopw [2,3,4] (fun s2 s3 l wr=>∃ (k m cc f n':Nat) (c':Int) (gs:List bM) (A:OA),s2=.slice none 0 0/\s3=.bool false/\l=.slice A m cc/\k<=s.size/\m<=k/\Hid (zQ w wr a s k n' c' gs A m cc)/\Hid (RR=dV (f+1) (gs.map bM.pl) ((bl s).drop k))/\Hid (s.size-k<=f)/\Hid (n'=Fc (gs.map bM.pl))/\Hid (c'=0↔(gs.map bM.pl).all (fun g=>g.all ee.right)=true/\n'<=64)) (fun _ _ _ wr=>s.size-zJ a wr)
  case atStart=>exact⟨q,0,0,s.size,0,0,[],none,rfl,rfl,rfl,hqs,z0,S2,E0,HF0,rfl,by show _↔_;simp⟩
  case round=>
   clear S2 E0 HF0;obtain⟨k,m,cc,f,n',c',gs,A,rfl,rfl,rfl,hk,hmk,HS,HE,HF,HN,HC⟩:=hrel;have HCN:Hid (c'=0->n'<=64):=by have:=HC.out;show _->_;intro h;exact(this.1 h).2
   have HFL:Hid (s.size-k<((bl s).drop k).length+1):=by show _<_;rw[List.length_drop,ah];omega
   go_wp2_with fail;refine(Fb _ a s k n' c' wr hs HFL.out (HG.out.kept HS.out.gr) HS.out.dr HCN.out).mono ?_;rintro e w2 ⟨hg,hpost⟩;cases ht:fh (((bl s).drop k).length+1) ((bl s).drop k) with
   | none=>
    rw[ht] at hpost;obtain⟨rfl,p',m',d',hd⟩:=hpost;have S2:=ae (HS.out.step hg hd);clear hd hg;have EN:Hid (RR=none):=by show _=_;rw[HE.out];exact xb ht
    clear ht;go_wp2;go_ret2;exact fV.no EN.out S2.out.gr S2.out.dr
   | some x=>
    obtain⟨g,r⟩:=x;rw[ht] at hpost;obtain⟨G,p',d',rfl,hGp,hGo,hd,hpp,hdr,hcc⟩:=hpost;have S2:=ae (HS.out.step hg hd);have HGO:=ae (hGo.base (lo':=w.heap.size) HS.out.gr.size);have hps':=hd.le;have N2:Hid (n'+g.length=Fc ((gs++[G]).map bM.pl)):=by
     have:=HN.out;show _=_;rw[List.map_append,List.map_cons,List.map_nil,Jj,hGp];omega
    have C2:Hid (d'=0↔((gs++[G]).map bM.pl).all (fun g=>g.all ee.right)=true/\n'+g.length<=64):=by
     have h1:=HC.out;show _↔_;rw[hcc,h1,List.map_append,List.all_append];simp only[List.map_cons,List.map_nil,List.all_cons,List.all_nil,Bool.and_true,Bool.and_eq_true,hGp];constructor
     ·rintro⟨⟨a1,a2⟩,a3,a4⟩;exact⟨⟨a1,a3⟩,a4⟩
     ·rintro⟨⟨a1,a3⟩,a4⟩;exact⟨⟨a1,by omega⟩,a3,a4⟩
    have HD:=ae hdr;have HT:=ae hGp;have HTM:=ae ht;have hmm:m<=4294967280:=by omega
    have HKK:Hid (k<p'):=hpp;generalize n'+g.length=n2 at S2 N2 C2 hd;obtain⟨gl,hgl⟩:∃ gl,G.ts.length=gl:=⟨_,rfl⟩
    have GSL:Hid (G.sl=.slice G.ga gl G.gc):=by show _=_;unfold bM.sl;rw[hgl]
    rw[hgl];clear ht hGp hGo hd hg hdr hcc hpp hgl HCN HFL;go_wp2_with (at_builtin;refine au _ rfl _ _ _ rfl w.heap.size 209 i0 _ 1 24 Tryz.underlying164 hi0 hz0 hz1 hz2 rfl (by omega) (.slice A m cc) m _ rfl (S2.out.row.alloc _) (w2.heap.size+1) (some ⟨w2.heap.size,0,none⟩) 1 1 [.slice G.ga gl G.gc] rfl (gK w2 _ _) (by simp[Value.oneCell']) (by simp only[maxLen];omega) (by omega) (by simp;have:=S2.out.gr.size;omega) ?_;intro v1 w3 o1 g1 a1);obtain⟨A3,c3,rfl⟩:=aN o1;have S3:=ae (S2.out.grow (G:=G) HGO.out (by rw[GSL.out];exact o1) g1);clear o1 g1 a1;obtain⟨f1,y1,k1⟩:=S3.out.dr.cells;have c0:=k1.c0;have c1:=k1.c1;clear k1;by_cases hpe:p'=s.size
    ·have EN:Hid (RR=some ((gs++[G]).map bM.pl)):=by
      show _=_;rw[HE.out,zH (g:=g) (by rw[HTM.out,<-HD.out,lI s p' (by omega)]),List.map_append];simp[HT.out]
     have CF:Hid (d'=0↔wY ((gs++[G]).map bM.pl)=true):=by show _↔_;rw[C2.out,Mi,N2.out]
     subst hpe;go_wp2;go_quiet (fail);go_wp2;go_ret2;exact fV.yes EN.out (S3.out.drewN _) CF.out
    ·have hp1:((p':Int)==(s.size:Int))=false:=by simp;omega
     have RE:Hid (r.isEmpty=false):=by show _=_;rw[<-HD.out,dN s p' (by omega)];rfl
     clear hpe;go_wp2;go_quiet (fail);have S4:=ae (S3.out.drewN nq);clear c0 c1 hp1 S3;cases hb:aA 44 ((bl s).drop p') with
     | false=>
      have HB:=ae hb;have EN:Hid (RR=none):=by show _=_;rw[HE.out];exact zI HTM.out RE.out (by rw[<-HD.out];exact hb)
      clear hb;go_wp2_with fail;refine(aG 44 a s p' _ d' _ hs S4.out.dr HB).mono ?_;rintro e w4 ⟨rfl,hd,hg⟩;have S5:=ae (S4.out.step hg hd);clear hd hg;go_wp2;go_ret2;exact fV.no EN.out S5.out.gr S5.out.dr
     | true=>
      have HB:=ae hb;obtain⟨k2,hk2⟩:∃ k2,p'+1+aE aX ((bl s).drop (p'+1))=k2:=⟨_,rfl⟩
      have EN:Hid (RR=dV (f-1+1) ((gs++[G]).map bM.pl) ((bl s).drop k2)):=by
       have hf:=HF.out;have h2:=HKK.out;show _=_;rw[HE.out,xc HTM.out (by rw[<-HD.out];exact hb),<-HD.out,List.drop_drop,cg,hk2,List.map_append,show f-1+1=f by omega];simp[HT.out]
      have HB2:=ae (fun (W:World) (hD:DR W a s (p'+1) n2 d')=>aK a s (p'+1) n2 d' W hs hD);rw[hk2] at HB2;have HK2:Hid (k<k2):=by have:=HKK.out;show _<_;omega
      have HF2:Hid (s.size-k2<=f-1):=by have:=HF.out;have:=HK2.out;show _<=_;omega
      have hmk2:m+1<=k2:=by have:=HK2.out;omega
      clear hb hk2;go_wp2_with fail;refine(aQ 44 a s p' _ d' _ hs S4.out.dr HB).mono ?_;rintro e w4 ⟨rfl,hd,hg⟩;have S5:=ae (S4.out.step hg hd);clear hd hg;go_wp2_with fail;refine(HB2.out w4 S5.out.dr).mono ?_;rintro e w5 ⟨rfl,hd,hg⟩;have S6:=ae (S5.out.step hg hd);clear hd hg;have hk2s:=S6.out.dr.le;go_wp2;go_roundw
      case rel=>exact⟨k2,m+1,c3,f-1,n2,d',gs++[G],A3,rfl,rfl,rfl,hk2s,hmk2,S6,EN,HF2,N2,C2⟩
      case measure=>exact DR.dec S6.out.dr HS.out.dr HK2.out
def Fe (gs:List bM):Prop:=∀ g∈gs,∀ t∈g.ts,t.archs.length<=t.ac
theorem Jk {gs:List bM}(hg:∀ g∈gs,g.own w lo):Fe gs:=fun g hm t ht=>mV ((hg g hm).archs t ht)
structure ju (w:World) (lo:Nat) (A:OA) (n c:Nat) (gs:List bM):Prop where
 len:gs.length=n
 row:w.ownsRow lo 209 1 (.slice A n c) n (gs.map bM.sl)
 grp:∀ g∈gs,g.own w lo
theorem ju.ok {c:Nat}{gs:List bM}(h:ju w lo A n c gs):pX w A gs:=
 ⟨by rw[h.len];exact bD h.row,fun g hm=>bD (h.grp g hm).row,fun g hm t ht=>bD ((h.grp g hm).archs t ht)⟩
theorem ju.cap {c:Nat}{gs:List bM}(h:ju w lo A n c gs):Fe gs:=Jk h.grp
theorem ju.kept {g:Nat}{c:Nat}{gs:List bM}(h:ju w lo A n c gs)(hg:g<lo)(hw:w.grownBy w' (some g)):ju w' lo A n c gs:=⟨h.len,aP h.row hg hw,fun x hx=>(h.grp x hx).kept hg hw⟩
theorem ju.below {c:Nat}{gs:List bM}(h:ju w lo A n c gs)(hb:Below w.heap.size w w'):ju w' lo A n c gs:=⟨h.len,aL h.row hb,fun x hx=>(h.grp x hx).below hb⟩
def Ff (r:Option (List (List ee)))(w:World)(e:Ending)(w':World):Prop:=
 ∃ (A:OA) (n c:Nat) (f:BA) (a code:Int),e=.returned (.tuple #[.slice A n c,fj f a code])/\Below w.heap.size w w' /\
  (match r with
   | some L=>code=0/\∃ gs:List bM,gs.map bM.pl=L/\ju w' w.heap.size A n c gs
   | none=>code≠0/\A=none/\n=0)
theorem BT (h:mS l=none):iK l=none:=by unfold iK;rw[h]
theorem Fg {L:List (List ee)}(h:mS l=some L)(h1:¬ wY L=true):iK l=none:=by unfold iK;rw[h];simp[h1]
theorem BU {L:List (List ee)}(h:mS l=some L)(h1:wY L=true):iK l=some L:=by unfold iK;rw[h];simp[h1]
theorem Fh (s:BA)(w:World)(hG:Gl w)(hs:s.size<=4294967280):Calls Tryz.prog 123 #[.string s] w (Ff (iK (bl s)) w):=by
 obtain⟨W1,hW1⟩:∃ W1,(w.alloc (.cells #[.string ⟨#[]⟩,.int .i64 0,.int .i64 0] 163)).alloc (.cells #[.string s,.int .i64 0,.int .i64 0,.string ⟨#[]⟩,.int .i64 0,.int .i64 0] 205)=W1:=⟨_,rfl⟩
 have B1:Hid (Below w.heap.size w W1):=by rw[<-hW1];exact(bR.alloc lr _).alloc (by simp) _
 have K1:Hid (ax W1 w.heap.size [.string ⟨#[]⟩,.int .i64 0,.int .i64 0]):=by rw[<-hW1];exact(ax.new w [.string ⟨#[]⟩,.int .i64 0,.int .i64 0] _).alloc _
 have D1:Hid (DR W1 (w.heap.size+1) s 0 0 0):=by
  refine⟨⟨⟨#[]⟩,0,?_⟩,z0,lr⟩;have:=ax.new (w.alloc (.cells #[.string ⟨#[]⟩,.int .i64 0,.int .i64 0] 163)) [.string s,.int .i64 0,.int .i64 0,.string ⟨#[]⟩,.int .i64 0,.int .i64 0] 205;rw[<-hW1];simpa using this
 have HG:Hid (qU (w.heap.size+1) W1):=⟨w,hG,B1.out,Nat.le_succ _⟩
 have hz1:w.heap.size<W1.heap.size:=K1.out.sz;clear hG;go_in;go_wp2_with fail;clear hW1;refine(Fd (w.heap.size+1) s W1 hs HG.out D1.out).mono ?_;rintro e w2 hpost;cases hf:mS (bl s) with
 | none=>
  rw[hf] at hpost;obtain⟨hg,rfl,p',n',c',hd⟩:=hpost;have EN:=ae (BT hf);have K2:=ae (K1.out.grownBy hg (by intro e;injection e with e;omega));have B2:=ae (dU B1.out hg (Nat.le_succ _));obtain⟨f,y,k⟩:=hd.cells;have c1:=k.c1;have r0:=K2.out.cell 0 _ rfl;have r1:=K2.out.cell 1 _ rfl;have r2:=K2.out.cell 2 _ rfl;have fr0:=K2.out.free 0 (by simp);have fr1:=K2.out.free 1 (by simp);have fr2:=K2.out.free 2 (by simp);clear hf hg hd k;go_wp2;go_region;go_wp2_with fail;refine bodyPost_ret (v:=.tuple #[.slice none 0 0,.agg #[.string ⟨#[]⟩,.int .i64 p',.int .i64 3]]) (by simp[results,Tryz.results123,go_sem,r0,r1,r2]) rfl ?_;refine⟨none,0,0,⟨#[]⟩,p',3,rfl,?_,by rw[EN.out];exact⟨by decide,rfl,rfl⟩⟩;exact(ai (ai (ai B2.out lr _) lr _) lr _).drew
 | some L=>
  rw[hf] at hpost;obtain⟨A,m,cc,gs,p',n',c',rfl,hS,hL,hcc⟩:=hpost;have HS:=ae hS;have K2:=ae (K1.out.grownBy hS.gr (by intro e;injection e with e;omega));have B2:=ae (dU B1.out hS.gr (Nat.le_succ _));obtain⟨f,y,k⟩:=hS.dr.cells;have c3:=k.c3;have c4:=k.c4;have c5:=k.c5;have r0:=K2.out.cell 0 _ rfl;have r1:=K2.out.cell 1 _ rfl;have r2:=K2.out.cell 2 _ rfl;have fr0:=K2.out.free 0 (by simp);have fr1:=K2.out.free 1 (by simp);have fr2:=K2.out.free 2 (by simp);by_cases hc:c'=0
  ·have EN:=ae (BU hf (hcc.1 hc));have HL:=ae hL;subst hc;have hml:=hS.len;have hlo:w.heap.size<=W1.heap.size:=Nat.le_of_lt hz1;have F3:Hid (ju (((w2.setCell ⟨w.heap.size,0,none⟩ (.string ⟨#[]⟩)).setCell ⟨w.heap.size,1,none⟩ (.int .i64 0)).setCell ⟨w.heap.size,2,none⟩ (.int .i64 0)) w.heap.size A m cc gs):=by
    refine⟨hml,?_,?_⟩
    ·exact aY (aP (aP (aP hS.row hz1 (aW _)) hz1 (aW _)) hz1 (aW _)) hlo
    ·exact fun g hg=>((((hS.grp g hg).kept hz1 (aW _)).kept hz1 (aW _)).kept hz1 (aW _)).base hlo
   clear hf hL hcc k hS hml;go_wp2_with fail;refine bodyPost_ret (v:=.tuple #[.slice A m cc,.agg #[.string ⟨#[]⟩,.int .i64 0,.int .i64 0]]) (by simp[results,Tryz.results123,go_sem,r0,r1,r2]) rfl ?_;refine⟨A,m,cc,⟨#[]⟩,0,0,rfl,?_,?_⟩
   ·exact ai (ai (ai B2.out lr _) lr _) lr _
   ·rw[EN.out];exact⟨rfl,gs,HL.out,F3.out⟩
  ·have EN:=ae (Fg hf (fun h=>hc (hcc.2 h)));have HC:=wQ.mk hc;have hc1:(c' != 0)=true:=by simp[hc]
   clear hf hL hcc k hS hc;go_wp2;go_region;go_wp2_with fail;refine bodyPost_ret (v:=.tuple #[.slice none 0 0,.agg #[.string f,.int .i64 y,.int .i64 c']]) (by simp[results,Tryz.results123,go_sem,r0,r1,r2]) rfl ?_;refine⟨none,0,0,f,y,c',rfl,?_,by rw[EN.out];exact⟨HC.out,rfl,rfl⟩⟩;exact(ai (ai (ai B2.out lr _) lr _) lr _).drew
end
end Go.Proofs.YtlglfpbhapmhiaaGreatDoor
