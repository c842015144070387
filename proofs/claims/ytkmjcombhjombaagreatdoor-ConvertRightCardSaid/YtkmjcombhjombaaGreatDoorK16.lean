/- A part of the proof. -/
import Derived.Test.YtkmjcombhjombaaGreatDoorK11
import Derived.Test.YtkmjcombhjombaaGreatDoorK14
import Derived.Test.YtkmjcombhjombaaGreatDoorK15
set_option maxRecDepth 100000
set_option maxHeartbeats 20000000
set_option linter.unusedVariables false
set_option linter.unusedSimpArgs false
namespace Go.Proofs.YtkmjcombhjombaaGreatDoor
variable{s:BA}{c c':Int}{a cc k m n n' p p':Nat}{A:Option Addr}{v1 v2:Value}{w w' w2 wr:World}
section
open Go.RowKit Go.Deep
structure TB (w:World) (b:Nat) (v0 v1 v2 v3 v4:Value):Prop where
 c0:w.cell? ⟨b,0,none⟩=some v0
 c1:w.cell? ⟨b,1,none⟩=some v1
 c2:w.cell? ⟨b,2,none⟩=some v2
 c3:w.cell? ⟨b,3,none⟩=some v3
 c4:w.cell? ⟨b,4,none⟩=some v4
 f0:w.frozen? ⟨b,0,none⟩=false
 f1:w.frozen? ⟨b,1,none⟩=false
 f2:w.frozen? ⟨b,2,none⟩=false
 f3:w.frozen? ⟨b,3,none⟩=false
 f4:w.frozen? ⟨b,4,none⟩=false
theorem jh.five {b:Nat}{v0 v3 v4:Value}(h:jh w b [v0,v1,v2,v3,v4]):TB w b v0 v1 v2 v3 v4:=
 ⟨h.cell 0 _ rfl,h.cell 1 _ rfl,h.cell 2 _ rfl,h.cell 3 _ rfl,h.cell 4 _ rfl,h.free 0 (by simp),h.free 1 (by simp),h.free 2 (by simp),h.free 3 (by simp),h.free 4 (by simp)⟩
theorem VI {l v r:LU}{op:Nat}(h:CO l=some (op,v,r)):op≠0:=by
 unfold CO lf at h;split at h
 ·cases h
 ·rename_i y;split at h
  ·cases h
  ·unfold sI at h;split at h
   ·injection h with h;injection h with h;subst h;exact y
   ·cases h
theorem rQ.no {r:Option (kP×LU)}{T:kX}{e:Ending}(hr:r=none)(hg:w.grownBy w' (some a))(h:DR w' a s p' n' c')(he:e=.returned (.tuple #[T.val,.bool false])):rQ r a s p n c w e w':=by
 subst hr;exact⟨hg,T,p',n',c',he,h⟩
theorem SS (a:Nat)(s:BA)(p n:Nat)(c:Int)(w:World)(hs:s.size<=4294967280)(hG:zq a w)(h:DR w a s p n c):Calls Tryz.prog 198 #[.pointer (some ⟨a,0,none⟩)] w (rQ (oS ((bl s).drop p)) a s p n c w):=by
 have HG:=iV hG;obtain⟨f,y,k⟩:=(h.alloc (.cells #[.string ⟨#[]⟩,.int .i64 0,.string ⟨#[]⟩,.string ⟨#[]⟩,.slice none 0 0] 196)).cells;have c1:=k.c1;have T0:Hid (Bw w (w.alloc (.cells #[.string ⟨#[]⟩,.int .i64 0,.string ⟨#[]⟩,.string ⟨#[]⟩,.slice none 0 0] 196)) a s p n c [.string ⟨#[]⟩,.int .i64 0,.string ⟨#[]⟩,.string ⟨#[]⟩,.slice none 0 0]):=Bw.start h _ _;have aC:=h.nle;have au:=h.le;clear hG h k;generalize af:oS ((bl s).drop p)=RR;cases ht:uq vX ((bl s).drop p) with
 | none=>
  have EN:Hid (RR=none):=by show _=_;rw[<-af];exact aaa ht
  have HT:=iV ht;clear ht af;go_in;go_wp2_with fail;refine(lX KZ a s p n c _ hs T0.out.dr HT).mono ?_;rintro e w1 ⟨rfl,D,F⟩;have T1:=iV (T0.out.step F D);clear D F c1 T0;obtain⟨R,z1,X,z3,Y,y0,y1,y2,y3,y4⟩:=T1.out.tb.five;go_wp2_with fail;refine bodyPost_ret (v:=.tuple #[.agg #[.string ⟨#[]⟩,.int .i64 0,.string ⟨#[]⟩,.string ⟨#[]⟩,.slice none 0 0],.bool false]) (by simp(maxDischargeDepth:=6) [results,Tryz.results198,go_sem,R,z1,X,z3,Y]) rfl ?_;have Z:=Bw.same (T1.out.set 0 (by simp) (.string ⟨#[]⟩));exact rQ.no (T:=⟨⟨#[]⟩,0,⟨#[]⟩,⟨#[]⟩,none,0,[]⟩) EN.out Z.gr Z.dr rfl
 | some x=>
 obtain⟨nm,r⟩:=x;have ae:=iV ht;obtain⟨t1,t2,t3,t4⟩:=nt au ht;obtain⟨I,am⟩:∃ I,p+nm.length=I:=⟨_,rfl⟩
 have hU:=lA KZ nm r a s p n c _ hs T0.out.dr ae;rw[am] at hU t2 t4;have PP:Hid (p<I):=by show _<_;omega
 have aa:Hid ((bl s).drop I=r):=t2;have av:n<I:=by omega
 have aG:(ke nm).size<=4294967280:=by rw[kL];omega
 have HR:=iV af;clear ht t1 t2 t3 am af;go_in;go_wp2_with fail;refine hU.mono ?_;rintro e w1 ⟨rfl,D,F⟩;have T1:=iV (T0.out.step F D);clear D F c1 T0 hU;obtain⟨R,z1,X,z3,Y,y0,y1,y2,y3,y4⟩:=T1.out.tb.five;have T2:Hid (Bw w (w1.setCell ⟨w.heap.size,0,none⟩ (.string (ke nm))) a s I n c [.string (ke nm),.int .i64 0,.string ⟨#[]⟩,.string ⟨#[]⟩,.slice none 0 0]):=T1.out.set 0 (by simp) (.string (ke nm));obtain⟨f2,aF,k2⟩:=T2.out.dr.cells;have c2:=k2.c2;have ax:=k2.f2;clear k2 z1 X z3 Y y1 y2 y3 y4;have T3:Hid (Bw w ((w1.setCell ⟨w.heap.size,0,none⟩ (.string (ke nm))).setCell ⟨a,2,none⟩ (.int .i64 ((n:Int)+1))) a s I (n+1) c [.string (ke nm),.int .i64 0,.string ⟨#[]⟩,.string ⟨#[]⟩,.slice none 0 0]):=T2.out.step (jO _) (T2.out.dr.count av);obtain⟨f3,aD,k3⟩:=T3.out.dr.cells;have d2:=k3.c2;clear k3;go_upto_if 30 with(fail)
 clear R y0 c2 ax d2 T1 T2;go_cut [] (fun wx=>∃ c1:Int,Hid (Bw w wx a s I (n+1) c1 [.string (ke nm),.int .i64 0,.string ⟨#[]⟩,.string ⟨#[]⟩,.slice none 0 0])/\Hid (c1=0↔c=0/\n+1<=64))
 case first=>
  by_cases aE:64<n+1
  ·have aB:decide ((64:Int)<(n:Int)+1)=true:=dT (by omega);have NC:Hid (sJ c 4=0↔c=0/\n+1<=64):=by show _↔_;rw[oB];constructor<;>intro h<;>omega
   go_wp2_with fail;refine(pI _ 4 a s I (n+1) c _ T3.out.dr).mono ?_;rintro e w3 ⟨rfl,D,F⟩;have T4:=iV (T3.out.step F D);clear D F;go_wp2;go_meet;exact⟨_,T4,NC⟩
  ·have aB:decide ((64:Int)<(n:Int)+1)=false:=dF (by omega);have NC:Hid (c=0↔c=0/\n+1<=64):=by show _↔_;constructor<;>intro h<;>omega
   go_wp2;go_meet;exact⟨_,T3,NC⟩
 case rest=>
 obtain⟨c1,T4,C1⟩:=hcut;clear T3;have R:=T4.out.tb.five.c0;have hN:=pE (ke nm) wc (by omega);rw[lS] at hN;obtain⟨bn,al⟩:∃ bn,jZ nm=bn:=⟨_,rfl⟩
 rw[al] at hN;have aj:=iV al;clear al;go_wp2_with fail;refine hN.mono ?_;rintro e w' ⟨rfl,rfl⟩;clear hN;go_upto_if 38 with(fail)
 clear R;go_cut [] (fun wx=>∃ c2:Int,Hid (Bw w wx a s I (n+1) c2 [.string (ke nm),.int .i64 0,.string ⟨#[]⟩,.string ⟨#[]⟩,.slice none 0 0])/\Hid (c2=0↔c1=0/\jZ nm=true))
 case first=>
  cases bn with
  | true=>
   go_wp2;go_meet;exact⟨c1,T4,by simp[Hid,aj.out]⟩
  | false=>
   have NC:Hid (sJ c1 10=0↔c1=0/\jZ nm=true):=by show _↔_;rw[oB,aj.out];simp
   go_wp2_with fail;refine(pI _ 10 a s I (n+1) c1 _ T4.out.dr).mono ?_;rintro e w3 ⟨rfl,D,F⟩;have T5:=iV (T4.out.step F D);clear D F;go_wp2;go_meet;exact⟨_,T5,NC⟩
 case rest=>
 obtain⟨c2,T5,C2⟩:=hcut;clear T4 aj;obtain⟨b,hb⟩:∃ b,jl 58 ((bl s).drop I)=b:=⟨_,rfl⟩
 have U:=iV hb;clear hb;go_wp2_with fail;refine(zr 58 a s I (n+1) c2 _ hs T5.out.dr b U).mono ?_;rintro e w5 ⟨rfl,D,F⟩;have T6:=iV (T5.out.step F D);clear D F T5;go_upto_if 43 with(fail)
 go_cut [3] (fun v wx=>∃ (Q:BA) (p3:Nat) (c3:Int),v=.bool true/\Hid (Bw w wx a s p3 (n+1) c3 [.string (ke nm),.int .i64 0,.string ⟨#[]⟩,.string Q,.slice none 0 0])/\Hid (qS r=some (bl Q,(bl s).drop p3))/\Hid (I<=p3)/\Hid (c3=0↔c2=0/\(bl Q=[]\/mH (bl Q)=true)))
 case first=>
  cases b with
  | false=>
   have EQ:Hid (qS r=some (bl ⟨#[]⟩,(bl s).drop I)):=by show _=_;rw[aa.out];exact VF (by rw[<-aa.out];exact U.out)
   go_wp2;go_meet;exact⟨⟨#[]⟩,I,c2,rfl,T6.out,EQ,lr,by simp[Hid];intro _;left;rfl⟩
  | true=>
   cases ht:uq rk ((bl s).drop (I+1)) with
   | none=>
    have HT:=iV ht;have EN:Hid (RR=none):=by show _=_;rw[<-HR.out];exact aab ae.out (by rw[Hs (by rw[<-aa.out];exact U.out),<-aa.out,List.drop_drop];exact ht)
    clear ht;go_wp2_with fail;refine(qX a s (I+1) (n+1) c2 _ hs T6.out.dr HT).mono ?_;rintro e w6 ⟨rfl,D,F⟩;have T7:=iV (T6.out.step F D);clear D F;obtain⟨R,z1,X,z3,Y,y0,y1,y2,y3,y4⟩:=T7.out.tb.five;go_wp2_with fail;refine bodyPost_ret (v:=.tuple #[.agg #[.string (ke nm),.int .i64 0,.string ⟨#[]⟩,.string ⟨#[]⟩,.slice none 0 0],.bool false]) (by simp(maxDischargeDepth:=6) [results,Tryz.results198,go_sem,R,z1,X,z3,Y]) rfl ?_;have Z:=Bw.same (T7.out.set 3 (by simp) (.string ⟨#[]⟩));exact rQ.no (T:=⟨ke nm,0,⟨#[]⟩,⟨#[]⟩,none,0,[]⟩) EN.out Z.gr Z.dr rfl
   | some x=>
    obtain⟨q,r1⟩:=x;have HT:=iV ht;have an:=T6.out.dr.le;obtain⟨t1,t2,t3,t4⟩:=nt (p:=I+1) an ht;have EQ:Hid (qS r=some (bl (ke q),(bl s).drop (I+1+q.length))):=by show _=_;rw[Hs (by rw[<-aa.out];exact U.out),<-aa.out,List.drop_drop,lS,t2];exact ht
    have Q0:Hid (q≠[]):=by intro e;rw[e] at t3;simp at t3
    clear ht t1 t2 t3 an;go_wp2_with fail;refine(qY q r1 a s (I+1) (n+1) c2 _ hs T6.out.dr HT).mono ?_;rintro e w6 ⟨rfl,⟨c3,D,M⟩,F⟩;have T7:=iV (T6.out.step F D);clear D F;have ad:=iV M;clear M;obtain⟨R,z1,X,z3,Y,y0,y1,y2,y3,y4⟩:=T7.out.tb.five;go_wp2;go_meet;refine⟨ke q,I+1+q.length,c3,rfl,T7.out.set 3 (by simp) (.string (ke q)),EQ,(by show _<=_;omega),?_⟩;have h1:=ad.out;have h2:=Q0.out;show _↔_;rw[lS];simp[h1,h2]
 case rest=>
 obtain⟨Q,p3,c3,rfl,T7,EQ,P3,C3⟩:=hcut;clear T6 U;obtain⟨N,ah⟩:∃ N,p3+jo jN ((bl s).drop p3)=N:=⟨_,rfl⟩
 have ak:Hid (jq ((bl s).drop p3)=(bl s).drop N):=by show _=_;rw[kW,ah]
 have P4:Hid (I<=N):=by have:=P3.out;show _<=_;omega
 have ai:=jx a s p3 (n+1) c3 wc hs T7.out.dr;rw[ah] at ai;clear ah;obtain⟨b,hb⟩:∃ b,jl 40 ((bl s).drop N)=b:=⟨_,rfl⟩
 have U:=iV hb;clear hb;go_wp2_with fail;refine ai.mono ?_;rintro e w7 ⟨rfl,D,F⟩;have T8:=iV (T7.out.step F D);clear D F ai T7;go_wp2_with fail;refine(zr 40 a s N (n+1) c3 _ hs T8.out.dr b U).mono ?_;rintro e w8 ⟨rfl,D,F⟩;have T9:=iV (T8.out.step F D);clear D F T8;go_upto_if 56 with(fail)
 go_cut [3] (fun v wx=>∃ (op:Nat) (V:BA) (H:Nat) (c5:Int),v=.bool true/\Hid (Bw w wx a s H (n+1) c5 [.string (ke nm),.int .i64 op,.string V,.string Q,.slice none 0 0])/\Hid (qp ((bl s).drop N)=some (op,bl V,(bl s).drop H))/\Hid (N<=H)/\Hid (c5=0↔c3=0/\(op=0\/kf 1 V=0)))
 case first=>
  cases b with
  | false=>
   have ER:Hid (qp ((bl s).drop N)=some (0,bl ⟨#[]⟩,(bl s).drop N)):=VG U.out;go_wp2;go_meet;exact⟨0,⟨#[]⟩,N,c3,rfl,T9.out,ER,lr,by simp[Hid]⟩
  | true=>
   have ER:Hid (qp ((bl s).drop N)=CO ((bl s).drop (N+1))):=by show _=_;rw[SQ U.out,List.drop_drop]
   go_wp2_with fail;refine(Gk a s (N+1) (n+1) c3 _ hs (HG.out.kept T9.out.gr) T9.out.dr).mono ?_;rintro e w9 ⟨F,z⟩;cases hr:CO ((bl s).drop (N+1)) with
   | none=>
    rw[hr] at z;obtain⟨rfl,p',c',D⟩:=z;have J:=iV (T9.out.step F D);clear D F;have EN:Hid (RR=none):=by show _=_;rw[<-HR.out];exact aac ae.out EQ.out (by rw[ak.out,ER.out,hr])
    clear hr;obtain⟨R,z1,X,z3,Y,y0,y1,y2,y3,y4⟩:=J.out.tb.five;go_wp2_with fail;refine bodyPost_ret (v:=.tuple #[.agg #[.string (ke nm),.int .i64 0,.string ⟨#[]⟩,.string Q,.slice none 0 0],.bool false]) (by simp(maxDischargeDepth:=6) [results,Tryz.results198,go_sem,R,z1,X,z3,Y]) rfl ?_;have Z:=Bw.same ((J.out.set 1 (by simp) (.int .i64 0)).set 2 (by simp) (.string ⟨#[]⟩));exact rQ.no (T:=⟨ke nm,0,⟨#[]⟩,Q,none,0,[]⟩) EN.out Z.gr Z.dr rfl
   | some x=>
    obtain⟨op,v,r2⟩:=x;rw[hr] at z;obtain⟨rfl,H,c5,ay,D,ac,M⟩:=z;have J:=iV (T9.out.step F D);clear D F;have aq:Hid (qp ((bl s).drop N)=some (op,bl (ke v),(bl s).drop H)):=by show _=_;rw[ER.out,hr,lS,ac]
    have az:Hid (op≠0):=VI hr;have ad:=iV M;have P5:Hid (N<=H):=by show _<=_;omega
    clear hr ac M ay;obtain⟨R,z1,X,z3,Y,y0,y1,y2,y3,y4⟩:=J.out.tb.five;go_wp2;go_meet;refine⟨op,ke v,H,c5,rfl,(J.out.set 1 (by simp) (.int .i64 op)).set 2 (by simp) (.string (ke v)),aq,P5,?_⟩;have h1:=ad.out;have h2:=az.out;show _↔_;simp[h1,h2]
 case rest=>
 obtain⟨op,V,H,c5,rfl,J,ER,P5,C5⟩:=hcut;clear T9 U;obtain⟨b,hb⟩:∃ b,jl 91 ((bl s).drop H)=b:=⟨_,rfl⟩
 have U:=iV hb;clear hb;go_wp2_with fail;refine(zr 91 a s H (n+1) c5 _ hs J.out.dr b U).mono ?_;rintro e ar ⟨rfl,D,F⟩;have ab:=iV (J.out.step F D);clear D F J;go_upto_if 71 with(fail)
 go_cut [3] (fun v wx=>∃ (A:Option Addr) (O:List BA) (cc p6:Nat) (c6:Int),v=.bool true/\Hid (Bw w wx a s p6 (n+1) c6 [.string (ke nm),.int .i64 op,.string V,.string Q,.slice A O.length cc])/\Hid (wx.ownsRow (w.heap.size+1) 9 1 (.slice A O.length cc) O.length (strCells O))/\Hid (oW ((bl s).drop H)=some (O.map bl,(bl s).drop p6))/\Hid (H<=p6)/\Hid (c6=0↔c5=0/\((O.map bl).all fun x=>mH (kY x))=true))
 case first=>
  cases b with
  | false=>
   have EA:Hid (oW ((bl s).drop H)=some (([]:List BA).map bl,(bl s).drop H)):=SR U.out;go_wp2;go_meet;exact⟨none,[],0,H,c5,rfl,ab.out,World.ownsRow_nil _ _ _ _,EA,lr,by simp[Hid]⟩
  | true=>
   have EA:Hid (oW ((bl s).drop H)=oA (((bl s).drop H).length+1) (jq ((bl s).drop (H+1)))):=by show _=_;rw[Ou U.out,List.drop_drop]
   have HF:Hid (s.size-(H+1)<((bl s).drop H).length+1):=by show _<_;rw[List.length_drop,iX];omega
   have ao:w.heap.size+1<=ar.heap.size:=ab.out.tb.sz;go_wp2_with fail;refine(Ot _ a s (H+1) (n+1) c5 _ hs HF.out ab.out.dr).mono ?_;rintro e aH z;cases hr:oA (((bl s).drop H).length+1) (jq ((bl s).drop (H+1))) with
   | none=>
    rw[hr] at z;obtain⟨F,rfl,p',c',D⟩:=z;have K:=iV (ab.out.step F D);clear D F;have EN:Hid (RR=none):=by show _=_;rw[<-HR.out];exact aad ae.out EQ.out (by rw[ak.out];exact ER.out) (by rw[EA.out,hr])
    clear hr;obtain⟨R,z1,X,z3,Y,y0,y1,y2,y3,y4⟩:=K.out.tb.five;go_wp2_with fail;refine bodyPost_ret (v:=.tuple #[.agg #[.string (ke nm),.int .i64 op,.string V,.string Q,.slice none 0 0],.bool false]) (by simp(maxDischargeDepth:=6) [results,Tryz.results198,go_sem,R,z1,X,z3,Y]) rfl ?_;have Z:=Bw.same (K.out.set 4 (by simp) (.slice none 0 0));exact rQ.no (T:=⟨ke nm,op,V,Q,none,0,[]⟩) EN.out Z.gr Z.dr rfl
   | some x=>
    obtain⟨L,r3⟩:=x;rw[hr] at z;obtain⟨A,m,cc,O,p6,c6,rfl,hS,rfl,ap,ac,M⟩:=z;obtain rfl:=hS.len;have K:=iV (ab.out.step hS.gr hS.dr);have ag:=iV (jK hS.row ao);have aA:Hid (oW ((bl s).drop H)=some (O.map bl,(bl s).drop p6)):=by show _=_;rw[EA.out,hr,ac]
    have ad:=iV M;have P6:Hid (H<=p6):=by show _<=_;omega
    clear hr ac M ap hS;obtain⟨R,z1,X,z3,Y,y0,y1,y2,y3,y4⟩:=K.out.tb.five;go_wp2;go_meet;exact⟨A,O,cc,p6,c6,rfl,K.out.set 4 (by simp) (.slice A O.length cc),pY ag.out (Nat.lt_succ_self _),aA,P6,ad.out⟩
 case rest=>
 obtain⟨A,O,cc,p6,c6,rfl,K,ag,EA,P6,C6⟩:=hcut;clear ab U;have EN:Hid (RR=some (⟨nm,bl Q,op,bl V,O.map bl⟩,(bl s).drop p6)):=by show _=_;rw[<-HR.out];exact aae ae.out EQ.out (by rw[ak.out];exact ER.out) EA.out
 have CF:Hid (c6=0↔c=0/\kP.right ⟨nm,bl Q,op,bl V,O.map bl⟩=true/\n+1<=64):=by
  have h1:=C1.out;have h2:=C2.out;have h3:=C3.out;have h5:=C5.out;have h6:=C6.out;show _↔_;rw[VH,h6,h5,h3,h2,h1];simp only[oQ];constructor
  ·rintro⟨⟨⟨⟨⟨a1,a2⟩,a3⟩,a4⟩,a5⟩,a6⟩;exact⟨a1,⟨a3,a4,a6,a5⟩,a2⟩
  ·rintro⟨a1,⟨a3,a4,a6,a5⟩,a2⟩;exact⟨⟨⟨⟨⟨a1,a2⟩,a3⟩,a4⟩,a5⟩,a6⟩
 have PF:Hid (p<p6):=by have h1:=PP.out;have h2:=P4.out;have h3:=P5.out;have h4:=P6.out;show _<_;omega
 clear C1 C2 C3 C5 C6;obtain⟨R,z1,X,z3,Y,y0,y1,y2,y3,y4⟩:=K.out.tb.five;go_wp2_with fail;refine bodyPost_ret (v:=.tuple #[.agg #[.string (ke nm),.int .i64 op,.string V,.string Q,.slice A O.length cc],.bool true]) (by simp(maxDischargeDepth:=6) [results,Tryz.results198,go_sem,R,z1,X,z3,Y]) rfl ?_;have Z:=Bw.same K.out;have RZ:=pY (j:=4) (v:=.slice A O.length cc) (pY (j:=3) (v:=.string Q) (pY (j:=2) (v:=.string V) (pY (j:=1) (v:=.int .i64 op) (pY (j:=0) (v:=.string (ke nm)) ag.out (Nat.lt_succ_self _)) (Nat.lt_succ_self _)) (Nat.lt_succ_self _)) (Nat.lt_succ_self _)) (Nat.lt_succ_self _);rw[EN.out];refine⟨Z.gr,⟨ke nm,op,V,Q,A,cc,O⟩,p6,c6,rfl,by simp only[kX.pl,lS],jK RZ (Nat.le_succ _),Z.dr,PF.out,rfl,CF.out⟩
theorem Hv:(Tryz.prog.info? 196).map (fun i=>(i.zero,i.size,i.bytes))=some (some (.agg #[.string ⟨#[]⟩,.int .i64 0,.string ⟨#[]⟩,.string ⟨#[]⟩,.slice none 0 0]),5,80):=by kernel_rfl
theorem Ll:(Tryz.prog.info? 198).map (fun i=>(i.zero,i.size,i.bytes))=some (some (.slice none 0 0),1,24):=by kernel_rfl
theorem wT (w:World)(t:TypeId)(a b c d e:Value):oP (w.alloc (.cells #[a,b,c,d,e] t)) (w.heap.size+1) 5 (some ⟨w.heap.size,0,none⟩) 1 [a,b,c,d,e]:=by
 refine⟨rfl,fun _=>⟨_,rfl,by simp,fun j u y=>?_⟩⟩
 match j,y with
 | 0,y=>simp at y;subst y;simp[Addr.add]
 | 1,y=>simp at y;subst y;simp[Addr.add]
 | 2,y=>simp at y;subst y;simp[Addr.add]
 | 3,y=>simp at y;subst y;simp[Addr.add]
 | 4,y=>simp at y;subst y;simp[Addr.add]
 | j+5,y=>simp at y
theorem jH {lo lo':Nat}{e1 e2:TypeId}{z1 z2 n1 n2:Nat}{x1 x2:List Value}(h1:w.ownsRow lo e1 z1 v1 n1 x1)(h2:w.ownsRow lo' e2 z2 v2 n2 x2)(hne:e1≠e2)(hg:w.grownBy w2 v2.ownBlock):w2.ownsRow lo e1 z1 v1 n1 x1:=
 h1.kept hg (rU h1 h2 hne)
structure U5 (w wr:World) (a:Nat) (s:BA) (k n:Nat) (c:Int) (ts:List kX) (A:Option Addr) (m cc:Nat):Prop where
 len:ts.length=m
 row:wr.ownsRow w.heap.size 196 5 (.slice A m cc) m (ts.flatMap kX.cells)
 archs:∀ t∈ts,t.own wr w.heap.size
 dr:DR wr a s k n c
 gr:w.grownBy wr (some a)
 lt:a<w.heap.size
theorem U5.step {k':Nat}{ts:List kX}(h:U5 w wr a s k n c ts A m cc)(hg:wr.grownBy w' (some a))(hd:DR w' a s k' n' c'):U5 w w' a s k' n' c' ts A m cc:=
 ⟨h.len,jS h.row h.lt hg,fun t ht=>(h.archs t ht).kept h.lt hg,hd,ja h.gr hg,h.lt⟩
theorem U5.alloc {ts:List kX}(h:U5 w wr a s k n c ts A m cc)(o:Obj):U5 w (wr.alloc o) a s k n c ts A m cc:=
 ⟨h.len,h.row.alloc o,fun t ht=>(h.archs t ht).below (bR.alloc lr o),h.dr.alloc o,pB h.gr o,h.lt⟩
theorem U5.grow {ts:List kX}{A1:Option Addr}{c1:Nat}{o1 o2:Obj}{T:kX}(h:U5 w wr a s k n c ts A m cc)(hT:T.own wr w.heap.size)
  (hr:w2.ownsRow w.heap.size 196 5 (.slice A1 (m+1) c1) (m+1) (ts.flatMap kX.cells++T.cells))
  (hg:((wr.alloc o1).alloc o2).grownBy w2 (Value.slice A m cc).ownBlock):U5 w w2 a s k n c (ts++[T]) A1 (m+1) c1:=by
 have y:=(h.alloc o1).alloc o2;have z:T.own ((wr.alloc o1).alloc o2) w.heap.size:=(hT.below (bR.alloc lr o1)).below (bR.alloc lr o2);refine⟨by simp[h.len],by rw[List.flatMap_append];simpa using hr,fun t ht=>?_,y.dr.kept hg ?_,qw y.gr hg (fun j D=>(h.row.lt j D).1),h.lt⟩
 ·rcases List.mem_append.1 ht with ht | ht
  ·exact jH (y.archs t ht) y.row (by decide) hg
  ·obtain rfl:=List.mem_singleton.1 ht;exact jH z y.row (by decide) hg
 ·intro e;have:=(h.row.lt a e.symm).1;have:=h.lt;omega
def qy (r:Option (List kP×LU))(a:Nat)(s:BA)(p n:Nat)(c:Int)(w:World)(e:Ending)(w':World):Prop:=
 w.grownBy w' (some a)/\match r with
  | none=>e=.returned (.tuple #[.slice none 0 0,.bool false])/\∃ (p' n':Nat) (c':Int),DR w' a s p' n' c'
  | some (g,r)=>∃ (G:jE) (p':Nat) (c':Int),e=.returned (.tuple #[.slice G.ga G.ts.length G.gc,.bool true])/\G.pl=g/\G.own w' w.heap.size/\DR w' a s p' (n+g.length) c'/\p<p'/\(bl s).drop p'=r/\(c'=0↔c=0/\g.all kP.right=true/\n+g.length<=64)
theorem qy.no {r:Option (List kP×LU)}(hr:r=none)(hg:w.grownBy w' (some a))(h:DR w' a s p' n' c'):qy r a s p n c w (.returned (.tuple #[.slice none 0 0,.bool false])) w':=by
 subst hr;exact⟨hg,rfl,p',n',c',h⟩
theorem qy.yes {r:Option (List kP×LU)}{ts:List kX}(hr:r=some (ts.map kX.pl,(bl s).drop p'))(h:U5 w w' a s p' (n+m) c' ts A m cc)(hp:p<p')(hc:c'=0↔c=0/\(ts.map kX.pl).all kP.right=true/\n+m<=64):qy r a s p n c w (.returned (.tuple #[.slice A m cc,.bool true])) w':=by
 subst hr;obtain rfl:=h.len;refine⟨h.gr,⟨A,cc,ts⟩,p',c',rfl,rfl,⟨h.row,h.archs⟩,?_,hp,rfl,?_⟩
 ·rw[List.length_map];exact h.dr
 ·rw[List.length_map];exact hc
theorem Oz (F:Nat)(a:Nat)(s:BA)(p n:Nat)(c:Int)(w:World)(hs:s.size<=4294967280)(hF:s.size-p<F)(hG:zq a w)(h:DR w a s p n c)(hcn:c=0->n<=64):Calls Tryz.prog 144 #[.pointer (some ⟨a,0,none⟩)] w (qy (mZ F ((bl s).drop p)) a s p n c w):=by
 obtain⟨i0,ai,ao,aj,ak⟩:=info_parts Hv;have HG:=iV hG;obtain⟨f0,V⟩:∃ f0,F=f0+1:=⟨F-1,by omega⟩
 have E0:Hid (mZ F ((bl s).drop p)=pp (f0+1) [] ((bl s).drop p)):=by show _=_;rw[Gh,V]
 have ab:Hid (s.size-p<=f0):=by show _<=_;omega
 have ae:=iV hcn;generalize mZ F ((bl s).drop p)=RR at E0;have S1:Hid (U5 w w a s p n c [] none 0 0):=⟨rfl,World.ownsRow_nil _ _ _ _,by simp,h,World.grownBy.refl _ _,h.sz⟩
 have al:=h.le;clear hG V hF hcn h;go_in;go_wp2;go_loopw [2,3,4] (fun s2 s3 l wr=>∃ (k m cc f:Nat) (c':Int) (K:List kX) (A:Option Addr),s2=.slice none 0 0/\s3=.bool false/\l=.slice A m cc/\k<=s.size/\m<=k/\Hid (U5 w wr a s k (n+m) c' K A m cc)/\Hid (p<=k)/\Hid (RR=pp (f+1) (K.map kX.pl) ((bl s).drop k))/\Hid (s.size-k<=f)/\Hid (c'=0↔c=0/\(K.map kX.pl).all kP.right=true/\n+m<=64)) (fun _ _ _ wr=>s.size-Jt a wr)
 case atStart=>exact⟨p,0,0,f0,c,[],none,rfl,rfl,rfl,al,z0,S1,lr,E0,ab,by have:=ae.out;show _↔_;simpa using this⟩
 case round=>
  clear S1 E0 ab ae;obtain⟨k,m,cc,f,c',K,A,rfl,rfl,rfl,hk,ar,R,HP,HE,HF,HC⟩:=hrel;go_wp2_with fail;refine(SS a s k (n+m) c' wr hs (HG.out.kept R.out.gr) R.out.dr).mono ?_;rintro e w2 ⟨D,y⟩;cases ht:oS ((bl s).drop k) with
  | none=>
   rw[ht] at y;obtain⟨T,H,n',O,rfl,z⟩:=y;have S2:=iV (R.out.step D z);clear z D;have EN:Hid (RR=none):=by show _=_;rw[HE.out];exact Jp ht
   clear ht;unfold kX.val;go_wp2;go_ret2;have:=S2.out.alloc (.cells #[.string T.nm,.int .i64 T.op,.string T.ver,.string T.qual,.slice T.aa T.archs.length T.ac] 196);exact qy.no EN.out this.gr this.dr
  | some x=>
   obtain⟨t,r⟩:=x;rw[ht] at y;obtain⟨T,H,O,rfl,hT,af,z,ah,Y,ad⟩:=y;have S2:=iV (R.out.step D z);have ap:=iV (af.base (lo':=w.heap.size) R.out.gr.size);have aq:=z.le;have C2:Hid (O=0↔c=0/\((K++[T]).map kX.pl).all kP.right=true/\n+(m+1)<=64):=by
    have h1:=HC.out;show _↔_;rw[ad,h1,List.map_append,List.all_append];simp only[List.map_cons,List.map_nil,List.all_cons,List.all_nil,Bool.and_true,Bool.and_eq_true,hT];constructor
    ·rintro⟨⟨a1,a2,a3⟩,a4,a5⟩;exact⟨a1,⟨a2,a4⟩,by omega⟩
    ·rintro⟨a1,⟨a2,a4⟩,a5⟩;exact⟨⟨a1,a2,by omega⟩,a4,by omega⟩
   have HD:=iV Y;have HT:=iV hT;have Z:=iV ht;have au:m<=4294967280:=by omega
   have N:Hid (k<H):=ah;clear ht hT af z D Y ad ah;unfold kX.val;go_wp2_with (at_builtin;refine je _ rfl _ _ _ rfl w.heap.size 196 i0 _ 5 80 Tryz.underlying198 ai ao aj ak rfl (by omega) (.slice A m cc) m _ rfl ((S2.out.row.alloc _).alloc _) (w2.heap.size+1+1) (some ⟨w2.heap.size+1,0,none⟩) 1 1 T.cells rfl (by have:=wT (w2.alloc (.cells T.cells.toArray 196)) 196 (.string T.nm) (.int .i64 T.op) (.string T.ver) (.string T.qual) (.slice T.aa T.archs.length T.ac);simpa [kX.cells] using this) (by simp[Value.oneCell',kX.cells]) (by simp only[maxLen];omega) (by omega) (by simp;have:=S2.out.gr.size;omega) ?_;intro v1 w3 o1 g1 a1);obtain⟨A3,c3,rfl⟩:=jk o1;have S3:=iV (S2.out.grow (T:=T) ap.out o1 g1);clear o1 g1 a1;cases hb:jl 124 ((bl s).drop H) with
   | false=>
    have HB:=iV hb;have EN:Hid (RR=some ((K++[T]).map kX.pl,(bl s).drop H)):=by
     show _=_;rw[HE.out,KY Z.out (by rw[<-HD.out];exact hb),List.map_append,HD.out];simp[HT.out]
    have PF:Hid (p<H):=by have h1:=HP.out;have h2:=N.out;show _<_;omega
    clear hb;go_wp2_with fail;refine(js 124 a s H _ O w3 hs S3.out.dr HB).mono ?_;rintro e w4 ⟨rfl,z,D⟩;have S4:=iV (S3.out.step D z);clear z D;go_wp2;go_ret2;exact qy.yes EN.out S4.out PF.out C2.out
   | true=>
    have HB:=iV hb;obtain⟨J,M⟩:∃ J,H+1+jo jN ((bl s).drop (H+1))=J:=⟨_,rfl⟩
    have EN:Hid (RR=pp (f-1+1) ((K++[T]).map kX.pl) ((bl s).drop J)):=by
     have hf:=HF.out;have h2:=N.out;show _=_;rw[HE.out,Jq Z.out (by rw[<-HD.out];exact hb),<-HD.out,List.drop_drop,kW,M,List.map_append,show f-1+1=f by omega];simp[HT.out]
    have U:=iV (fun (W:World) (hD:DR W a s (H+1) (n+(m+1)) O)=>jx a s (H+1) (n+(m+1)) O W hs hD);rw[M] at U;have I:Hid (k<J):=by have:=N.out;show _<_;omega
    have an:Hid (s.size-J<=f-1):=by have:=HF.out;have:=I.out;show _<=_;omega
    have am:Hid (p<=J):=by have:=HP.out;have:=I.out;show _<=_;omega
    have ag:m+1<=J:=by have:=I.out;omega
    clear hb M;go_wp2_with fail;refine(jD 124 a s H _ O w3 hs S3.out.dr HB).mono ?_;rintro e w4 ⟨rfl,z,D⟩;have S4:=iV (S3.out.step D z);clear z D;go_wp2_with fail;refine(U.out w4 S4.out.dr).mono ?_;rintro e w5 ⟨rfl,z,D⟩;have S5:=iV (S4.out.step D z);clear z D;have X:=S5.out.dr.le;go_wp2;go_roundw
    case rel=>exact⟨J,m+1,c3,f-1,O,K++[T],A3,rfl,rfl,rfl,X,ag,S5,am,EN,an,C2⟩
    case measure=>exact DR.dec S5.out.dr R.out.dr I.out
end
end Go.Proofs.YtkmjcombhjombaaGreatDoor
