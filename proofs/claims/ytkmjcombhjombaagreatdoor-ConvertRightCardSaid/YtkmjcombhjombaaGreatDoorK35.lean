/- A part of the proof. -/
import Derived.Test.YtkmjcombhjombaaGreatDoorK26
import Derived.Test.YtkmjcombhjombaaGreatDoorK33
set_option maxRecDepth 100000
set_option maxHeartbeats 20000000
set_option linter.unusedVariables false
set_option linter.unusedSimpArgs false
namespace Go.Proofs.YtkmjcombhjombaaGreatDoor
section
open Go.RowKit
theorem U3 (l:List BA):xx rn l l=true:=by
 induction l with
 | nil=>rfl
 | cons a r ih=>simp only[xx];rw[Do,ih];rfl
theorem FJ (A B:Option Addr)(c d:Nat)(l:List BA)(w:World)(h1:Rd w 1 A l.length (strCells l))(h2:Rd w 1 B l.length (strCells l))(n1:l.length<=9223372036854775807):Calls Tryz.prog 19 #[.slice A l.length c,.slice B l.length d] w fun e w'=>e=.returned (.bool true)/\Below w.heap.size w w':=by
 have:=kN A B c d l l w h1 h2 n1 n1;rw[U3] at this;exact this
theorem Kg (x:jg):qa x x=true:=by simp[qa,Do]
theorem FM (x:jy):mT x x=true:=by simp[mT,Do]
theorem I1 (wr:World)(ps qs:List Value)(t u:TypeId):∃ bp bq:Nat,(.pointer (some ⟨wr.heap.size,0,none⟩):Value)=.pointer (some ⟨bp,0,none⟩)/\(.pointer (some ⟨wr.heap.size+1,0,none⟩):Value)=.pointer (some ⟨bq,0,none⟩) /\
  Hid (jh ((wr.alloc (.cells ps.toArray t)).alloc (.cells qs.toArray u)).drew bp ps)/\Hid (jh ((wr.alloc (.cells ps.toArray t)).alloc (.cells qs.toArray u)).drew bq qs)/\Hid (Below wr.heap.size wr ((wr.alloc (.cells ps.toArray t)).alloc (.cells qs.toArray u)).drew):=by
 have h:=jh.new (wr.alloc (.cells ps.toArray t)) qs u;rw[show(wr.alloc (.cells ps.toArray t)).heap.size=wr.heap.size+1 by simp] at h;exact⟨_,_,rfl,rfl,((jh.new wr ps t).alloc _).drew,h.drew,(((Below.refl wr.heap.size wr).alloc lr _).alloc (by simp) _).drew⟩
theorem Qz (wr:World)(ps qs:List Value)(t u:TypeId):∃ bp bq:Nat,(.pointer (some ⟨wr.heap.size+1,0,none⟩):Value)=.pointer (some ⟨bp,0,none⟩)/\(.pointer (some ⟨wr.heap.size,0,none⟩):Value)=.pointer (some ⟨bq,0,none⟩) /\
  Hid (jh ((wr.alloc (.cells qs.toArray u)).alloc (.cells ps.toArray t)).drew bp ps)/\Hid (jh ((wr.alloc (.cells qs.toArray u)).alloc (.cells ps.toArray t)).drew bq qs)/\Hid (Below wr.heap.size wr ((wr.alloc (.cells qs.toArray u)).alloc (.cells ps.toArray t)).drew):=by
 obtain⟨a,b,z,y,H,F,D⟩:=I1 wr qs ps u t;exact⟨b,a,y,z,F,H,D⟩
theorem FO {a b:Int}{kn:List kV}:∀ {l x:List jn},ng a b kn l x->prs x=prs l
 | [],[],_=>rfl
 | [],q::x,h=>by have:=h.len;simp at this
 | p::l,[],h=>by have:=h.len;simp at this
 | p::l,q::x,h=>by
  obtain⟨z,D⟩:=h.cons_inv;have y:=FO D;unfold prs at y |-;rw[List.flatMap_cons,List.flatMap_cons,y];congr 1;unfold pK kC;rw[z.nm,z.files,List.map_map];rfl
theorem U4 {a b:Int}{kn:List kV}{p q:jn}(hp:p.fits)(hc:xj a b kn p q)(hq:Ad b q)(hw:sW q<=1000000):q.fits:=by
 have s:=jn.small_of hw;have f:=tR hq;refine⟨by have:=s.nm;omega,by have:=s.ver;omega,by have:=s.ar;omega,by have:=s.sm;omega,by have:=f.needs;omega,by have:=f.bars;omega,by have:=f.gives;omega,by have:=f.files;omega,by have:=f.scripts;omega,fun t ht=>by have:=s.needs_ t ht;omega,fun t ht=>by have:=s.bars_ t ht;omega,fun x z=>?_,fun x z=>?_,fun x z=>?_⟩
 ·have H:=s.gives_ x z;rw[hc.gives] at z;obtain⟨y,F,rfl⟩:=List.mem_map.1 z;exact⟨by omega,by omega,(by show(Lit.int .i64 3).wf=true;decide)⟩
 ·have H:=s.files_ x z;rw[hc.files] at z;obtain⟨y,F,rfl⟩:=List.mem_map.1 z;have D:=hp.files_ y F;exact⟨by omega,by omega,by omega,by omega,by omega,D.2.2.2.2.2.1,D.2.2.2.2.2.2⟩
 ·have H:=s.scripts_ x z;rw[hc.scripts] at z;exact⟨by omega,(hp.scripts_ x z).2⟩
theorem As (a b:Int)(A:Option Addr)(c:Nat)(l:List jn)(AK:Option Addr)(cK:Nat)(kn:List kV)(w:World)(hG:xC w)(hd:tU w A l)(hf:∀ p∈l,p.fits)(hl:l.length<=9223372036854775807)(hk:Rd w 5 AK kn.length (kn.flatMap kV.cells))(hkf:∀ k∈kn,k.fits)(hkl:kn.length<=9223372036854775807):Calls Tryz.prog 5 #[.int .i64 a,.int .i64 b,.slice A l.length c,.slice AK kn.length cK] w fun e w'=>e=.returned (.bool true)/\Below w.heap.size w w':=by
 have HG:=iV hG;have HD:=iV hd;have HK:=iV hk;have HF:=iV hf;have LI:=iV fun W hb=>Bg A c l AK cK kn W (HD.out.below hb) hf hl (HK.out.below hb) hkf hkl;clear hG hd hf hl hk hkf hkl;go_in;go_wp2_with fail;refine(Bf w HG.out).mono ?_;rintro e w1 ⟨rfl,aM⟩;have B1:=iV aM;clear aM;go_wp2_with fail;refine(LI.out w1 B1.out).mono ?_;rintro e w2 ⟨lb,rfl,U,aY⟩;have B2:=iV (jc B1.out aY);have HP:=iV U;clear aY U LI;cases lb
 ·go_wp2;go_ret;exact⟨rfl,B2.out⟩
 have HL:=iV (HP.out rfl);have aZ:l.length<=40:=HL.out.1.1;clear HP;have CV:=iV (pu a b A c l AK cK kn w2 (HG.out.below B2.out) (HD.out.below B2.out) (by omega) (by have:=HL.out.1.2;omega) (fun p U=>by have:=vx U;have:=HL.out.1.2;omega) (fun p U=>XS (by have:=vx U;have:=HL.out.1.2;omega)) (HK.out.below B2.out) (by have:=HL.out.2.1;omega) HL.out.2.2);go_wp2_with fail;refine CV.out.mono ?_;rintro e w3 ⟨hv,aJ⟩;have B3:=iV (jc B2.out aJ);clear aJ CV;rcases hv with bd | aA
 ·obtain⟨v,R,rfl,hR,M,_⟩:=bd;obtain⟨Av,cv,rfl⟩:=jk M;have bt:(0:Int)<(R.length:Int):=by have:=List.length_pos_iff.2 hR;omega
  clear M hR;go_wp2;go_ret;exact⟨rfl,B3.out⟩
 obtain⟨O,qs,rfl,ia,ib,hz,ht,hc,M,hq⟩:=aA;obtain⟨Ao,co,rfl⟩:=jk M;obtain⟨zx,ak⟩:=Ai ib hc ht hz;have ay:∀ q∈qs,Ad b q:=Co (by rw[zx]);have I:=hc.len;obtain⟨aG,aE⟩:=FG hc ht ak ay aZ HL.out.1.2;have aq:∀ q∈qs,q.fits:=by
  intro q aD;obtain⟨i,hi⟩:=List.mem_iff_getElem?.1 aD;obtain⟨p,aI⟩:∃ p,l[i]?=some p:=⟨_,gG (by rw[<-I];exact(gS hi).1)⟩
  exact U4 (HF.out p (gM aI)) (hc.each i p q aI hi) (ay q aD) (aE q aD)
 have DX:Hid (tU w3 Ao qs):=Qu M hq;have MC:=iV (AQ b Ao co qs w3 (HG.out.below B3.out).e DX.out (by omega) aG aE);have aQ:(prs l).length<=10000:=Nat.le_trans (rS l) HL.out.1.2;have OX:=iV fun W hb=>yX Ao co qs W (DX.out.below hb) (by omega) (by rw[FO hc];omega) aq;have OL:=iV fun W hb=>yX A c l W (HD.out.below hb) (by omega) (by omega) HF.out;have HC:=iV hc;have FS:=iV fun p U=>(tR (ak p U)).files;have FC:=iV fun p U=>(tR (ak p U)).scripts;have bk:=iV I;have ax:=iV aQ;rw[zx] at MC;rw[FO hc] at OX;rw[I] at MC OX;rw[I];clear zx ak ay hc ht hz M hq I ia ib aG aE aq aQ;have q0:((l.length:Int) != (l.length:Int))=false:=by simp
 go_wp2_with fail;refine MC.out.mono ?_;rintro e w4 ⟨rfl,aO⟩;have au:=iV aO;clear aO MC;unfold ZK;go_wp2_with fail;refine(OL.out w4 (jc B3.out au.out)).mono ?_;rintro e w5 ⟨A1,c1,o1,rfl,r1,s1,an,K⟩;have ai:=iV (jc au.out K);have R1:=iV r1;have S1:=iV s1;have O1:=iV an;clear r1 s1 an K OL;go_wp2_with fail;refine(OX.out w5 ai.out).mono ?_;rintro e w6 ⟨A2,c2,o2,rfl,r2,s2,ap,ah⟩;have EQ:Hid (o1.map yZ.pair=o2.map yZ.pair):=O1.out.unique ap;have I:o2.length=o1.length:=by have:=congrArg List.length EQ.out;simpa using this.symm
 have bh:o1.length<=10000:=by
  have h0:=O1.out.length_le;have:=ax.out;rw[List.length_map] at h0;omega
 have R2:=iV r2;have S2:=iV s2;have be:=iV ah;have B6:=iV (jc B3.out (jc ai.out ah));have D6:=iV (HD.out.below B6.out);have X6:=iV (DX.out.below (jc ai.out ah));have ao:=iV I;have q1:((o1.length:Int) != (o1.length:Int))=false:=by simp
 rw[I];clear r2 s2 ap ah I OX DX ai au B3 B2 B1 HD HK HG HL;go_wp2;go_loopw [13] (fun i wr=>∃ k:Nat,k<=o1.length/\i=.int .i64 k/\Hid (Below w6.heap.size w6 wr)) (fun i _=>o1.length-(intOf i).toNat)
 case atStart=>exact⟨0,z0,rfl,bR⟩
 case round=>
  obtain⟨k,hk,rfl,HB⟩:=hrel;by_cases N:k<o1.length
  ·obtain⟨x,hx⟩:∃ x,o1[k]?=some x:=⟨_,gG N⟩
   have aT:k<o2.length:=by have:=ao.out;omega
   obtain⟨y,hy⟩:∃ y,o2[k]?=some y:=⟨_,gG aT⟩
   have az:x.pair=y.pair:=by
    have h1:(o1.map yZ.pair)[k]?=some x.pair:=by rw[List.getElem?_map,hx];rfl
    have h2:(o2.map yZ.pair)[k]?=some y.pair:=by rw[List.getElem?_map,hy];rfl
    rw[EQ.out,h2] at h1;injection h1 with h1;exact h1.symm
   have U:y.path=x.path:=(congrArg Prod.fst az).symm;have hn:y.names=x.names:=(congrArg Prod.snd az).symm;obtain⟨Z,D,ac,J⟩:=(R1.out.below (jc be.out HB.out)).elem QP k x hx;obtain⟨Y,z,ae,H⟩:=(R2.out.below HB.out).elem QP k y hy;have p1:=J 0 _ rfl;have q1:wr.cell? ⟨Z,D+k*2+1,none⟩=some (.slice x.na x.names.length x.nc):=J 1 _ rfl;have p2:wr.cell? ⟨Y,z+k*2+0,none⟩=some (.string x.path):=by rw[<-U];exact H 0 _ rfl
   have q2:wr.cell? ⟨Y,z+k*2+1,none⟩=some (.slice y.na x.names.length y.nc):=by rw[<-hn];exact H 1 _ rfl
   simp only[Nat.add_zero] at p1 p2;have bu:=fun W=>jm (T:=51) (E:=54) (sz:=2) (c:=c1) Tryz.underlying51 rfl Tryz.sizeOf54 ac N W;have bw:=fun W=>jm (T:=51) (E:=54) (sz:=2) (c:=c2) Tryz.underlying51 rfl Tryz.sizeOf54 ae N W;have RX:Hid (Rd wr 1 x.na x.names.length (strCells x.names)):=(S1.out x (gM hx)).below (jc be.out HB.out);have RY:Hid (Rd wr 1 y.na x.names.length (strCells x.names)):=by have:=(S2.out y (gM hy)).below HB.out;rw[hn] at this;exact this
   have bn:x.names.length<=9223372036854775807:=by
    have h1:=O1.out.names x.pair (List.mem_map.2 ⟨x,gM hx,rfl⟩);simp only[yZ.pair] at h1;rw[h1];have h2:=Dk (prs l) x.path;have:=ax.out;omega
   have l1:=World.block_lt_of_cell? _ _ p1;have l2:=World.block_lt_of_cell? _ _ p2;clear hx hy az U hn ac ae J H;go_wp2
   go_region_held3 (fun w'=>w'.cell? ⟨Z,D+k*2,none⟩=some (.string x.path)/\w'.cell? ⟨Z,D+k*2+1,none⟩=some (.slice x.na x.names.length x.nc)/\w'.cell? ⟨Y,z+k*2,none⟩=some (.string x.path)/\w'.cell? ⟨Y,z+k*2+1,none⟩=some (.slice y.na x.names.length y.nc))
    (first
      | go_keep
      | exact⟨(K.cell (p:=⟨Z,D+k*2,none⟩) l1).trans p1,(K.cell (p:=⟨Z,D+k*2+1,none⟩) l1).trans q1,(K.cell (p:=⟨Y,z+k*2,none⟩) l2).trans p2,(K.cell (p:=⟨Y,z+k*2+1,none⟩) l2).trans q2⟩)
    ((go_at_call 19;refine(FJ x.na y.na x.nc y.nc x.names wr.drew RX.out.drew RY.out.drew bn).mono ?_;rintro e w5 ⟨rfl,K⟩))
   all_goals
    go_wp2;go_roundw
    case rel=>exact⟨k+1,by omega,by go_num,iV (jc HB.out (show Below wr.heap.size wr w5 from⟨K.os,K.tape,K.output,K.size,K.block⟩))⟩
    case measure=>simp[intOf];omega
  ·have aH:=HB;clear R1 R2 S1 S2 O1 EQ ao ax HB;go_wp2_with fail;clear N hk bh q1;go_loopw [14] (fun i wr=>∃ k:Nat,k<=l.length/\i=.int .i64 k/\Hid (Below w6.heap.size w6 wr)) (fun i _=>l.length-(intOf i).toNat)
   case atStart=>exact⟨0,z0,rfl,aH⟩
   case round=>
    clear aH;obtain⟨k,hk,rfl,HB⟩:=hrel;by_cases N:k<l.length
    ·obtain⟨p,U⟩:∃ p,l[k]?=some p:=⟨_,gG N⟩
     obtain⟨q,hq⟩:∃ q,qs[k]?=some q:=⟨_,gG (by rw[bk.out];exact N)⟩
     have al:=gM U;obtain⟨Z,D,ac,J⟩:=(D6.out.below HB.out).row.elem mX k p U;obtain⟨Y,z,ae,H⟩:=(X6.out.below HB.out).row.elem mX k q hq;have bo:=fun W=>jm (T:=22) (E:=38) (sz:=9) (c:=c) Tryz.underlying22 rfl Tryz.sizeOf38 ac N W;have bj:=fun W=>jm (T:=22) (E:=38) (sz:=9) (c:=co) Tryz.underlying22 rfl Tryz.sizeOf38 ae N W;have ag:=HC.out.each k p q U hq;have bx:=FS.out p al;have bz:=FC.out p al;have bm:=iV ((D6.out.below HB.out).all p al);have bf:=iV ((X6.out.below HB.out).all q (gM hq));have aP:=iV ag;have QF:=iV ag.files;have QS:=iV ag.scripts;have x0:=J 0 _ rfl;have x1:=J 1 _ rfl;have x2:=J 2 _ rfl;have x3:=J 3 _ rfl;have x4:=J 4 _ rfl;have x5:=J 5 _ rfl;have x6:=J 6 _ rfl;have x7:=J 7 _ rfl;have x8:=J 8 _ rfl;have y0:=H 0 _ rfl;have y1:=H 1 _ rfl;have y2:=H 2 _ rfl;have y3:=H 3 _ rfl;have y4:=H 4 _ rfl;have y5:=H 5 _ rfl;have y6:=H 6 _ rfl;have y7:=H 7 _ rfl;have y8:=H 8 _ rfl;simp only[Nat.add_zero] at x0 y0;clear U hq al ac ae J H ag;have aL:=aP.out.nm;have aS:=aP.out.sm;have aU:q.files.length=p.files.length:=by rw[QF.out,List.length_map]
     have bb:q.scripts.length=p.scripts.length:=by rw[QS.out]
     rw[aU] at y7;rw[bb] at y8;rw[aL] at y0;rw[aS] at y3;clear aL aS aU bb;go_upto_region 21 with(fail)
     have l1:=World.block_lt_of_cell? _ _ x0;have l2:=World.block_lt_of_cell? _ _ y0;go_cut [15,16] (fun bs bi wx=>∃ bp bq:Nat,bs=.pointer (some ⟨bp,0,none⟩)/\bi=.pointer (some ⟨bq,0,none⟩)/\Hid (jh wx bp p.cells)/\Hid (jh wx bq [.string p.nm,.string q.ver,.string q.ar,.string p.sm,.slice q.na q.needs.length q.nc,.slice q.ba q.bars.length q.bc,.slice q.ga q.gives.length q.gc,.slice q.fa p.files.length q.fc,.slice q.sa p.scripts.length q.sc])/\Hid (Below wr.heap.size wr wx))
     case first=>
      go_region_held3 (fun w'=>w'.cell? ⟨Z,D+k*9,none⟩=some (.string p.nm)/\w'.cell? ⟨Z,D+k*9+1,none⟩=some (.string p.ver)/\w'.cell? ⟨Z,D+k*9+2,none⟩=some (.string p.ar)/\w'.cell? ⟨Z,D+k*9+3,none⟩=some (.string p.sm)/\w'.cell? ⟨Z,D+k*9+4,none⟩=some (.slice p.na p.needs.length p.nc)/\w'.cell? ⟨Z,D+k*9+5,none⟩=some (.slice p.ba p.bars.length p.bc)/\w'.cell? ⟨Z,D+k*9+6,none⟩=some (.slice p.ga p.gives.length p.gc)/\w'.cell? ⟨Z,D+k*9+7,none⟩=some (.slice p.fa p.files.length p.fc)/\w'.cell? ⟨Z,D+k*9+8,none⟩=some (.slice p.sa p.scripts.length p.sc)/\w'.cell? ⟨Y,z+k*9,none⟩=some (.string p.nm)/\w'.cell? ⟨Y,z+k*9+1,none⟩=some (.string q.ver)/\w'.cell? ⟨Y,z+k*9+2,none⟩=some (.string q.ar)/\w'.cell? ⟨Y,z+k*9+3,none⟩=some (.string p.sm)/\w'.cell? ⟨Y,z+k*9+4,none⟩=some (.slice q.na q.needs.length q.nc)/\w'.cell? ⟨Y,z+k*9+5,none⟩=some (.slice q.ba q.bars.length q.bc)/\w'.cell? ⟨Y,z+k*9+6,none⟩=some (.slice q.ga q.gives.length q.gc)/\w'.cell? ⟨Y,z+k*9+7,none⟩=some (.slice q.fa p.files.length q.fc)/\w'.cell? ⟨Y,z+k*9+8,none⟩=some (.slice q.sa p.scripts.length q.sc)) (go_keep) (fail)
      all_goals
       go_wp2;go_meet
      ·exact I1 wr p.cells [.string p.nm,.string q.ver,.string q.ar,.string p.sm,.slice q.na q.needs.length q.nc,.slice q.ba q.bars.length q.bc,.slice q.ga q.gives.length q.gc,.slice q.fa p.files.length q.fc,.slice q.sa p.scripts.length q.sc] _ _
      ·exact Qz wr p.cells [.string p.nm,.string q.ver,.string q.ar,.string p.sm,.slice q.na q.needs.length q.nc,.slice q.ba q.bars.length q.bc,.slice q.ga q.gives.length q.gc,.slice q.fa p.files.length q.fc,.slice q.sa p.scripts.length q.sc] _ _
     case rest=>
      obtain⟨bp,bq,rfl,rfl,K1,K2,V2⟩:=hcut;obtain⟨W2,aK⟩:∃ W2,wc=W2:=⟨_,rfl⟩
      rw[aK] at K1 K2 V2 |-;clear aK l1 l2 x0 x1 x2 x3 x4 x5 x6 x7 x8 y0 y1 y2 y3 y4 y5 y6 y7 y8 bo bj;have z0:=K1.out.cell 0 _ rfl;have z3:=K1.out.cell 3 _ rfl;have z7:=K1.out.cell 7 _ rfl;have z8:=K1.out.cell 8 _ rfl;have u0:=K2.out.cell 0 _ rfl;have u3:=K2.out.cell 3 _ rfl;have u7:=K2.out.cell 7 _ rfl;have u8:=K2.out.cell 8 _ rfl;have t0:(p.nm.toList != p.nm.toList)=false:=by simp
      have t3:(p.sm.toList != p.sm.toList)=false:=by simp
      have t7:((p.files.length:Int) != (p.files.length:Int))=false:=by simp
      have t8:((p.scripts.length:Int) != (p.scripts.length:Int))=false:=by simp
      have V6:=iV (jc HB.out V2.out);have av:=iV (bm.out.below V2.out);have aN:=iV (bf.out.below V2.out);go_upto_region 24 with(fail)
      clear z0 z3 z7 z8 u0 u3 u7 u8 t0 t3 t7 t8;go_wp2;go_loopw [17] (fun i wi=>∃ m:Nat,m<=p.files.length/\i=.int .i64 m/\Hid (Below W2.heap.size W2 wi)) (fun i _=>p.files.length-(intOf i).toNat)
      case atStart=>exact⟨0,z0,rfl,bR⟩
      case round=>
       obtain⟨m,hm,rfl,V⟩:=hrel;have z7:=(K1.out.below V.out).cell 7 _ rfl;by_cases X:m<p.files.length
       ·obtain⟨x,hx⟩:∃ x,p.files[m]?=some x:=⟨_,gG X⟩
        have hy:q.files[m]?=some (li a b kn x):=by rw[QF.out,List.getElem?_map,hx];rfl
        obtain⟨b3,am,aa,ab⟩:=(av.out.files.below V.out).elem nS m x hx;obtain⟨b4,aR,ad,F⟩:=(aN.out.files.below V.out).elem nS m _ hy;have E3:Hid (∀ W,Below W2.heap.size W2 W->∀ (j:Nat)(u:Value),x.cells[j]?=some u->W.cell? ⟨b3,am+m*8+j,none⟩=some u):=by
         intro W hb;obtain⟨b5,bv,af,he⟩:=(av.out.files.below hb).elem nS m x hx;rw[aa] at af;injection af with af;injection af with e1 e2 _;subst e1;subst e2;exact he
        have bg:=fun W=>jm (T:=35) (E:=57) (sz:=8) (c:=p.fc) Tryz.underlying35 rfl Tryz.sizeOf57 aa X W;have br:=fun W=>jm (T:=35) (E:=57) (sz:=8) (c:=q.fc) Tryz.underlying35 rfl Tryz.sizeOf57 ad X W;obtain⟨S,hS⟩:∃ S,lD a b kn x=S:=⟨_,rfl⟩
        unfold li at F;rw[hS] at F;have y0:=F 0 _ rfl;have y1:=F 1 _ rfl;have y2:=F 2 _ rfl;have y3:=F 3 _ rfl;have y4:=F 4 _ rfl;have y5:=F 5 _ rfl;have y6:=F 6 _ rfl;have y7:=F 7 _ rfl;simp only[Nat.add_zero] at y0;have u7:=(K2.out.below V.out).cell 7 _ rfl;have aC:∀ W,_:=fun W=>Lk x x W;rw[Kg] at aC;clear hx hy aa ad ab F hS;obtain⟨W3,aj⟩:∃ W3,wr.alloc (.cells #[.string x.path,.int .i64 x.kind,.int .i64 x.mode,.string x.owner,.string x.group,.string x.link,.string S,.bool x.conf] 57)=W3:=⟨_,rfl⟩
        have V3:Hid (Below W2.heap.size W2 W3):=by show Below _ _ _;rw[<-aj];exact V.out.alloc V.out.size _
        have K3:Hid (jh W3 wr.heap.size [.string x.path,.int .i64 x.kind,.int .i64 x.mode,.string x.owner,.string x.group,.string x.link,.string S,.bool x.conf]):=by show jh _ _ _;rw[<-aj];exact jh.new wr [.string x.path,.int .i64 x.kind,.int .i64 x.mode,.string x.owner,.string x.group,.string x.link,.string S,.bool x.conf] _
        have aX:=iV aj;clear aj;go_upto_region 28 with(fail)
        rw[aX.out];clear aX y0 y1 y2 y3 y4 y5 y6 y7 z7 u7;have z7:=(K1.out.below V3.out).cell 7 _ rfl;have x6:=E3.out W3 V3.out 6 _ rfl;have k6:=K3.out.cell 6 _ rfl;have f6:=K3.out.free 6 (by show 6<8;decide);have K4:=iV (K3.out.set 6 (by show 6<8;decide) (.string x.sum));have V4:=iV (jb V3.out V.out.size (j:=6) (.string x.sum));obtain⟨W4,aB⟩:∃ W4,W3.setCell ⟨wr.heap.size,6,none⟩ (.string x.sum)=W4:=⟨_,rfl⟩
        rw[aB] at K4 V4;have aF:=iV aB;clear aB;go_upto_region 29 with(fail)
        rw[aF.out];clear aF z7 x6 k6 f6;have z7:=(K1.out.below V4.out).cell 7 _ rfl;have x0:=E3.out W4 V4.out 0 _ rfl;have x1:=E3.out W4 V4.out 1 _ rfl;have x2:=E3.out W4 V4.out 2 _ rfl;have x3:=E3.out W4 V4.out 3 _ rfl;have x4:=E3.out W4 V4.out 4 _ rfl;have x5:=E3.out W4 V4.out 5 _ rfl;have x6:=E3.out W4 V4.out 6 _ rfl;have x7:=E3.out W4 V4.out 7 _ rfl;simp only[Nat.add_zero] at x0;have k0:=K4.out.cell 0 _ rfl;have k1:=K4.out.cell 1 _ rfl;have k2:=K4.out.cell 2 _ rfl;have k3:=K4.out.cell 3 _ rfl;have k4:=K4.out.cell 4 _ rfl;have k5:=K4.out.cell 5 _ rfl;have k6:=K4.out.cell 6 _ rfl;have k7:=K4.out.cell 7 _ rfl;go_quiet (fail);go_wp2;go_roundw
        case rel=>exact⟨m+1,by omega,by go_num,iV (jj V4.out _)⟩
        case measure=>simp[intOf];omega
       ·have aV:=V;clear V;go_wp2_with fail;clear hm X z7;go_loopw [19] (fun i wi=>∃ m:Nat,m<=p.scripts.length/\i=.int .i64 m/\Hid (Below W2.heap.size W2 wi)) (fun i _=>p.scripts.length-(intOf i).toNat)
        case atStart=>exact⟨0,z0,rfl,aV⟩
        case round=>
         clear aV;obtain⟨m,hm,rfl,V⟩:=hrel;have z8:=(K1.out.below V.out).cell 8 _ rfl;by_cases X:m<p.scripts.length
         ·obtain⟨x,hx⟩:∃ x,p.scripts[m]?=some x:=⟨_,gG X⟩
          have hy:q.scripts[m]?=some x:=by rw[QS.out];exact hx
          obtain⟨b3,am,aa,ab⟩:=(av.out.scripts.below V.out).elem nI m x hx;obtain⟨b4,aR,ad,F⟩:=(aN.out.scripts.below V.out).elem nI m x hy;have bg:=fun W=>jm (T:=36) (E:=59) (sz:=2) (c:=p.sc) Tryz.underlying36 rfl Tryz.sizeOf59 aa X W;have br:=fun W=>jm (T:=36) (E:=59) (sz:=2) (c:=q.sc) Tryz.underlying36 rfl Tryz.sizeOf59 ad X W;have x0:=ab 0 _ rfl;have x1:=ab 1 _ rfl;have y0:=F 0 _ rfl;have y1:=F 1 _ rfl;simp only[Nat.add_zero] at x0 y0;have u8:=(K2.out.below V.out).cell 8 _ rfl;have aC:∀ W,_:=fun W=>Dn x x W;rw[FM] at aC;clear hx hy aa ad ab F;obtain⟨W5,aW⟩:∃ W5,wr=W5:=⟨_,rfl⟩
          rw[aW] at V x0 x1 y0 y1 z8 u8 |-;clear aW;go_upto_region 34 with(fail)
          go_quiet (fail);go_wp2;go_roundw
          case rel=>exact⟨m+1,by omega,by go_num,iV (jj V.out _)⟩
          case measure=>simp[intOf];omega
         ·have V7:=iV (jc V6.out V.out);go_wp2;go_roundw
          case rel=>exact⟨k+1,by omega,by go_num,V7⟩
          case measure=>simp[intOf];omega
    ·go_wp2;go_ret;exact⟨rfl,jc B6.out HB.out⟩
end
end Go.Proofs.YtkmjcombhjombaaGreatDoor
