/- A part of the proof. -/
import Derived.Test.YtkmjcombhjombaaGreatDoorJ17
import Derived.Test.YtkmjcombhjombaaGreatDoorJ18
set_option maxRecDepth 100000
set_option maxHeartbeats 20000000
set_option linter.unusedVariables false
set_option linter.unusedSimpArgs false
namespace Go.Proofs.YtkmjcombhjombaaGreatDoor
variable{s:BA}{bar:Bool}{fmt:Int}{dv:LV}{bs ns xs:List BA}{B B1 b c c1 c2 d1 d2 gc j k kc n1 n2:Nat}{A A1 A2 B2 G K:OA}{o:Obj}{W0 w w' w2 w6 wr:World}
open Go.Proofs.Tryz
section
open Go.RowKit
theorem Ld:∀ l:List fQ,∀ u∈l.flatMap fQ.cells,u.oneCell'=true
 | [],u,z=>by simp at z
 | d::r,u,z=>by
  rw[List.flatMap_cons,List.mem_append] at z;rcases z with z | z
  ·simp only[fQ.cells,List.mem_cons,List.not_mem_nil,or_false] at z;rcases z with rfl | rfl<;>rfl
  ·exact Ld r u z
theorem Ji (fmt:Int)(bar:Bool)(A:OA)(c:Nat)(l:List BA)(w:World)(hG:yM w)(hr:Rd w 1 A l.length (strCells l))(hl:l.length<=1000)(hz:∀ x∈l,x.size<=1000000):Calls prog 27 #[.int .i64 fmt,.slice A l.length c,.bool bar] w (FC fmt bar (l.map bl) w):=by
 obtain⟨i0,hi,er,cl,ch⟩:=info_parts sj;have HG:=fH hG;have HR:=fH hr;have HZ:=fH hz;have ap:=fH fun W=>rD fmt W;clear hG hr hz;by_cases hf:¬ iY fmt
 ·have E:=fH (VK hf (bar:=bar) (ts:=l.map bl));rw[dF hf] at ap;clear hf;go_in;go_wp2_with fail;refine mb (ap _) ?_;rintro w' rfl;go_wp2;go_ret2;exact Cw (by rw[E.out];decide) (by decide) (fun _=>E.out.symm) bR
 have bb:iY fmt:=Decidable.not_not.1 hf;rw[dT bb] at ap;have HF:=fH bb;clear hf bb;go_in;go_wp2_with fail;refine mb (ap _) ?_;rintro w' rfl;go_wp2;go_loopw [8,9,24] (fun s8 s9 bZ wr=>∃ (k:Nat) (O:OA) (n oc cnt:Nat) (ds:List fQ),s8=.slice O n oc/\s9=.int .i64 cnt/\bZ=.int .i64 k/\k<=l.length/\n<=64*k/\cnt<=4096*k/\Hid (∀ y∈l.take k,kI fmt bar (bl y)=0)/\Hid (ds.map fQ.pl=iX fmt bar ((l.take k).map bl))/\Hid (cnt=gB (iX fmt bar ((l.take k).map bl)))/\Hid (nu w wr ds O n oc)) (fun _ _ i _=>l.length-(intOf i).toNat)
 case atStart=>exact⟨0,none,0,0,0,[],rfl,rfl,rfl,z0,z0,z0,by simp[Hid],rfl,rfl,nu.start w⟩
 case round=>
  obtain⟨k,O,n,oc,cnt,ds,rfl,rfl,rfl,hk,hn,cE,HN,HO,aL,D0⟩:=hrel;by_cases bn:k<l.length
  ·obtain⟨x,hx⟩:∃ x,l[k]?=some x:=⟨_,gG bn⟩
   obtain⟨b,off,hA,he⟩:=(HR.below D0.bel).str k x hx;have bc:=fun W=>gi (T:=33) (E:=9) (sz:=1) (c:=c) underlying33 rfl sizeOf9 hA bn W;simp only[Nat.mul_one] at bc;have cj:=HZ.out x (gM hx);have HX:=fH hx;have aT:=fH (Rl (fmt:=fmt) (bar:=bar) hx);have bK:=fH (gC hx);clear hx hA;obtain⟨wo,rfl⟩:∃ wo:World,wo=wr:=⟨_,rfl⟩
   go_wp2_with fail;refine(VJ fmt HF bar x wo (HG.below D0.bel) cj).mono ?_;rintro e w1 ⟨A1,m,c1,D,bv,rfl,bG,hm⟩;have B1:=fH bG;clear bG he bc;by_cases J:(ip fmt bar (bl x)).2=0
   rotate_left
   ·rw[if_neg J] at hm;obtain⟨aO,bH,rfl,rfl⟩:=hm;have ae:kI fmt bar (bl x)=(ip fmt bar (bl x)).2:=by unfold kI;rw[if_pos J]
    have E:Hid (jc fmt bar (l.map bl)=(ip fmt bar (bl x)).2):=by show _=_;rw[SS HF.out HX.out HN.out (by rw[ae];exact J),ae]
    have cc:=fH J;have q:(bv != 0)=true:=by simpa [bne] using aO
    have bN:=fH aO;have bS:=fH bH;clear aO bH J ae;go_wp2;go_ret2;exact Cw (by rw[E.out];exact cc.out) bN (fun h=>by rw[E.out] at h |-;exact bS.out h) (fM D0.bel B1)
   rw[if_pos J] at hm;obtain⟨rfl,av,aG,ab⟩:=hm;have ae:kI fmt bar (bl x)=qJ fmt (ip fmt bar (bl x)).1:=by unfold kI;rw[if_neg (by rw[J];simp)]
   have ay:=fH ae;obtain⟨P,hP⟩:∃ P,(ip fmt bar (bl x)).1=P:=⟨_,rfl⟩
   rw[hP] at aT ay av ab;have bU:=fH av;have bz:=fH aG;have bg:=fH ab;have aN:m=P.length:=by rw[<-av,List.length_map,aG.len]
   have cu:m<=64:=by rw[aN];exact ab.1
   have ar:=fH aN;have bJ:=fH (fun h=>SS (fmt:=fmt) HF HX HN h);clear J ae hP av aG ab aN;go_wp2;go_loopw [9,40] (fun s9 bT wx=>∃ (i cn:Nat) (D':List fQ),s9=.int .i64 cn/\bT=.int .i64 i/\i<=m/\cn<=4096*k+64*i/\Hid (cn=cnt+gB (P.take i))/\Hid (D'.map fQ.pl=Hq fmt P i)/\Hid (∀ y∈P.take i,∀ g∈y.alts,(gz fmt 1 g).2=0)/\Hid (nu wo wx D' A1 m c1)) (fun _ i _=>m-(intOf i).toNat)
   case atStart=>exact⟨0,cnt,D,rfl,rfl,z0,by omega,rfl,by show _=_;rw[Rj];exact bU.out,by simp[Hid],bz⟩
   case round=>
    clear bz;obtain⟨i,cn,D',rfl,rfl,cF,cw,bo,aM,aJ,U⟩:=hrel;by_cases am:i<m
    ·have aB:Hid (i<P.length):=by have:=ar.out;show _<_;omega
     obtain⟨Y,af⟩:∃ Y,P[i]?=some Y:=⟨_,gG aB⟩
     obtain⟨d,hd⟩:∃ d,D'[i]?=some d:=⟨_,gG (by rw[U.out.len];exact am)⟩
     have aF:d.pl=Y:=by
      have h1:=congrArg (·[i]?) aM.out;rw[NT af] at h1;simp only[List.getElem?_map,hd,YI aB.out,Option.map_some,Option.some.injEq] at h1;rw[h1];simp
     have aj:=fH af;have HD:=fH hd;have H:Hid (d.bar=Y.bar/\d.alts=Y.alts):=by rw[<-aF];exact⟨rfl,rfl⟩
     have bx:=gM hd;have bP:d.alts.length<=64:=by rw[H.out.2];exact(bg.2 Y (gM af)).1
     have bI:Hid (∀ g∈Y.alts,g.nm.size<=64/\g.ver.size<=64):=(bg.2 Y (gM af)).2;have bC:=fH ((U.al d bx).lt);obtain⟨b2,cv,bj,aY⟩:=(U.ok.row.elem pV i d hd)
     have e0:=aY 0 _ rfl;have e1:=aY 1 _ rfl;simp only[Nat.add_zero] at e0;have cy:=fun W=>gi (T:=30) (E:=75) (sz:=2) (n:=m) (c:=c1) underlying30 rfl sizeOf75 bj am W;clear af hd bj aY aF bx;obtain⟨K,rfl⟩:∃ K:World,K=wr:=⟨_,rfl⟩
     obtain⟨L,aA⟩:∃ L,d.alts=L:=⟨_,rfl⟩
     rw[aA] at bP H;obtain⟨aa,I⟩:∃ aa,d.aa=aa:=⟨_,rfl⟩
     obtain⟨ac,aU⟩:∃ ac,d.ac=ac:=⟨_,rfl⟩
     obtain⟨db,ao⟩:∃ db,d.bar=db:=⟨_,rfl⟩
     rw[ao] at H;have cg:=e0;rw[ao] at cg;have cq:=e1;rw[aA,I,aU] at cq;have ck:=fH aA;have bd:=fH I;have bX:=fH aU;have cA:=fH ao;clear e0 e1 aA I aU ao;obtain⟨W2,au⟩:∃ W2,K.alloc (.cells #[.bool db,.slice aa L.length ac] 75)=W2:=⟨_,rfl⟩
     have B2:Hid (Bw K W2):=by rw[<-au];exact bR.alloc lr _
     have K2:Hid (fV W2 K.heap.size [.bool db,.slice aa L.length ac]):=by show fV _ _ _;rw[<-au];exact fV.new K [.bool db,.slice aa L.length ac] _
     have k1:=K2.cell 1 _ rfl;have bf:=fH (U.below B2);have cB:K.heap.size<W2.heap.size:=K2.sz;have bi:=fH au;clear au;go_upto_region 14 with(fail)
     rw[bi.out];go_wp2_with fail;clear k1 bi;go_loopw [47] (fun s wx=>∃ (j:Nat) (D2:List fQ),j<=L.length/\s=.int .i64 j/\Hid (D2.map fQ.head=D'.map fQ.head)/\Hid (D2.map fQ.pl=Hp fmt P i Y.bar L j)/\Hid (∀ g∈L.take j,(gz fmt 1 g).2=0)/\Hid (nu wo wx D2 A1 m c1)/\Hid (fV wx K.heap.size [.bool db,.slice aa L.length ac])) (fun i _=>L.length-(intOf i).toNat)
     case atStart=>exact⟨0,D',z0,rfl,rfl,by show _=_;rw[aM.out,NT aj.out,H.out.2],by simp[Hid],bf,K2⟩
     case round=>
      clear bf K2;obtain⟨j,D2,cJ,rfl,be,ba,aI,ad,K3⟩:=hrel;have k1:=K3.cell 1 _ rfl;by_cases ak:j<L.length
      ·obtain⟨g,hg⟩:∃ g,L[j]?=some g:=⟨_,gG ak⟩
       have aQ:Y.alts[j]?=some g:=by rw[<-H.out.2];exact hg
       have cG:=bI.out g (gM aQ);obtain⟨V,ag⟩:∃ V,D2[i]?=some V:=⟨_,gG (by rw[ad.out.len];exact am)⟩
       obtain⟨bL,ah,aW,aS⟩:=YL be ag HD.out;have aR:V.pl=⟨Y.bar,(L.take j).map (fun g=>(gz fmt 1 g).1)++L.drop j⟩:=by
        have h1:=congrArg (·[i]?) ba.out;simp only[List.getElem?_map,ag,YI aB.out,Option.map_some,Option.some.injEq] at h1;exact h1
       have aZ:V.alts=(L.take j).map (fun g=>(gz fmt 1 g).1)++L.drop j:=congrArg gI.alts aR;have br:V.bar=Y.bar:=congrArg gI.bar aR;rw[ck.out] at aS;rw[bd.out] at ah;rw[bX.out] at aW;have Z:=ad.al V (gM ag);unfold fQ.own at Z;obtain⟨g0,cp,hv,_,_⟩:=Z.form (by omega);have I:aa=some ⟨g0,0,none⟩:=by rw[<-ah];injection hv
       have cH:g0<K.heap.size:=by
        refine(bC g0 ?_).2;rw[bd.out,I];rfl
       obtain⟨b3,bm,ai,bq⟩:=(gR Z).elem kt j g (by rw[aZ];exact NU hg);obtain⟨rfl,rfl⟩:g0=b3/\0=bm:=by rw[ah,I] at ai;injection ai with ai;injection ai with h1 h2 _;exact⟨h1,h2⟩
       obtain⟨e0,e1,e2⟩:=qj bq;simp only[Nat.add_zero,Nat.zero_add] at e0 e1 e2;have bE:=fun W=>gi (T:=34) (E:=78) (sz:=3) (n:=L.length) (c:=ac) underlying34 rfl sizeOf78 I ak W;simp only[Nat.zero_add] at bE;have aP:=fH hg;have bM:=fH aQ;have aH:=fH ag;have bs:=fH aZ;have ca:=fH br;have aC:=fH I;have HH:=fH (show V.aa=aa/\V.ac=ac/\V.alts.length=L.length from⟨ah,aW,aS⟩);obtain⟨⟨X,ec⟩,hr⟩:∃ r,gz fmt 1 g=r:=⟨_,rfl⟩
       have az:=fH hr;have aK:=fH (fun W hG=>AQ fmt 1 g W hG (by omega) (by omega));rw[hr] at aK;unfold fP.val Yz at aK;clear hg aQ ag bL ah aW aS aR aZ br Z hv I ai bq hr;go_wp2_with fail;refine mb (aK _ (HG.below (fM D0.bel ad.bel)).p) ?_;rintro w5 aX;have bk:=fH (ad.below aX);have K5:=fH (K3.below aX);clear aX e0 e1 e2 k1 K3 ad;have bu:Hid (Bw w5 (w5.alloc (.cells #[.string X.nm,.int .i64 X.op,.string X.ver] 78))):=bR.alloc lr _;by_cases R:ec≠0
       ·have q:(ec != 0)=true:=by simpa [bne] using R
        have aV:qJ fmt P=ec:=by rw[VL aj.out bM.out aJ.out (by rw[<-H.out.2];exact aI.out) (by rw[az.out];exact R),az.out]
        have E:Hid (jc fmt bar (l.map bl)=ec):=by show _=_;rw[bJ.out (by rw[ay.out,aV];exact R),ay.out,aV]
        have bB:=fH R;clear R aV;go_wp2;go_ret2;exact Cw (by rw[E.out];exact bB.out) bB (fun _=>E.out.symm) (fM D0.bel (fM bk.bel bu))
       have aD:ec=0:=Decidable.not_not.1 R;have bQ:Hid ((gz fmt 1 g).2=0):=by show _=_;rw[az.out];exact aD
       subst aD;clear R bu;obtain⟨W6,an⟩:∃ W6,w5.alloc (.cells #[.string X.nm,.int .i64 X.op,.string X.ver] 78)=W6:=⟨_,rfl⟩
       have B6:Hid (Bw w5 W6):=by rw[<-an];exact bR.alloc lr _
       have K6:Hid (fV W6 w5.heap.size [.string X.nm,.int .i64 X.op,.string X.ver]):=by show fV _ _ _;rw[<-an];exact fV.new w5 [.string X.nm,.int .i64 X.op,.string X.ver] _
       have bD:=fH (bk.below B6);have bt:=fH (K5.below B6);obtain⟨m0,m1,m2⟩:=qj K6.cell;have k1:=bt.cell 1 _ rfl;have z:=bD.al V (gM aH);unfold fQ.own at z;rw[HH.out.1,aC.out] at z;have f0:=z.frozenAt (j*3);have f1:=z.frozenAt (j*3+1);have f2:=z.frozenAt (j*3+2);obtain⟨b4,bF,ax,bw⟩:=(gR z).elem kt j g (by rw[bs.out];exact NU aP);obtain⟨rfl,rfl⟩:g0=b4/\0=bF:=by injection ax with ax;injection ax with h1 h2 _;exact⟨h1,h2⟩
       obtain⟨e0,e1,e2⟩:=qj bw;simp only[Nat.add_zero,Nat.zero_add] at e0 e1 e2;have cx:K.heap.size<w5.heap.size:=K5.sz;have cD:¬ g0=w5.heap.size:=by omega
       have cC:¬ g0=K.heap.size:=by omega
       have cz:¬ K.heap.size=g0:=by omega
       have cr:¬ w5.heap.size=g0:=by omega
       have ct:¬ K.heap.size=w5.heap.size:=by omega
       have cs:¬ w5.heap.size=K.heap.size:=by omega
       have cb:=fH an;clear an z ax bw;go_upto_region 18 with(fail)
       rw[cb.out];go_wp2;go_roundw
       case rel=>
        refine⟨j+1,D2.set i { V with alts:=V.alts.set j X },by omega,by go_num,by show _=_;rw[YK aH.out];exact be.out,?_,fH (fun y F=>?_),?_,?_⟩
        ·show _=_;rw[List.map_set,ba.out];have:=aaI (fmt:=fmt) (bar:=Y.bar) aB aP.out;rw[<-this];congr 1;show(⟨V.bar,V.alts.set j X⟩:gI)=_;rw[ca.out,bs.out,az.out]
        ·rw[gC aP.out] at F;rcases List.mem_append.1 F with F | F
         ·exact aI.out y F
         ·rw[List.mem_singleton.1 F];exact bQ.out
        ·exact bD.put aH (by rw[HH.out.2.2];exact ak) (by rw[HH.out.1];exact aC.out) rfl
        ·exact((bt.far (by omega) _).far (by omega) _).far (by omega) _
       case measure=>simp[intOf];omega
      ·obtain rfl:j=L.length:=by omega
       have cf:Hid (Y.alts.length=L.length):=by show _=_;rw[<-H.out.2]
       have cm:=fH (Rk aj);have bO:=fH (gC aj);have ce:Hid (D2.map fQ.pl=Hq fmt P (i+1)):=by show _=_;rw[ba.out,H.out.2,aaH aj.out]
       go_wp2;go_roundw
       case rel=>exact⟨i+1,cn+L.length,D2,by go_num,by go_num,by omega,by omega,by show _=_;rw[cm.out,bo.out,cf.out];omega,ce,fH (fun y F=>by
        rw[bO.out] at F;rcases List.mem_append.1 F with F | F
        ·exact aJ.out y F
        ·rw[List.mem_singleton.1 F];intro g hg;exact aI.out g (by rw[List.take_length,H.out.2];exact hg)),ad⟩
       case measure=>simp[intOf];omega
    ·obtain rfl:i=m:=by omega
     have co:Hid (kI fmt bar (bl x)=0):=by
      show _=_;rw[ay.out];exact NV (fun y F=>aJ.out y (by rw[tL (by have:=ar.out;omega)];exact F))
     have ci:Hid (D'.map fQ.pl=P.map (kD fmt 1)):=by show _=_;rw[aM.out,ar.out,YJ]
     have bV:Hid (cn=cnt+gB P):=by show _=_;rw[bo.out,tL (by have:=ar.out;omega)]
     have D1:=fH (D0.below U.bel);have bW:=fH D1.row;have RL:=fH ((gR U.row).reads (by omega));have bY:=D1.bel.size;have bA:=fH (Ld D')
     go_wp2_with (
      at_builtin
      refine fR _ rfl _ _ _ rfl w.heap.size 75 i0 _ 2 32 underlying30 hi er cl ch rfl (by omega) (.slice O n oc) n _ rfl bW.out _ A1 i c1 _ rfl RL.out bA (by simp only[maxLen];omega) (by omega) bY ?_;intro v1 w6 M bp bh;obtain⟨O1,c2,rfl⟩:=gg M)
     have N1:Hid (nu w w6 (ds++D') O1 (n+i) c2):=D0.join U M bp;clear M bp bh;go_wp2;go_roundw
     case rel=>exact⟨k+1,O1,n+i,c2,cn,_,rfl,rfl,by go_num,by omega,by omega,by omega,fH (fun y F=>by
      rw[bK.out] at F;rcases List.mem_append.1 F with F | F
      ·exact HN.out y F
      ·rw[List.mem_singleton.1 F];exact co.out),by show _=_;rw[aT.out,List.map_append,HO.out,ci.out],by show _=_;rw[aT.out,VM,qK,<-aL.out];exact bV.out,N1⟩
     case measure=>simp[intOf];omega
  ·have aE:∀ y∈l,kI fmt bar (bl y)=0:=fun y F=>HN.out y (by rw[tL (by omega)];exact F);have E:=fH (YH HF aE);have HT:Hid ((l.take k).map bl=l.map bl):=by show _=_;rw[tL (by omega)]
   clear aE;by_cases aq:64<cnt
   ·have q1:decide ((64:Int)<(cnt:Int))=true:=dT (by omega);have q2:decide (64<cnt)=true:=dT aq;have E4:Hid (jc fmt bar (l.map bl)=4):=by show _=_;rw[E.out,<-HT.out,<-aL.out,if_pos aq]
    go_wp2;go_ret2;exact Cw (by rw[E4.out];decide) (by decide) (fun _=>E4.out.symm) D0.bel
   ·have q1:decide ((64:Int)<(cnt:Int))=false:=dF (by omega);have q2:decide (64<cnt)=false:=dF aq;have E4:Hid (jc fmt bar (l.map bl)=0):=by show _=_;rw[E.out,<-HT.out,<-aL.out,if_neg aq]
    go_wp2;go_ret2;exact YG E4 (by rw[HO.out,HT.out]) D0.out
theorem FD (a:fP)(w:World)(hG:QI w)(h1:a.nm.size<=9223372036854775807)(h2:a.ver.size<=9223372036854775807):Calls prog 136 #[a.val] w fun e w'=>e=.returned (.int .i64 (kE a))/\Bw w w':=by
 have HG:=fH hG;obtain⟨Y,I⟩:∃ Y,w.alloc (.cells #[.string a.nm,.int .i64 a.op,.string a.ver] 78)=Y:=⟨_,rfl⟩
 have J:Hid (Bw w Y):=by rw[<-I];exact bR.alloc lr _
 have K0:Hid (fV Y w.heap.size a.cells):=by show fV _ _ _;rw[<-I];exact fV.new w a.cells _
 obtain⟨k0,k1,k2⟩:=qj K0.cell;have F:=fH fun W=>nC a.nm W h1;have ad:=fH (fun W hG=>Fh 1 (.inl rfl) a.ver W hG h2);unfold fP.val;clear hG;cases hn:hH (bl a.nm)
 ·rw[hn] at F;have E:Hid (kE a=10):=by show _=_;unfold kE;rw[if_pos hn]
  clear hn;go_in;go_wp2_with fail;refine mb (F _) ?_;rintro w' rfl;go_wp2;go_ret;exact⟨fT E.out.symm,J⟩
 rw[hn] at F;have z:Hid (¬ hH (bl a.nm)=false):=by show ¬ _;rw[hn];simp
 clear hn;by_cases K:a.op<0
 ·have d1:decide (a.op<0)=true:=dT K;have E:Hid (kE a=1):=by show _=_;unfold kE;rw[if_neg z.out,if_pos (.inl K)]
  clear K;go_in;go_wp2_with fail;refine mb (F _) ?_;rintro w' rfl;go_wp2;go_ret;exact⟨fT E.out.symm,J⟩
 have d1:decide (a.op<0)=false:=dF K;by_cases M:5<a.op
 ·have d2:decide (5<a.op)=true:=dT M;have E:Hid (kE a=1):=by show _=_;unfold kE;rw[if_neg z.out,if_pos (.inr M)]
  clear K M;go_in;go_wp2_with fail;refine mb (F _) ?_;rintro w' rfl;go_wp2;go_ret;exact⟨fT E.out.symm,J⟩
 have d2:decide (5<a.op)=false:=dF M;have Z:Hid (¬ (a.op<0\/5<a.op)):=by rintro(h | h);exact K h;exact M h
 clear K M;by_cases R:a.op=0
 ·have q:(a.op==0)=true:=by rw[R];rfl
  have D:=fH R;clear R;obtain⟨pb,aa⟩:∃ pb,a.ver.toList.isEmpty=pb:=⟨_,rfl⟩
  have U:=fH aa;cases pb
  ·have E:Hid (kE a=1):=by
    show _=_;unfold kE;rw[if_neg z.out,if_neg Z.out,if_pos D.out,if_neg];intro h;have:=U.out;rw[fK,gu,dT h] at this;cases this
   go_in;go_wp2_with fail;refine mb (F _) ?_;rintro w' rfl;go_wp2;go_ret;exact⟨fT E.out.symm,J⟩
  ·have E:Hid (kE a=0):=by
    show _=_;unfold kE;rw[if_neg z.out,if_neg Z.out,if_pos D.out,if_pos];have:=U.out;rw[fK,gu] at this;exact dO this
   go_in;go_wp2_with fail;refine mb (F _) ?_;rintro w' rfl;go_wp2;go_ret;exact⟨fT E.out.symm,J⟩
 have q:(a.op==0)=false:=by simpa using R
 have D:=fH R;clear R;go_in;go_wp2_with fail;clear I;refine mb (F _) ?_;rintro w' rfl;go_wp2_with fail;refine(ad _ (HG.below J)).mono ?_;rintro e w1 ⟨H,rfl,ac,X,ab,V⟩;have B1:=fH (fM J V);have B2:=fH (fM B1 (bR.alloc lr (.cells #[.int .i64 H.ep,.slice H.na H.nums.length H.nc,.string H.lt,.string H.pre,.int .i64 H.pnum,.int .i64 H.rev] 159)));clear ac X ab V;unfold jb.val;by_cases O:oj 1 a.ver≠0
 ·have E:Hid (kE a=11):=by show _=_;unfold kE;rw[if_neg z.out,if_neg Z.out,if_neg D.out,if_pos O]
  have q2:(oj 1 a.ver != 0)=true:=by simpa [bne] using O
  generalize oj 1 a.ver=pe at *;clear O;go_wp2;go_ret;exact⟨fT E.out.symm,B2⟩
 ·have E:Hid (kE a=0):=by show _=_;unfold kE;rw[if_neg z.out,if_neg Z.out,if_neg D.out,if_neg O]
  have q2:(oj 1 a.ver != 0)=false:=by rw[Decidable.not_not.1 O];rfl
  generalize oj 1 a.ver=pe at *;clear O;go_wp2;go_ret;exact⟨fT E.out.symm,B2⟩
structure Le (ds:List fQ):Prop where
 len:ds.length<=1000
 al:∀ d∈ds,d.alts.length<=1000
 nm:∀ d∈ds,∀ g∈d.alts,g.nm.size<=1000
 ver:∀ d∈ds,∀ g∈d.alts,g.ver.size<=1000
theorem VN {l:List gI}(h:64<gB l):ni l=4:=by unfold ni;rw[if_pos h]
theorem acA {ds:List fQ}{d:fQ}(h:¬ 64<gB (ds.map fQ.pl))(F:ds[k]?=some d)(I:∀ y∈ds.take k,um y.pl=0)(H:um d.pl≠0):ni (ds.map fQ.pl)=um d.pl:=by
 unfold ni;rw[if_neg h];refine qd (k:=k) (by simp[F]) (fun y D=>?_) H;rw[<-List.map_take] at D;obtain⟨z,J,rfl⟩:=List.mem_map.1 D;exact I z J
theorem YM {ds:List fQ}(h:¬ 64<gB (ds.map fQ.pl))(F:∀ y∈ds,um y.pl=0):ni (ds.map fQ.pl)=0:=by
 unfold ni;rw[if_neg h,gD];intro y D;obtain⟨z,H,rfl⟩:=List.mem_map.1 D;exact F z H
theorem NZ {ds:List fQ}{i:Nat}{d:fQ}(h:ds[i]?=some d):gB ((ds.take (i+1)).map fQ.pl)=gB ((ds.take i).map fQ.pl)+d.alts.length:=by
 unfold gB;rw[gC h,List.map_append,List.map_append,List.sum_append];simp[fQ.pl]
theorem Rm (A:OA)(c:Nat)(ds:List fQ)(w:World)(hG:QI w)(hd:rE w A ds)(hf:Le ds):Calls prog 82 #[.slice A ds.length c] w fun e w'=>e=.returned (.int .i64 (ni (ds.map fQ.pl)))/\Bw w w':=by
 have HG:=fH hG;have HD:=fH hd;have HF:=fH hf;have aM:=hf.len;clear hG hd hf;go_in;go_wp2;go_loopw [3,13] (fun s3 aJ wr=>∃ k cnt:Nat,k<=ds.length/\cnt<=1000*k/\s3=.int .i64 cnt/\aJ=.int .i64 k/\Hid (cnt=gB ((ds.take k).map fQ.pl))/\Hid (Bw w wr)) (fun _ i _=>ds.length-(intOf i).toNat)
 case atStart=>exact⟨0,0,z0,z0,rfl,rfl,rfl,bR⟩
 case round=>
  obtain⟨k,cnt,hk,hc,rfl,rfl,HC,Y⟩:=hrel;by_cases H:k<ds.length
  ·obtain⟨d,z⟩:∃ d,ds[k]?=some d:=⟨_,gG H⟩
   obtain⟨b,off,hA,X⟩:=(HD.row.below Y).elem pV k d z;have e0:=X 0 _ rfl;have e1:=X 1 _ rfl;simp only[Nat.add_zero] at e0;have ap:=fun W=>gi (T:=30) (E:=75) (sz:=2) (c:=c) underlying30 rfl sizeOf75 hA H W;have au:=HF.al d (gM z);have aK:=fH (NZ z);clear z hA X;obtain⟨K,J⟩:∃ K,wr.alloc (.cells #[.bool d.bar,.slice d.aa d.alts.length d.ac] 75)=K:=⟨_,rfl⟩
   have B2:Hid (Bw wr K):=by rw[<-J];exact bR.alloc lr _
   have K2:Hid (fV K wr.heap.size d.cells):=by show fV _ _ _;rw[<-J];exact fV.new wr d.cells _
   have k1:=K2.cell 1 _ rfl;go_wp2;go_roundw
   case rel=>exact⟨k+1,cnt+d.alts.length,by omega,by omega,by go_num,by go_num,by show _=_;rw[aK.out,<-HC.out],fM Y B2⟩
   case measure=>simp[intOf];omega
  ·have av:Hid (cnt=gB (ds.map fQ.pl)):=by show _=_;rw[HC.out,tL (by omega)]
   by_cases O:64<cnt
   ·have q1:decide ((64:Int)<(cnt:Int))=true:=dT (by omega);have q2:decide (64<cnt)=true:=dT O;have E:=fH (VN (l:=ds.map fQ.pl) (by rw[<-av.out];exact O));go_wp2;go_ret;exact⟨fT E.out.symm,Y⟩
   have q1:decide ((64:Int)<(cnt:Int))=false:=dF (by omega);have q2:decide (64<cnt)=false:=dF O;have ab:Hid (¬ 64<gB (ds.map fQ.pl)):=by rw[<-av.out];exact O
   have ai:=fH (fun (k:Nat) (d:fQ) z h0 X=>acA (ds:=ds) (k:=k) (d:=d) ab z h0 X);obtain⟨wa,rfl⟩:∃ wa:World,wa=wr:=⟨_,rfl⟩
   go_wp2_with fail;clear q1 q2 O H;go_loopw [27] (fun i wr=>∃ k:Nat,k<=ds.length/\i=.int .i64 k/\Hid (∀ y∈ds.take k,um y.pl=0)/\Hid (Bw w wr)) (fun i _=>ds.length-(intOf i).toNat)
   case atStart=>exact⟨0,z0,rfl,by simp[Hid],Y⟩
   case round=>
    clear Y;obtain⟨k,hk,rfl,HZ,Y⟩:=hrel;by_cases H:k<ds.length
    ·obtain⟨d,z⟩:∃ d,ds[k]?=some d:=⟨_,gG H⟩
     obtain⟨b,off,hA,X⟩:=(HD.row.below Y).elem pV k d z;have e0:=X 0 _ rfl;have e1:=X 1 _ rfl;simp only[Nat.add_zero] at e0;have ap:=fun W=>gi (T:=30) (E:=75) (sz:=2) (c:=c) underlying30 rfl sizeOf75 hA H W;have hm:=gM z;have au:=HF.al d hm;have aG:=fH (HF.nm d hm);have aA:=fH (HF.ver d hm);have ah:=fH z;have az:=fH (gC z);have aL:=fH (HD.all d hm);clear z hA X hm;obtain⟨wo,rfl⟩:∃ wo:World,wo=wr:=⟨_,rfl⟩
     obtain⟨U,af⟩:∃ U,d.bar=U:=⟨_,rfl⟩
     have aI:=fH af;obtain⟨D,M⟩:∃ D,d.alts.length=D:=⟨_,rfl⟩
     rw[af] at e0;rw[M] at e1 au;have an:=fH M;clear af M;obtain⟨K,J⟩:∃ K,wo.alloc (.cells #[.bool U,.slice d.aa D d.ac] 75)=K:=⟨_,rfl⟩
     have B2:Hid (Bw wo K):=by rw[<-J];exact bR.alloc lr _
     have K2:Hid (fV K wo.heap.size [.bool U,.slice d.aa D d.ac]):=by show fV _ _ _;rw[<-J];exact fV.new wo [.bool U,.slice d.aa D d.ac] _
     have k0:=K2.cell 0 _ rfl;have k1:=K2.cell 1 _ rfl;have BW:=fH (fM Y B2);have aq:um d.pl=if D=0\/(U=true/\1<D) then 3 else iz kE d.alts:=by
      unfold um;show(if d.alts.length=0\/d.bar=true/\1<d.alts.length then 3 else iz kE d.alts)=_;rw[an.out,aI.out]
     have I:=fH aq;clear aq;by_cases z0:D=0
     ·have q:((D:Int)==0)=true:=by rw[z0];rfl
      have E:Hid (ni (ds.map fQ.pl)=3):=by show _=_;rw[ai.out k d ah.out HZ.out (by rw[I.out,if_pos (.inl z0)];decide),I.out,if_pos (.inl z0)]
      clear z0;go_wp2;go_ret;exact⟨fT E.out.symm,BW⟩
     have q:((D:Int)==0)=false:=beq_eq_false_iff_ne.2 (by omega);by_cases V:U=true/\1<D
     ·have E:Hid (ni (ds.map fQ.pl)=3):=by show _=_;rw[ai.out k d ah.out HZ.out (by rw[I.out,if_pos (.inr V)];decide),I.out,if_pos (.inr V)]
      obtain⟨rfl,V⟩:=V;have q1:decide ((1:Int)<(D:Int))=true:=dT (by omega);have q2:decide (1<D)=true:=dT V;clear z0;go_wp2;go_ret;exact⟨fT E.out.symm,BW⟩
     have ae:Hid (um d.pl=iz kE d.alts):=by show _=_;rw[I.out,if_neg];rintro(h | h);exact z0 h;exact V h
     have R:U=false\/U=true/\decide ((1:Int)<(D:Int))=false/\decide (1<D)=false:=by
      cases U with
      | false=>exact .inl rfl
      | true=>right;exact⟨rfl,dF (fun h=>V ⟨rfl,by omega⟩),dF (fun h=>V ⟨rfl,h⟩)⟩
     clear V I;go_upto_region 12 with(fail)
     clear J e0 e1 ap;go_cut [44] (fun s wx=>s=.bool false/\K=wx)
     case first=>
      rcases R with rfl | ⟨rfl,q1,q2⟩
      ·go_wp2;go_meet;exact⟨rfl,by trivial⟩
      ·go_wp2;go_meet;exact⟨rfl,by trivial⟩
     case rest=>
     obtain⟨rfl,rfl⟩:=hcut;clear R z0;go_wp2;go_loopw [48] (fun i wx=>∃ j:Nat,j<=D/\i=.int .i64 j/\Hid (∀ y∈d.alts.take j,kE y=0)/\Hid (Bw w wx)/\Hid (Bw K wx)) (fun i _=>D-(intOf i).toNat)
     case atStart=>exact⟨0,z0,rfl,by simp[Hid],BW,bR⟩
     case round=>
      obtain⟨j,aR,rfl,HE,BJ,aD⟩:=hrel;by_cases Z:j<D
      ·obtain⟨g,hg⟩:∃ g,d.alts[j]?=some g:=⟨_,gG (by rw[an.out];exact Z)⟩
       have ak:=gM hg;obtain⟨b2,aN,ar,ay⟩:=(aL.below BJ).elem kt j g hg;obtain⟨e0,e1,e2⟩:=qj ay;simp only[Nat.add_zero] at e0;have aO:=fun W=>gi (T:=34) (E:=78) (sz:=3) (n:=D) (c:=d.ac) underlying34 rfl sizeOf78 ar Z W;have aP:=aG.out g ak;have aQ:=aA.out g ak;have aF:=fH (gC hg);have aH:=fH hg;have ax:=fH (fun W hG=>FD g W hG (by omega) (by omega));unfold fP.val at ax;clear hg ar ay ak;obtain⟨W4,aj⟩:∃ W4,wr.alloc (.cells #[.string g.nm,.int .i64 g.op,.string g.ver] 78)=W4:=⟨_,rfl⟩
       have B4:Hid (Bw wr W4):=by rw[<-aj];exact bR.alloc lr _
       have K4:Hid (fV W4 wr.heap.size g.cells):=by show fV _ _ _;rw[<-aj];exact fV.new wr g.cells _
       obtain⟨k0,k1,k2⟩:=qj K4.cell;go_wp2_with fail;clear aj;refine mb (ax _ (HG.below (fM BJ B4))) ?_;rintro w5 ao;have B5:=fH (fM (fM BJ B4) ao);have aE:=fH (fM (fM aD B4) ao);clear ao;by_cases hz:kE g≠0
       ·have q5:(kE g != 0)=true:=by simpa [bne] using hz
        have ad:iz kE d.alts=kE g:=qd aH HE hz;have E:Hid (ni (ds.map fQ.pl)=kE g):=by show _=_;rw[ai.out k d ah.out HZ.out (by rw[ae.out,ad];exact hz),ae.out,ad]
        generalize kE g=ag at *;clear hz ad;go_wp2;go_ret;exact⟨fT E.out.symm,B5⟩
       ·have q5:(kE g != 0)=false:=by rw[Decidable.not_not.1 hz];rfl
        have aB:=fH (Decidable.not_not.1 hz);obtain⟨ag,am⟩:∃ ag,kE g=ag:=⟨_,rfl⟩
        rw[am] at q5;rw[am];clear hz am;go_wp2;go_roundw
        case rel=>exact⟨j+1,by omega,by go_num,fH (fun y F=>by
         rw[aF.out] at F;rcases List.mem_append.1 F with F | F
         ·exact HE.out y F
         ·rw[List.mem_singleton.1 F];exact aB.out),B5,aE⟩
        case measure=>simp[intOf];omega
      ·have aC:Hid (um d.pl=0):=by
        show _=_;rw[ae.out,gD];intro y F;exact HE.out y (by rw[tL (by have:=an.out;omega)];exact F)
       go_wp2;go_roundw
       case rel=>exact⟨k+1,by omega,by go_num,fH (fun y F=>by
        rw[az.out] at F;rcases List.mem_append.1 F with F | F
        ·exact HZ.out y F
        ·rw[List.mem_singleton.1 F];exact aC.out),BJ⟩
       case measure=>simp[intOf];omega
    ·have E:Hid (ni (ds.map fQ.pl)=0):=YM ab (fun y F=>HZ.out y (by rw[tL (by omega)];exact F));go_wp2;go_ret;exact⟨fT E.out.symm,Y⟩
theorem VO {d:fQ}{g:fP}(h:d.alts=[g])(z:0<=g.op):(oz d.pl).cells=[.bool d.bar,.string g.nm,.int .i64 g.op,.string g.ver]:=by
 have e:oz d.pl=⟨d.bar,bl g.nm,g.op.toNat,bl g.ver⟩:=by
  unfold oz fQ.pl;simp only;rw[h]
 rw[e];unfold jP.cells;simp only;rw[nF,nF,Int.toNat_of_nonneg z]
def pE (B:Nat)(w:World)(A:OA)(c:Nat)(xs:List BA):Prop:=w.ownsRow B 9 1 (.slice A xs.length c) xs.length (strCells xs)
theorem pE.below (h:pE B w A c xs)(z:Bw w w'):pE B w' A c xs:=ge h z
theorem pE.mono {B':Nat}(h:pE B w A c xs)(I:B'<=B):pE B' w A c xs:=by
 refine⟨h.1,?_⟩;rcases h.2 with D | ⟨g,cap,z,D,H,F⟩
 ·exact .inl D
 ·exact .inr ⟨g,cap,z,D,Nat.le_trans I H,F⟩
theorem pE.nil (B:Nat)(w:World):pE B w none 0 []:=World.ownsRow_nil _ _ _ _
theorem N4 (w:World)(s:BA)(z:B<=w.heap.size):pE B (w.alloc (.cells #[.string s] 9)) (some ⟨w.heap.size,0,none⟩) 1 [s]:=
 World.ownsRow_lit w #[.string s] 1 z (by decide) rfl
theorem Rn (A:OA)(c:Nat)(ds:List fQ)(w:World)(hG:Gl w)(hd:rE w A ds)(hl:ds.length<=64)(ht:∀ d∈ds,d.pl.told 3):Calls prog 85 #[.slice A ds.length c] w fun e w'=>∃ (A1:OA) (c1:Nat) (ns:List BA),e=.returned (.tuple #[.slice A1 ns.length c1,.int .i64 0])/\Bw w w'/\pE w.heap.size w' A1 c1 ns/\ns.map bl=iL 3 false (ds.map fQ.pl):=by
 obtain⟨i0,hi,aq,aB,ax⟩:=info_parts Iw;have HG:=fH hG;have HD:=fH hd;have I:Hid (∀ d∈ds,∃ g,d.alts=[g]/\g.told 3):=by
  intro d M;have h:=ht d M;have h1:d.alts.length=1:=h.apk rfl
  match V:d.alts with
  | []=>rw[V] at h1;simp at h1
  | [g]=>exact⟨g,rfl,h.each g (by show g∈d.alts;rw[V];simp)⟩
  | g::g2::r=>rw[V] at h1;simp at h1
 have ar:Hid (∀ x∈(ds.map fQ.pl).map oz,x.right):=by
  intro x hx;obtain⟨p,hp,rfl⟩:=List.mem_map.1 hx;obtain⟨d,M,rfl⟩:=List.mem_map.1 hp;obtain⟨g,e,hg⟩:=I.out d M;have:oz d.pl=⟨d.bar,bl g.nm,g.op.toNat,bl g.ver⟩:=by unfold oz fQ.pl;simp only;rw[e]
  rw[this];exact(Fk d.bar hg).right
 have K:Hid (iL 3 false (ds.map fQ.pl)=if ds.map fQ.pl=[] then [] else [ko ((ds.map fQ.pl).map oz)]):=by
  show _=_;unfold iL;rw[if_neg (by decide),if_neg (by decide)];simp
 clear hG hd ht;by_cases h0:ds.length=0
 ·have q:((ds.length:Int)==0)=true:=by rw[h0];rfl
  have E:Hid (iL 3 false (ds.map fQ.pl)=[]):=by show _=_;rw[K.out,if_pos (by rw[List.length_eq_zero_iff.1 h0];rfl)]
  clear h0;go_in;go_wp2;go_ret2;exact⟨none,0,[],rfl,bR,pE.nil _ _,by rw[E.out];rfl⟩
 have q:((ds.length:Int)==0)=false:=beq_eq_false_iff_ne.2 (by omega);have E:Hid (iL 3 false (ds.map fQ.pl)=[ko ((ds.map fQ.pl).map oz)]):=by
  show _=_;rw[K.out,if_neg];intro e;apply h0;have:=congrArg List.length e;simpa using this
 clear h0 K;go_in;go_wp2_with fail;clear q;go_loopw [4,14] (fun s4 av wr=>∃ (k:Nat) (O:OA) (oc:Nat),k<=ds.length/\s4=.slice O k oc/\av=.int .i64 k/\Hid (wr.ownsRow w.heap.size 142 4 (.slice O k oc) k (((ds.map fQ.pl).map oz).take k |>.flatMap jP.cells))/\Hid (Bw w wr)) (fun _ i _=>ds.length-(intOf i).toNat)
 case atStart=>exact⟨0,none,0,z0,rfl,rfl,by simpa [Hid] using World.ownsRow_nil w _ _ _,bR⟩
 case round=>
  obtain⟨k,O,oc,hk,rfl,rfl,HO,HB⟩:=hrel;by_cases ah:k<ds.length
  ·obtain⟨d,F⟩:∃ d,ds[k]?=some d:=⟨_,gG ah⟩
   have M:=gM F;obtain⟨b,off,hA,V⟩:=(HD.row.below HB).elem pV k d F;have e0:=V 0 _ rfl;have e1:=V 1 _ rfl;simp only[Nat.add_zero] at e0;have aE:=fun W=>gi (T:=30) (E:=75) (sz:=2) (c:=c) underlying30 rfl sizeOf75 hA ah W;obtain⟨g,hg,al⟩:=I.out d M;have X:=(HD.all d M).below HB.out;rw[hg] at X;have D:d.alts.length=1:=by rw[hg];rfl
   rw[D] at e1;have ad:Hid ((((ds.map fQ.pl).map oz).take (k+1)).flatMap jP.cells=(((ds.map fQ.pl).map oz).take k).flatMap jP.cells++[.bool d.bar,.string g.nm,.int .i64 g.op,.string g.ver]):=by
    show _=_;rw[gC (l:=(ds.map fQ.pl).map oz) (x:=oz d.pl) (by simp[F]),List.flatMap_append,<-VO hg al.op0];simp
   have ay:=fH X;obtain⟨Y,ag⟩:∃ Y,d.bar=Y:=⟨_,rfl⟩
   rw[ag] at e0 ad;clear F hA V M hg al X D ag;obtain⟨R,H⟩:∃ R,wr.alloc (.cells #[.bool Y,.slice d.aa 1 d.ac] 75)=R:=⟨_,rfl⟩
   have B2:Hid (Bw wr R):=by rw[<-H];exact bR.alloc lr _
   have K2:Hid (fV R wr.heap.size [.bool Y,.slice d.aa 1 d.ac]):=by show fV _ _ _;rw[<-H];exact fV.new wr [.bool Y,.slice d.aa 1 d.ac] _
   have k0:=K2.cell 0 _ rfl;have k1:=K2.cell 1 _ rfl;obtain⟨b2,ak,af,an⟩:=(Rd.elem (l:=[g]) kt (ay.below B2) 0 g rfl)
   obtain⟨g0,g1,g2⟩:=qj an;simp only[Nat.add_zero,Nat.zero_mul] at g0 g1 g2;have aD:∀ W,(Instr.indexAt 34 (.slice d.aa 1 d.ac) (.int .i64 0)).run prog W=.ok (.pointer (some ⟨b2,ak,none⟩)) W:=fun W=>by
    have:=gi (T:=34) (E:=78) (sz:=3) (n:=1) (k:=0) (c:=d.ac) underlying34 rfl sizeOf78 af (by omega) W;simpa using this
   have ai:=fH (ge HO B2);have BW:=fH (fM HB B2);have au:=BW.size;clear af an;have ao:=fH H;clear H;go_upto_region 7 with(fail)
   rw[ao.out]
   go_region_law
    ((refine iF _ (by rfl) _ _ _ (by rfl) w.heap.size 142 i0 _ 4 48 underlying87 hi aq aB ax rfl (by omega) (.slice O k oc) k _ (by rfl) ((ai.alloc _).drew)
       (R.heap.size+1) (some ⟨R.heap.size,0,none⟩) 1 1 [.bool Y,.string g.nm,.int .i64 g.op,.string g.ver] (by rfl) (Dx R _ _ _ _ _) (by simp[Value.oneCell']) (by unfold maxLen;omega) (by omega) (by simp;omega) ?_
      intro v1 w6 z aj ae;obtain⟨O1,c1,rfl⟩:=gg z))
   all_goals
    have ap:Hid (Bw w w6):=((BW.alloc au (.cells #[.bool Y,.string g.nm,.int .i64 g.op,.string g.ver] 142)).drew).grown aj (by simp;omega) (fun q hq=>(ai.lt q hq).1);have O6:Hid (w6.ownsRow w.heap.size 142 4 (.slice O1 (k+1) c1) (k+1) ((((ds.map fQ.pl).map oz).take (k+1)).flatMap jP.cells)):=by
     show World.ownsRow _ _ _ _ _ _ _;rw[ad.out];exact z
    clear z aj ae;go_wp2;go_roundw
    case rel=>exact⟨k+1,O1,c1,by omega,rfl,by go_num,O6,ap⟩
    case measure=>simp[intOf];omega
  ·have aC:Hid (Rd wr 4 O ((ds.map fQ.pl).map oz).length (((ds.map fQ.pl).map oz).flatMap jP.cells)):=by
    have h:=gR HO.out;rw[tL (by simp;omega)] at h;show Rd _ _ _ _ _;rw[show((ds.map fQ.pl).map oz).length=k by simp;omega];exact h
   have J:k=((ds.map fQ.pl).map oz).length:=by simp;omega
   have aF:=fH J;have az:((ds.map fQ.pl).map oz).length<=64:=by simp;omega
   have ab:=fH (wn O oc _ ar az wr (HG.below HB) aC);rw[<-J] at ab;clear J;go_wp2_with fail;refine ab.mono ?_;rintro e w5 ⟨rfl,am⟩;have B5:=fH (fM HB am);clear am;obtain⟨Z,U⟩:∃ Z,gX (ko ((ds.map fQ.pl).map oz))=Z:=⟨_,rfl⟩
   have aA:Hid (bl Z=ko ((ds.map fQ.pl).map oz)):=by show _=_;rw[<-U,iS]
   rw[U];clear U;have RT:=fH (N4 (B:=w.heap.size) w5 Z B5.size);have B6:=fH (fM B5 (bR.alloc lr (.cells #[.string Z] 9)));go_wp2;go_ret2;exact⟨some ⟨w5.heap.size,0,none⟩,1,[Z],rfl,B6,RT,by rw[E.out,List.map_singleton,aA.out]⟩
def orS:BA:=⟨#[111,114]⟩
def kX (g:fP):fL:=.mk ⟨#[]⟩ g.nm g.op.toNat g.ver none 0 []
theorem N5 (g:fP):(kX g).pl=js g:=by unfold kX js;simp[fL.pl,bl]
theorem FE {g:fP}(h:0<=g.op):(kX g).cells=[.string ⟨#[]⟩,.string g.nm,.int .i64 g.op,.string g.ver,.slice none 0 0]:=by
 unfold kX fL.cells;simp only[fL.op,fL.nm,fL.aop,fL.ver,fL.ka,fL.kids,fL.kc,List.length_nil];rw[Int.toNat_of_nonneg h]
theorem Jj {g:fP}(h:g.told 2):jR (kX g):=by
 have F:=h.op5;have H:=h.op0;refine .atom _ _ _ (Cs h.name) (by omega) (fun e=>?_) (fun e=>?_)
 ·have:=h.none (by omega);rw[<-fI,this];rfl
 ·obtain⟨c,D,z⟩:=h.ver (by omega);have:=ol (.inr (.inl rfl)) D;rw[<-z,nF] at this;exact this
theorem Jk (w:World)(lo:Nat)(z:Option Nat)(g:fP):iD w lo z (kX g):=.mk _ (World.ownsRow_nil _ _ _ _) (by simp[kX,fL.ka,fL.kids,fL.kc,Value.ownBlock]) (by simp[kX,fL.kids])
theorem VP {l:List fP}(h:∀ g∈l,g.told 2)(F:2<=l.length)(K:OA)(kc:Nat):jR (.mk orS ⟨#[]⟩ 0 ⟨#[]⟩ K kc (l.map kX)):=by
 refine .node _ _ _ _ (by decide) ?_ (fun k D=>?_)
 ·show io kT (l.map kX).length=true;unfold io;rw[List.length_map];simp[kT,lh,vn,ir,lJ,iC];try omega
 ·obtain⟨g,z,rfl⟩:=List.mem_map.1 D;exact Jj (h g z)
theorem FF:∀ (l:List fP),jG (l.map kX)=l.length/\IJ (l.map kX)<=1
 | []=>⟨rfl,by simp[IJ]⟩
 | g::r=>by
  obtain⟨z,H⟩:=FF r;have F:(kX g).cnt=1:=DQ rfl;have D:(kX g).ht=0:=Cl.2 rfl;simp only[List.map_cons,jG,IJ,z,F,D,List.length_cons];omega
structure VQ (w wr:World) (ns:List BA) (A1:OA) (n1 c1:Nat) (bs:List BA) (A2:OA) (n2 c2:Nat):Prop where
 r1:wr.ownsRow w.heap.size 9 1 (.slice A1 n1 c1) n1 (strCells ns)
 r2:wr.ownsRow w.heap.size 9 1 (.slice A2 n2 c2) n2 (strCells bs)
 ne:∀ g,(Value.slice A1 n1 c1).ownBlock=some g->(Value.slice A2 n2 c2).ownBlock≠some g
 l1:ns.length=n1
 l2:bs.length=n2
 bel:Bw w wr
theorem VQ.start (w:World):VQ w w [] none 0 0 [] none 0 0:=⟨World.ownsRow_nil _ _ _ _,World.ownsRow_nil _ _ _ _,by simp[Value.ownBlock],rfl,rfl,bR⟩
theorem VQ.below (h:VQ w wr ns A1 n1 c1 bs A2 n2 c2)(z:Bw wr w'):VQ w w' ns A1 n1 c1 bs A2 n2 c2:=
 ⟨ge h.r1 z,ge h.r2 z,h.ne,h.l1,h.l2,fM h.bel z⟩
theorem yi (a b:List BA):strCells (a++b)=strCells a++strCells b:=by simp[strCells]
theorem VQ.add1 {B1:OA}(h:VQ w wr ns A1 n1 c1 bs A2 n2 c2)
  (J:w2.ownsRow w.heap.size 9 1 (.slice B1 (n1+1) d1) (n1+1) (strCells ns++[.string s]))(H:(wr.alloc o).grownBy w2 (Value.slice A1 n1 c1).ownBlock)
  (F:(Value.slice B1 (n1+1) d1).ownBlock=(Value.slice A1 n1 c1).ownBlock\/(Value.slice B1 (n1+1) d1).ownBlock=some (wr.alloc o).heap.size):VQ w w2 (ns++[s]) B1 (n1+1) d1 bs A2 n2 c2:=by
 have D:=h.below ((Below.refl wr.heap.size wr).alloc lr o);refine⟨by rw[yi];exact J,D.r2.kept H ?_,fun g z=>?_,by simp[h.l1],h.l2,D.bel.grown H D.bel.size (fun j I=>(D.r1.lt j I).1)⟩
 ·cases hq:(Value.slice A2 n2 c2).ownBlock with
  | none=>exact .inl rfl
  | some g=>right;intro e;exact h.ne g e.symm hq
 ·rcases F with F | F
  ·rw[F] at z;exact h.ne g z
  ·rw[F] at z;injection z with z;intro e;have:=(D.r2.lt g e).2;omega
theorem VQ.add2 (h:VQ w wr ns A1 n1 c1 bs A2 n2 c2)
  (J:w2.ownsRow w.heap.size 9 1 (.slice B2 (n2+1) d2) (n2+1) (strCells bs++[.string s]))(H:(wr.alloc o).grownBy w2 (Value.slice A2 n2 c2).ownBlock)
  (D:(Value.slice B2 (n2+1) d2).ownBlock=(Value.slice A2 n2 c2).ownBlock\/(Value.slice B2 (n2+1) d2).ownBlock=some (wr.alloc o).heap.size):VQ w w2 ns A1 n1 c1 (bs++[s]) B2 (n2+1) d2:=by
 have z:=h.below ((Below.refl wr.heap.size wr).alloc lr o);refine⟨z.r1.kept H ?_,by rw[yi];exact J,fun g F=>?_,h.l1,by simp[h.l2],z.bel.grown H z.bel.size (fun j I=>(z.r2.lt j I).1)⟩
 ·cases hq:(Value.slice A1 n1 c1).ownBlock with
  | none=>exact .inl rfl
  | some g=>right;intro e;exact h.ne g hq e.symm
 ·rcases D with D | D
  ·rw[D];exact h.ne g F
  ·rw[D];intro e;injection e with e;have:=(z.r1.lt g F).2;omega
def Lf (N B:List (LU))(w:World)(e:Ending)(w':World):Prop:=
 ∃ (A1:OA) (c1:Nat) (A2:OA) (c2:Nat) (ns bs:List BA),e=.returned (.tuple #[.slice A1 ns.length c1,.slice A2 bs.length c2,.int .i64 0])/\Bw w w'/\pE w.heap.size w' A1 c1 ns/\pE w.heap.size w' A2 c2 bs/\ns.map bl=N/\bs.map bl=B
theorem Jl (bar:Bool)(l:List gI):iL 2 bar l=(iJ bar l).map fun d=>ij (vr d):=by unfold iL;rw[if_neg (by decide),if_pos rfl]
theorem FG {l:List fQ}{d:fQ}(h:l[k]?=some d):iL 2 bar ((l.take (k+1)).map fQ.pl)=iL 2 bar ((l.take k).map fQ.pl)++(if d.bar=bar then [ij (vr d.pl)] else []):=by
 rw[Jl,Jl,gC h,List.map_append];unfold iJ;rw[List.filter_append,List.map_append];congr 1;by_cases z:d.bar=bar
 ·rw[if_pos z];simp[fQ.pl,z]
 ·rw[if_neg z];simp[fQ.pl,z]
theorem Ro (w:World)(t:TypeId)(a b c d e:Value):nE (w.alloc (.cells #[a,b,c,d,e] t)) (w.heap.size+1) 5 (some ⟨w.heap.size,0,none⟩) 1 [a,b,c,d,e]:=by
 refine⟨rfl,fun _=>⟨_,rfl,by simp,fun j u z=>?_⟩⟩
 match j,z with
 | 0,z=>simp at z;subst z;simp[Addr.add]
 | 1,z=>simp at z;subst z;simp[Addr.add]
 | 2,z=>simp at z;subst z;simp[Addr.add]
 | 3,z=>simp at z;subst z;simp[Addr.add]
 | 4,z=>simp at z;subst z;simp[Addr.add]
 | j+5,z=>simp at z
structure VR (W0 wr:World) (b B1:Nat) (K:OA) (j kc:Nat) (L:List fP) (dv:LV):Prop where
 bel:Bw W0 wr
 dbx:fV wr W0.heap.size dv
 box:fV wr b [.string orS,.string ⟨#[]⟩,.int .i64 0,.string ⟨#[]⟩,.slice K j kc]
 own:wr.ownsRow B1 86 5 (.slice K j kc) j ((L.map kX).flatMap fL.cells)
 len:L.length=j
 lo:W0.heap.size<b
 hi:b<B1
 sz:B1<=wr.heap.size
theorem VR.step {L:List fP}(h:VR W0 wr b B1 K j kc L dv)(z:Bw wr w'):VR W0 w' b B1 K j kc L dv:=
 ⟨fM h.bel z,h.dbx.below z,h.box.below z,ge h.own z,h.len,h.lo,h.hi,Nat.le_trans h.sz z.size⟩
theorem VR.app {K1:OA}{L:List fP}{x:fP}(h:VR W0 wr b B1 K j kc L dv)(o:Obj)
  (z:w6.ownsRow B1 86 5 (.slice K1 (j+1) c1) (j+1) ((L.map kX).flatMap fL.cells++(kX x).cells))(F:(wr.alloc o).grownBy w6 (Value.slice K j kc).ownBlock):
  VR W0 (w6.setCell ⟨b,4,none⟩ (.slice K1 (j+1) c1)) b B1 K1 (j+1) c1 (L++[x]) dv:=by
 have lo:=h.lo;have M:=h.hi;have sz:=h.sz;have I:∀ g,(Value.slice K j kc).ownBlock=some g->B1<=g:=fun g J=>(h.own.lt g J).1;have R:some b≠(Value.slice K j kc).ownBlock:=fun e=>by have:=I b e.symm;omega
 have O:some W0.heap.size≠(Value.slice K j kc).ownBlock:=fun e=>by have:=I _ e.symm;omega
 have D:w6.grownBy (w6.setCell ⟨b,4,none⟩ (.slice K1 (j+1) c1)) (some b):=fX (World.grownBy.refl w6 (some b)) (.inl rfl) _;refine⟨fO ((h.bel.alloc h.bel.size o).grown F (by have:=h.bel.size;simp;omega) (fun i H=>by have:=I i H;omega)) (by omega) _,((h.dbx.alloc o).grownR F O).far (by omega) _,((h.box.alloc o).grownR F R).set 4 (by simp) _,?_,by simp[h.len],lo,M,?_⟩
 ·rw[List.map_append,List.flatMap_append];have:=Je (j:=4) z M (.slice K1 (j+1) c1);simpa using this
 ·have U:=F.size;have V:=D.size;simp at U;omega
theorem VR.tree {L:List fP}(h:VR W0 wr b B1 K j kc L dv):iD wr 0 none (.mk orS ⟨#[]⟩ 0 ⟨#[]⟩ K kc (L.map kX)):=by
 refine .mk _ ?_ (by simp) (fun k z=>?_)
 ·simp only[fL.ka,fL.kids,fL.kc,List.length_map];rw[h.len];exact gF h.own z0
 ·simp only[fL.kids] at z;obtain⟨g,_,rfl⟩:=List.mem_map.1 z;exact Jk _ _ _ _
theorem VR.cells {L:List fP}(h:VR W0 wr b B1 K j kc L dv):fV wr b (fL.mk orS ⟨#[]⟩ 0 ⟨#[]⟩ K kc (L.map kX)).cells:=by
 have:=h.box;unfold fL.cells;simp only[fL.op,fL.nm,fL.aop,fL.ver,fL.ka,fL.kids,fL.kc,List.length_map];rw[h.len];exact this
theorem YN {d:fQ}{g:fP}(h:d.alts=[g]):vr d.pl=js g:=by unfold vr fQ.pl;simp only;rw[h]
theorem VS {d:fQ}(h:2<=d.alts.length):vr d.pl=.node kT (d.alts.map js):=by
 unfold vr fQ.pl;simp only
 match he:d.alts with
 | []=>rw[he] at h;simp at h
 | [g]=>rw[he] at h;simp at h
 | g::g2::r=>rfl
theorem aaK (L:List fP)(K:OA)(kc:Nat):(fL.mk orS ⟨#[]⟩ 0 ⟨#[]⟩ K kc (L.map kX)).pl=.node kT (L.map js):=by
 rw[Cn _ _ _ _ _ _ _ (by decide),nZ,List.map_map];congr 1
 try exact List.map_congr_left fun g _=>N5 g
theorem Rp (A:OA)(c:Nat)(ds:List fQ)(w:World)(hG:Gl w)(hd:rE w A ds)(hl:ds.length<=64)(ha:∀ d∈ds,d.alts.length<=64)(ht:∀ d∈ds,d.pl.told 2):Calls prog 84 #[.slice A ds.length c] w (Lf (iL 2 false (ds.map fQ.pl)) (iL 2 true (ds.map fQ.pl)) w):=by
 obtain⟨i0,hi,aE,aO,aK⟩:=info_parts tJ;obtain⟨i1,hj,bf,aU,aZ⟩:=info_parts uL;have HG:=fH hG;have HD:=fH hd;have HT:=fH ht;have HA:=fH ha;clear hG hd ht ha;go_in;go_wp2;go_loopw [2,3,14] (fun s2 s3 bd wr=>∃ (k n1 c1 n2 c2:Nat) (A1 A2:OA) (ns bs:List BA),k<=ds.length/\n1<=k/\n2<=k/\s2=.slice A1 n1 c1/\s3=.slice A2 n2 c2/\bd=.int .i64 k/\Hid (ns.map bl=iL 2 false ((ds.take k).map fQ.pl))/\Hid (bs.map bl=iL 2 true ((ds.take k).map fQ.pl))/\Hid (VQ w wr ns A1 n1 c1 bs A2 n2 c2)) (fun _ _ i _=>ds.length-(intOf i).toNat)
 case atStart=>exact⟨0,0,0,0,0,none,none,[],[],z0,z0,z0,rfl,rfl,rfl,rfl,rfl,VQ.start w⟩
 case round=>
  obtain⟨k,n1,c1,n2,c2,A1,A2,ns,bs,hk,bu,bC,rfl,rfl,rfl,HN,HB,Y⟩:=hrel;by_cases aD:k<ds.length
  ·obtain⟨d,V⟩:∃ d,ds[k]?=some d:=⟨_,gG aD⟩
   have hm:=gM V;obtain⟨b,off,hA,he⟩:=(HD.row.below Y.bel).elem pV k d V;have e0:=he 0 _ rfl;have e1:=he 1 _ rfl;simp only[Nat.add_zero] at e0;have aT:=fun W=>gi (T:=30) (E:=75) (sz:=2) (c:=c) underlying30 rfl sizeOf75 hA aD W;have Z:=HT.out d hm;have aH:=fH Z;have aA:=HA.out d hm;have ap:=fH (FG (bar:=false) V);have aj:=fH (FG (bar:=true) V);have aR:=fH ((HD.all d hm).below Y.bel);obtain⟨g,r,ae⟩:∃ g r,d.alts=g::r:=by
    match hx:d.alts with
    | []=>exact absurd hx Z.ne
    | g::r=>exact⟨g,r,rfl⟩
   have ao:g.told 2:=Z.each g (by show g∈d.alts;rw[ae];simp);have ak:=fH ae;obtain⟨H,R⟩:∃ H,d.alts.length=H:=⟨_,rfl⟩
   obtain⟨db,aC⟩:∃ db,d.bar=db:=⟨_,rfl⟩
   rw[R] at e1 aA;rw[aC] at e0 ap aj;have bp:1<=H:=by rw[<-R,ae];simp
   have M:=fH R;clear V hA he hm Z ae R aC;obtain⟨O,rfl⟩:∃ O:World,O=wr:=⟨_,rfl⟩
   obtain⟨D,ab⟩:∃ D,O.alloc (.cells #[.bool db,.slice d.aa H d.ac] 75)=D:=⟨_,rfl⟩
   have B2:Hid (Bw O D):=by rw[<-ab];exact bR.alloc lr _
   have K2:Hid (fV D O.heap.size [.bool db,.slice d.aa H d.ac]):=by show fV _ _ _;rw[<-ab];exact fV.new O [.bool db,.slice d.aa H d.ac] _
   have k0:=K2.cell 0 _ rfl;have k1:=K2.cell 1 _ rfl;have aS:=fH (aR.below B2);obtain⟨b2,aG,ax,aQ⟩:=aS.elem kt 0 g (by rw[ak.out];rfl);obtain⟨g0,g1,g2⟩:=qj aQ;simp only[Nat.add_zero,Nat.zero_mul] at g0 g1 g2;have aL:∀ W,(Instr.indexAt 34 (.slice d.aa H d.ac) (.int .i64 0)).run prog W=.ok (.pointer (some ⟨b2,aG,none⟩)) W:=fun W=>by
    have:=gi (T:=34) (E:=78) (sz:=3) (n:=H) (k:=0) (c:=d.ac) underlying34 rfl sizeOf78 ax (by omega) W;simpa using this
   have bh:=ao.op0;obtain⟨W3,X⟩:∃ W3,D.alloc (.cells #[.string ⟨#[]⟩,.string g.nm,.int .i64 g.op,.string g.ver,.slice none 0 0] 86)=W3:=⟨_,rfl⟩
   have B3:Hid (Bw D W3):=by rw[<-X];exact bR.alloc lr _
   have K3:Hid (fV W3 D.heap.size [.string ⟨#[]⟩,.string g.nm,.int .i64 g.op,.string g.ver,.slice none 0 0]):=by show fV _ _ _;rw[<-X];exact fV.new D [.string ⟨#[]⟩,.string g.nm,.int .i64 g.op,.string g.ver,.slice none 0 0] _
   have ag:=fH (K2.below B3);have ba:=fH ao;have aW:O.heap.size<D.heap.size:=K2.sz;have aP:=ag.cell 1 _ rfl;have bt:W3.heap.size=D.heap.size+1:=by rw[<-X];simp
   have av:=fH ab;have aI:=fH X;clear ax aQ ao ab X;go_upto_region 4 with(fail)
   rw[av.out];go_upto_if 26 with(fail)
   rw[aI.out];clear av aI e0 e1 aT k0 k1 g0 g1 g2 aL;go_cut [7] (fun s wx=>s=.pointer (some ⟨D.heap.size,0,none⟩)/\∃ T:fL,Hid (fV wx D.heap.size T.cells)/\Hid (iD wx 0 none T)/\Hid (T.pl=vr d.pl)/\Hid (jR T)/\T.cnt<=64/\T.ht<=32/\Hid (Bw O wx)/\Hid (fV wx O.heap.size [.bool db,.slice d.aa H d.ac]))
   case first=>
    by_cases h1:1<H
    rotate_left
    ·have q1:decide ((1:Int)<(H:Int))=false:=dF (by omega);have q2:decide (1<H)=false:=dF h1;have ay:d.alts=[g]:=by
      have h2:=M.out;rw[ak.out,List.length_cons] at h2;have:g :: []=[g]:=rfl;rw[ak.out];congr 1;exact List.eq_nil_of_length_eq_zero (by omega)
     have an:Hid ((kX g).pl=vr d.pl):=by show _=_;rw[YN ay,N5]
     have be:Hid (fV W3 D.heap.size (kX g).cells):=by show fV _ _ _;rw[FE bh];exact K3.out
     have bk:(kX g).cnt<=64:=by rw[DQ rfl];omega
     have aV:(kX g).ht<=32:=by rw[Cl.2 rfl];omega
     clear ay;go_wp2;go_meet;exact⟨rfl,kX g,be,Jk _ _ _ _,an,Jj ba,bk,aV,fM B2 B3,ag⟩
    ·have q1:decide ((1:Int)<(H:Int))=true:=dT (by omega);have q2:decide (1<H)=true:=dT h1;obtain⟨x0,x1,x2,x3,x4⟩:=rF K3.cell;have y0:=K3.free 0 (by simp);have y1:=K3.free 1 (by simp);have y2:=K3.free 2 (by simp);have y3:=K3.free 3 (by simp);have y4:=K3.free 4 (by simp);have br:¬ O.heap.size=D.heap.size:=by omega
     have J:¬ D.heap.size=O.heap.size:=by omega
     obtain⟨W4,am⟩:∃ W4,((((W3.setCell ⟨D.heap.size,0,none⟩ (.string ⟨#[111,114]⟩)).setCell ⟨D.heap.size,1,none⟩ (.string ⟨#[]⟩)).setCell ⟨D.heap.size,2,none⟩ (.int .i64 0)).setCell ⟨D.heap.size,3,none⟩ (.string ⟨#[]⟩)).setCell ⟨D.heap.size,4,none⟩ (.slice none 0 0)=W4:=⟨_,rfl⟩
     have K0:Hid (VR O W4 D.heap.size (D.heap.size+1) none 0 0 [] [.bool db,.slice d.aa H d.ac]):=by
      show VR _ _ _ _ _ _ _ _ _;rw[<-am];refine⟨?_,?_,?_,World.ownsRow_nil _ _ _ _,rfl,aW,Nat.lt_succ_self _,?_⟩
      ·repeat' refine fO ?_ (by omega) _
       exact fM B2 B3.out
      ·exact((((ag.far J _).far J _).far J _).far J _).far J _
      ·exact((((K3.set 0 (by simp) _).set 1 (by simp) _).set 2 (by simp) _).set 3 (by simp) _).set 4 (by simp) _
      ·have:(((((W3.setCell ⟨D.heap.size,0,none⟩ (.string ⟨#[111,114]⟩)).setCell ⟨D.heap.size,1,none⟩ (.string ⟨#[]⟩)).setCell ⟨D.heap.size,2,none⟩ (.int .i64 0)).setCell ⟨D.heap.size,3,none⟩ (.string ⟨#[]⟩)).setCell ⟨D.heap.size,4,none⟩ (.slice none 0 0)).heap.size=W3.heap.size:=by simp
       omega
     have az:=fH am;have bb:=K0.dbx.cell 1 _ rfl;clear am;go_upto_region 7 with(fail)
     rw[az.out];clear az x0 x1 x2 x3 x4 y0 y1 y2 y3 y4 aP;go_wp2_with fail;have H1:=fH h1;rw[q1];clear bb q1 q2 h1;go_loopw [31] (fun i wx=>∃ (j kc:Nat) (K:OA),j<=H/\i=.int .i64 j/\Hid (VR O wx D.heap.size (D.heap.size+1) K j kc (d.alts.take j) [.bool db,.slice d.aa H d.ac])) (fun i _=>H-(intOf i).toNat)
     case atStart=>exact⟨0,0,none,z0,rfl,by simpa [Hid] using K0⟩
     case round=>
      clear K0;obtain⟨j,kc,K,bB,rfl,KI⟩:=hrel;by_cases af:j<H
      ·obtain⟨a,ha⟩:∃ a,d.alts[j]?=some a:=⟨_,gG (by rw[M.out];exact af)⟩
       obtain⟨b3,bn,aJ,aF⟩:=(aR.below KI.bel).elem kt j a ha;obtain⟨e0,e1,e2⟩:=qj aF;simp only[Nat.add_zero] at e0;have bq:=fun W=>gi (T:=34) (E:=78) (sz:=3) (n:=H) (c:=d.ac) underlying34 rfl sizeOf78 aJ af W;have aN:0<=a.op:=(aH.each a (gM ha)).op0;have aY:=fH (gC ha);have bc:=fH (FE aN);clear ha aJ aF aN;obtain⟨W5,ad⟩:∃ W5,wr.alloc (.cells #[.string a.nm,.int .i64 a.op,.string a.ver] 78)=W5:=⟨_,rfl⟩
       have B5:Hid (Bw wr W5):=by rw[<-ad];exact bR.alloc lr _
       have K5:Hid (fV W5 wr.heap.size [.string a.nm,.int .i64 a.op,.string a.ver]):=by show fV _ _ _;rw[<-ad];exact fV.new wr [.string a.nm,.int .i64 a.op,.string a.ver] _
       have I5:=fH (KI.step B5);have q0:=K5.cell 0 _ rfl;have bw:=K5.cell 1 _ rfl;have bD:=K5.cell 2 _ rfl;have m4:=I5.box.cell 4 _ rfl;have aB:=fH I5.own;have bv:=I5.sz;have FB:Hid (some D.heap.size≠(Value.slice K j kc).ownBlock):=by intro e;have:=(aB.lt _ e.symm).1;omega
       have bo:¬ D.heap.size=wr.heap.size:=by have:=KI.sz;omega
       have bm:¬ wr.heap.size=D.heap.size:=by omega
       have bg:=fH ad;clear ad;go_upto_region 10 with(fail)
       rw[bg.out]
       go_wp2_with (
        at_builtin
        refine fR _ rfl _ _ _ rfl (D.heap.size+1) 86 i1 _ 5 80 underlying84 hj bf aU aZ rfl (by omega) (.slice K j kc) j _ rfl (aB.alloc _) (W5.heap.size+1) (some ⟨W5.heap.size,0,none⟩) 1 1 [.string ⟨#[]⟩,.string a.nm,.int .i64 a.op,.string a.ver,.slice none 0 0] rfl (Ro W5 _ _ _ _ _ _) (by simp[Value.oneCell']) (by simp only[maxLen];omega) (by omega) (by simp;omega) ?_;intro v1 w6 z I F;obtain⟨K1,d1,rfl⟩:=gg z;have KB:=fH ((I5.box.alloc (.cells #[.string ⟨#[]⟩,.string a.nm,.int .i64 a.op,.string a.ver,.slice none 0 0] 86)).grownR I FB);have bz:=KB.cell 4 _ rfl;have bA:=KB.free 4 (by simp))
       have N1:=fH (I5.app _ (x:=a) (by rw[bc.out];exact z) I);clear z I F;go_wp2;go_roundw
       case rel=>exact⟨j+1,d1,K1,by omega,by go_num,by rw[aY.out];exact N1⟩
       case measure=>simp[intOf];omega
      ·obtain rfl:j=H:=by omega
       have bi:Hid (d.alts.take j=d.alts):=by show _=_;rw[tL (by have:=M.out;omega)]
       rw[bi.out] at KI;have an:Hid ((fL.mk orS ⟨#[]⟩ 0 ⟨#[]⟩ K kc (d.alts.map kX)).pl=vr d.pl):=by show _=_;rw[VS (by have:=M.out;have:=H1.out;omega),aaK]
       have bj:Hid (jR (fL.mk orS ⟨#[]⟩ 0 ⟨#[]⟩ K kc (d.alts.map kX))):=VP (l:=d.alts) (fun g hg=>aH.each g hg) (by have:=M.out;have:=H1.out;omega) K kc;have ai:(fL.mk orS ⟨#[]⟩ 0 ⟨#[]⟩ K kc (d.alts.map kX)).cnt<=64:=by
        rw[lW (by simp only[fL.kids];intro e;have:=congrArg List.length e;rw[List.length_map,M.out,List.length_nil] at this;omega)];simp only[fL.kids];rw[(FF d.alts).1,M.out];exact aA
       have ar:(fL.mk orS ⟨#[]⟩ 0 ⟨#[]⟩ K kc (d.alts.map kX)).ht<=32:=by
        rw[DP];simp only[fL.kids];have:=(FF d.alts).2;omega
       go_wp2;go_meet;exact⟨rfl,_,KI.cells,KI.tree,an,bj,ai,ar,KI.bel,KI.dbx⟩
   case rest=>
   obtain⟨rfl,T,KT,TO,TP,TG,ai,ar,BW,KD⟩:=hcut;obtain⟨x0,x1,x2,x3,x4⟩:=rF KT.cell;have S1:=fH (Y.below BW);have ah:=fH (Eo TG ai ar wc (HG.below S1.bel) TO);unfold fL.val at ah;clear aP;go_wp2_with fail;refine ah.mono ?_;rintro e w5 ⟨rfl,au⟩;have S2:=fH (S1.below au);have aX:=fH (KD.below au);clear au x0 x1 x2 x3 x4 ah;obtain⟨U,aq⟩:∃ U,gX (ij T.pl)=U:=⟨_,rfl⟩
   have aM:Hid (bl U=ij (vr d.pl)):=by show _=_;rw[<-aq,iS,TP.out]
   rw[aq];clear aq;have x0:=aX.cell 0 _ rfl;have bx:=S2.bel.size;cases db
   ·have HO:=fH S2.r1
    go_wp2_with (
     at_builtin
     refine fR _ rfl _ _ _ rfl w.heap.size 9 i0 _ 1 16 underlying33 hi aE aO aK rfl (by omega) (.slice A1 n1 c1) n1 _ rfl (HO.alloc _) (w5.heap.size+1) (some ⟨w5.heap.size,0,none⟩) 1 1 [.string U] rfl (Ih w5 U) (by simp[Value.oneCell']) (by simp only[maxLen];omega) (by omega) (by simp;omega) ?_;intro v1 w6 z I F;obtain⟨O1,d1,rfl⟩:=gg z)
    have N1:=fH (S2.add1 (s:=U) (o:=.cells #[.string U] 9) z I F);clear z I F;go_wp2;go_roundw
    case rel=>exact⟨k+1,n1+1,d1,n2,c2,O1,A2,ns++[U],bs,by omega,by omega,by omega,rfl,rfl,by go_num,by show _=_;rw[ap.out,List.map_append,HN.out,if_pos trivial,List.map_singleton,aM.out],by show _=_;rw[aj.out,HB.out,if_neg (by simp),List.append_nil],N1⟩
    case measure=>simp[intOf];omega
   ·have HO:=fH S2.r2
    go_wp2_with (
     at_builtin
     refine fR _ rfl _ _ _ rfl w.heap.size 9 i0 _ 1 16 underlying33 hi aE aO aK rfl (by omega) (.slice A2 n2 c2) n2 _ rfl (HO.alloc _) (w5.heap.size+1) (some ⟨w5.heap.size,0,none⟩) 1 1 [.string U] rfl (Ih w5 U) (by simp[Value.oneCell']) (by simp only[maxLen];omega) (by omega) (by simp;omega) ?_;intro v1 w6 z I F;obtain⟨O1,d1,rfl⟩:=gg z)
    have N1:=fH (S2.add2 (s:=U) (o:=.cells #[.string U] 9) z I F);clear z I F;go_wp2;go_roundw
    case rel=>exact⟨k+1,n1,c1,n2+1,d1,A1,O1,ns,bs++[U],by omega,by omega,by omega,rfl,rfl,by go_num,by show _=_;rw[ap.out,HN.out,if_neg (by simp),List.append_nil],by show _=_;rw[aj.out,List.map_append,HB.out,if_pos trivial,List.map_singleton,aM.out],N1⟩
    case measure=>simp[intOf];omega
  ·have EN:Hid (ns.map bl=iL 2 false (ds.map fQ.pl)):=by show _=_;rw[HN.out,tL (by omega)]
   have EB:Hid (bs.map bl=iL 2 true (ds.map fQ.pl)):=by show _=_;rw[HB.out,tL (by omega)]
   go_wp2;go_ret3;exact⟨A1,c1,A2,c2,ns,bs,by rw[Y.out.l1,Y.out.l2];rfl,Y.bel,by have h:=Y.r1;rw[<-Y.out.l1] at h;exact h,by have h:=Y.r2;rw[<-Y.out.l2] at h;exact h,EN,EB⟩
def O9 (g:fP):iK:=⟨g.nm,g.op.toNat,g.ver,⟨#[]⟩,none,0,[]⟩
theorem acB (g:fP):(O9 g).pl=sY g:=by unfold O9 sY iK.pl;simp[bl]
theorem YO {g:fP}(h:0<=g.op):(O9 g).cells=[.string g.nm,.int .i64 g.op,.string g.ver,.string ⟨#[]⟩,.slice none 0 0]:=by
 unfold O9 iK.cells;simp only[List.length_nil];rw[Int.toNat_of_nonneg h]
theorem acC (w:World)(lo:Nat)(g:fP):(O9 g).own w lo:=World.ownsRow_nil _ _ _ _
theorem YP {t:iU}(h:t.bare):t.good:=by
 refine⟨?_,h.op,h.none,by rw[h.archs];simp⟩;unfold iU.right;rw[h.name,h.qual,h.archs];by_cases z:t.op=0
 ·simp[z]
 ·simp[z,(h.ver z).1]
def yj (bar:Bool)(l:List gI):List (List iU):=(iJ bar l).map fun d=>d.alts.map sY
theorem YQ {l:List gI}(h:∀ d∈l,d.told 1)(H:gB l<=64):pR (yj bar l):=by
 refine⟨fun g D=>?_,fun g D t ht=>?_,?_⟩
 ·obtain⟨d,z,rfl⟩:=List.mem_map.1 D;simpa using(h d (kV z).1).ne
 ·obtain⟨d,z,rfl⟩:=List.mem_map.1 D;obtain⟨a,F,rfl⟩:=List.mem_map.1 ht;exact YP (zK ((h d (kV z).1).each a F))
 ·have:=oR bar l;have e:(yj bar l).map List.length=(iJ bar l).map fun d=>d.alts.length:=by
   unfold yj;rw[List.map_map];exact List.map_congr_left fun d _=>by simp
  rw[e];unfold gB at *;omega
theorem Jm (bar:Bool)(l:List gI):iL 1 bar l=if yj bar l=[] then [] else [jQ (yj bar l)]:=by
 unfold iL yj;rw[if_pos rfl];simp
theorem N6 {l:List fQ}{d:fQ}(h:l[k]?=some d):yj bar ((l.take (k+1)).map fQ.pl)=yj bar ((l.take k).map fQ.pl)++(if d.bar=bar then [d.alts.map sY] else []):=by
 unfold yj;rw[gC h,List.map_append];unfold iJ;rw[List.filter_append,List.map_append];congr 1;by_cases z:d.bar=bar
 ·rw[if_pos z];simp[fQ.pl,z]
 ·rw[if_neg z];simp[fQ.pl,z]
structure N7 (w wr:World) (gs:List gA) (A1:OA) (n1 c1:Nat) (bs:List gA) (A2:OA) (n2 c2:Nat):Prop where
 r1:wr.ownsRow w.heap.size 198 1 (.slice A1 n1 c1) n1 (gs.map gA.sl)
 r2:wr.ownsRow w.heap.size 198 1 (.slice A2 n2 c2) n2 (bs.map gA.sl)
 ne:∀ g,(Value.slice A1 n1 c1).ownBlock=some g->(Value.slice A2 n2 c2).ownBlock≠some g
 g1:∀ g∈gs,g.own wr w.heap.size
 g2:∀ g∈bs,g.own wr w.heap.size
 l1:gs.length=n1
 l2:bs.length=n2
 bel:Bw w wr
theorem N7.start (w:World):N7 w w [] none 0 0 [] none 0 0:=⟨World.ownsRow_nil _ _ _ _,World.ownsRow_nil _ _ _ _,by simp[Value.ownBlock],by simp,by simp,rfl,rfl,bR⟩
theorem N7.below {gs bs:List gA}(h:N7 w wr gs A1 n1 c1 bs A2 n2 c2)(z:Bw wr w'):N7 w w' gs A1 n1 c1 bs A2 n2 c2:=
 ⟨ge h.r1 z,ge h.r2 z,h.ne,fun g D=>(h.g1 g D).below z,fun g D=>(h.g2 g D).below z,h.l1,h.l2,fM h.bel z⟩
theorem N7.ok1 {gs bs:List gA}(h:N7 w wr gs A1 n1 c1 bs A2 n2 c2):lf wr w.heap.size A1 n1 c1 gs:=⟨h.l1,h.r1,h.g1⟩
theorem N7.ok2 {gs bs:List gA}(h:N7 w wr gs A1 n1 c1 bs A2 n2 c2):lf wr w.heap.size A2 n2 c2 bs:=⟨h.l2,h.r2,h.g2⟩
theorem N7.add1 {gs bs:List gA}{B1:OA}{s:gA}(h:N7 w wr gs A1 n1 c1 bs A2 n2 c2)(O:s.own wr w.heap.size)
  (M:w2.ownsRow w.heap.size 198 1 (.slice B1 (n1+1) d1) (n1+1) (gs.map gA.sl++[s.sl]))(H:(wr.alloc o).grownBy w2 (Value.slice A1 n1 c1).ownBlock)
  (F:(Value.slice B1 (n1+1) d1).ownBlock=(Value.slice A1 n1 c1).ownBlock\/(Value.slice B1 (n1+1) d1).ownBlock=some (wr.alloc o).heap.size):N7 w w2 (gs++[s]) B1 (n1+1) d1 bs A2 n2 c2:=by
 have J:=(Below.refl wr.heap.size wr).alloc lr o;have D:=h.below J;have I:=O.below J;refine⟨by rw[List.map_append];exact M,D.r2.kept H ?_,fun g z=>?_,fun t ht=>?_,fun t ht=>(D.g2 t ht).other D.r1 H,by simp[h.l1],h.l2,D.bel.grown H D.bel.size (fun j K=>(D.r1.lt j K).1)⟩
 ·cases hq:(Value.slice A2 n2 c2).ownBlock with
  | none=>exact .inl rfl
  | some g=>right;intro e;exact h.ne g e.symm hq
 ·rcases F with F | F
  ·rw[F] at z;exact h.ne g z
  ·rw[F] at z;injection z with z;intro e;have:=(D.r2.lt g e).2;omega
 ·rcases List.mem_append.1 ht with ht | ht
  ·exact(D.g1 t ht).other D.r1 H
  ·obtain rfl:=List.mem_singleton.1 ht;exact I.other D.r1 H
theorem N7.add2 {gs bs:List gA}{s:gA}(h:N7 w wr gs A1 n1 c1 bs A2 n2 c2)(O:s.own wr w.heap.size)
  (M:w2.ownsRow w.heap.size 198 1 (.slice B2 (n2+1) d2) (n2+1) (bs.map gA.sl++[s.sl]))(F:(wr.alloc o).grownBy w2 (Value.slice A2 n2 c2).ownBlock)
  (D:(Value.slice B2 (n2+1) d2).ownBlock=(Value.slice A2 n2 c2).ownBlock\/(Value.slice B2 (n2+1) d2).ownBlock=some (wr.alloc o).heap.size):N7 w w2 gs A1 n1 c1 (bs++[s]) B2 (n2+1) d2:=by
 have J:=(Below.refl wr.heap.size wr).alloc lr o;have z:=h.below J;have I:=O.below J;refine⟨z.r1.kept F ?_,by rw[List.map_append];exact M,fun g H=>?_,fun t ht=>(z.g1 t ht).other z.r2 F,fun t ht=>?_,h.l1,by simp[h.l2],z.bel.grown F z.bel.size (fun j K=>(z.r2.lt j K).1)⟩
 ·cases hq:(Value.slice A1 n1 c1).ownBlock with
  | none=>exact .inl rfl
  | some g=>right;intro e;exact h.ne g hq e.symm
 ·rcases D with D | D
  ·rw[D];exact h.ne g H
  ·rw[D];intro e;injection e with e;have:=(z.r1.lt g H).2;omega
 ·rcases List.mem_append.1 ht with ht | ht
  ·exact(z.g2 t ht).other z.r2 F
  ·obtain rfl:=List.mem_singleton.1 ht;exact I.other z.r2 F
structure WS (W0 wr:World) (dv:LV) (G:OA) (j gc:Nat) (L:List fP):Prop where
 bel:Bw W0 wr
 dbx:fV wr W0.heap.size dv
 own:wr.ownsRow (W0.heap.size+1) 196 5 (.slice G j gc) j ((L.map O9).flatMap iK.cells)
 len:L.length=j
 sz:W0.heap.size+1<=wr.heap.size
theorem WS.step {L:List fP}(h:WS W0 wr dv G j gc L)(z:Bw wr w'):WS W0 w' dv G j gc L:=
 ⟨fM h.bel z,h.dbx.below z,ge h.own z,h.len,Nat.le_trans h.sz z.size⟩
theorem WS.app {G1:OA}{L:List fP}{x:fP}(h:WS W0 wr dv G j gc L)(o:Obj)
  (z:w6.ownsRow (W0.heap.size+1) 196 5 (.slice G1 (j+1) c1) (j+1) ((L.map O9).flatMap iK.cells++(O9 x).cells))(F:(wr.alloc o).grownBy w6 (Value.slice G j gc).ownBlock):
  WS W0 w6 dv G1 (j+1) c1 (L++[x]):=by
 have sz:=h.sz;have I:∀ g,(Value.slice G j gc).ownBlock=some g->W0.heap.size+1<=g:=fun g H=>(h.own.lt g H).1;have K:some W0.heap.size≠(Value.slice G j gc).ownBlock:=fun e=>by have:=I _ e.symm;omega
 refine⟨(h.bel.alloc h.bel.size o).grown F (by have:=h.bel.size;simp;omega) (fun i D=>by have:=I i D;omega),(h.dbx.alloc o).grownR F K,?_,by simp[h.len],?_⟩
 ·rw[List.map_append,List.flatMap_append];simpa using z
 ·have J:=F.size;simp at J;omega
theorem WS.grp {L:List fP}(h:WS W0 wr dv G j gc L):(⟨G,gc,L.map O9⟩:gA).own wr (W0.heap.size+1):=by
 refine⟨?_,fun t ht=>?_⟩
 ·unfold gA.sl;simp only[List.length_map];rw[h.len];exact h.own
 ·obtain⟨g,_,rfl⟩:=List.mem_map.1 ht;exact acC _ _ _
theorem WS.sl {L:List fP}(h:WS W0 wr dv G j gc L):(⟨G,gc,L.map O9⟩:gA).sl=.slice G j gc:=by
 unfold gA.sl;simp only[List.length_map];rw[h.len]
theorem YR (G:OA)(z:Nat)(L:List fP):(⟨G,z,L.map O9⟩:gA).pl=L.map sY:=by
 unfold gA.pl;simp only;rw[List.map_map];exact List.map_congr_left fun g _=>acB g
def acD (N:List (LU))(w:World)(e:Ending)(w':World):Prop:=
 ∃ (A1:OA) (c1:Nat) (ns:List BA),e=.returned (.tuple #[.slice A1 ns.length c1,.int .i64 0])/\Bw w w'/\pE w.heap.size w' A1 c1 ns/\ns.map bl=N
theorem FH (A:OA)(c lo:Nat)(z:List gA)(w:World)(Y:Gl w)(U:vm z)(M:lf w lo A z.length c z):Calls prog 137 #[.slice A z.length c] w (acD (if z.map gA.pl=[] then [] else [jQ (z.map gA.pl)]) w):=by
 have I:=fH (wt A c z U w Y M.ok M.cap);by_cases J:z.length=0
 ·have q:((z.length:Int)==0)=true:=by rw[J];rfl
  have E:Hid ((if z.map gA.pl=[] then [] else [jQ (z.map gA.pl)])=([]:List (LU))):=by
   show _=_;rw[if_pos (by rw[List.length_eq_zero_iff.1 J];rfl)]
  rw[E.out];go_in;go_wp2;go_ret2;exact⟨none,0,[],rfl,bR,pE.nil _ _,rfl⟩
 have q:((z.length:Int)==0)=false:=beq_eq_false_iff_ne.2 (by omega);have E:Hid ((if z.map gA.pl=[] then [] else [jQ (z.map gA.pl)])=[jQ (z.map gA.pl)]):=by
  show _=_;rw[if_neg];intro e;apply J;have:=congrArg List.length e;simpa using this
 rw[E.out];go_in;go_wp2_with fail;refine I.mono ?_;rintro e R ⟨rfl,K⟩;have O:=fH K;obtain⟨D,F⟩:∃ D,gX (jQ (z.map gA.pl))=D:=⟨_,rfl⟩
 have H:Hid (bl D=jQ (z.map gA.pl)):=by show _=_;rw[<-F,iS]
 rw[F];have V:=fH (N4 (B:=w.heap.size) R D O.size);have X:=fH (fM O (bR.alloc lr (.cells #[.string D] 9)));go_wp2;go_ret2;exact⟨some ⟨R.heap.size,0,none⟩,1,[D],rfl,X,V,by rw[List.map_singleton,H.out]⟩
theorem N8 (A:OA)(c:Nat)(ds:List fQ)(w:World)(hG:Gl w)(hd:rE w A ds)(hl:ds.length<=64)(ha:∀ d∈ds,d.alts.length<=64)(ht:∀ d∈ds,d.pl.told 1)(hc:gB (ds.map fQ.pl)<=64):Calls prog 83 #[.slice A ds.length c] w (Lf (iL 1 false (ds.map fQ.pl)) (iL 1 true (ds.map fQ.pl)) w):=by
 obtain⟨i0,hi,an,aD,ax⟩:=info_parts Mz;obtain⟨i1,hj,aW,aI,aN⟩:=info_parts IE;have aF:Hid (∀ bar,pR (yj bar (ds.map fQ.pl))):=by
  intro bar;refine YQ (fun d hd=>?_) hc;obtain⟨x,hx,rfl⟩:=List.mem_map.1 hd;exact ht x hx
 have HG:=fH hG;have HD:=fH hd;have HT:=fH ht;have HA:=fH ha;clear hG hd ht ha hc;go_in;go_wp2;go_loopw [5,6,15] (fun s5 s6 aV wr=>∃ (k X c1 Y c2:Nat) (A1 A2:OA) (ns bs:List gA),k<=ds.length/\X<=k/\Y<=k/\s5=.slice A1 X c1/\s6=.slice A2 Y c2/\aV=.int .i64 k/\Hid (ns.map gA.pl=yj false ((ds.take k).map fQ.pl))/\Hid (bs.map gA.pl=yj true ((ds.take k).map fQ.pl))/\Hid (N7 w wr ns A1 X c1 bs A2 Y c2)) (fun _ _ i _=>ds.length-(intOf i).toNat)
 case atStart=>exact⟨0,0,0,0,0,none,none,[],[],z0,z0,z0,rfl,rfl,rfl,rfl,rfl,N7.start w⟩
 case round=>
  obtain⟨k,X,c1,Y,c2,A1,A2,ns,bs,hk,bb,bg,rfl,rfl,rfl,HN,HB,H⟩:=hrel;by_cases ak:k<ds.length
  ·obtain⟨d,K⟩:∃ d,ds[k]?=some d:=⟨_,gG ak⟩
   have hm:=gM K;obtain⟨b,off,hA,he⟩:=(HD.row.below H.bel).elem pV k d K;have e0:=he 0 _ rfl;have e1:=he 1 _ rfl;simp only[Nat.add_zero] at e0;have aH:=fun W=>gi (T:=30) (E:=75) (sz:=2) (c:=c) underlying30 rfl sizeOf75 hA ak W;have aQ:=fH (HT d hm);have aK:=HA.out d hm;have ae:=fH (N6 (bar:=false) K);have ab:=fH (N6 (bar:=true) K);have aZ:=fH ((HD.all d hm).below H.bel);obtain⟨J,M⟩:∃ J,d.alts.length=J:=⟨_,rfl⟩
   obtain⟨Z,aj⟩:∃ Z,d.bar=Z:=⟨_,rfl⟩
   rw[M] at e1 aK;rw[aj] at e0 ae ab;have ay:=fH M;clear K hA he hm M aj;obtain⟨O,rfl⟩:∃ O:World,O=wr:=⟨_,rfl⟩
   obtain⟨W2,R⟩:∃ W2,O.alloc (.cells #[.bool Z,.slice d.aa J d.ac] 75)=W2:=⟨_,rfl⟩
   have B2:Hid (Bw O W2):=by rw[<-R];exact bR.alloc lr _
   have K2:Hid (fV W2 O.heap.size [.bool Z,.slice d.aa J d.ac]):=by show fV _ _ _;rw[<-R];exact fV.new O [.bool Z,.slice d.aa J d.ac] _
   have k1:=K2.cell 1 _ rfl;have T0:Hid (WS O W2 [.bool Z,.slice d.aa J d.ac] none 0 0 []):=⟨B2,K2,World.ownsRow_nil _ _ _ _,rfl,by have:=K2.sz;omega⟩
   have ah:=fH R;clear R;go_upto_region 5 with(fail)
   rw[ah.out];clear ah e0 e1 aH;go_wp2_with fail;clear k1;go_loopw [9,22] (fun s9 i wx=>∃ (j I:Nat) (G:OA),j<=J/\s9=.slice G j I/\i=.int .i64 j/\Hid (WS O wx [.bool Z,.slice d.aa J d.ac] G j I (d.alts.take j))) (fun _ i _=>J-(intOf i).toNat)
   case atStart=>exact⟨0,0,none,z0,rfl,rfl,by simpa [Hid] using T0⟩
   case round=>
    clear T0;obtain⟨j,I,G,bf,rfl,rfl,KI⟩:=hrel;by_cases V:j<J
    ·obtain⟨a,ha⟩:∃ a,d.alts[j]?=some a:=⟨_,gG (by rw[ay.out];exact V)⟩
     obtain⟨b3,ba,av,ap⟩:=(aZ.below KI.bel).elem kt j a ha;obtain⟨e0,e1,e2⟩:=qj ap;simp only[Nat.add_zero] at e0;have aG:=fun W=>gi (T:=34) (E:=78) (sz:=3) (n:=J) (c:=d.ac) underlying34 rfl sizeOf78 av V W;have aC:0<=a.op:=(aQ.each a (gM ha)).op0;have aM:=fH (gC ha);have aP:=fH (YO aC);clear ha av ap aC;obtain⟨W5,U⟩:∃ W5,wr.alloc (.cells #[.string a.nm,.int .i64 a.op,.string a.ver] 78)=W5:=⟨_,rfl⟩
     have B5:Hid (Bw wr W5):=by rw[<-U];exact bR.alloc lr _
     have K5:Hid (fV W5 wr.heap.size [.string a.nm,.int .i64 a.op,.string a.ver]):=by show fV _ _ _;rw[<-U];exact fV.new wr [.string a.nm,.int .i64 a.op,.string a.ver] _
     have I5:=fH (KI.step B5);have q0:=K5.cell 0 _ rfl;have bd:=K5.cell 1 _ rfl;have bh:=K5.cell 2 _ rfl;have aL:=fH I5.own;have bc:=I5.sz;have az:=fH U;clear U;go_upto_region 9 with(fail)
     rw[az.out];clear az e0 e1 e2 aG
     go_wp2_with (
      at_builtin
      refine fR _ rfl _ _ _ rfl (O.heap.size+1) 196 i1 _ 5 80 underlying198 hj aW aI aN rfl (by omega) (.slice G j I) j _ rfl (aL.alloc _) (W5.heap.size+1) (some ⟨W5.heap.size,0,none⟩) 1 1 [.string a.nm,.int .i64 a.op,.string a.ver,.string ⟨#[]⟩,.slice none 0 0] rfl (wq W5 _ _ _ _ _ _) (by simp[Value.oneCell']) (by simp only[maxLen];omega) (by omega) (by simp;omega) ?_;intro v1 w6 z F D;obtain⟨G1,d1,rfl⟩:=gg z)
     have N1:=fH (I5.app _ (x:=a) (by rw[aP.out];exact z) F);clear z F D;go_wp2;go_roundw
     case rel=>exact⟨j+1,d1,G1,by omega,rfl,by go_num,by rw[aM.out];exact N1⟩
     case measure=>simp[intOf];omega
    ·obtain rfl:j=J:=by omega
     have aY:Hid (d.alts.take j=d.alts):=by show _=_;rw[tL (by have:=ay.out;omega)]
     rw[aY.out] at KI;have S2:=fH (H.below KI.bel);have aR:=fH (KI.grp);have aA:=fH (KI.sl);have ai:Hid ((⟨G,I,d.alts.map O9⟩:gA).own wr w.heap.size):=aR.base (by have:=H.bel.size;omega);have x0:=KI.dbx.cell 0 _ rfl;have be:=S2.bel.size;cases Z
     ·have HO:=fH S2.r1
      go_wp2_with (
       at_builtin
       refine fR _ rfl _ _ _ rfl w.heap.size 198 i0 _ 1 24 underlying83 hi an aD ax rfl (by omega) (.slice A1 X c1) X _ rfl (HO.alloc _) (wr.heap.size+1) (some ⟨wr.heap.size,0,none⟩) 1 1 [.slice G j I] rfl (me wr _ _) (by simp[Value.oneCell']) (by simp only[maxLen];omega) (by omega) (by simp;omega) ?_;intro v1 w6 z F D;obtain⟨O1,d1,rfl⟩:=gg z)
      have N1:=fH (S2.add1 (s:=⟨G,I,d.alts.map O9⟩) (o:=.cells #[.slice G j I] 198) ai (by rw[aA.out];exact z) F D);clear z F D;go_wp2;go_roundw
      case rel=>exact⟨k+1,X+1,d1,Y,c2,O1,A2,ns++[⟨G,I,d.alts.map O9⟩],bs,by omega,by omega,by omega,rfl,rfl,by go_num,by show _=_;rw[ae.out,List.map_append,HN.out,if_pos rfl,List.map_singleton,YR],by show _=_;rw[ab.out,HB.out,if_neg (by simp),List.append_nil],N1⟩
      case measure=>simp[intOf];omega
     ·have HO:=fH S2.r2
      go_wp2_with (
       at_builtin
       refine fR _ rfl _ _ _ rfl w.heap.size 198 i0 _ 1 24 underlying83 hi an aD ax rfl (by omega) (.slice A2 Y c2) Y _ rfl (HO.alloc _) (wr.heap.size+1) (some ⟨wr.heap.size,0,none⟩) 1 1 [.slice G j I] rfl (me wr _ _) (by simp[Value.oneCell']) (by simp only[maxLen];omega) (by omega) (by simp;omega) ?_;intro v1 w6 z F D;obtain⟨O1,d1,rfl⟩:=gg z)
      have N1:=fH (S2.add2 (s:=⟨G,I,d.alts.map O9⟩) (o:=.cells #[.slice G j I] 198) ai (by rw[aA.out];exact z) F D);clear z F D;go_wp2;go_roundw
      case rel=>exact⟨k+1,X,c1,Y+1,d1,A1,O1,ns,bs++[⟨G,I,d.alts.map O9⟩],by omega,by omega,by omega,rfl,rfl,by go_num,by show _=_;rw[ae.out,HN.out,if_neg (by simp),List.append_nil],by show _=_;rw[ab.out,List.map_append,HB.out,if_pos rfl,List.map_singleton,YR],N1⟩
      case measure=>simp[intOf];omega
  ·have EN:Hid (ns.map gA.pl=yj false (ds.map fQ.pl)):=by show _=_;rw[HN.out,tL (by omega)]
   have EB:Hid (bs.map gA.pl=yj true (ds.map fQ.pl)):=by show _=_;rw[HB.out,tL (by omega)]
   have P1:=fH (fun (wx:World) (hb:Bw wr wx)=>FH A1 c1 w.heap.size ns wx (HG.below (fM H.bel hb)) (vm.of (by rw[EN.out];exact aF.out false)) (by rw[H.out.l1];exact(H.below hb).ok1));have P2:=fH (fun (wx:World) (hb:Bw wr wx)=>FH A2 c2 w.heap.size bs wx (HG.below (fM H.bel hb)) (vm.of (by rw[EB.out];exact aF.out true)) (by rw[H.out.l2];exact(H.below hb).ok2));rw[EN.out,H.out.l1,<-Jm] at P1;rw[EB.out,H.out.l2,<-Jm] at P2;go_wp2_with fail;refine(P1 wr bR).mono ?_;rintro e w5 ⟨B1,d1,xs,rfl,aE,ar,aB⟩;have af:=fH aE;have aX:=fH ar;have aS:=fH aB;obtain⟨xn,ad⟩:∃ xn,xs.length=xn:=⟨_,rfl⟩
   rw[ad];have aT:=fH ad;clear aE ar aB ad;go_wp2_with fail;refine(P2 w5 af).mono ?_;rintro e w6 ⟨B2,d2,ys,rfl,au,ao,aq⟩;have am:=fH au;have aJ:=fH ao;have aU:=fH aq;obtain⟨yn,ag⟩:∃ yn,ys.length=yn:=⟨_,rfl⟩
   rw[ag];have aO:=fH ag;clear au ao aq ag;go_wp2;go_ret3;exact⟨B1,d1,B2,d2,xs,ys,by rw[aT.out,aO.out];rfl,fM (fM H.bel af) am,(aX.below am).mono H.bel.size,aJ.mono (Nat.le_trans H.bel.size af.size),aS,aU⟩
def zP:gI:=⟨false,[]⟩
def Hr (fmt:Int)(l:List gI)(k:Nat):List gI:=(l.take k).map (kD 1 fmt)++List.replicate (l.length-k) zP
def Lg (fmt:Int)(l:List gI)(k:Nat)(d:gI)(j:Nat):List gI:=(l.take k).map (kD 1 fmt)++⟨d.bar,(d.alts.take j).map fun g=>(gz 1 fmt g).1⟩::List.replicate (l.length-(k+1)) zP
theorem YV (fmt:Int)(l:List gI):Hr fmt l 0=(List.replicate l.length FI).map fQ.pl:=by
 unfold Hr;simp[FI,fQ.pl,zP]
theorem aaL (fmt:Int)(l:List gI):Hr fmt l l.length=l.map (kD 1 fmt):=by unfold Hr;simp
theorem YW {l:List gI}{d:gI}(h:l[k]?=some d):Lg fmt l k d d.alts.length=Hr fmt l (k+1):=by
 unfold Lg Hr;rw[gC h,List.map_append,List.take_length];simp[kD]
theorem YX {L:List fQ}{a b:List gI}{y:gI}(h:L.map fQ.pl=a++y::b)(z:a.length=k):∃ x,L[k]?=some x/\x.pl=y:=by
 have:(L.map fQ.pl)[k]?=some y:=by rw[h,List.getElem?_append_right (by omega)];simp[z]
 rw[List.getElem?_map] at this;cases hx:L[k]? with
 | none=>rw[hx] at this;cases this
 | some x=>rw[hx] at this;injection this with this;exact⟨x,rfl,this⟩
theorem map_set {L:List fQ}{a b:List gI}{y:gI}(h:L.map fQ.pl=a++y::b)(z:a.length=k)(x:fQ):(L.set k x).map fQ.pl=a++x.pl::b:=by
 rw[List.map_set,h,List.set_append_right _ _ (by omega)];simp[z]
theorem aaM {l:List gI}{L:List fQ}(J:k<l.length)(h:L.map fQ.pl=Hr fmt l k)(d:gI):
  ∃ x:fQ,L[k]?=some x/\x.bar=false/\x.alts=[]/\(L.set k { x with bar:=d.bar }).map fQ.pl=Lg fmt l k d 0:=by
 have e:List.replicate (l.length-k) zP=zP::List.replicate (l.length-(k+1)) zP:=by
  rw[show l.length-k=(l.length-(k+1))+1 by omega,List.replicate_succ]
 unfold Hr at h;rw[e] at h;have D:((l.take k).map (kD 1 fmt)).length=k:=by simp;omega
 obtain⟨x,I,z⟩:=YX h D;have H:x.bar=false:=congrArg gI.bar z;have F:x.alts=[]:=congrArg gI.alts z;refine⟨x,I,H,F,?_⟩;rw[map_set h D];unfold Lg fQ.pl;simp[F]
theorem aaN {l:List gI}{L:List fQ}{d:gI}{g:fP}(M:k<l.length)(h:L.map fQ.pl=Lg fmt l k d j)(H:d.alts[j]?=some g):
  ∃ x:fQ,L[k]?=some x/\x.alts.length=j/\∀ (G:OA)(I:Nat),(L.set k ⟨x.bar,G,I,x.alts++[(gz 1 fmt g).1]⟩).map fQ.pl=Lg fmt l k d (j+1):=by
 unfold Lg at h;have D:((l.take k).map (kD 1 fmt)).length=k:=by simp;omega
 obtain⟨x,K,z⟩:=YX h D;have J:x.bar=d.bar:=congrArg gI.bar z;have F:x.alts=(d.alts.take j).map fun g=>(gz 1 fmt g).1:=congrArg gI.alts z;have O:=(gS H).1;refine⟨x,K,by rw[F];simp;omega,fun G I=>?_⟩;rw[map_set h D];unfold Lg fQ.pl;simp[J,F,gC H]
def Rq (fmt:Int)(l:List gI)(w:World)(e:Ending)(w':World):Prop:=
 ∃ (A1:OA) (c1:Nat) (A2:OA) (c2:Nat) (ns bs:List BA),e=.returned (.tuple #[.slice A1 ns.length c1,.slice A2 bs.length c2,.int .i64 (wQ fmt l)])/\Bw w w'/\pE w.heap.size w' A1 c1 ns/\pE w.heap.size w' A2 c2 bs /\
  (wQ fmt l=0->ns.map bl=wD fmt false l/\bs.map bl=wD fmt true l)/\(wQ fmt l≠0->ns=[]/\bs=[])
theorem SU {l:List gI}{e:Int}(h:wQ fmt l=e)(D:e≠0)(F:Bw w w'):Rq fmt l w (.returned (.tuple #[.slice none 0 0,.slice none 0 0,.int .i64 e])) w':=
 ⟨none,0,none,0,[],[],by rw[h];rfl,F,pE.nil _ _,pE.nil _ _,fun z=>absurd (h.symm.trans z) D,fun _=>⟨rfl,rfl⟩⟩
theorem aaO {l:List gI}(h:¬ iY fmt):wQ fmt l=9:=by unfold wQ;rw[if_pos h]
theorem acE {l:List gI}(h:iY fmt)(z:ni l≠0):wQ fmt l=ni l:=by unfold wQ;rw[if_neg (fun D=>D h),if_pos z]
theorem abT {ds:List fQ}{d:fQ}(h:iY fmt)(K:ni (ds.map fQ.pl)=0)(H:ds[k]?=some d)(J:∀ y∈ds.take k,qH fmt y.pl=0)(I:qH fmt d.pl≠0):wQ fmt (ds.map fQ.pl)=qH fmt d.pl:=by
 unfold wQ;rw[if_neg (fun D=>D h),if_neg (fun D=>D K)];refine qd (k:=k) (by simp[H]) (fun y F=>?_) I;rw[<-List.map_take] at F;obtain⟨z,M,rfl⟩:=List.mem_map.1 F;exact J z M
theorem aaP {ds:List fQ}(h:iY fmt)(I:ni (ds.map fQ.pl)=0)(H:∀ y∈ds,qH fmt y.pl=0):wQ fmt (ds.map fQ.pl)=0:=by
 unfold wQ;rw[if_neg (fun D=>D h),if_neg (fun D=>D I),gD];intro y F;obtain⟨z,J,rfl⟩:=List.mem_map.1 F;exact H z J
theorem VW {d:gI}(h:fmt=3)(z:1<d.alts.length):qH fmt d=11:=by unfold qH;rw[if_pos ⟨h,z⟩]
theorem VX {d:gI}{g:fP}(h:¬ (fmt=3/\1<d.alts.length))(z:d.alts[j]?=some g)(D:∀ y∈d.alts.take j,(gz 1 fmt y).2=0)(F:(gz 1 fmt g).2≠0):qH fmt d=(gz 1 fmt g).2:=by
 unfold qH;rw[if_neg h];exact qd (f:=fun g=>(gz 1 fmt g).2) z D F
theorem VY {d:gI}(h:¬ (fmt=3/\1<d.alts.length))(z:∀ y∈d.alts,(gz 1 fmt y).2=0):qH fmt d=0:=by
 unfold qH;rw[if_neg h];exact gD.2 z
theorem V0 {l:List gI}(h:ni l=0):gB l<=64/\∀ d∈l,um d=0:=by
 unfold ni at h;split at h
 ·cases h
 ·exact⟨by omega,gD.1 h⟩
structure adp (fmt:Int) (L:List fQ):Prop where
 told:∀ d∈L,d.pl.told fmt
 cnt:gB (L.map fQ.pl)<=64
 len:L.length<=64
 al:∀ d∈L,d.alts.length<=64
theorem acF {l:List gI}{L:List fQ}(H:iY fmt)(M:ni l=0)(K:∀ y∈l,qH fmt y=0)(h:L.map fQ.pl=l.map (kD 1 fmt)):adp fmt L:=by
 obtain⟨J,I⟩:=V0 M;have ht:∀ d∈L,d.pl.told fmt:=by
  intro d z;have:d.pl∈l.map (kD 1 fmt):=by rw[<-h];exact List.mem_map.2 ⟨d,z,rfl⟩
  obtain⟨y,F,e⟩:=List.mem_map.1 this;rw[<-e];exact(uY H (I y F) (K y F)).1
 have D:gB (L.map fQ.pl)<=64:=by rw[h,qK];exact J
 refine⟨ht,D,?_,fun d z=>?_⟩
 ·have:=qf (l:=L.map fQ.pl) (fun d z=>by obtain⟨x,O,rfl⟩:=List.mem_map.1 z;exact(ht x O).ne);rw[List.length_map] at this;omega
 ·have:=uq (l:=L.map fQ.pl) (List.mem_map.2 ⟨d,z,rfl⟩);have e:d.pl.alts.length=d.alts.length:=rfl;omega
theorem Y2 {L:List fQ}{g n:Nat}{x:fQ}(h:nu w wr L (some ⟨g,0,none⟩) n c)(H:L[k]?=some x):wr.cell? ⟨g,k*2,none⟩=some (.bool x.bar)/\wr.cell? ⟨g,k*2+1,none⟩=some (.slice x.aa x.alts.length x.ac):=by
 have I:=h.ok.row;obtain⟨b,off,e,F⟩:=I.elem pV k x H;injection e with e;injection e with e1 e2;have D:=F 0 _ rfl;have z:=F 1 _ rfl;rw[<-e1,<-e2] at D z;simp only[Nat.zero_add,Nat.add_zero] at D z;exact⟨D,z⟩
theorem aaR (fmt:Int)(A:OA)(c:Nat)(ds:List fQ)(w:World)(hG:yM w)(hd:rE w A ds)(hf:Le ds):Calls prog 48 #[.int .i64 fmt,.slice A ds.length c] w (Rq fmt (ds.map fQ.pl) w):=by
 obtain⟨i0,hi,bq,bD,bB⟩:=info_parts sj;obtain⟨i1,hj,bC,bi,br⟩:=info_parts zM;have HG:=fH hG;have HD:=fH hd;have HF:=fH hf;have bF:=hf.len;have ab:=fH fun W=>rD fmt W;clear hG hd hf;by_cases hF:iY fmt
 rotate_left
 ·have E:=fH (aaO (l:=ds.map fQ.pl) hF);rw[dF hF] at ab;clear hF;go_in;go_wp2_with fail;refine mb (ab _) ?_;rintro w' rfl;go_wp2;go_ret3;exact SU E (by decide) bR
 rw[dT hF] at ab;have R:=fH hF;clear hF;obtain⟨ck,ax⟩:∃ ck,ni (ds.map fQ.pl)=ck:=⟨_,rfl⟩
 have aA:=fH fun W hb=>Rm A c ds W (HG.p.below hb) (HD.below hb) HF.out;rw[ax] at aA;have ah:=fH ax;clear ax;go_in;go_wp2_with fail;refine mb (ab _) ?_;rintro w' rfl;clear ab;go_wp2_with fail;refine mb (aA w bR) ?_;rintro w0 aD;have B0:=fH aD;have bH:=aD.size;clear aD aA;by_cases M:ck≠0
 ·have E:Hid (wQ fmt (ds.map fQ.pl)=ck):=by show _=_;rw[acE R.out (by rw[ah.out];exact M)];exact ah.out
  have q:(ck != 0)=true:=by simpa [bne] using M
  have bm:=fH M;clear M;go_wp2;go_ret3;exact SU E bm B0.out
 have q:(ck != 0)=false:=by rw[Decidable.not_not.1 M];rfl
 have HC:Hid (ni (ds.map fQ.pl)=0):=by show _=_;rw[ah.out];exact Decidable.not_not.1 M
 clear M ah
 go_wp2_with (
  at_make
  refine wpList_make_full _ rfl _ _ _ rfl w.heap.size 75 i0 _ 2 underlying30 hi bq bD .i64 .i64 _ _ ds.length rfl rfl rfl rfl (by rw[bB];omega) (by simp only[maxLen];omega) (by omega) ?_;intro w1 aM U)
 have M0:=fH (nu.made B0 aM U);clear aM U q;go_wp2_with fail;generalize w0.heap.size=ob at *;go_loopw [5,28] (fun s5 bx wr=>∃ (k:Nat) (L:List fQ),k<=ds.length/\s5=.slice none 0 0/\bx=.int .i64 k/\Hid (∀ y∈ds.take k,qH fmt y.pl=0)/\Hid (L.map fQ.pl=Hr fmt (ds.map fQ.pl) k)/\Hid (nu w wr L (some ⟨ob,0,none⟩) ds.length ds.length)) (fun _ i _=>ds.length-(intOf i).toNat)
 case atStart=>exact⟨0,_,z0,rfl,rfl,by simp[Hid],by show _=_;rw[YV,List.length_map],M0⟩
 case round=>
  clear M0;obtain⟨k,L,hk,rfl,rfl,HE,HL,I⟩:=hrel;by_cases ae:k<ds.length
  ·obtain⟨d,Z⟩:∃ d,ds[k]?=some d:=⟨_,gG ae⟩
   have hm:=gM Z;obtain⟨b,off,hA,he⟩:=(HD.row.below I.bel).elem pV k d Z;have e0:=he 0 _ rfl;have e1:=he 1 _ rfl;simp only[Nat.add_zero] at e0;have bf:=fun W=>gi (T:=30) (E:=75) (sz:=2) (c:=c) underlying30 rfl sizeOf75 hA ae W;have bG:∀ W,(Instr.indexAt 30 (.slice (some ⟨ob,0,none⟩) ds.length ds.length) (.int .i64 k)).run prog W=.ok (.pointer (some ⟨ob,k*2,none⟩)) W:=fun W=>by
    have:=gi (T:=30) (E:=75) (sz:=2) (c:=ds.length) (A:=some ⟨ob,0,none⟩) underlying30 rfl sizeOf75 rfl ae W;simpa using this
   have bn:=HF.al d hm;have bu:=fH (HF.nm d hm);have bk:=fH (HF.ver d hm);have az:=fH Z;have bE:=fH (HD.all d hm);have aN:(ds.map fQ.pl)[k]?=some d.pl:=by simp[Z]
   have bt:=fH aN;obtain⟨H,D⟩:∃ H,d.alts.length=H:=⟨_,rfl⟩
   obtain⟨db,ay⟩:∃ db,d.bar=db:=⟨_,rfl⟩
   rw[D] at e1 bn;rw[ay] at e0;have af:=fH D;have aS:=fH ay;have aY:Hid (k<(ds.map fQ.pl).length):=by show _<_;rw[List.length_map];exact ae
   clear Z hA he hm D ay aN;obtain⟨wo,rfl⟩:∃ wo:World,wo=wr:=⟨_,rfl⟩
   obtain⟨W2,am⟩:∃ W2,wo.alloc (.cells #[.bool db,.slice d.aa H d.ac] 75)=W2:=⟨_,rfl⟩
   have B2:Hid (Bw wo W2):=by rw[<-am];exact bR.alloc lr _
   have K2:Hid (fV W2 wo.heap.size [.bool db,.slice d.aa H d.ac]):=by show fV _ _ _;rw[<-am];exact fV.new wo [.bool db,.slice d.aa H d.ac] _
   have k0:=K2.cell 0 _ rfl;have k1:=K2.cell 1 _ rfl;have S1:=fH (I.below B2);have aL:=fH am;clear am;go_upto_region 10 with(fail)
   rw[aL.out];clear aL e0 e1 bf;obtain⟨bb,F⟩:∃ bb,decide (fmt=3/\1<H)=bb:=⟨_,rfl⟩
   go_cut [40] (fun v wx=>v=.bool bb/\W2=wx)
   case first=>
    by_cases f3:fmt=3
    ·have q3:(fmt==3)=true:=by simpa using f3
     by_cases h1:1<H
     ·have q1:decide ((1:Int)<(H:Int))=true:=dT (by omega);have q2:decide (1<H)=true:=dT h1;have Y:Hid (true=bb):=by show _=_;rw[<-F,dT ⟨f3,h1⟩]
      clear f3 F;go_wp2;go_meet;exact⟨by rw[<-Y.out],rfl⟩
     ·have q1:decide ((1:Int)<(H:Int))=false:=dF (by omega);have q2:decide (1<H)=false:=dF h1;have Y:Hid (false=bb):=by show _=_;rw[<-F,dF (fun h=>h1 h.2)]
      clear f3 F;go_wp2;go_meet;exact⟨by rw[<-Y.out],rfl⟩
    ·have q3:(fmt==3)=false:=by simpa using f3
     have Y:Hid (false=bb):=by show _=_;rw[<-F,dF (fun h=>f3 h.1)]
     clear f3 F;go_wp2;go_meet;exact⟨by rw[<-Y.out],rfl⟩
   case rest=>
   obtain⟨rfl,rfl⟩:=hcut;cases bb
   rotate_left
   ·have E:Hid (wQ fmt (ds.map fQ.pl)=11):=by
     have h:=dO F;have e:=VW (d:=d.pl) h.1 (by show 1<d.alts.length;rw[af.out];exact h.2);show _=_;rw[abT R.out HC.out az.out HE.out (by rw[e];decide)];exact e
    clear F;go_wp2;go_ret3;exact SU E (by decide) S1.bel
   have bd:Hid (¬ (fmt=3/\1<d.pl.alts.length)):=by
    have h:=of_decide_eq_false F;show ¬ (fmt=3/\1<d.alts.length);rw[af.out];exact h
   clear F;obtain⟨x,aG,bg,bp,aK⟩:=aaM aY HL d.pl;obtain⟨c0,_⟩:=Y2 S1 aG;have f0:=S1.row.frozenAt (k*2);have bL:=(I.row.lt ob rfl).2;have bh:¬ ob=wo.heap.size:=by omega
   obtain⟨W3,ap⟩:∃ W3,W2.setCell ⟨ob,k*2,none⟩ (.bool db)=W3:=⟨_,rfl⟩
   have S3:Hid (nu w W3 (L.set k { x with bar:=d.pl.bar }) (some ⟨ob,0,none⟩) ds.length ds.length):=by
    show nu _ _ _ _ _ _;rw[<-ap];have:=S1.setBar aG d.bar;rw[aS.out] at this;show nu _ _ (L.set k { x with bar:=d.bar }) _ _ _;rw[aS.out];exact this
   have aZ:=fH aK;have K3:Hid (fV W3 wo.heap.size [.bool db,.slice d.aa H d.ac]):=by show fV _ _ _;rw[<-ap];exact K2.far bh _
   have k3:=K3.cell 1 _ rfl;have aW:=fH ap;clear ap aG bg bp aK;go_upto_region 13 with(fail)
   rw[aW.out];clear aW k0 k1 c0 f0;go_wp2_with fail;clear k3;go_loopw [5,50] (fun s5 bv wx=>∃ (j:Nat) (L:List fQ),j<=H/\s5=.slice none 0 0/\bv=.int .i64 j/\Hid (∀ g∈d.pl.alts.take j,(gz 1 fmt g).2=0)/\Hid (L.map fQ.pl=Lg fmt (ds.map fQ.pl) k d.pl j)/\Hid (nu w wx L (some ⟨ob,0,none⟩) ds.length ds.length)) (fun _ i _=>H-(intOf i).toNat)
   case atStart=>exact⟨0,_,z0,rfl,rfl,by simp[Hid],aZ,S3⟩
   case round=>
    clear S3 aZ I S1 K2 K3 B2 HL;obtain⟨j,L2,bP,rfl,rfl,HJ,HL,I⟩:=hrel;by_cases au:j<H
    ·obtain⟨a,ha⟩:∃ a,d.pl.alts[j]?=some a:=⟨_,gG (by show j<d.alts.length;rw[af.out];exact au)⟩
     have aB:=gM ha;obtain⟨b3,bI,aX,aQ⟩:=(bE.below I.bel).elem kt j a ha;obtain⟨e0,e1,e2⟩:=qj aQ;simp only[Nat.add_zero] at e0;have be:=fun W=>gi (T:=34) (E:=78) (sz:=3) (n:=H) (c:=d.ac) underlying34 rfl sizeOf78 aX au W;have bM:=bu.out a aB;have bK:=bk.out a aB;have aI:=fH ha;have av:=fH (gC ha);clear ha aX aQ aB;obtain⟨W5,an⟩:∃ W5,wr.alloc (.cells #[.string a.nm,.int .i64 a.op,.string a.ver] 78)=W5:=⟨_,rfl⟩
     have B5:Hid (Bw wr W5):=by rw[<-an];exact bR.alloc lr _
     have K5:Hid (fV W5 wr.heap.size [.string a.nm,.int .i64 a.op,.string a.ver]):=by show fV _ _ _;rw[<-an];exact fV.new wr [.string a.nm,.int .i64 a.op,.string a.ver] _
     have S5:=fH (I.below B5);obtain⟨q0,q1,q2⟩:=qj K5.cell;obtain⟨⟨y,cd⟩,hr⟩:∃ r,gz 1 fmt a=r:=⟨_,rfl⟩
     have aj:=fH (AQ 1 fmt a W5 (HG.p.below S5.bel) (by omega) (by omega));rw[hr] at aj;unfold Yz fP.val at aj;have HR:=fH hr;have ba:=fH an;clear an hr;go_upto_region 16 with(fail)
     rw[ba.out];clear ba e0 e1 e2 be;go_wp2_with fail;refine aj.mono ?_;rintro e V ⟨rfl,aV⟩;have S6:=fH (S5.below aV);clear aV aj q0 q1 q2;simp only;obtain⟨W7,ak⟩:∃ W7,V.alloc (.cells #[.string y.nm,.int .i64 y.op,.string y.ver] 78)=W7:=⟨_,rfl⟩
     have B7:Hid (Bw V W7):=by rw[<-ak];exact bR.alloc lr _
     have K7:Hid (fV W7 V.heap.size [.string y.nm,.int .i64 y.op,.string y.ver]):=by show fV _ _ _;rw[<-ak];exact fV.new V [.string y.nm,.int .i64 y.op,.string y.ver] _
     have S7:=fH (S6.below B7);have aJ:=fH ak;clear ak;go_upto_region 17 with(fail)
     rw[aJ.out];clear aJ;by_cases O:cd≠0
     ·have qc:(cd != 0)=true:=by simpa [bne] using O
      have E:Hid (wQ fmt (ds.map fQ.pl)=cd):=by
       have e:=VX bd aI HJ (by rw[HR.out];exact O);rw[HR.out] at e;show _=_;rw[abT R.out HC.out az.out HE.out (by rw[e];exact O)];exact e
      have bw:=fH O;clear O;go_wp2;go_ret3;exact SU E bw S7.bel
     have ad:cd=0:=Decidable.not_not.1 O;have qc:(cd != 0)=false:=by rw[ad];rfl
     have HZ:Hid ((gz 1 fmt a).2=0):=by show _=_;rw[HR.out];exact ad
     have HY:Hid ((gz 1 fmt a).1=y):=by show _=_;rw[HR.out]
     clear O ad;obtain⟨X,ag,ai,aH⟩:=aaN aY HL aI.out;rw[HY.out] at aH;have aU:=fH ag;have bc:=fH ai;have bz:=fH aH;obtain⟨_,m1⟩:=Y2 S7 ag;rw[ai] at m1;have aR:Hid (W7.ownsRow w.heap.size 78 3 (.slice X.aa j X.ac) j (X.alts.flatMap fP.cells)):=by
      have:=S7.al X (gM ag);unfold fQ.own at this;rw[ai] at this;exact this
     obtain⟨p0,p1,p2⟩:=qj K7.cell;have bN:=S7.bel.size;have bJ:=(S7.row.lt ob rfl).2;clear ag ai aH;go_wp2
     go_region_law
      ((refine iF _ (by rfl) _ _ _ (by rfl) w.heap.size 78 i1 _ 3 40 underlying34 hj bC bi br rfl (by omega) (.slice X.aa j X.ac) j _ (by rfl) ((aR.alloc _).drew)
         (W7.heap.size+1) (some ⟨W7.heap.size,0,none⟩) 1 1 [.string y.nm,.int .i64 y.op,.string y.ver] (by rfl) (oH W7 _ _ _ _) (by simp[Value.oneCell']) (by unfold maxLen;omega) (by omega) (by simp;omega) ?_
        intro v1 w8 K U ar;obtain⟨G1,c1,rfl⟩:=gg K;have ao:=fH (S7.below (((Below.refl W7.heap.size W7).alloc lr (.cells #[.string y.nm,.int .i64 y.op,.string y.ver] 78)).drew));have RW:=fH (ao.row.kept U (lN ao.row ((aR.alloc (.cells #[.string y.nm,.int .i64 y.op,.string y.ver] 78)).drew) (by decide)));obtain⟨_,_,ee,bA⟩:=(show Rd w8 2 (some ⟨ob,0,none⟩) L2.length (L2.flatMap fQ.cells) from by rw[ao.out.len];exact gR RW).elem pV k X aU.out;have m2:=bA 1 _ rfl;injection ee with ee;injection ee with ee1 ee2;subst ee1;subst ee2;rw[bc.out] at m2;simp only[Nat.zero_add] at m2;have bO:=RW.frozenAt (k*2+1)))
     all_goals
      have N1:=fH (ao.setAlt aU bc K U ar);clear K U ar;go_wp2;go_roundw
      case rel=>exact⟨j+1,_,by omega,rfl,by go_num,fH (fun z J=>by
       rw[av.out] at J;rcases List.mem_append.1 J with J | J
       ·exact HJ.out z J
       ·rw[List.mem_singleton.1 J];exact HZ.out),bz _ _,N1⟩
      case measure=>simp[intOf];omega
    ·obtain rfl:j=H:=by omega
     have bj:Hid (qH fmt d.pl=0):=VY bd (fun g hg=>HJ.out g (by rw[tL (by show d.alts.length<=j;rw[af.out];exact Nat.le_refl _)];exact hg));have bo:Hid (L2.map fQ.pl=Hr fmt (ds.map fQ.pl) (k+1)):=by show _=_;rw[<-YW bt.out,HL.out];rw[show d.pl.alts.length=j from af.out]
     have av:=fH (gC az);go_wp2;go_roundw
     case rel=>exact⟨k+1,L2,by omega,rfl,by go_num,fH (fun z J=>by
      rw[av.out] at J;rcases List.mem_append.1 J with J | J
      ·exact HE.out z J
      ·rw[List.mem_singleton.1 J];exact bj.out),bo,I⟩
     case measure=>simp[intOf];omega
  ·obtain rfl:k=ds.length:=by omega
   have D:∀ y∈ds,qH fmt y.pl=0:=fun y hy=>HE.out y (by rw[List.take_length];exact hy);have E:=fH (aaP R HC D);have aq:Hid (L.map fQ.pl=(ds.map fQ.pl).map (kD 1 fmt)):=by
    have:=HL.out;rw[show ds.length=(ds.map fQ.pl).length by simp,aaL] at this;exact this
   have OK:=fH (acF R HC (fun y hy=>by obtain⟨z,J,rfl⟩:=List.mem_map.1 hy;exact D z J) aq);have aF:=fH I.len;have aC:=fH (HG.p.gl.below I.bel);have aO:∀ (V:World)(e:Ending),Lf (wD fmt false (ds.map fQ.pl)) (wD fmt true (ds.map fQ.pl)) wr e V->Rq fmt (ds.map fQ.pl) w e V:=by
    rintro V e ⟨A1,c1,A2,c2,ns,bs,h1,h2,h3,h4,h5,h6⟩;exact⟨A1,c1,A2,c2,ns,bs,by rw[h1,E.out],fM I.bel h2,h3.mono I.bel.size,h4.mono I.bel.size,fun _=>⟨h5,h6⟩,fun h=>absurd E.out h⟩
   have aE:=fH aO;clear D aO ae;have aT:=R.out;unfold iY at aT;have aP:fmt=1\/fmt=2\/fmt=3:=by omega
   clear aT;rcases aP with rfl | rfl | rfl
   ·have P:=fH (N8 (some ⟨ob,0,none⟩) ds.length L wr aC I.ok OK.len OK.al OK.told OK.cnt);rw[aF.out,aq.out] at P;go_wp2_with fail;refine P.mono ?_;rintro e V ⟨A1,c1,A2,c2,ns,bs,rfl,h2,h3,h4,h5,h6⟩;have PP:=fH (aE _ _ ⟨A1,c1,A2,c2,ns,bs,rfl,h2,h3,h4,h5,h6⟩);clear h2 h3 h4 h5 h6;generalize ns.length=nn at *;generalize bs.length=nb at *;go_wp2;go_ret3;exact PP.out
   ·have P:=fH (Rp (some ⟨ob,0,none⟩) ds.length L wr aC I.ok OK.len OK.al OK.told);rw[aF.out,aq.out] at P;go_wp2_with fail;refine P.mono ?_;rintro e V ⟨A1,c1,A2,c2,ns,bs,rfl,h2,h3,h4,h5,h6⟩;have PP:=fH (aE _ _ ⟨A1,c1,A2,c2,ns,bs,rfl,h2,h3,h4,h5,h6⟩);clear h2 h3 h4 h5 h6;generalize ns.length=nn at *;generalize bs.length=nb at *;go_wp2;go_ret3;exact PP.out
   ·have P:=fH (Rn (some ⟨ob,0,none⟩) ds.length L wr aC I.ok OK.len OK.told);rw[aF.out,aq.out] at P;go_wp2_with fail;refine P.mono ?_;rintro e V ⟨A1,c1,ns,rfl,h2,h3,h5⟩;have PP:=fH (aE _ _ ⟨A1,c1,none,0,ns,[],rfl,h2,h3,pE.nil _ _,h5,(by unfold wD iL;simp)⟩);clear h2 h3 h5;generalize ns.length=nn at *;go_wp2;go_ret3;exact PP.out
end
end Go.Proofs.YtkmjcombhjombaaGreatDoor
