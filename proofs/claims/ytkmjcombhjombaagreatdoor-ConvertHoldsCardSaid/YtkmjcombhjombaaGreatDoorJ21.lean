/- A part of the proof. -/
import Derived.Test.YtkmjcombhjombaaGreatDoorJ20
set_option maxRecDepth 100000
set_option maxHeartbeats 20000000
set_option linter.unusedVariables false
set_option linter.unusedSimpArgs false
namespace Go.Proofs.YtkmjcombhjombaaGreatDoor
variable{ver:BA}{e:Ending}{Q:Exit->Act->World->Prop}{a b fmt:Int}{s:LU}{xs:LV}{c g gb k kb lo et n:Nat}{T:Nat->Prop}{f:Nat->Value}{aA aB aC aD aE aF aG aH aI aJ aK aL aM aN aO aP aQ aR aS aT aU aV aW aX aY aZ aa ab ac ad ae af ag ah ai aj ak al am an ao ap aq ar au av ax ay az bA bB bC bD bE bF bG bH fd bJ bK bL bM bN bO bP bQ fe bS bT bU bV bW bX bY bZ ba bb bc bd be bf bg bh bi bj bk bm bn bo bp bq br bs bt bu bv bw bx bz c0 c1 c4 c6 c7 c8 c9 cB cC cD cE cF cG cH cJ cK cL cM cN cO cP cQ cR cS cT cU cV cW cX cY cZ ca cb cc ce cf cg ch ci cj ck cl cm cn co cp cq cr cs ct cu cv cw cx cy cz dA dB dC dD dE dF dG dH dI dJ dK dL dM dN ff dP dQ dR dS fg dU dV dW dX dY dZ da db dc dd de df dg dh di dj dk dl dm dp dq dr ds dt du dv dw dx dy dz ea eb ed ee ef eg eh ei ej ek el em en eo v:Value}{W w w':World}
open Go.Proofs.Tryz
section
open Go.RowKit
theorem abl {ms:List oq}{R:List iA}{p:fZ}{V:BA}{A7 A8:OA}{n7 n8 c7 c8:Nat}{ds7 ds8:List fQ}{wa wb:World}(F:FX w f)(F7:f 7=.slice A7 n7 c7)(F8:f 8=.int .i64 0)(F9:f 9=.slice A8 n8 c8)(az:f 10=.int .i64 0)(ag:∀ {wr:World}{v:Value}{R:List iA}{q:fZ},jK T w wr kb et a b ms v R q->yM wr)(hA:p.able)(hR:R.length<=1000000)(h7:jc a false (p.needs.map bl)=0)(h8:jc a true (p.bars.map bl)=0)(Y:ds7.map fQ.pl=iX a false (p.needs.map bl))(al:w.heap.size+2<wa.heap.size)(J:nu wa W ds7 A7 n7 c7)(Z:ds8.map fQ.pl=iX a true (p.bars.map bl))(av:w.heap.size+2<wb.heap.size)(I:nu wb W ds8 A8 n8 c8)(hB:jK T w W kb et a b ms v R (p.setVer V))
  (hQ:∀ (g:Nat->Value)(wx:World),FX w g->(∃ (A1:OA)(c1:Nat)(A2:OA)(c2:Nat)(ns bts:List BA),(g 6)=.int .i64 (wQ b (kr a p))/\jK T w wx kb et a b ms v R (((p.setVer V).setNeeds A1 c1 ns).setBars A2 c2 bts)/\(wQ b (kr a p)=0->ns.map bl=wD b false (kr a p)/\bts.map bl=wD b true (kr a p)))->Q .normal ⟨FR g,[]⟩ wx):
  Code.wp prog (cd [1,1,1,1,1,1,1,1,0,1,3,0]) Q ⟨FR f,[]⟩ W:=by
 have HQ:=fH hQ;clear hQ;obtain⟨i0,ay,ao,aA,aq⟩:=info_parts sj;have GB:Hid (∀ {wr:World} {v:Value} {R:List iA} {q:fZ},jK T w wr kb et a b ms v R q->yM wr):=ag;have HS:=fH hA;have aC:=fH hR;obtain⟨l7,l8,X⟩:=Wp h7 h8 Y Z hA.small.needs_ hA.small.bars_;have D7:=fH J;have D8:=fH I;have L7:n7<=64:=by rw[<-J.len];exact l7
 have L8:n8<=64:=by rw[<-I.len];exact l8
 have ap:=fH J.len;have ai:=fH I.len;have XB:=fH (Wo Y Z);have ax:=fH X;have aB:=fH al;have M:=fH hB;obtain⟨K,O⟩:∃ K,W=K:=⟨_,rfl⟩
 rw[O] at D7 D8 M |-;have R8:=fH ((D8.ok.row.drew).reads (by decide));rw[ai.out] at R8;have O8:=fH (Ld ds8);clear ag hA hR h7 h8 Y al J Z av I l7 l8 X hB O;obtain⟨F2,F3,F4,F5⟩:=F;unfold FR;rw[F2,F3,F4,F5,F7,F8,F9,az];clear F2 F3 F4 F5
 conv=>arg 2;whnf
 have c0:=M.box.cell 0 _ rfl;have k1:=M.kv.cell 1 _ rfl
 go_region_held3 (fun w'=>w'.cell? ⟨w.heap.size,0,none⟩=some (.pointer (some ⟨kb,0,none⟩))/\w'.cell? ⟨kb,1,none⟩=some (.int .i64 b))
  (first
    | exact⟨c0,k1⟩
    | exact⟨ab,am⟩
    | exact⟨ac.box.cell 0 _ rfl,ac.kv.cell 1 _ rfl⟩
    | exact⟨aa.box.cell 0 _ rfl,aa.kv.cell 1 _ rfl⟩
    | exact⟨z.box.cell 0 _ rfl,z.kv.cell 1 _ rfl⟩
    | go_keep)
  (first
    | (go_at_call 48;refine(aj).mono ?_;rintro e aD ⟨A1,c1,A2,c2,ns,bs,rfl,U,af,ae,ak,ar⟩
       have z:=fH (H.step U);have HZ:Hid (w.heap.size+3<=w9.heap.size):=H.res.sz;have N1:=fH (af.mono HZ);have N2:=fH ((ae.mono HZ).set (c:=w.heap.size+1) (by omega) 4 (.slice A1 ns.length c1));have aa:=fH (z.putNeeds N1);have ac:=fH (aa.putBars N2);have au:=fH ak;have y4:=z.pk.cell 4 _ rfl;have g4:=z.pk.free 4 (by show 4<9;omega);have y5:=z.pk.cell 5 _ rfl;have g5:=z.pk.free 5 (by show 5<9;omega))
    | (refine iF _ (by rfl) _ _ _ (by rfl) wa.heap.size 75 i0 _ 2 32 underlying30 ay ao aA aq rfl (by omega) (.slice A7 n7 c7) n7 (ds7.flatMap fQ.cells) (by rfl) (D7.row.drew) _ A8 n8 c8 (ds8.flatMap fQ.cells) (by rfl) R8 O8 (by simp only[maxLen];omega) (by omega) (by have:=D7.bel.size;simp;omega) ?_
       intro v9 w9 D ad ah;obtain⟨A9,c9,rfl⟩:=gg D;have H:=fH ((M.drew).dep D7.row.drew aB ad);have an:=fH (Zn (D7.below (Zo K)) (D8.below (Zo K)) D ad);have aj:=fH (aaR b A9 c9 (ds7++ds8) w9 (GB H) an ax);rw[XB.out,List.length_append,ap.out,ai.out] at aj;have ab:=H.box.cell 0 _ rfl;have am:=H.kv.cell 1 _ rfl))
 all_goals
  clear c0 k1 ab am y4 g4 y5 g5 U D ad ah af ae ak ar;go_wp2_with fail;refine jZ ?_;exact HQ.out _ _ ⟨rfl,rfl,rfl,rfl⟩ ⟨A1,c1,A2,c2,ns,bs,rfl,ac,au⟩
theorem abm {ms:List oq}{R:List iA}{q:fZ}{te:Int}(F:FX w f)(F6:f 6=.int .i64 te)(hR:R.length<=1000000)(hB:jK T w W kb et a b ms v R q)
  (U:∀ (g:Nat->Value)(wx:World),FX w g->(∃ v1 bs,jK T w wx kb et a b ms v1 (R++bs) q/\(bs=[]↔te=0)/\bs.length<=1)->Q .normal ⟨FR g,[]⟩ wx):
  Code.wp prog (cd [1,1,1,1,1,1,1,1,0,1,3,1]) Q ⟨FR f,[]⟩ W:=by
 have X:=fH U;clear U;have K:=fH hR;have D:=fH hB;obtain⟨J,z⟩:∃ J,W=J:=⟨_,rfl⟩
 rw[z] at D |-;clear hR hB z;obtain⟨V,F3,Z,Y⟩:=F;unfold FR;rw[V,F3,Z,Y,F6];clear V F3 Z Y
 conv=>arg 2;whnf
 by_cases H:te=0
 ·have tq:(te != 0)=false:=by simp[H]
  have M:=fH H;clear H;go_wp2_with fail;refine jZ ?_;exact X.out _ _ ⟨rfl,rfl,rfl,rfl⟩ ⟨v,[],by rw[List.append_nil];exact D.out,⟨fun _=>M.out,fun _=>rfl⟩,by simp⟩
 ·have tq:(te != 0)=true:=by simpa [bne] using H
  have M:=fH H;clear H;go_wp2_with fail;refine(oU D K q.nm ⟨#[110,101,101,100,115]⟩ te rfl).mono ?_;rintro e aa ⟨rfl,v8,I⟩;have O:=fH I;clear I;go_wp2_with fail;refine jZ ?_;exact X.out _ _ ⟨rfl,rfl,rfl,rfl⟩ ⟨v8,_,O,⟨fun e=>by simp at e,fun e=>absurd e M⟩,by simp⟩
theorem Zt {ms:List oq}{R:List iA}{q:fZ}{g:fP}{eY:Value}(I:∀ {wr:World}{v:Value}{R:List iA}{q:fZ},jK T w wr kb et a b ms v R q->yM wr)(hz:g.ver.size<=9223372036854775807)(Z:fV W gb g.cells)(hB:jK T w W kb et a b ms v R q)
  (hQ:∀ (ew ex ey ez eA eB eC eD eE eF eG eH eI eJ eK eL:Value)(wx:World),(ew=.string ⟨(trans a b g.ver).1.toArray⟩/\ex=.int .i64 (trans a b g.ver).2/\jK T w wx kb et a b ms v R q/\fV wx gb g.cells)->Q .normal ⟨#[c0,c1,.pointer (some ⟨w.heap.size,0,none⟩),.pointer (some ⟨w.heap.size+1,0,none⟩),c4,.func (Fn.func 46) #[] #[.pointer (some ⟨w.heap.size,0,none⟩),.pointer (some ⟨w.heap.size+1,0,none⟩)],c6,c7,c8,c9,cB,cC,.pointer (some ⟨gb,0,none⟩),ew,ex,cD,cE,cF,cG,cH,cJ,cK,cL,cM,cN,cO,cP,cQ,cR,cS,cT,cU,cV,cW,cX,cY,cZ,da,db,dc,dd,de,df,dg,dh,di,dj,dk,dl,dm,dp,dq,dr,ds,dt,du,dv,dw,dx,dy,dz,dA,dB,dC,dD,dE,dF,dG,dH,dI,dJ,dK,dL,dM,dN,ff,dP,dQ,dR,dS,fg,dU,dV,dW,dX,dY,dZ,ea,eb,ed,ee,ef,eg,eh,ei,ej,ek,el,em,en,aa,ab,ac,ey,ez,eA,eB,eC,eD,eE,eF,eG,eH,eI,eJ,eK,eL,cn,co,cp,cq,cr,cs,ct,cu,cv,cw,cx,cy,cz,ad,ae,af,ag,ah,ai,aj,ak,al,am,an,ao,ap,aq,ar,au,av,ax,ay,az,aA,aB,aC,aD,aE,aF,aG,aH,aI,aJ,aK,aL,aM,aN,aO,aP,aQ,aR,aS,aT,aU,aV,aW,aX,aY,aZ,ba,bb,bc,bd,be,bf,bg,bh,bi,bj,bk,bm,bn,bo,bp,bq,br,bs,bt,bu,bv,bw,bx,bz,bA,bB,bC,bD,bE,bF,bG,bH,fd,bJ,bK,bL,bM,bN,bO,bP,bQ,fe,bS,bT,bU,bV,bW,bX],[]⟩ wx):
  Code.wp prog (cd [1,1,1,1,1,1,1,1,1,0,1,2,2,1,1,0,2,1,0]) Q ⟨#[c0,c1,.pointer (some ⟨w.heap.size,0,none⟩),.pointer (some ⟨w.heap.size+1,0,none⟩),c4,.func (Fn.func 46) #[] #[.pointer (some ⟨w.heap.size,0,none⟩),.pointer (some ⟨w.heap.size+1,0,none⟩)],c6,c7,c8,c9,cB,cC,.pointer (some ⟨gb,0,none⟩),eo,eY,cD,cE,cF,cG,cH,cJ,cK,cL,cM,cN,cO,cP,cQ,cR,cS,cT,cU,cV,cW,cX,cY,cZ,da,db,dc,dd,de,df,dg,dh,di,dj,dk,dl,dm,dp,dq,dr,ds,dt,du,dv,dw,dx,dy,dz,dA,dB,dC,dD,dE,dF,dG,dH,dI,dJ,dK,dL,dM,dN,ff,dP,dQ,dR,dS,fg,dU,dV,dW,dX,dY,dZ,ea,eb,ed,ee,ef,eg,eh,ei,ej,ek,el,em,en,aa,ab,ac,bY,bZ,ca,cb,cc,ce,cf,cg,ch,ci,cj,ck,cl,cm,cn,co,cp,cq,cr,cs,ct,cu,cv,cw,cx,cy,cz,ad,ae,af,ag,ah,ai,aj,ak,al,am,an,ao,ap,aq,ar,au,av,ax,ay,az,aA,aB,aC,aD,aE,aF,aG,aH,aI,aJ,aK,aL,aM,aN,aO,aP,aQ,aR,aS,aT,aU,aV,aW,aX,aY,aZ,ba,bb,bc,bd,be,bf,bg,bh,bi,bj,bk,bm,bn,bo,bp,bq,br,bs,bt,bu,bv,bw,bx,bz,bA,bB,bC,bD,bE,bF,bG,bH,fd,bJ,bK,bL,bM,bN,bO,bP,bQ,fe,bS,bT,bU,bV,bW,bX],[]⟩ W:=by
 have HQ:=fH hQ;clear hQ;have GB:Hid (∀ {wr:World} {v:Value} {R:List iA} {q:fZ},jK T w wr kb et a b ms v R q->yM wr):=I;have F:=fH hB;have O:=fH Z;obtain⟨V,X⟩:∃ V:BA,(⟨(trans a b g.ver).1.toArray⟩:BA)=V:=⟨_,rfl⟩
 obtain⟨M,z⟩:∃ M:Int,(trans a b g.ver).2=M:=⟨_,rfl⟩
 have HV:=fH X;have U:=fH z;have HT:=fH fun W hg=>qG a b g.ver W hg hz;rw[show ul (trans a b g.ver)=.tuple #[.string V,.int .i64 M] by rw[<-X,<-z];rfl] at HT;obtain⟨W6,H⟩:∃ W6,W=W6:=⟨_,rfl⟩
 rw[H] at F O |-;clear I hB Z hz X z H
 conv=>arg 2;whnf
 have c0:=F.box.cell 0 _ rfl;have k0:=F.kv.cell 0 _ rfl;have Y:=F.kv.cell 1 _ rfl;have x2:=O.cell 2 _ rfl
 go_region_held3 (fun J=>J.cell? ⟨w.heap.size,0,none⟩=some (.pointer (some ⟨kb,0,none⟩))/\J.cell? ⟨kb,0,none⟩=some (.int .i64 a)/\J.cell? ⟨kb,1,none⟩=some (.int .i64 b)/\J.cell? ⟨gb,2,none⟩=some (.string g.ver))
  (first
    | exact⟨c0,k0,Y,x2⟩
    | exact⟨K.box.cell 0 _ rfl,K.kv.cell 0 _ rfl,K.kv.cell 1 _ rfl,X7.cell 2 _ rfl⟩
    | go_keep)
  (first
    | (go_at_call 47;refine mb (HT _ ((GB F.drew).p)) ?_;rintro w7 D
       have K:=fH (F.drew.step D);have X7:=fH (O.drew.below D)))
 all_goals
  clear c0 k0 Y x2 D;go_wp2_with fail;exact HQ.out _ _ _ _ _ _ _ _ _ _ _ _ _ _ _ _ _ ⟨by rw[HV.out],by rw[U.out],K,X7⟩
theorem Zu {g:fP}{ec:Int}(Z:g.nm.size<=9223372036854775807)(J:(trans a b g.ver).2=ec)(X:fV W gb g.cells)
  (Y:∀ (eM eN eO eP eQ eR eS eT eU eV eW eX ev:Value)(wx:World),(∃ bad:Bool,ev=.bool bad/\(bad=false↔qM a b g)/\wx=W)->Q .normal ⟨#[c0,c1,.pointer (some ⟨w.heap.size,0,none⟩),.pointer (some ⟨w.heap.size+1,0,none⟩),c4,.func (Fn.func 46) #[] #[.pointer (some ⟨w.heap.size,0,none⟩),.pointer (some ⟨w.heap.size+1,0,none⟩)],c6,c7,c8,c9,cB,cC,.pointer (some ⟨gb,0,none⟩),eo,.int .i64 ec,cD,cE,cF,cG,cH,cJ,cK,cL,cM,cN,cO,cP,cQ,cR,cS,cT,cU,cV,cW,cX,cY,cZ,da,db,dc,dd,de,df,dg,dh,di,dj,dk,dl,dm,dp,dq,dr,ds,dt,du,dv,dw,dx,dy,dz,dA,dB,dC,dD,dE,dF,dG,dH,dI,dJ,dK,dL,dM,dN,ff,dP,dQ,dR,dS,fg,dU,dV,dW,dX,dY,dZ,ea,eb,ed,ee,ef,eg,eh,ei,ej,ek,el,em,en,aa,ab,ac,bY,bZ,ca,cb,cc,ce,cf,cg,ch,ci,cj,ck,cl,cm,eM,eN,eO,eP,eQ,eR,eS,eT,eU,eV,eW,eX,ev,ad,ae,af,ag,ah,ai,aj,ak,al,am,an,ao,ap,aq,ar,au,av,ax,ay,az,aA,aB,aC,aD,aE,aF,aG,aH,aI,aJ,aK,aL,aM,aN,aO,aP,aQ,aR,aS,aT,aU,aV,aW,aX,aY,aZ,ba,bb,bc,bd,be,bf,bg,bh,bi,bj,bk,bm,bn,bo,bp,bq,br,bs,bt,bu,bv,bw,bx,bz,bA,bB,bC,bD,bE,bF,bG,bH,fd,bJ,bK,bL,bM,bN,bO,bP,bQ,fe,bS,bT,bU,bV,bW,bX],[]⟩ wx):
  Code.wp prog (cd [1,1,1,1,1,1,1,1,1,0,1,2,2,1,1,0,2,1,1,0,0]) Q ⟨#[c0,c1,.pointer (some ⟨w.heap.size,0,none⟩),.pointer (some ⟨w.heap.size+1,0,none⟩),c4,.func (Fn.func 46) #[] #[.pointer (some ⟨w.heap.size,0,none⟩),.pointer (some ⟨w.heap.size+1,0,none⟩)],c6,c7,c8,c9,cB,cC,.pointer (some ⟨gb,0,none⟩),eo,.int .i64 ec,cD,cE,cF,cG,cH,cJ,cK,cL,cM,cN,cO,cP,cQ,cR,cS,cT,cU,cV,cW,cX,cY,cZ,da,db,dc,dd,de,df,dg,dh,di,dj,dk,dl,dm,dp,dq,dr,ds,dt,du,dv,dw,dx,dy,dz,dA,dB,dC,dD,dE,dF,dG,dH,dI,dJ,dK,dL,dM,dN,ff,dP,dQ,dR,dS,fg,dU,dV,dW,dX,dY,dZ,ea,eb,ed,ee,ef,eg,eh,ei,ej,ek,el,em,en,aa,ab,ac,bY,bZ,ca,cb,cc,ce,cf,cg,ch,ci,cj,ck,cl,cm,cn,co,cp,cq,cr,cs,ct,cu,cv,cw,cx,cy,cz,ad,ae,af,ag,ah,ai,aj,ak,al,am,an,ao,ap,aq,ar,au,av,ax,ay,az,aA,aB,aC,aD,aE,aF,aG,aH,aI,aJ,aK,aL,aM,aN,aO,aP,aQ,aR,aS,aT,aU,aV,aW,aX,aY,aZ,ba,bb,bc,bd,be,bf,bg,bh,bi,bj,bk,bm,bn,bo,bp,bq,br,bs,bt,bu,bv,bw,bx,bz,bA,bB,bC,bD,bE,bF,bG,bH,fd,bJ,bK,bL,bM,bN,bO,bP,bQ,fe,bS,bT,bU,bV,bW,bX],[]⟩ W:=by
 have H:=fH Y;clear Y;have R:=fH X;obtain⟨I,z⟩:∃ I,hH (bl g.nm)=I:=⟨_,rfl⟩
 have K:=fH fun W=>(nC g.nm W Z).mono fun (e:Ending) (D:World) (h:e=.returned (.bool (hH (bl g.nm)))/\W=D)=>(⟨by rw[h.1,z],h.2⟩:e=.returned (.bool I)/\W=D)
 obtain⟨V,U⟩:∃ t,(g.op != 3)=t:=⟨_,rfl⟩
 obtain⟨te,O⟩:∃ t,(ec != 0)=t:=⟨_,rfl⟩
 have M:Hid (qM a b g↔I=true/\V=false/\te=false):=by
  show _↔_;unfold qM;rw[z,<-U,<-O,J];simp
 obtain⟨W6,F⟩:∃ W6,W=W6:=⟨_,rfl⟩
 rw[F] at R H |-;clear X Z z J F
 conv=>arg 2;whnf
 have x0:=R.cell 0 _ rfl;have x1:=R.cell 1 _ rfl;cases I
 ·skip
  go_wp2_with fail;refine mb (K _) ?_;rintro D rfl;go_wp2_with fail;exact H.out _ _ _ _ _ _ _ _ _ _ _ _ _ _ ⟨true,rfl,by rw[M.out];simp,rfl⟩
 ·cases V
  ·cases te
   ·skip
    go_wp2_with fail;refine mb (K _) ?_;rintro D rfl;go_wp2_with fail;exact H.out _ _ _ _ _ _ _ _ _ _ _ _ _ _ ⟨false,rfl,by rw[M.out];simp,rfl⟩
   ·skip
    go_wp2_with fail;refine mb (K _) ?_;rintro D rfl;go_wp2_with fail;exact H.out _ _ _ _ _ _ _ _ _ _ _ _ _ _ ⟨true,rfl,by rw[M.out];simp,rfl⟩
  ·skip
   go_wp2_with fail;refine mb (K _) ?_;rintro D rfl;go_wp2_with fail;exact H.out _ _ _ _ _ _ _ _ _ _ _ _ _ _ ⟨true,rfl,by rw[M.out];simp,rfl⟩
def fZ.setGives (p:fZ)(l:List fP):fZ:=⟨p.nm,p.ver,p.ar,p.sm,p.na,p.nc,p.needs,p.ba,p.bc,p.bars,p.ga,p.gc,l,p.fa,p.fc,p.files,p.sa,p.sc,p.scripts⟩
theorem Bf (a b:Int)(l:List fP):lR a b l 0=l:=by unfold lR;simp
theorem Wr {α:Type}{P:α->Prop}{l:List α}{x:α}(D:l[k]?=some x):(∀ y∈l.take (k+1),P y)↔(∀ y∈l.take k,P y)/\P x:=by
 rw[gC D];constructor
 ·intro h;exact⟨fun y z=>h y (List.mem_append_left _ z),h x (List.mem_append_right _ (by simp))⟩
 ·rintro⟨h1,h2⟩ y z;rcases List.mem_append.1 z with z | z
  ·exact h1 y z
  ·rw[List.mem_singleton.1 z];exact h2
theorem acS {ms:List oq}{R:List iA}{q:fZ}(F:FX w f)(aI:∀ {wr:World}{v:Value}{R:List iA}{q:fZ},jK T w wr kb et a b ms v R q->yM wr)(ar:∀ g∈q.gives,g.nm.size<=9223372036854775807/\g.ver.size<=9223372036854775807)(hR:R.length<=1000000)(hn:q.gives.length<=100000)(hB:jK T w W kb et a b ms v R q)
  (hQ:∀ (g:Nat->Value)(wx:World),FX w g->(∃ v1 G bs,jK T w wx kb et a b ms v1 (R++bs) (q.setGives G)/\(bs=[]↔∀ g∈q.gives,qM a b g)/\bs.length<=1/\(bs=[]->G=q.gives.map (po a b)))->Q .normal ⟨FR g,[]⟩ wx):
  Code.wp prog (cd [1,1,1,1,1,1,1,1,1,0]) Q ⟨FR f,[]⟩ W:=by
 have HQ:=fH hQ;clear hQ;have GB:Hid (∀ {wr:World} {v:Value} {R:List iA} {q:fZ},jK T w wr kb et a b ms v R q->yM wr):=aI;have HS:=fH ar;have aS:=fH hR;have B0:Hid (jK T w W kb et a b ms v R (q.setGives (lR a b q.gives 0))):=by show jK _ _ _ _ _ _ _ _ _ _ _;rw[Bf];exact hB
 obtain⟨W0,aM⟩:∃ W0,W=W0:=⟨_,rfl⟩
 rw[aM] at B0 |-;clear aI ar hR hB aM;obtain⟨F2,F3,F4,F5⟩:=F;unfold FR;rw[F2,F3,F4,F5];clear F2 F3 F4 F5
 conv=>arg 2;whnf
 have p6:W0.cell? ⟨w.heap.size+1,6,none⟩=some (.slice q.ga q.gives.length q.gc):=by
  have:=B0.pk.cell 6 _ rfl;rw[Bf] at this;exact this
 go_wp2_with fail;clear p6;go_loopw [98] (fun s wr=>∃ k:Nat,k<=q.gives.length/\s=.int .i64 k/\Hid (jK T w wr kb et a b ms v R (q.setGives (lR a b q.gives k)))/\Hid (∀ g∈q.gives.take k,qM a b g)) (fun i _=>q.gives.length-(intOf i).toNat)
 case atStart=>exact⟨0,z0,rfl,B0,by simp[Hid]⟩
 case round=>
  clear B0;obtain⟨k,hk,rfl,B1,K1⟩:=hrel;by_cases aJ:k<q.gives.length
  ·obtain⟨x,hx⟩:∃ x,q.gives[k]?=some x:=⟨_,gG aJ⟩
   have HX:=fH hx;obtain⟨zn,zv⟩:=HS.out x (gM hx);have Y:=fH (Zm (a:=a) (b:=b) hx);have K:=Wm a b q.gives hk;have aL:=fH K;obtain⟨g0,cp,hv,_,_⟩:=B1.own.gives.form (by show 0<(lR a b q.gives k).length;omega);have hA:q.ga=some ⟨g0,0,none⟩:=by injection hv
   obtain⟨b2,H,z,he⟩:=(gR B1.own.gives).elem kt k x Y.out;obtain⟨rfl,rfl⟩:g0=b2/\0=H:=by have z:q.ga=some ⟨b2,H,none⟩:=z;rw[hA] at z;injection z with z;injection z with h1 h2 _;exact⟨h1,h2⟩
   obtain⟨e0,e1,e2⟩:=qj he;simp only[Nat.add_zero,Nat.zero_add] at e0 e1 e2;have aQ:=fun W=>gi (T:=34) (E:=78) (sz:=3) (c:=q.gc) underlying34 rfl sizeOf78 hA aJ W;simp only[Nat.zero_add] at aQ;have HA:=fH hA;clear hx hv hA z he K;obtain⟨W1,J⟩:∃ W1,wr.alloc (.cells #[.string x.nm,.int .i64 x.op,.string x.ver] 78)=W1:=⟨_,rfl⟩
   have D1:Hid (Bw wr W1):=by show Below _ _ _;rw[<-J];exact bR.alloc lr _
   have X1:Hid (fV W1 wr.heap.size x.cells):=by show fV _ _ _;rw[<-J];exact fV.new wr x.cells _
   have B2:=fH (B1.step D1);have aN:=fH J;clear J;go_upto_region 19 with(fail)
   rw[aN.out];clear e0 e1 e2 B1 D1 aN;refine Zt (g:=x) GB zv X1 B2 ?_;intro aF aG aa ab ac ad ae af ag ah ai aj ak al am an wx X;obtain⟨rfl,rfl,aH,aP⟩:=X;have Z:=fH aH;have X3:=fH aP;clear aH aP B2 X1;obtain⟨W3,aO⟩:∃ W3,wx=W3:=⟨_,rfl⟩
   rw[aO] at Z X3 |-;clear aO;obtain⟨V,hV⟩:∃ V:BA,(⟨(trans a b x.ver).1.toArray⟩:BA)=V:=⟨_,rfl⟩
   obtain⟨ec,U⟩:∃ ec:Int,(trans a b x.ver).2=ec:=⟨_,rfl⟩
   have HV:=fH hV;have aU:=fH U;rw[hV,U];clear hV U;go_upto_region 20 with(fail)
   refine Zu (a:=a) (b:=b) (g:=x) (w:=w) zn aU X3 ?_;intro ao ap aq au av ax ay az aA aB aC aD aE wx X;obtain⟨aT,rfl,M,rfl⟩:=X;have I:=fH M;clear M;cases aT
   ·obtain⟨aR,h3,_⟩:=I.1 (by simp);have p6:wx.cell? ⟨w.heap.size+1,6,none⟩=some (.slice q.ga q.gives.length q.gc):=by
     have hp:wx.cell? ⟨w.heap.size+1,6,none⟩=some (.slice q.ga (lR a b q.gives k).length q.gc):=Z.pk.cell 6 _ rfl;rw[aL.out] at hp;exact hp
    obtain⟨y2,z2⟩:wx.cell? ⟨g0,k*3+2,none⟩=some (.string x.ver)/\wx.frozen? ⟨g0,k*3+2,none⟩=false:=by
     obtain⟨b2,H,z,he⟩:=(gR Z.own.gives).elem kt k x Y.out;have D:q.ga=some ⟨b2,H,none⟩:=z;rw[HA.out] at D;injection D with D;injection D with h1 h2 _;subst h1;subst h2;have e2:=he 2 _ rfl;simp only[Nat.zero_add] at e2;have O:wx.ownsRow (kb+1) 78 3 (.slice q.ga (lR a b q.gives k).length q.gc) (lR a b q.gives k).length ((lR a b q.gives k).flatMap fP.cells):=Z.own.gives;rw[HA.out] at O;exact⟨e2,O.frozenAt _⟩
    have B5:Hid (jK T w (wx.setCell ⟨g0,k*3+2,none⟩ (.string V)) kb et a b ms v R (q.setGives (lR a b q.gives (k+1)))):=by
     have:=Z.setG (g:=g0) (i:=k) (x:=x) HA Y V;show jK _ _ _ _ _ _ _ _ _ _ _;rw[<-Rx HX.out h3,HV.out];exact this
    have KN:Hid (∀ g∈q.gives.take (k+1),qM a b g):=by
     show ∀ g∈_,_;rw[Wr HX.out];exact⟨K1.out,I.1 (by simp)⟩
    clear aR h3 I;go_wp2;go_roundw
    case rel=>exact⟨k+1,by omega,by go_num,B5,KN⟩
    case measure=>simp[intOf];omega
   ·have NG:Hid (¬ ∀ g∈q.gives,qM a b g):=fun h=>by
     have:=I.2 (h x (gM HX));simp at this
    go_wp2_with fail;refine(oU Z aS q.nm ⟨#[103,105,118,101,115]⟩ 11 rfl).mono ?_;rintro e w5 ⟨rfl,v5,h5⟩;have B5:=fH h5;clear h5;go_wp2_with fail;refine jZ ?_;exact HQ.out _ _ ⟨rfl,rfl,rfl,rfl⟩ ⟨v5,_,_,B5,⟨fun e=>by simp at e,fun e=>absurd e NG⟩,by simp,fun e=>by simp at e⟩
  ·have E:q.gives.take k=q.gives:=tL (by omega);have aK:k=q.gives.length:=by omega
   have B5:Hid (jK T w wr kb et a b ms v R (q.setGives (q.gives.map (po a b)))):=by
    have:=B1.out;rw[aK,Wn] at this;exact this
   have KN:Hid (∀ g∈q.gives,qM a b g):=by have:=K1.out;rw[E] at this;exact this
   clear E aK;go_wp2_with fail;refine jZ ?_;exact HQ.out _ _ ⟨rfl,rfl,rfl,rfl⟩ ⟨v,_,[],by rw[List.append_nil];exact B5.out,⟨fun _=>KN.out,fun _=>rfl⟩,by simp,fun _=>rfl⟩
theorem acU:cd []=.seq (cd [0]) (cd [1]):=by kernel_rfl
theorem adF:cd [1]=.seq (cd [1,0]) (cd [1,1]):=by kernel_rfl
theorem adt:cd [1,1]=.seq (cd [1,1,0]) (cd [1,1,1]):=by kernel_rfl
theorem acV:cd [1,1,1]=.seq (cd [1,1,1,0]) (cd [1,1,1,1]):=by kernel_rfl
theorem abs:cd [1,1,1,0]=.seq (cd [1,1,1,0,0]) (cd [1,1,1,0,1]):=by kernel_rfl
theorem abt:cd [1,1,1,1]=.seq (cd [1,1,1,1,0]) (cd [1,1,1,1,1]):=by kernel_rfl
theorem Zv:cd [1,1,1,1,1]=.seq (cd [1,1,1,1,1,0]) (cd [1,1,1,1,1,1]):=by kernel_rfl
theorem Ws:cd [1,1,1,1,1,1]=.seq (cd [1,1,1,1,1,1,0]) (cd [1,1,1,1,1,1,1]):=by kernel_rfl
theorem RI:cd [1,1,1,1,1,1,1]=.seq (cd [1,1,1,1,1,1,1,0]) (cd [1,1,1,1,1,1,1,1]):=by kernel_rfl
theorem Ov:cd [1,1,1,1,1,1,1,1]=.seq (cd [1,1,1,1,1,1,1,1,0]) (cd [1,1,1,1,1,1,1,1,1]):=by kernel_rfl
theorem Lp:cd [1,1,1,1,1,1,1,1,0]=.seq (cd [1,1,1,1,1,1,1,1,0,0]) (cd [1,1,1,1,1,1,1,1,0,1]):=by kernel_rfl
theorem FZ:cd [1,1,1,1,1,1,1,1,0,1,3]=.seq (cd [1,1,1,1,1,1,1,1,0,1,3,0]) (cd [1,1,1,1,1,1,1,1,0,1,3,1]):=by kernel_rfl
theorem Lq:cd [1,1,1,1,1,1,1,1,1]=.seq (cd [1,1,1,1,1,1,1,1,1,0]) (cd [1,1,1,1,1,1,1,1,1,1]):=by kernel_rfl
theorem Hy:cd [1,1,1,1,1,1,1,1,1,1]=.seq (cd [1,1,1,1,1,1,1,1,1,1,0]) (cd [1,1,1,1,1,1,1,1,1,1,1]):=by kernel_rfl
theorem Ga:cd [1,1,1,1,1,1,1,1,1,1,0]=.seq (cd [1,1,1,1,1,1,1,1,1,1,0,0]) (cd [1,1,1,1,1,1,1,1,1,1,0,1]):=by kernel_rfl
theorem Gb:cd [1,1,1,1,1,1,1,1,1,1,1]=.seq (cd [1,1,1,1,1,1,1,1,1,1,1,0]) (cd [1,1,1,1,1,1,1,1,1,1,1,1]):=by kernel_rfl
theorem BU:cd [1,1,1,1,1,1,1,1,1,1,1,1]=.seq (cd [1,1,1,1,1,1,1,1,1,1,1,1,0]) (cd [1,1,1,1,1,1,1,1,1,1,1,1,1]):=by kernel_rfl
theorem Ad:cd [1,1,1,1,1,1,1,1,1,1,1,1,1]=.seq (cd [1,1,1,1,1,1,1,1,1,1,1,1,1,0]) (cd [1,1,1,1,1,1,1,1,1,1,1,1,1,1]):=by kernel_rfl
theorem abu:cd [1,1,1,1,1,1,1,1,0,1]=.cond (.tmp 75) (cd [1,1,1,1,1,1,1,1,0,1,3]) (cd [1,1,1,1,1,1,1,1,0,1,4]):=by kernel_rfl
theorem abv:cd [1,1,1,1,1,1,1,1,0,1,4]=.skip:=by kernel_rfl
theorem acW:cd [1,1,1,1,1,1,1,1,1,1,1,1,1,1]=.ret:=by kernel_rfl
theorem JB {ms:List oq}{kn:List jH}{R0:List iA}{p:fZ}{q:fZ}{bs:List iA}(F:FX w f)(ha:iY a)(hb:iY b)(hL:jY a b kn ms)(aa:∀ {wr:World}{v:Value}{R:List iA}{q:fZ},jK T w wr kb et a b ms v R q->yM wr)(I:p.able)(hR:(R0++pt a b p++bs).length<=500010)(D:StD a b p q bs)(hB:jK T w W kb et a b ms v (R0++pt a b p++bs) q):
  Code.wp prog (cd [1,1,1,1,1,1,1,1,1]) (bodyPost prog Tryz.f26 (Ot T kb et a b kn ms R0 p w)) ⟨FR f,[]⟩ W:=by
 have Z:q.gives.length<=100000:=by rw[D.gives];have:=I.gives;omega
 have ac:∀ g∈q.gives,g.nm.size<=9223372036854775807/\g.ver.size<=9223372036854775807:=by
  intro g O;rw[D.gives] at O;have:=I.small.gives_ g O;constructor<;>omega
 rw[Lq];refine wp_seq (acS F aa ac (by omega) Z hB ?_);intro g1 J G1 H;show Code.wp _ (cd [1,1,1,1,1,1,1,1,1,1]) _ _ _;obtain⟨v1,G,K,B1,K1,F1,E1⟩:=H;rw[Hy,Ga];refine wp_seq ?_;refine wp_seq (abn G1 ha (show nw a b (q.setGives G).ar=((nw a b q.ar).1,(nw a b q.ar).2) from rfl) B1 ?_);intro g2 J G2 H;show Code.wp _ (cd [1,1,1,1,1,1,1,1,1,1,0,1]) _ _ _;obtain⟨V,Y,B2⟩:=H;refine abo G2 V Y B2 ?_;intro g3 J G3 H;show Code.wp _ (cd [1,1,1,1,1,1,1,1,1,1,1]) _ _ _;have U:∃ z:fZ,jK T w J kb et a b ms v1 (R0++pt a b p++bs++K) z/\z.nm=q.nm/\z.ver=q.ver/\z.ar=AS a b q.ar/\z.sm=q.sm/\z.needs=q.needs/\z.bars=q.bars/\z.gives=G/\z.files=q.files/\z.scripts=q.scripts:=by
  rcases H with⟨h0,H⟩ | ⟨h0,H⟩
  ·exact⟨_,H,rfl,rfl,by unfold AS;rw[if_pos h0];rfl,rfl,rfl,rfl,rfl,rfl,rfl⟩
  ·exact⟨_,H,rfl,rfl,by unfold AS;rw[if_neg h0];rfl,rfl,rfl,rfl,rfl,rfl,rfl⟩
 obtain⟨z,B3,n1,n2,n3,n4,n5,n6,n7,n8,n9⟩:=U;rw[Gb];refine wp_seq (acR G3 hb hL (by intro f hf;rw[n8,D.files] at hf;have:=I.small.files_ f hf;constructor<;>omega) (by rw[List.length_append];omega) (by rw[n8,D.files];have:=I.files;omega) B3 ?_);intro g4 J G4 H;show Code.wp _ (cd [1,1,1,1,1,1,1,1,1,1,1,1]) _ _ _;obtain⟨v3,ab,B4,K3,F3⟩:=H;rw[n8,D.files] at B4 K3 F3;rw[BU];refine wp_seq (acP G4 hb (by show z.scripts.length<=_;rw[n9,D.scripts];exact I.small.scripts) (by have:=I.files;rw[List.length_append,List.length_append];omega) B4 ?_);intro g5 J G5 H;show Code.wp _ (cd [1,1,1,1,1,1,1,1,1,1,1,1,1]) _ _ _;obtain⟨v4,M,B5,X,F4⟩:=H;have X:M=[]↔∀ s∈p.scripts,zk b s.phase=true:=by rw[X];show(∀ s∈z.scripts,_)↔_;rw[n9,D.scripts]
 rw[Ad];refine wp_seq (acT G5 B5 ?_);intro g6 J G6 H;show Code.wp _ (cd [1,1,1,1,1,1,1,1,1,1,1,1,1,1]) _ _ _;subst H;rw[acW];refine wp_ret ?_;obtain⟨F2,F3,F4,F5⟩:=G6;unfold FR;rw[F4];obtain⟨KF,EF⟩:=B5.done rfl;obtain⟨x0,x1,x2,x3,x4,x5,x6,x7,x8⟩:=cF9 KF.cell;refine bodyPost_ret (v:=(z.setFiles (p.files.map (kF a b kn))).val) (by unfold fZ.val;simp[results,results26,go_sem,x0,x1,x2,x3,x4,x5,x6,x7,x8]) rfl ?_;refine⟨v4,z.setFiles (p.files.map (kF a b kn)),bs++(K++(ab++M)),rfl,?_,?_,?_,?_⟩
 ·have:=EF;simp only[List.append_assoc] at this |-;exact this
 ·simp only[List.append_eq_nil_iff];rw[D.ok,K1,K3,X,D.gives];exact⟨fun ⟨h1,h2,h3,h4⟩=>⟨h1,h2,h3,h4⟩,fun h=>⟨h.deps,h.gives,h.files,h.scripts⟩⟩
 ·have:=D.few;have:=I.files;simp only[List.length_append];omega
 ·intro _ he;simp only[List.append_eq_nil_iff] at he;obtain⟨h1,h2,h3,h4⟩:=he;have ht:=D.txt h1;have O:=E1 h2;refine⟨n1.trans D.nm,n2.trans D.ver,?_,n4.trans D.sm,?_,?_,?_,rfl,n9.trans D.scripts⟩
  ·show z.ar=_;rw[n3,D.ar]
  ·show z.needs.map bl=_;rw[n5];exact ht.1
  ·show z.bars.map bl=_;rw[n6];exact ht.2
  ·show z.gives=_;rw[n7,O,D.gives]
theorem Ow (a b:Int)(ha:iY a)(hb:iY b)(T:Nat->Prop)(kb et:Nat)(kn:List jH)(ms:List oq)(hL:jY a b kn ms)(v:Value)(U:List iA)(p:fZ)(w0 w:World)(hG:yM w0)(ao:Bw w0 w)(ak:∀ g,T g->w0.heap.size<=g)(ae:U.length<=500000)(hA:p.able)(J:CvI T w kb et a b ms v U p):Calls prog 26 #[.pointer (some ⟨kb,0,none⟩),p.val] w (Ot T kb et a b kn ms U p w):=by
 have GB:∀ {wr:World} {v:Value} {R:List iA} {q:fZ},jK T w wr kb et a b ms v R q->yM wr:=fun h=>hG.below (h.base ao ak);have B3:=jK.start J.lt J.ml J.tl J.tk J.tv J.tg J.tf J.kv J.rf J.mp J.own 110 38;have aC:(U++pt a b p).length<=500001:=by have:=Oq a b p;rw[List.length_append];omega
 unfold fZ.val;go_in;show Code.wp _ (cd []) _ _ _;rw[acU];refine wp_seq (abp  ?_);intro U2 U3 U4 I z;show Code.wp _ (cd [1]) _ _ _;obtain⟨rfl,rfl,rfl,rfl⟩:=z;rw[adF];refine wp_seq (abq  ?_);intro U5 az I z;show Code.wp _ (cd [1,1]) _ _ _;obtain⟨rfl,rfl⟩:=z;rw[adt];refine wp_seq (ads ?_);refine(abr ⟨rfl,rfl,rfl,rfl⟩  ?_);intro g0 I G0 z;show Code.wp _ (cd [1,1,1]) _ _ _;subst z;rw[acV,abs];refine wp_seq ?_;refine wp_seq (abf G0 GB hA ae B3 ?_);intro g1 I G1 z;show Code.wp _ (cd [1,1,1,0,1]) _ _ _;obtain⟨h6,B5⟩:=z;refine abg G1 h6 rfl ae B5 ?_;intro g2 I G2 z;show Code.wp _ (cd [1,1,1,1]) _ _ _;obtain⟨v5,B6⟩:=z;rw[abt];refine wp_seq (abh G2 GB hA B6 ?_);intro g3 I G3 z;show Code.wp _ (cd [1,1,1,1,1]) _ _ _;obtain⟨A7,n7,c7,aB,X,f7,f8,B7,_,X7⟩:=z;rw[Zv];refine wp_seq (abi G3 GB hA B7 ?_);intro g4 I G4 ac z;show Code.wp _ (cd [1,1,1,1,1,1]) _ _ _;obtain⟨A8,n8,c8,ay,Z,f9,D,B8,af,X8⟩:=z;rw[<-ac.1] at f7;rw[<-ac.2] at f8;rw[Ws];have Q7:X=0↔jc a false (p.needs.map bl)=0:=by
  have h:=X7;unfold Zp at h;split at h
  ·rename_i h0;exact⟨fun _=>h0,fun _=>h.1⟩
  ·rename_i h0;exact⟨fun e=>absurd e h,fun e=>absurd e h0⟩
 have Q8:Z=0↔jc a true (p.bars.map bl)=0:=by
  have h:=X8;unfold Zp at h;split at h
  ·rename_i h0;exact⟨fun _=>h0,fun _=>h.1⟩
  ·rename_i h0;exact⟨fun e=>absurd e h,fun e=>absurd e h0⟩
 refine wp_seq (abj G4 f8 (by omega) B8 ?_);intro g5 I G5 K z;show Code.wp _ (cd [1,1,1,1,1,1,1]) _ _ _;obtain⟨v6,H,B9,K1,F1,E1⟩:=z;rw[<-K.1] at f7;rw[<-K.2.1] at f8;rw[<-K.2.2.1] at f9;rw[<-K.2.2.2] at D;rw[RI];refine wp_seq (abk G5 D (by rw[List.length_append];omega) B9 ?_);intro g6 I G6 M z;show Code.wp _ (cd [1,1,1,1,1,1,1,1]) _ _ _;obtain⟨v7,F,V,K2,F2,E2⟩:=z;rw[<-M.1] at f7;rw[<-M.2.1] at f8;rw[<-M.2.2.1] at f9;rw[<-M.2.2.2] at D;rw[Ov,Lp];refine wp_seq ?_;refine wp_seq (Zq G6 f8 D  ?_);intro g7 I G7 O z;show Code.wp _ (cd [1,1,1,1,1,1,1,1,0,1]) _ _ _;obtain⟨tb,ad,aa,rfl⟩:=z;rw[<-O.1] at f7;rw[<-O.2.1] at f8;rw[<-O.2.2.1] at f9;rw[<-O.2.2.2] at D;rw[abu];rw[List.append_assoc] at V;have Y:(U++pt a b p++(H++F)).length<=500003:=by
  have h1:(H++F).length<=2:=by rw[List.length_append];omega
  have h2:(U++pt a b p++(H++F)).length=(U++pt a b p).length+(H++F).length:=List.length_append;omega
 cases tb with
 | false=>
  refine wp_cond (t:=false) ad ?_;show Code.wp _ (cd [1,1,1,1,1,1,1,1,0,1,4]) _ _ _;rw[abv];refine wp_skip ?_;show Code.wp _ (cd [1,1,1,1,1,1,1,1,1]) _ _ _;have ag:H++F≠[]:=by
   intro e;rw[List.append_eq_nil_iff] at e;have:=aa.2 ⟨K1.1 e.1,K2.1 e.2⟩;cases this
  have au:¬ qL a b p:=by
   intro h;have:=aa.2 ⟨Q7.2 h.needs,Q8.2 h.bars⟩;cases this
  refine JB G7 ha hb hL GB hA (by omega) (StD.none ag au (by rw[List.length_append];omega)) V
 | true=>
  obtain⟨rfl,rfl⟩:=aa.1 rfl;have h7:=Q7.1 rfl;have h8:=Q8.1 rfl;have e1:=K1.2 rfl;have e2:=K2.2 rfl;subst e1;subst e2;have aj:=E1 rfl;have ar:=E2 rfl;unfold Zp at X7 X8;rw[if_pos h7] at X7;rw[if_pos h8] at X8;obtain⟨_,ai,wa,aq,an⟩:=X7;obtain⟨_,al,wb,ap,am⟩:=X8;have D7:=an.below af;have D8:=am;rw[<-aj,<-ar] at D7 D8;refine wp_cond (t:=true) ad ?_;show Code.wp _ (cd [1,1,1,1,1,1,1,1,0,1,3]) _ _ _;rw[FZ];refine wp_seq (abl G7 f7 f8 f9 D GB hA (by rw[List.append_nil] at Y |-;omega) h7 h8 ai aq D7 al ap D8 V ?_);intro g8 I G8 z;show Code.wp _ (cd [1,1,1,1,1,1,1,1,0,1,3,1]) _ _ _;obtain⟨A1,c1,A2,c2,ns,ax,h6,av,ah⟩:=z;refine abm G8 h6 (by rw[List.append_nil] at Y |-;omega) av ?_;intro g9 I G9 z;show Code.wp _ (cd [1,1,1,1,1,1,1,1,1]) _ _ _;obtain⟨v9,aA,ab,K3,F3⟩:=z;rw[List.append_nil,List.append_nil] at ab;refine JB G9 ha hb hL GB hA (by rw[List.append_nil,List.append_nil] at Y;rw[List.length_append];omega) (StD.some ⟨fun e=>⟨h7,h8,K3.1 e⟩,fun h=>K3.2 h.toZ⟩ (by omega) (fun e=>ah (K3.1 e))) ab
theorem fZ.alike.symm {p q:fZ}(h:p.alike q):q.alike p:=⟨h.nm.symm,h.ver.symm,h.ar.symm,h.sm.symm,h.needs.symm,h.bars.symm,h.gives.symm,h.files.symm,h.scripts.symm⟩
theorem yE {kn:List jH}{p q:fZ}(h:p.alike q)(Y:pD a b kn p):pD a b kn q:=by
 obtain⟨h1,M,h3,h4,D,z,R,K,J⟩:=h;obtain⟨Z,F,O,X,U⟩:=Y;refine⟨by rw[<-M];exact Z,?_,by rw[<-R];exact O,by rw[<-K];exact X,by rw[<-J];exact U⟩;have e:kr a q=kr a p:=by unfold kr;rw[D,z]
 obtain⟨V,H,I⟩:=F;exact⟨by rw[<-D];exact V,by rw[<-z];exact H,by rw[e];exact I⟩
theorem yF {kn:List jH}{p q:fZ}(h:p.alike q)(X:uA a b kn p):uA a b kn q:=by
 obtain⟨h1,Y,h3,Z,D,z,O,K,J⟩:=h;obtain⟨F,M,V,R⟩:=X;refine⟨?_,by rw[<-O];exact M,by rw[<-K];exact V,by rw[<-J];exact R⟩;have e:kr a q=kr a p:=by unfold kr;rw[D,z]
 obtain⟨U,H,I⟩:=F;exact⟨by rw[<-D];exact U,by rw[<-z];exact H,by rw[e];exact I⟩
theorem RJ {kn:List jH}{p q x:fZ}(h:p.alike q)(hc:BP a b kn p x):BP a b kn q x:=by
 obtain⟨J,z,Y,H,M,Z,K,U,h9⟩:=h;obtain⟨O,R,V,c4,X,c6,I,D,F⟩:=hc;have e:kr a q=kr a p:=by unfold kr;rw[M,Z]
 exact⟨by rw[<-J];exact O,by rw[<-z];exact R,by rw[<-Y];exact V,by rw[<-H];exact c4,by rw[e];exact X,by rw[e];exact c6,by rw[<-K];exact I,by rw[<-U];exact D,by rw[<-h9];exact F⟩
theorem qg {bars:Bool}{f:LU->Bool}{l:List BA}(h:lz fmt bars f l=true):l.length<=64:=by
 unfold lz at h;rw[Bool.and_eq_true,decide_eq_true_eq] at h;exact Nat.le_trans h.1 (MJ fmt bars)
theorem abx {p:fZ}(h:QW fmt p)(z:wW p<=1000000):p.able:=by
 refine⟨fZ.small_of z,Nat.le_trans (qg h.needs) (by decide),Nat.le_trans (qg h.bars) (by decide),?_,?_⟩
 ·have:=h.gives;unfold nh at this;rw[Bool.and_eq_true,decide_eq_true_eq] at this;omega
 ·have:=h.files;unfold iV at this;split at this
  ·cases this
  ·omega
theorem RK {p q:fZ}(h:p.alike q)(ha:p.able):q.able:=by
 obtain⟨h1,h2,h3,h4,h5,h6,h7,h8,h9⟩:=h;obtain⟨nm,ver,ar,sm,na,nc,K,ba,bc,aa,ga,gc,J,fa,fc,U,sa,sc,D⟩:=p;obtain⟨an,Z,ai,ae,aj,af,H,ak,ac,M,al,ab,I,ag,ah,F,ad,am,z⟩:=q;simp only at h1 h2 h3 h4 h5 h6 h7 h8 h9;subst h1 h2 h3 h4 h5 h6 h7 h8 h9;obtain⟨⟨s1,s2,s3,s4,s5,s6,s7,s8,s9,O,Y,X,V,R⟩,a2,a3,a4,a5⟩:=ha;exact⟨⟨s1,s2,s3,s4,s5,s6,s7,s8,s9,O,Y,X,V,R⟩,a2,a3,a4,a5⟩
theorem Bg (n:Int)(w:World):Calls prog 23 #[.int .i64 n] w fun e w'=>e=.returned (.bool (decide (iY n)))/\w=w':=by
 go_in;go_wp2
 all_goals (go_ret;refine⟨fJ ?_,rfl⟩;rw[bI];simp[iY];omega)
theorem Zw {ans:fZ->BA×Int}{fo:Bool}{l:List fZ}(h:(BN ans fo l).2.2=0):l.length<=128/\fo=true:=by
 unfold BN at h;split at h
 ·cases h
 ·rename_i z;split at h
  ·cases h
  ·exact⟨by omega,by simpa using z⟩
def LpP (a b:Int)(kn:List jH)(l:List fZ)(k:Nat)(R:List iA)(os:List fZ):Prop:=
 os.length=k/\R.length<=601*k/\(R=[]↔∀ p∈l.take k,pD a b kn p)/\(R=[]->lQ a b kn (l.take k) os)/\∀ p,l=[p]->k=1->∃ bs,R=pt a b p++bs/\(bs=[]↔uA a b kn p)
theorem LpP.start (a b:Int)(kn:List jH)(l:List fZ):LpP a b kn l 0 [] []:=
 ⟨rfl,z0,by simp,fun _=>by rw[List.take_zero];exact .nil a b kn,fun p _ h=>by cases h⟩
theorem LpP.next {kn:List jH}{l:List fZ}{R:List iA}{os:List fZ}(h:LpP a b kn l k R os){p q:fZ}(I:l[k]?=some p){bs:List iA}(K:bs=[]↔uA a b kn p)(hl:bs.length<=600)
  (hc:(trans a b p.ver).2=0->bs=[]->BP a b kn p q):LpP a b kn l (k+1) (R++(pt a b p++bs)) (os++[q]):=by
 obtain⟨O,h2,V,M,h5⟩:=h;have hv:=Oq a b p;have ht:l.take (k+1)=l.take k++[p]:=by rw[List.take_add_one,I];rfl
 have e:R++(pt a b p++bs)=[]↔R=[]/\(trans a b p.ver).2=0/\bs=[]:=by
  rw[List.append_eq_nil_iff,List.append_eq_nil_iff,Jz]
 refine⟨by rw[List.length_append,O];rfl,by rw[List.length_append,List.length_append];omega,?_,fun J=>?_,fun Z F hk=>?_⟩
 ·rw[e,ht,V,K,<-abe];constructor
  ·rintro⟨a1,a2⟩ x z;rcases List.mem_append.1 z with z | z
   ·exact a1 x z
   ·rw[List.mem_singleton.1 z];exact a2
  ·intro z;exact⟨fun x D=>z x (List.mem_append_left _ D),z p (List.mem_append_right _ (List.mem_singleton.2 rfl))⟩
 ·obtain⟨X,U,Y⟩:=e.1 J;rw[ht];exact(M X).snoc (hc U Y)
 ·have H:k=0:=by omega
  subst H;have J:R=[]:=List.eq_nil_of_length_eq_zero (by omega);rw[F] at I;have:Z=p:=by simpa using I
  subst this;exact⟨bs,by rw[J];rfl,K⟩
end
section
open Go.RowKit Go.Maps
def aby (a b:Int)(kn:List jH)(l:List fZ)(w:World)(e:Ending)(w':World):Prop:=
 ∃ (v:Value) (R:List iA),e=.returned (.tuple #[.slice none 0 0,v])/\R≠[]/\w'.ownsRow w.heap.size 49 3 v R.length (R.flatMap iA.cells) /\
  (iY a->iY b->(BN (lA a) (nO a) l).2.2=0->(¬ ∀ p∈l,pD a b kn p)/\∀ p,l=[p]->∃ bs,R=pt a b p++bs/\(bs=[]↔uA a b kn p))
def Zx (a b:Int)(kn:List jH)(l:List fZ)(w:World)(e:Ending)(w':World):Prop:=
 ∃ (O:Value) (qs:List fZ),e=.returned (.tuple #[O,.slice none 0 0])/\iY a/\iY b/\(BN (lA a) (nO a) l).2.2=0/\(∀ p∈l,pD a b kn p)/\lQ a b kn l qs /\
  w'.ownsRow w.heap.size 38 9 O qs.length (qs.flatMap fZ.cells)/\∀ q∈qs,lS q w' w.heap.size
def uD (a b:Int)(kn:List jH)(l:List fZ)(w:World)(e:Ending)(w':World):Prop:=
 (aby a b kn l w e w'\/Zx a b kn l w e w')/\Bw w w'
theorem Zy:(prog.info? 38).map (fun i=>(i.zero,i.size,i.bytes))=some (some (.agg #[.string ⟨#[]⟩,.string ⟨#[]⟩,.string ⟨#[]⟩,.string ⟨#[]⟩,.slice none 0 0,.slice none 0 0,.slice none 0 0,.slice none 0 0,.slice none 0 0]),9,184):=by kernel_rfl
theorem Tu {a:Int}:∀ (l pre:List fZ),(zm (lA a) pre l).2.2=0->∀ p∈l,QW a p
 | [],_,_,p,z=>by cases z
 | q::r,pre,h,p,z=>by
  unfold zm at h;by_cases D:(LD (lA a q) pre q).2.2=0
  ·rw[if_pos D] at h;rcases List.mem_cons.1 z with rfl | z
   ·refine xZ.1 ?_;by_cases F:(lA a p).2=0
    ·exact F
    ·rw[Sx F] at D;exact absurd D F
   ·exact Tu r _ h p z
  ·rw[if_neg D] at h;exact absurd h D
theorem Tv {l:List fZ}(h:(BN (lA a) (nO a) l).2.2=0):∀ p∈l,QW a p:=by
 obtain⟨D,z⟩:=Zw h;unfold BN at h;rw[if_neg (by rw[z];simp),if_neg (by omega)] at h;exact Tu l [] h
theorem Zz (w:World)(t:TypeId)(q:fZ):nE (w.alloc (.cells #[.string q.nm,.string q.ver,.string q.ar,.string q.sm,.slice q.na q.needs.length q.nc,.slice q.ba q.bars.length q.bc,.slice q.ga q.gives.length q.gc,.slice q.fa q.files.length q.fc,.slice q.sa q.scripts.length q.sc] t)) (w.heap.size+1) 9 (some ⟨w.heap.size,0,none⟩) 1 q.cells:=by
 refine⟨rfl,fun _=>⟨_,rfl,by simp,fun j u z=>?_⟩⟩;rw[show Addr.add ⟨w.heap.size,0,none⟩ j=⟨w.heap.size,j,none⟩ by unfold Addr.add;split<;>simp_all];exact(fV.new w q.cells t).cell j u z
theorem Ox {kn:List jH}{l:List fZ}(nm z:BA)(D:Int)(F:Bw w W)(H:w'=W.alloc (.cells #[.string nm,.string z,.int .i64 D] 49))
  (M:iY a->iY b->¬ (BN (lA a) (nO a) l).2.2=0):uD a b kn l w (.returned (.tuple #[.slice none 0 0,.slice (some ⟨W.heap.size,0,none⟩) 1 1])) w':=by
 subst H;exact⟨.inl ⟨_,[⟨nm,z,D⟩],rfl,by simp,World.ownsRow_lit W #[.string nm,.string z,.int .i64 D] 1 F.size (by simp[maxLen]) rfl,fun J I K=>absurd K (M J I)⟩,F.alloc F.size _⟩
theorem Wt {kn:List jH}{l:List fZ}(nm z:BA)(D:Int)(F:Bw w W)(M:g=W.heap.size)(H:w'=(W.alloc (.cells #[.string nm,.string z,.int .i64 D] 49)).drew)
  (O:iY a->iY b->¬ (BN (lA a) (nO a) l).2.2=0):uD a b kn l w (.returned (.tuple #[.slice none 0 0,.slice (some ⟨g,0,none⟩) 1 1])) w':=by
 subst H;subst M;exact⟨.inl ⟨_,[⟨nm,z,D⟩],rfl,by simp,(World.ownsRow_lit W #[.string nm,.string z,.int .i64 D] 1 F.size (by simp[maxLen]) rfl).drew,fun J I K=>absurd K (O J I)⟩,(F.alloc F.size _).drew⟩
theorem tE (a b:Int)(A:OA)(c:Nat)(l:List fZ)(AK:OA)(cK:Nat)(kn:List jH)(w:World)(hG:yM w)(hd:vl w A l)(hl:l.length<=100000)(aD:Bm l<=10000000)(hw:∀ p∈l,wW p<=1000000)(hf:∀ p∈l,p.few)
  (hk:Rd w 5 AK kn.length (kn.flatMap jH.cells))(aL:kn.length<=100000)(aN:∀ k∈kn,k.small):Calls prog 9 #[.int .i64 a,.int .i64 b,.slice A l.length c,.slice AK kn.length cK] w (uD a b kn l w):=by
 have HG:=fH hG;have HD:=fH hd;have HF:=fH hf;have HW:=fH hw;have HK:=fH hk;have aZ:=fH aN;have HL:=fH hl;have aV:=fH aD;have aY:=fH aL;have bk:=@run_makeMap prog;clear hG hd hf hw hk aN hl aD aL;go_in;go_wp2_with fail;refine mb (Bg a w) ?_;rintro w0 rfl;obtain⟨fa,ak⟩:∃ f,decide (iY a)=f:=⟨_,rfl⟩
 rw[ak];have aM:=fH ak;clear ak;cases fa
 ·go_wp2_with fail;refine bodyPost_ret (v:=.tuple #[.slice none 0 0,.slice (some ⟨w.heap.size,0,none⟩) 1 1]) ?_ ?_ ?_
  ·simp[results,results9,go_sem]
  ·rfl
  ·exact Ox ⟨#[]⟩ ⟨#[102,111,114,109,97,116]⟩ 9 bR rfl (fun h1 _=>absurd h1 (of_decide_eq_false aM.out))
 ·go_wp2_with fail;refine mb (Bg b w) ?_;rintro w0 rfl;obtain⟨fb,ap⟩:∃ f,decide (iY b)=f:=⟨_,rfl⟩
  rw[ap];have aJ:=fH ap;clear ap;cases fb
  ·go_wp2_with fail;refine bodyPost_ret (v:=.tuple #[.slice none 0 0,.slice (some ⟨w.heap.size,0,none⟩) 1 1]) ?_ ?_ ?_
   ·simp[results,results9,go_sem]
   ·rfl
   ·exact Ox ⟨#[]⟩ ⟨#[102,111,114,109,97,116]⟩ 9 bR rfl (fun _ V=>absurd V (of_decide_eq_false aJ.out))
  ·go_wp2_with fail;refine mb (Nk a A c l w HG.1 HD HL aV HW) ?_;rintro w1 aP;have B1:=fH aP;clear aP;obtain⟨r,hr⟩:∃ r,BN (lA a) (nO a) l=r:=⟨_,rfl⟩
   rw[hr];have HR:=fH hr;clear hr;obtain⟨r1,r2,ec⟩:=r;unfold dbV;by_cases h0:ec=0
   ·subst h0;go_wp2_with fail;obtain⟨W2,Z⟩:∃ W2,((w1.alloc (.cells #[.string r1,.string r2,.int .i64 0] 49)).alloc (.map #[] 0)).alloc (.cells #[.int .i64 a,.int .i64 b,.map (some (w1.heap.size+1)),.slice none 0 0] 68)=W2:=⟨_,rfl⟩
    obtain⟨z,ac⟩:∃ z,w1.heap.size+1=z:=⟨_,rfl⟩
    have B2:Hid (Bw w W2):=by
     show Below _ _ _;rw[<-Z];have:=B1.size;exact((B1.alloc B1.size _).alloc (by simp;omega) _).alloc (by simp;omega) _
    have K2:Hid (fV W2 (z+1) (WT a b (.map (some z)) (.slice none 0 0))):=by
     have hk:=fV.new ((w1.alloc (.cells #[.string r1,.string r2,.int .i64 0] 49)).alloc (.map #[] 0)) (WT a b (.map (some (w1.heap.size+1))) (.slice none 0 0)) 68;rw[show((w1.alloc (.cells #[.string r1,.string r2,.int .i64 0] 49)).alloc (.map #[] 0)).heap.size=w1.heap.size+1+1 by simp] at hk;show fV _ _ _;rw[<-Z,<-ac];exact hk
    have HM:Hid (ki W2 z []):=by
     show ki _ _ _;have h1:=ki.made (w1.alloc (.cells #[.string r1,.string r2,.int .i64 0] 49));rw[show(w1.alloc (.cells #[.string r1,.string r2,.int .i64 0] 49)).heap.size=w1.heap.size+1 by simp,ac] at h1;rw[<-Z,ac];exact h1.below (bR.alloc lr _)
    have aA:Hid (w.heap.size<=z):=by have:=B1.size;show _<=_;omega
    rw[Z,ac];clear Z ac;have an:=fH (dO aM.out:iY a);have am:=fH (dO aJ.out:iY b);refine(Hx a b an am (z+1) z (.slice none 0 0) AK cK kn W2 K2 HM (Nat.lt_succ_self _) (HK.below B2) aY aZ).mono ?_;rintro e w2 ⟨rfl,ms,ay,aE,aq⟩;have M2:=fH ay;have L2:=fH aE;have K3:=fH (K2.grown aq (by omega));have B3:=fH (B2.grown aq B2.size (fun j hj=>by injection hj with hj;have:=aA.out;omega));clear ay aE aq B2 K2 HM;go_wp2_with fail;refine(Pi A c l w2 (HD.below B3) HL HF).mono ?_;rintro e w3 ⟨A3,c3,g3,I,rfl,az,av,Y,H⟩;have aG:Bw w w3:=B3.out.trans ⟨H.os,H.tape,H.output,H.size,fun i hi=>H.block i (Nat.lt_of_lt_of_le hi B3.size)⟩;have ad:z+1<w2.heap.size:=K3.sz;have I0:Hid (Tt w w3 (z+1) z a b ms (.slice none 0 0) [] (.slice A3 l.length c3) (.slice none 0 0) I I [] []):=by
     have aB:∀ p∈I,lS p w3 (z+1+1):=by
      intro p D;have h1:=(World.ownsRow.lt Y.row g3 (Y.blk (List.length_pos_of_mem D))).1;have V:=Y.all p D;exact⟨gF V.needs (by omega),gF V.bars (by omega),gF V.gives (by omega),gF V.files (by omega),gF V.scripts (by omega)⟩
     exact⟨aG,by have:=aA.out;omega,Nat.lt_succ_self _,Nat.lt_of_lt_of_le ad H.size,K3.below H,World.ownsRow_nil _ _ _ _,M2.below H,gF Y.row (by omega),World.ownsRow_nil _ _ _ _,(fun g X=>by cases X),aB,(fun q hq=>by cases hq),Y.far,(fun q hq=>by cases hq),(fun q hq=>by cases hq)⟩
    have aa:=fH av;have bi:=(Zw (ans:=lA a) (fo:=nO a) (l:=l) (by rw[HR.out])).1;have aQ:Hid (∀ p∈l,QW a p):=fun p D=>Tv (by rw[HR.out]) p D;obtain⟨i0,bb,aT,bd,aX⟩:=info_parts Zy;have J:=fH az;clear az av Y H aG ad B3 K3 M2;go_wp2;go_loopw [12,42] (fun O i wr=>∃ (k:Nat) (Ao:OA) (co:Nat) (v:Value) (R:List iA) (os:List fZ),k<=l.length/\i=.int .i64 k/\O=.slice Ao k co/\Hid (Tt w wr (z+1) z a b ms v R (.slice A3 l.length c3) (.slice Ao k co) I (I.drop k) os os)/\Hid (LpP a b kn I k R os)) (fun _ i _=>l.length-(intOf i).toNat)
    case atStart=>exact⟨0,none,0,.slice none 0 0,[],[],z0,rfl,rfl,I0,LpP.start a b kn I⟩
    case round=>
     obtain⟨k,Ao,co,v,R,os,hk,rfl,rfl,HS,HP⟩:=hrel;by_cases ae:k<l.length
     ·obtain⟨p,D⟩:∃ p,I[k]?=some p:=⟨_,gG (by rw[J.out];exact ae)⟩
      obtain⟨p0,ah⟩:∃ p0,l[k]?=some p0:=⟨_,gG ae⟩
      have U:=aa.out k p0 p ah D;have aK:=fH (RK U (abx (aQ p0 (gM ah)) (HW p0 (gM ah))));have aR:=fH D;have ab:I.drop k=p::I.drop (k+1):=by
       obtain⟨h1,V⟩:=gS D;rw[List.drop_eq_getElem_cons h1,V]
      have S0:=HS.out;rw[ab] at S0;have aj:=S0.cp;rw[<-J.out] at aj;obtain⟨b',off,hA,he⟩:=(gR aj).elem lk k p D;clear aj;obtain⟨e0,e1,e2,e3,e4,e5,e6,e7,e8⟩:=cF9 he;simp only[Nat.add_zero] at e0;have bh:=fun W=>gi (T:=22) (E:=38) (sz:=9) (c:=c3) underlying22 rfl sizeOf38 hA ae W;obtain⟨W1,ao⟩:∃ W1,wr.alloc (.cells #[.string p.nm,.string p.ver,.string p.ar,.string p.sm,.slice p.na p.needs.length p.nc,.slice p.ba p.bars.length p.bc,.slice p.ga p.gives.length p.gc,.slice p.fa p.files.length p.fc,.slice p.sa p.scripts.length p.sc] 38)=W1:=⟨_,rfl⟩
      have bw:Bw wr W1:=by rw[<-ao];exact bR.alloc lr _
      have BX:Hid (fV W1 wr.heap.size p.cells):=by show fV _ _ _;rw[<-ao];exact fV.new wr p.cells _
      obtain⟨x0,x1,x2,x3,x4,x5,x6,x7,x8⟩:=cF9 BX.cell;have S1:=fH (S0.grow bw);have ax:=S0.k0;have HT:Hid (∀ g,abw (z+1) v p g->w.heap.size<=g):=by
       have ho:=S0.left p (List.mem_cons_self ..);intro g X;rcases X with rfl | X | X | X
       ·exact ax
       ·have:=(World.ownsRow.lt S0.rf g X).1;omega
       ·have:=(World.ownsRow.lt ho.gives g X).1;omega
       ·have:=(World.ownsRow.lt ho.files g X).1;omega
      have aU:Hid (R.length<=500000):=by have:=HP.2.1;show _<=_;omega
      clear D ah U ab S0 hA he bw ax HS;go_upto_region 12 with(fail)
      clear ao;go_wp2_with fail;refine(Ow a b an am (abw (z+1) v p) (z+1) z kn ms L2 v R p w W1 HG S1.bl HT aU aK S1.enter).mono ?_;rintro e w5 ⟨v5,q,bs,rfl,aO,au,aF,aC⟩;have S5:=fH (S1.leave aO);have PN:=fH (HP.next aR au aF aC);have aS:Hid (w5.ownsRow (z+1+1) 38 9 (.slice Ao k co) k (os.flatMap fZ.cells)):=by have h:=S5.out.out;rw[HP.out.1] at h;exact h
      have be:Hid (z+1+1<=w5.heap.size):=S5.lt;have aW:Hid (os.length=k):=HP.1;have bj:k<l.length:=ae;clear aO au aF aC x0 x1 x2 x3 x4 x5 x6 x7 x8 e0 e1 e2 e3 e4 e5 e6 e7 e8;unfold fZ.val
      go_wp2_with (
       at_builtin
       refine fR _ rfl _ _ 22 rfl (z+1+1) 38 i0 _ 9 184 underlying22 bb aT bd aX rfl (by omega) (.slice Ao k co) k _ rfl (aS.alloc _) (w5.heap.size+1) (some ⟨w5.heap.size,0,none⟩) 1 1 q.cells rfl (Zz w5 _ q) (W8 q) (by simp only[maxLen];omega) (by omega) (by have:=be.out;simp;omega) ?_;intro v6 w6 M aI ai;obtain⟨A6,c6,rfl⟩:=gg M;have S6:Hid (Tt w w6 (z+1) z a b ms v5 (R++(pt a b p++bs)) (.slice A3 l.length c3) (.slice A6 (k+1) c6) I (I.drop (k+1)) (os++[q]) (os++[q])):=by
        refine(S5.grow ((Below.refl w5.heap.size w5).alloc lr _)).put aI ?_ ?_
        ·rw[List.length_append,aW.out,List.flatMap_append];simpa using M
        ·intro g X;rcases ai with h | h
         ·exact .inl (h ▸ X)
         ·right;rw[h] at X;injection X with X;omega
       clear M aI ai)
      go_wp2;go_roundw
      case rel=>exact⟨k+1,A6,c6,v5,R++(pt a b p++bs),os++[q],by omega,by go_num,rfl,S6,PN⟩
      case measure=>simp[intOf];omega
     ·have af:k=l.length:=by omega
      have ag:I.take k=I:=tL (by have:=J.out;omega);obtain⟨Av,cv,rfl⟩:=gg HS.rf;have bf:=HS.kv.cell 3 _ rfl;cases R with
      | nil=>
       have aH:=fH af;have al:=fH ag;clear af ag hk;go_wp2_with fail;refine bodyPost_ret (v:=.tuple #[.slice Ao k co,.slice none 0 0]) ?_ ?_ ?_
       ·simp[results,results9,go_sem]
       ·rfl
       ·obtain⟨p1,p2,p3,p4,p5⟩:=HP.out;rw[al.out] at p3 p4;have t3:=p3.1 (by simp);have t4:=p4 (by simp);have ho:=HS.out.out;rw[p1] at ho;have ad:=HS.k0;refine⟨.inr ⟨.slice Ao k co,os,rfl,an,am,by rw[HR.out],fun p D=>?_,⟨by rw[t4.len,J.out],fun i p q D hq=>?_⟩,?_,fun q hq=>?_⟩,HS.bl⟩
        ·obtain⟨i,hi⟩:=List.mem_iff_getElem?.1 D;obtain⟨K,F⟩:∃ K,I[i]?=some K:=⟨_,gG (by rw[J.out];exact(gS hi).1)⟩
         exact yE (aa i p K hi F).symm (t3 K (gM F))
        ·obtain⟨K,F⟩:∃ K,I[i]?=some K:=⟨_,gG (by rw[J.out];exact(gS D).1)⟩
         exact RJ (aa i p K D F).symm (t4.each i K q F hq)
        ·rw[p1];exact gF ho (by omega)
        ·have V:=HS.own q hq;exact⟨gF V.needs (by omega),gF V.bars (by omega),gF V.gives (by omega),gF V.files (by omega),gF V.scripts (by omega)⟩
      | cons r R=>
       have bg:(0:Int)<((r::R).length:Int):=by simp only[List.length_cons];omega
       have aH:=fH af;have al:=fH ag;clear af ag hk;go_wp2;go_region;go_wp2_with fail;refine bodyPost_ret (v:=.tuple #[.slice none 0 0,.slice Av (r::R).length cv]) ?_ ?_ ?_
       ·simp[results,results9,go_sem]
       ·rfl
       ·obtain⟨p1,p2,p3,p4,p5⟩:=HP.out;have ad:=HS.k0;have S1:=HS.grow (wx:=wr.drew) ⟨rfl,rfl,rfl,lr,fun _ _=>rfl⟩;refine⟨.inl ⟨_,r::R,rfl,by simp,gF S1.rf (by omega),fun _ _ _=>⟨fun h=>?_,fun p D=>?_⟩⟩,S1.bl⟩
        ·rw[al.out] at p3;have h3:=p3.2 fun K F=>by
          obtain⟨i,hi⟩:=List.mem_iff_getElem?.1 F;obtain⟨p,D⟩:∃ p,l[i]?=some p:=⟨_,gG (by rw[<-J.out];exact(gS hi).1)⟩
          exact yE (aa i p K D hi) (h p (gM D))
         simp at h3
        ·have h3:I.length=1:=by rw[J.out,D];rfl
         obtain⟨K,F⟩:∃ K,I=[K]:=List.length_eq_one_iff.1 h3;have U:=aa.out 0 p K (by rw[D];rfl) (by rw[F];rfl);obtain⟨bs,e1,e2⟩:=p5 K F (by rw[aH.out,D];rfl);refine⟨bs,?_,e2.trans ⟨yF U.symm,yF U⟩⟩;rw[e1];unfold pt;rw[U.nm,U.ver]
   ·have tq:(ec != 0)=true:=by simpa using h0
    have Z0:=fH h0;clear h0;go_upto_region 5 with(fail)
    go_region;go_wp2_with fail;refine bodyPost_ret (v:=.tuple #[.slice none 0 0,.slice (some ⟨w1.heap.size+1,0,none⟩) 1 1]) ?_ ?_ ?_
    ·simp[results,results9,go_sem]
    ·rfl
    ·exact Wt r1 r2 ec (B1.alloc B1.size _) (by simp) rfl (fun _ _ h=>Z0.out (by rw[HR.out] at h;exact h))
def Ae (ver:BA):fZ:={ nm:=⟨#[97,97]⟩,ver:=ver,ar:=⟨#[97,108,108]⟩,sm:=⟨#[115]⟩,na:=none,nc:=0,needs:=[],ba:=none,bc:=0,bars:=[],ga:=none,gc:=0,gives:=[],fa:=none,fc:=0,files:=[],sa:=none,sc:=0,scripts:=[] }
def RN:BA:=⟨#[49,46,50]⟩
def Gc:BA:=⟨#[49,46,50,45,51]⟩
def isV (ver:BA):Prop:=ver=RN\/ver=Gc
theorem acY (ver:BA)(w:World):(Ae ver).ok w:=⟨Rd.nil _ _ _,Rd.nil _ _ _,Rd.nil _ _ _,Rd.nil _ _ _,Rd.nil _ _ _⟩
theorem abz {b sz:Nat}{vs:LV}(h:fV w b vs)(z:vs.length=sz):Rd w sz (some ⟨b,0,none⟩) 1 vs:=
 ⟨by rw[z];simp,fun _=>⟨b,0,rfl,fun j u D=>by simpa using h.cell j u D⟩⟩
theorem acZ {pb:Nat}(z:fV w pb (Ae ver).cells):vl w (some ⟨pb,0,none⟩) [Ae ver]:=
 ⟨abz (vs:=(Ae ver).cells) z rfl,fun p z=>by rw[List.mem_singleton.1 z];exact acY ver w⟩
theorem Oy:trans 1 2 RN=([],11):=by kernel_rfl
theorem JC:trans 1 3 Gc=([49,46,50,45,114,51],0):=by kernel_rfl
theorem Wu (h:isV ver):QW 1 (Ae ver):=by
 refine⟨.inl rfl,(by decide:hH (bl ⟨#[97,97]⟩)=true),?_,by simp[ry,aw,Ae],(by decide:C7 (bl ⟨#[115]⟩)=true),rfl,rfl,rfl,rfl,rfl⟩;rcases h with rfl | rfl<;>kernel_rfl
theorem Oz (h:isV ver):(BN (lA 1) (nO 1) [Ae ver]).2.2=0:=by
 have e:=xZ.2 (Wu h);have k:=Ne (l:=[Ae ver]) (k:=0) (p:=Ae ver) e (IT _ _) (fun y z=>absurd (show y∈([]:List fW) from z) (List.not_mem_nil));rw[List.take_zero] at k;unfold BN;rw[if_neg (by decide),if_neg (by simp)];unfold zm;rw[k,if_pos rfl];rfl
theorem ZC (ver:BA):uA 1 2 [] (Ae ver):=by
 refine⟨⟨?_,?_,?_⟩,(fun g z=>absurd (show g∈([]:List fP) from z) List.not_mem_nil),(fun g z=>absurd (show g∈([]:List fW) from z) List.not_mem_nil),(fun g z=>absurd (show g∈([]:List gE) from z) List.not_mem_nil)⟩<;>kernel_rfl
theorem abA:AS 1 3 ⟨#[97,108,108]⟩=⟨#[110,111,97,114,99,104]⟩:=by
 rw[Nw (.inl rfl) (.inr (.inr rfl))];simp[aw]
theorem JD {base:Nat}{e:TypeId}{size:Nat}(h:w.ownsRow base e size (.slice (some ⟨g,0,none⟩) n c) n xs):fV w g xs:=by
 refine⟨(h.lt g rfl).2,fun j u D=>?_,fun j F=>h.frozenAt j⟩;have z:=h.cells (g:=g) rfl j u D;rw[show Addr.add ⟨g,0,none⟩ j=⟨g,j,none⟩ by unfold Addr.add;split<;>simp_all] at z;exact z
theorem ZD (h:uD 1 2 [] [Ae RN] w e w'):
  ∃ g cc,e=.returned (.tuple #[.slice none 0 0,.slice (some ⟨g,0,none⟩) 1 cc])/\fV w' g [.string ⟨#[97,97]⟩,.string ⟨#[118,101,114,115,105,111,110]⟩,.int .i64 11]/\w.heap.size<=g/\Bw w w':=by
 obtain⟨h | h,K⟩:=h
 ·obtain⟨v,R,rfl,X,z,J⟩:=h;obtain⟨_,I⟩:=J (.inl rfl) (.inr (.inl rfl)) (Oz (.inl rfl));obtain⟨Y,F,U⟩:=I _ rfl;have D:=U.2 (ZC RN);subst D;have H:pt 1 2 (Ae RN)=[⟨⟨#[97,97]⟩,yB,11⟩]:=by
   unfold pt;rw[if_neg (by rw[show(Ae RN).ver=RN from rfl,Oy];simp)];rfl
  rw[H,List.append_nil] at F;subst F;obtain⟨g,cap,rfl,M,_⟩:=z.form (by decide);exact⟨g,cap,rfl,JD z,M,K⟩
 ·obtain⟨O,V,_,_,_,_,ht,_⟩:=h;have:=(ht (Ae RN) (by simp)).ver;rw[show(Ae RN).ver=RN from rfl,Oy] at this;cases this
theorem Wv (h:uD 1 3 [] [Ae Gc] w e w'):
  ∃ g cc,e=.returned (.tuple #[.slice (some ⟨g,0,none⟩) 1 cc,.slice none 0 0])/\(∃ r,fV w' g (.string ⟨#[97,97]⟩ :: .string ⟨#[49,46,50,45,114,51]⟩ :: .string ⟨#[110,111,97,114,99,104]⟩::r))/\Bw w w':=by
 obtain⟨h | h,Z⟩:=h
 ·obtain⟨v,R,rfl,hR,z,V⟩:=h;obtain⟨X,_⟩:=V (.inl rfl) (.inr (.inr rfl)) (Oz (.inr rfl));exfalso;apply X;intro p J;rw[List.mem_singleton.1 J];refine⟨?_,⟨?_,?_,?_⟩,(fun g D=>absurd (show g∈([]:List fP) from D) List.not_mem_nil),(fun g D=>absurd (show g∈([]:List fW) from D) List.not_mem_nil),(fun g D=>absurd (show g∈([]:List gE) from D) List.not_mem_nil)⟩
  ·rw[show(Ae Gc).ver=Gc from rfl,JC]
  all_goals kernel_rfl
 ·obtain⟨O,K,rfl,_,_,_,ht,I,z,_⟩:=h
  match K,I.len with
  | [q],_=>
   have H:=I.each 0 (Ae Gc) q rfl rfl;obtain⟨g,cap,rfl,D,_⟩:=z.form (by show 0<1;decide);have F:=JD z;refine⟨g,cap,rfl,⟨[.string q.sm,.slice q.na q.needs.length q.nc,.slice q.ba q.bars.length q.bc,.slice q.ga q.gives.length q.gc,.slice q.fa q.files.length q.fc,.slice q.sa q.scripts.length q.sc],?_⟩,Z⟩;have M:q.nm=⟨#[97,97]⟩:=H.nm;have Y:q.ver=⟨#[49,46,50,45,114,51]⟩:=by
    rw[H.ver,show(Ae Gc).ver=Gc from rfl,JC];rfl
   have U:q.ar=⟨#[110,111,97,114,99,104]⟩:=by
    rw[H.ar];exact abA
   have:[q].flatMap fZ.cells=q.cells:=by simp
   rw[this] at F;unfold fZ.cells at F;rw[M,Y,U] at F;exact F
theorem OC (w:World)(hG:yM w):Calls prog 6 #[] w fun e w'=>e=.returned (.bool true)/\Bw w w':=by
 have HG:=fH hG;clear hG;have CV:=fH (fun (b:Int) (ver:BA) (hv:isV ver) (pb:Nat) (W:World) (hb:Bw w W) (X:fV W pb (Ae ver).cells)=>
  tE 1 b (some ⟨pb,0,none⟩) 1 [Ae ver] none 0 [] W (HG.below hb) (acZ X) (by simp) (by rcases hv with rfl | rfl<;>decide) (by intro p X;rw[List.mem_singleton.1 X];rcases hv with rfl | rfl<;>decide) (by intro p X;rw[List.mem_singleton.1 X];exact⟨z0,z0,z0,z0,z0⟩) (Rd.nil _ _ _) (by simp) (by intro k hk;cases hk))
 go_in;go_wp2_with fail;obtain⟨V,F⟩:∃ V,w.alloc (.cells #[.string ⟨#[97,97]⟩,.string ⟨#[49,46,50]⟩,.string ⟨#[97,108,108]⟩,.string ⟨#[115]⟩,.slice none 0 0,.slice none 0 0,.slice none 0 0,.slice none 0 0,.slice none 0 0] 38)=V:=⟨_,rfl⟩
 obtain⟨O,D⟩:∃ O,V.alloc (.cells #[.string ⟨#[97,97]⟩,.string ⟨#[49,46,50]⟩,.string ⟨#[97,108,108]⟩,.string ⟨#[115]⟩,.slice none 0 0,.slice none 0 0,.slice none 0 0,.slice none 0 0,.slice none 0 0] 38)=O:=⟨_,rfl⟩
 have B2:Hid (Bw w O):=by show Below _ _ _;rw[<-D,<-F];exact(bR.alloc lr _).alloc (by simp) _
 have P2:Hid (fV O w.heap.size (Ae RN).cells):=by show fV _ _ _;rw[<-D,<-F];exact(fV.new w (Ae RN).cells _).alloc _
 have Q2:Hid (fV O (w.heap.size+1) (Ae RN).cells):=by
  show fV _ _ _;have h:=fV.new V (Ae RN).cells 38;rw[show V.heap.size=w.heap.size+1 by rw[<-F];simp] at h;rw[<-D];exact h
 rw[F,D];clear F D;refine(CV 2 RN (.inl rfl) (w.heap.size+1) O B2 Q2).mono ?_;intro e w3 Y;obtain⟨g3,c3,rfl,Z,ab,M⟩:=ZD Y;have P3:=fH (P2.below M);have B3:=fH (fM B2 M);have R3:=fH Z;have y1:w3.cell? ⟨w.heap.size,1,none⟩=some (.string ⟨#[49,46,50]⟩):=P3.cell 1 _ rfl;have f1:=P3.free 1 (by decide);have I:=fH (P3.set 1 (by decide) (.string ⟨#[49,46,50,45,51]⟩));have B4:=fH (fO B3 lr (j:=1) (.string ⟨#[49,46,50,45,51]⟩));have R4:Hid (fV (w3.setCell ⟨w.heap.size,1,none⟩ (.string ⟨#[49,46,50,45,51]⟩)) g3 [.string ⟨#[97,97]⟩,.string ⟨#[118,101,114,115,105,111,110]⟩,.int .i64 11]):=R3.far (by have:=P2.sz;omega) _;obtain⟨z,U⟩:∃ z,w3.setCell ⟨w.heap.size,1,none⟩ (.string ⟨#[49,46,50,45,51]⟩)=z:=⟨_,rfl⟩
 rw[U] at I B4 R4;have z0:z.cell? ⟨w.heap.size,0,none⟩=some (.string ⟨#[97,97]⟩):=I.cell 0 _ rfl;have z1:z.cell? ⟨w.heap.size,1,none⟩=some (.string ⟨#[49,46,50,45,51]⟩):=I.cell 1 _ rfl;have z2:z.cell? ⟨w.heap.size,2,none⟩=some (.string ⟨#[97,108,108]⟩):=I.cell 2 _ rfl;have z3:z.cell? ⟨w.heap.size,3,none⟩=some (.string ⟨#[115]⟩):=I.cell 3 _ rfl;have z4:z.cell? ⟨w.heap.size,4,none⟩=some (.slice none 0 0):=I.cell 4 _ rfl;have z5:z.cell? ⟨w.heap.size,5,none⟩=some (.slice none 0 0):=I.cell 5 _ rfl;have z6:z.cell? ⟨w.heap.size,6,none⟩=some (.slice none 0 0):=I.cell 6 _ rfl;have z7:z.cell? ⟨w.heap.size,7,none⟩=some (.slice none 0 0):=I.cell 7 _ rfl;have z8:z.cell? ⟨w.heap.size,8,none⟩=some (.slice none 0 0):=I.cell 8 _ rfl;clear Y Z ab M;go_wp2_with fail;obtain⟨R,H⟩:∃ R,z.alloc (.cells #[.string ⟨#[97,97]⟩,.string ⟨#[49,46,50,45,51]⟩,.string ⟨#[97,108,108]⟩,.string ⟨#[115]⟩,.slice none 0 0,.slice none 0 0,.slice none 0 0,.slice none 0 0,.slice none 0 0] 38)=R:=⟨_,rfl⟩
 have B5:Hid (Bw w R):=by show Below _ _ _;rw[<-H];exact B4.alloc B4.size _
 have Q5:Hid (fV R z.heap.size (Ae Gc).cells):=by show fV _ _ _;rw[<-H];exact fV.new z (Ae Gc).cells _
 have R5:Hid (fV R g3 [.string ⟨#[97,97]⟩,.string ⟨#[118,101,114,115,105,111,110]⟩,.int .i64 11]):=by show fV _ _ _;rw[<-H];exact R4.alloc _
 rw[H];clear z0 z1 z2 z3 z4 z5 z6 z7 z8 y1 f1 H;refine(CV 3 Gc (.inr rfl) z.heap.size R B5 Q5).mono ?_;intro e w6 aa;obtain⟨g6,c6,rfl,⟨r6,K⟩,J⟩:=Wv aa;have R6:=fH (R5.below J);have B6:=fH (fM B5 J);obtain⟨x0,x1,x2⟩:=qj R6.cell;have q1:=K.cell 1 _ rfl;have q2:=K.cell 2 _ rfl;clear aa K J U;go_wp2;go_ret;exact⟨rfl,B6⟩
end
section
open Go.RowKit
theorem JE {s:BA}(h:gL fmt s=0):s.size<=64:=by
 unfold gL at h;split at h
 ·cases h
 ·split at h
  ·cases h
  ·omega
theorem Gh {l:List fP}(h:nh fmt l=true):l.length<=32/\∀ g∈l,g.ver.size<=64:=by
 unfold nh at h;rw[Bool.and_eq_true,decide_eq_true_eq,List.all_eq_true] at h;refine⟨h.1,fun g D=>?_⟩;have:=h.2 g D;unfold rY at this;rw[Bool.and_eq_true] at this;have z:=this.2;split at z
 ·have:=dO z;omega
 ·rw[Bool.and_eq_true,decide_eq_true_eq,decide_eq_true_eq] at z;exact JE z.2
theorem Wx {l:List fW}(h:(iV fmt l).2=0):l.length<=512:=by
 unfold iV at h;split at h
 ·cases h
 ·omega
theorem OE {l:List gE}(h:jN fmt l=0):l.length<=7:=by
 unfold jN at h;split at h
 ·cases h
 ·omega
theorem JF {p:fZ}(h:QW fmt p):p.few:=by
 have D:=Nat.le_trans (qg h.needs) (by decide:64<=100000);have z:=Nat.le_trans (qg h.bars) (by decide:64<=100000);have I:=(Gh h.gives).1;have F:=Wx h.files;have H:=OE h.scripts;exact⟨D,z,by omega,by omega,by omega⟩
theorem ac0 {p:fZ}(h:wW p<=100000):p.few:=by
 unfold wW kZ jx my mz mA at h;have F:=oa (fun s:BA=>1+s.size) (fun _=>by omega) p.needs;have D:=oa (fun s:BA=>1+s.size) (fun _=>by omega) p.bars;have H:=oa (fun x:fP=>1+x.nm.size+x.ver.size) (fun _=>by omega) p.gives;have z:=oa (fun x:fW=>1+x.path.size+x.owner.size+x.group.size+x.link.size+x.sum.size) (fun _=>by omega) p.files;have I:=oa (fun x:gE=>1+x.body.size) (fun _=>by omega) p.scripts;exact⟨by omega,by omega,by omega,by omega,by omega⟩
theorem ac1 {q:fZ}(h:lS q w lo):q.ok w:=⟨gR h.needs,gR h.bars,gR h.gives,gR h.files,gR h.scripts⟩
theorem ac2 {O:OA}{co lo2:Nat}{qs:List fZ}(h:w.ownsRow lo 38 9 (.slice O qs.length co) qs.length (qs.flatMap fZ.cells))(z:∀ q∈qs,lS q w lo2):vl w O qs:=
 ⟨gR h,fun q D=>ac1 (z q D)⟩
def abC (l:List fZ)(kn:List jH):Prop:=(l.length<=40/\Bm l<=10000)/\kn.length<=100/\∀ k∈kn,k.small
theorem OF (A:OA)(c:Nat)(l:List fZ)(O:OA)(U:Nat)(kn:List jH)(w:World)(R:vl w A l)(Y:∀ p∈l,p.fits)(hl:l.length<=9223372036854775807)(V:Rd w 5 O kn.length (kn.flatMap jH.cells))(H:∀ k∈kn,k.fits)(I:kn.length<=9223372036854775807):Calls prog 7 #[.slice A l.length c,.slice O kn.length U] w (Tw (abC l kn) w):=by
 have HD:=fH R;have HF:=fH Y;have HK:=fH V;have K:=fH H;clear R Y V H;go_in;go_wp2_with fail;refine(TM A c l 40 (by decide) 10000 (by decide) (by decide) w HD HF hl).mono ?_;rintro e Z ⟨⟨lb,rfl,z⟩,F⟩;have J:=fH F;have M:=fH z;clear F z;cases lb
 ·go_wp2;go_ret;exact qR J.out
 ·go_wp2_with fail;refine(Gg O U kn Z (HK.below J) K I).mono ?_;rintro e w2 ⟨b,rfl,X,D⟩;have B2:=fH (fM J D);have HP:=fH X;clear D X;go_wp2;go_ret;exact⟨b,rfl,fun h=>⟨by have:=M.out (by first | rfl | trivial);exact⟨this.1,by omega⟩,HP h⟩,B2⟩
structure WH (fmt:Int) (s:LU) (lo:Nat) (w:World) (t:CH):Prop where
 k1:fmt=1->∃ gs:List gA,jV s=some (gs.map gA.pl)/\lf w lo t.tA t.tn t.tc gs/\vm gs
 k2:fmt=2->jt s=some t.T.pl/\iD w lo none t.T/\t.T.cnt<=64
 k3:fmt=3->∃ L:List jP,jL s=some L/\L.length=t.tm/\w.ownsRow lo 142 4 (.slice t.tB t.tm t.td) t.tm (L.flatMap jP.cells)/\L.length<=64
theorem WH.below {t:CH}(h:WH fmt s lo w t)(I:Bw w w'):WH fmt s lo w' t:=by
 refine⟨fun z=>?_,fun z=>?_,fun z=>?_⟩
 ·obtain⟨K,F,D,H⟩:=h.k1 z;exact⟨K,F,D.below I,H⟩
 ·obtain⟨F,D,H⟩:=h.k2 z;exact⟨F,D.low I,H⟩
 ·obtain⟨L,F,D,H,J⟩:=h.k3 z;exact⟨L,F,D,ge H I,J⟩
theorem Hf.text (h:w.ownsRow lo 89 7 v n xs):Hf w v.ownBlock:=by
 intro g I K e z;rcases h.2 with⟨D,_⟩ | ⟨J,cap,F,D,_,H,_⟩
 ·rw[D] at e;simp[Value.ownBlock] at e
 ·rw[D] at e;simp[Value.ownBlock] at e;subst e;rw[H] at z;injection z with z;injection z with _ z _;exact absurd z (by decide)
theorem WH.app {b:Nat}{t:CH}(h:WH fmt s lo w t)(I:w.ownsRow b 89 7 v n xs)(K:w.grownBy w' v.ownBlock):WH fmt s lo w' t:=by
 refine⟨fun H=>?_,fun H=>?_,fun H=>?_⟩
 ·obtain⟨O,J,z,F⟩:=h.k1 H;exact⟨O,J,⟨z.len,z.row.kept K (lN z.row I (by decide)),fun g D=>⟨(z.grp g D).row.kept K (lN (z.grp g D).row I (by decide)),fun t ht=>World.ownsRow.kept ((z.grp g D).archs t ht) K (lN ((z.grp g D).archs t ht) I (by decide))⟩⟩,F⟩
 ·obtain⟨J,z,F⟩:=h.k2 H;exact⟨J,z.tame (.text I) K,F⟩
 ·obtain⟨L,J,z,F,M⟩:=h.k3 H;exact⟨L,J,z,F.kept K (lN F I (by decide)),M⟩
def CH.val (t:CH):Value:=zO t.tA t.tn t.tc t.T t.tB t.tm t.td
def rr (fmt:Int)(set:List jo)(bar:Bool)(s:LU):Bool:=(ip fmt bar s).1.all (Lm fmt set)
theorem OL {α β:Type}(f:α->β)(p:β->Bool)(l:List α):(l.map f).any p=l.any fun x=>p (f x):=by rw[List.any_map];rfl
theorem yJ {α β:Type}(f:α->β)(p:β->Bool)(l:List α):(l.map f).all p=l.all fun x=>p (f x):=by rw[List.all_map];rfl
def uH (fmt:Int)(bar:Bool)(s:LU):Prop:=(ip fmt bar s).2=0/\∀ d∈(ip fmt bar s).1,∀ g∈d.alts,sw g
theorem Sb (fmt:Int)(hf:iY fmt)(A:OA)(c:Nat)(l:List gj)(t:CH)(s:LU)(bar:Bool)(lo:Nat)(w:World)(hG:Gl w)(hs:uG w A l)(hk:WH fmt s lo w t)(M:uH fmt bar s):Calls prog 32 #[.int .i64 fmt,.slice A l.length c,t.val,.bool bar] w fun e w'=>e=.returned (.bool (rr fmt (l.map gj.plain) bar s))/\Bw w w':=by
 obtain⟨F,M⟩:=M;unfold CH.val;rcases hf with rfl | rfl | rfl
 ·obtain⟨gs,O,D,J⟩:=hk.k1 rfl;have e:=Rc (bar:=bar) O;have H:∀ g∈gs.map gA.pl,ye bar g=false:=by
   intro g K;cases hbd:ye bar g
   ·rfl
   ·rw[e,va K hbd] at F;cases F
  have z:=e.trans (NH H);have I:∀ g∈gs,∀ x∈g.ts,sw (oD x):=by
   intro g K x V;refine M ⟨bar,g.pl.map tC⟩ ?_ (oD x) ?_
   ·rw[z];exact List.mem_map.2 ⟨g.pl,List.mem_map.2 ⟨g,K,rfl⟩,rfl⟩
   ·unfold gA.pl;rw[List.map_map];exact List.mem_map.2 ⟨x,V,Ft x⟩
  have hv:rr 1 (l.map gj.plain) bar s=gs.all (Gq (l.map gj.plain) bar):=by
   unfold rr;rw[z];simp only;rw[List.map_map,yJ];refine yz fun g _=>?_;unfold Lm Gq;simp only[Function.comp];unfold gA.pl;rw[List.map_map,OL];congr 1
  rw[hv,<-D.len];exact R9 A c l t.tA t.tc t.T t.tB t.tm t.td gs bar w hG hs D.ok (by have:=J.few;omega) (fun g K=>⟨by have:=J.len g K;omega,I g K⟩)
 ·obtain⟨O,D,J⟩:=hk.k2 rfl;have e:=Re (bar:=bar) O;cases bar
  ·have R:(iM t.T).all rj=true:=by
    cases hbd:(iM t.T).all rj
    ·rw[e,yf,hbd] at F;exact absurd F (by simp)
    ·rfl
   have z:ip 2 false s=((iM t.T).map fun p=>⟨false,(kW p).map jr⟩,0):=by rw[e,yf,if_pos R]
   have hz:∀ p∈iM t.T,JI p:=by
    intro p U a Y;have h4:=List.all_eq_true.1 R p U;unfold rj at h4;refine⟨List.isEmpty_iff.1 (List.all_eq_true.1 h4 a Y),M ⟨false,(kW p).map jr⟩ ?_ _ (List.mem_map.2 ⟨a,Y,rfl⟩)⟩;rw[z];exact List.mem_map.2 ⟨p,U,rfl⟩
   refine(Gr A c l t.tA t.tn t.tc t.T t.tB t.tm t.td false w hG hs D.rd J hz).mono fun e' w' ⟨he,H⟩=>⟨?_,H⟩
   rw[he];congr 2;unfold rr;rw[z];simp only;rw[yJ,Bool.bne_false];refine yz fun p _=>?_;unfold Lm Bk;simp only;rw[OL,Bool.bne_false]
  ·have ho:bl t.T.op=[]:=by
    apply Classical.byContradiction;intro h;rw[e,vb,if_neg h] at F;cases F
   have z:ip 2 true s=([⟨true,[jr t.T]⟩],0):=by rw[e,vb,if_pos ho]
   have X:iM t.T=[t.T]:=by unfold iM;rw[if_neg (by rw[ho];decide)]
   have Z:kW t.T=[t.T]:=by unfold kW;rw[if_neg (by rw[ho];decide)]
   have hz:∀ p∈iM t.T,JI p:=by
    intro p U a Y;rw[X] at U;obtain rfl:=List.mem_singleton.1 U;rw[Z] at Y;obtain rfl:=List.mem_singleton.1 Y;exact⟨ho,M ⟨true,[jr t.T]⟩ (by rw[z];simp) _ (by simp)⟩
   refine(Gr A c l t.tA t.tn t.tc t.T t.tB t.tm t.td true w hG hs D.rd J hz).mono fun e' w' ⟨he,H⟩=>⟨?_,H⟩
   rw[he];congr 2;unfold rr Bk Lm;rw[z,X];simp[Z]
 ·obtain⟨L,O,D,J,h4⟩:=hk.k3 rfl;have e:=Rf (bar:=bar) O;have H:∀ x∈L,Hn bar x=false:=by
   intro x V;cases hbd:Hn bar x
   ·rfl
   ·rw[e,zN V hbd] at F;cases F
  have z:=e.trans (NJ H);have I:∀ x∈L,sw (nH x):=by
   intro x V;refine M ⟨bar||x.no,[nH x]⟩ ?_ _ (by simp);rw[z];exact List.mem_map.2 ⟨x,V,rfl⟩
  have hv:rr 3 (l.map gj.plain) bar s=L.all (yI (l.map gj.plain) bar):=by
   unfold rr;rw[z];simp only;rw[yJ];refine yz fun x _=>?_;unfold Lm yI;simp
  rw[hv,<-D];exact Sa A c l t.tA t.tn t.tc t.T t.tB t.td L bar w hG hs (by rw[D];exact gR J) (by omega) I
theorem WI (fmt:Int)(F:iY fmt)(s:BA)(w:World)(D:Mt w)(z:s.size<=1000000):Calls prog 31 #[.int .i64 fmt,.string s] w (yg fmt (bl s) w):=by
 rcases F with rfl | rfl | rfl
 ·exact Fx s w D.1 z
 ·exact Fy s w D.1 z
 ·exact Fz s w D z
theorem WJ (fmt:Int)(K:iY fmt)(bar:Bool)(s:BA)(w:World)(Z:Mt w)(Y:s.size<=1000000)(ht:(ip fmt bar (bl s)).2=0):Calls prog 31 #[.int .i64 fmt,.string s] w fun e w'=>∃ t:CH,e=.returned (.tuple #[t.val,.int .i64 0])/\Bw w w'/\WH fmt (bl s) w.heap.size w' t:=by
 refine(WI fmt K s w Z Y).mono fun e w' ⟨A,n,c,T,B,m,d,J,I,D,O,M,X,F⟩=>?_;rcases K with rfl | rfl | rfl
 ·have k:=O rfl;unfold Tx1 at k;cases hd:jV (bl s) with
  | none=>rw[La hd] at ht;cases ht
  | some L=>
   rw[hd] at k;obtain⟨rfl,gs,hg,_,_,_,hw⟩:=k;obtain⟨H,z,R⟩:=F.grp L rfl hd;exact⟨⟨A,n,c,T,B,m,d⟩,I,D,⟨fun _=>⟨H,by rw[z];exact hd,R,vm.of (by rw[z];exact sO hd (by rw[fI];omega))⟩,fun h=>absurd h (by decide),fun h=>absurd h (by decide)⟩⟩
 ·have k:=M rfl;unfold Tx2 at k;cases hd:jt (bl s) with
  | none=>rw[Lb hd] at ht;cases ht
  | some t=>
   rw[hd] at k;obtain⟨rfl,U,_,hc,_⟩:=k;exact⟨⟨A,n,c,T,B,m,d⟩,I,D,⟨fun h=>absurd h (by decide),fun _=>⟨by rw[U];exact hd,F.rch t rfl hd,hc⟩,fun h=>absurd h (by decide)⟩⟩
 ·have k:=X rfl;unfold Tx3 at k;cases hd:jL (bl s) with
  | none=>rw[Lc hd] at ht;cases ht
  | some L=>
   rw[hd] at k;obtain⟨rfl,hm,_,V,_⟩:=k;exact⟨⟨A,n,c,T,B,m,d⟩,I,D,⟨fun h=>absurd h (by decide),fun h=>absurd h (by decide),fun _=>⟨L,hd,hm.symm,F.wnt L rfl hd,V⟩⟩⟩
def OM (fmt:Int)(ts:List BA)(lo:Nat)(w:World)(xs:List CH):Prop:=∀ (j:Nat) t s,xs[j]?=some t->ts[j]?=some s->WH fmt (bl s) lo w t
theorem OM.snoc {ts:List BA}{xs:List CH}{t:CH}{s:BA}(h:OM fmt ts lo w xs)(I:xs.length=k)(J:ts[k]?=some s)(ht:WH fmt (bl s) lo w t):OM fmt ts lo w (xs++[t]):=by
 intro j M H D z;by_cases F:j<xs.length
 ·rw[List.getElem?_append_left F] at D;exact h j M H D z
 ·have:j=k:=by
   have K:=(gS D).1;simp at K;omega
  subst this;rw[J] at z;injection z with z;subst z;rw[List.getElem?_append_right (by omega),I,Nat.sub_self] at D;simp at D;subst D;exact ht
theorem WH.base {lo':Nat}{t:CH}(h:WH fmt s lo w t)(I:lo'<=lo):WH fmt s lo' w t:=by
 refine⟨fun D=>?_,fun D=>?_,fun D=>?_⟩
 ·obtain⟨K,F,z,H⟩:=h.k1 D;exact⟨K,F,⟨z.len,gF z.row I,fun g M=>(z.grp g M).base I⟩,H⟩
 ·obtain⟨F,z,H⟩:=h.k2 D;exact⟨F,z.base I,H⟩
 ·obtain⟨L,F,z,H,J⟩:=h.k3 D;exact⟨L,F,z,gF H I,J⟩
theorem ON (fmt:Int)(set:List jo)(bar:Bool)(ts:List BA):jk fmt set (pW fmt bar (ts.map bl))=ts.all fun s=>rr fmt set bar (bl s):=by
 unfold jk pW rr;rw[List.all_flatMap,yJ]
theorem tr (fmt:Int)(hf:iY fmt)(A:OA)(c:Nat)(l:List gj)(N:OA)(nc:Nat)(ts:List BA)(bar:Bool)(w:World)(hG:Mt w)(hs:uG w A l)(hn:Rd w 1 N ts.length (strCells ts))(hl:ts.length<=1000)(hz:∀ s∈ts,s.size<=1000000)(hu:∀ s∈ts,uH fmt bar (bl s)):Calls prog 16 #[.int .i64 fmt,.slice A l.length c,.slice N ts.length nc,.bool bar] w fun e w'=>e=.returned (.tuple #[.bool (jk fmt (l.map gj.plain) (pW fmt bar (ts.map bl))),.int .i64 0])/\Bw w w':=by
 rw[ON];obtain⟨i0,hi,an,aC,ax⟩:=info_parts WG;have HG:=fH hG;have HS:=fH hs;have HN:=fH hn;have HU:=fH hu;have HZ:=fH hz;have ac:=fH fun W=>rD fmt W;rw[dT hf] at ac;have HF:=fH hf;clear hG hs hn hu hz hf;go_in;go_wp2_with fail;refine mb (ac _) ?_;rintro w' rfl;go_wp2;go_loopw [10,22] (fun ah aE wr=>∃ (k:Nat) (O:OA) (oc:Nat) (F:List CH),k<=ts.length/\F.length=k/\ah=.slice O k oc/\aE=.int .i64 k/\Hid (wr.ownsRow w.heap.size 89 7 (.slice O k oc) k (F.flatMap CH.cells))/\Hid (OM fmt ts w.heap.size wr F)/\Hid (Bw w wr)) (fun _ i _=>ts.length-(intOf i).toNat)
 case atStart=>exact⟨0,none,0,[],by omega,rfl,rfl,rfl,World.ownsRow_nil _ _ _ _,fun j t s h=>by simp at h,bR⟩
 case round=>
  obtain⟨k,O,oc,F,hk,Z,rfl,rfl,HO,HI,V⟩:=hrel;by_cases z:k<ts.length
  ·obtain⟨s,M⟩:∃ s,ts[k]?=some s:=⟨_,gG z⟩
   obtain⟨b,off,hA,he⟩:=(HN.below V).2 (by omega);have e0:=he k (.string s) (by unfold strCells;rw[List.getElem?_map,M];rfl);have K:=fun W=>gi (T:=33) (E:=9) (sz:=1) (c:=nc) underlying33 rfl sizeOf9 hA z W;simp only[Nat.mul_one] at K;have HX:=fH M;have RT:=fH fun W hb=>WJ fmt HF bar s W (HG.below hb) (HZ s (gM M)) (HU s (gM M)).1;clear M hA he;go_wp2_with fail;refine(RT _ V).mono ?_;rintro e w1 ⟨t,rfl,X,ht⟩;have TK:=fH (ht.base V.size);have B1:=fH (fM V X);have O1:=fH (ge HO X);have I1:Hid (OM fmt ts w.heap.size w1 F):=fun j t s h1 Y=>(HI.out j t s h1 Y).below X;clear X ht e0 K RT HO HI V;unfold CH.val zO;obtain⟨I,H⟩:∃ I,w1.alloc (.cells t.cells.toArray 89)=I:=⟨_,rfl⟩
   have J:Hid (Bw w1 I):=by rw[<-H];exact bR.alloc lr _
   have K2:Hid (fV I w1.heap.size t.cells):=by show fV _ _ _;rw[<-H];exact fV.new w1 t.cells _
   have O2:=fH (ge O1 J);have B2:=fH (fM B1 J);have T2:=fH (TK.below J);have I2:Hid (OM fmt ts w.heap.size I F):=fun j t s h1 Y=>(I1.out j t s h1 Y).below J.out;have au:Hid (t.cells=[.slice t.tA t.tn t.tc,.string t.T.op,.string t.T.nm,.int .i64 t.T.aop,.string t.T.ver,.slice t.T.ka t.T.kids.length t.T.kc,.slice t.tB t.tm t.td]):=rfl;obtain⟨p0,p1,p2,p3,p4,p5,p6⟩:=cF7 K2.cell;unfold CH.cells at H;have aG:=B2.size;have ab:=fH H;have TT:=fH T2.out;clear H J K2 TK O1 B1 I1 T2;generalize ar:t.tA=ta at *;generalize ag:t.tn=tn at *;generalize al:t.tc=tc at *;generalize aA:t.T.op=op at *;generalize aj:t.T.nm=nm at *;generalize aB:t.T.aop=ao at *;generalize am:t.T.ver=ve at *;generalize ai:t.T.ka=ka at *;generalize az:t.T.kids.length=kl at *;generalize ap:t.T.kc=kc at *;generalize ak:t.tB=tb at *;generalize ay:t.tm=tm at *;generalize av:t.td=td at *;clear ar ag al aA aj aB am ai az ap ak ay av;go_upto_region 8 with(fail)
   rw[ab.out];clear ab
   go_wp2_with (
    at_builtin
    refine fR _ rfl _ _ _ rfl w.heap.size 89 i0 _ 7 128 underlying82 hi an aC ax rfl (by omega) (.slice O k oc) k _ rfl (O2.alloc _) (I.heap.size+1) (some ⟨I.heap.size,0,none⟩) 1 1 [.slice ta tn tc,.string op,.string nm,.int .i64 ao,.string ve,.slice ka kl kc,.slice tb tm td] rfl (RX I _ _ _ _ _ _ _ _) (by simp[Value.oneCell']) (by simp only[maxLen];omega) (by omega) (by simp;omega) ?_;intro v1 w6 D R aa;obtain⟨O3,d1,rfl⟩:=gg D)
   have BA:Hid (Bw I (I.alloc (.cells #[.slice ta tn tc,.string op,.string nm,.int .i64 ao,.string ve,.slice ka kl kc,.slice tb tm td] 89))):=bR.alloc lr _;have B6:Hid (Bw w w6):=(fM B2 BA).grown R (by simp;omega) (fun j hj=>(O2.lt j hj).1);have I6:Hid (OM fmt ts w.heap.size w6 (F++[t])):=OM.snoc (fun j t s h1 Y=>((I2.out j t s h1 Y).below BA).app (O2.alloc _) R) Z HX ((TT.below BA).app (O2.alloc _) R);have O6:Hid (w6.ownsRow w.heap.size 89 7 (.slice O3 (k+1) d1) (k+1) ((F++[t]).flatMap CH.cells)):=by
    show World.ownsRow _ _ _ _ _ _ _;rw[List.flatMap_append,List.flatMap_cons,List.flatMap_nil,List.append_nil,au.out];exact D
   clear D R aa BA O2 B2 I2 p0 p1 p2 p3 p4 p5 p6;go_wp2;go_roundw
   case rel=>exact⟨k+1,O3,d1,F++[t],by omega,by simp[Z],rfl,by go_num,O6,I6,B6⟩
   case measure=>simp[intOf];omega
  ·obtain rfl:k=ts.length:=by omega
   have RW:Hid (Rd wr 7 O ts.length (F.flatMap CH.cells)):=gR HO.out;have aD:=fH fun (j:Nat) (t:CH) (s:BA) (h1:F[j]?=some t) (Y:ts[j]?=some s) W (hb:Bw wr W)=>Sb fmt HF A c l t (bl s) bar w.heap.size W (HG.below (fM V hb)).1 (HS.below (fM V hb)) ((HI j t s h1 Y).below hb) (HU s (gM Y));clear HI HO z;generalize l.length=n at *;go_wp2_with fail;obtain⟨wo,rfl⟩:∃ wo:World,wo=wr:=⟨_,rfl⟩
   go_loopw [42] (fun aq wr=>∃ k:Nat,k<=ts.length/\aq=.int .i64 k/\Hid ((ts.take k).all (fun s=>rr fmt (l.map gj.plain) bar (bl s))=true)/\Hid (Bw wo wr)) (fun i _=>ts.length-(intOf i).toNat)
   case atStart=>exact⟨0,by omega,rfl,by simp[Hid],bR⟩
   case round=>
    obtain⟨k,aF,rfl,HA,U⟩:=hrel;by_cases z:k<ts.length
    ·obtain⟨s,M⟩:∃ s,ts[k]?=some s:=⟨_,gG z⟩
     obtain⟨t,ht⟩:∃ t,F[k]?=some t:=⟨_,gG (by omega)⟩
     have ad:Hid (Rd wr 7 O F.length (F.flatMap CH.cells)):=by have:=RW.below U.out;rwa [<-Z] at this
     obtain⟨b,off,hA,he⟩:=ad.elem ac4 k t ht;obtain⟨e0,e1,e2,e3,e4,e5,e6⟩:=cF7 he;have K:=fun W=>gi (T:=82) (E:=89) (sz:=7) (c:=oc) underlying82 rfl sizeOf89 hA z W;simp only[Nat.add_zero] at e0;have TH:=fH (aD k t s ht M);unfold CH.val zO at TH;have HX:=fH M;obtain⟨r,hr⟩:∃ r,rr fmt (l.map gj.plain) bar (bl s)=r:=⟨_,rfl⟩
     rw[hr] at TH;have ae:=fH hr;clear hA he M ht ad hr;generalize t.tA=ta at *;generalize t.tn=tn at *;generalize t.tc=tc at *;generalize t.T.op=op at *;generalize t.T.nm=nm at *;generalize t.T.aop=ao at *;generalize t.T.ver=ve at *;generalize t.T.ka=ka at *;generalize t.T.kids.length=kl at *;generalize t.T.kc=kc at *;generalize t.tB=tb at *;generalize t.tm=tm at *;generalize t.td=td at *;have B3:Hid (Bw wo (wr.alloc (.cells #[.slice ta tn tc,.string op,.string nm,.int .i64 ao,.string ve,.slice ka kl kc,.slice tb tm td] 89))):=U.alloc U.size _;go_wp2_with fail;refine mb (TH _ B3) ?_;rintro w4 af;have B4:=fH (fM B3 af);clear af e0 e1 e2 e3 e4 e5 e6 K TH;cases r
     ·have E:Hid (ts.all (fun s=>rr fmt (l.map gj.plain) bar (bl s))=false):=RY (gM HX) ae.out;have B9:=fH (fM V B4);go_wp2;go_ret2;exact⟨by rw[E.out];rfl,B9⟩
     ·have AT:Hid ((ts.take (k+1)).all (fun s=>rr fmt (l.map gj.plain) bar (bl s))=true):=Af HA HX ae.out;go_wp2;go_roundw
      case rel=>exact⟨k+1,by omega,by go_num,AT,B4⟩
      case measure=>simp[intOf];omega
    ·have E:Hid (ts.all (fun s=>rr fmt (l.map gj.plain) bar (bl s))=true):=Lt HA z;have B9:=fH (fM V U);go_wp2;go_ret2;exact⟨by rw[E.out];rfl,B9⟩
theorem Lu {bar:Bool}{ts:List (LU)}(h:jc fmt bar ts=0)(O:∀ d∈iX fmt bar ts,∀ g∈d.alts,0<=g.op/\g.op<=5):∀ s∈ts,uH fmt bar s:=by
 obtain⟨D,V,U⟩:=zY h;intro s H;refine⟨V s H,fun d K g I=>?_⟩;have F:d∈pW fmt bar ts:=List.mem_flatMap.2 ⟨s,H,K⟩;have J:=U d F g I;have z:=O (kD fmt 1 d) (by rw[yA];exact List.mem_map.2 ⟨d,F,rfl⟩) (gz fmt 1 g).1 (List.mem_map.2 ⟨g,I,rfl⟩);rw[(Bd J).2.2] at z;refine⟨fun X=>?_,z.1,z.2⟩;rcases tp J with⟨M,_⟩ | ⟨_,ht,_⟩
 ·exact absurd M X
 ·obtain⟨c,R,_⟩:=oT D (.inl rfl) ht;have:=(kB D R).2;omega
theorem Ty {A:OA}{l:List fZ}{out:List gj}(h:KY w w' out A out.length c)(e:out.map gj.plain=l.map fZ.inst)(H:∀ p∈l,QW fmt p)(V:l.length<=128):uG w' A out:=by
 have I:out.length=l.length:=by have:=congrArg List.length e;simpa using this
 refine⟨h.ok.row,fun x J=>?_,by omega⟩;have:x.plain∈l.map fZ.inst:=by rw[<-e];exact List.mem_map_of_mem J
 obtain⟨p,z,F⟩:=List.mem_map.1 this;have U:p.ver=x.ver:=congrArg jo.ver F;have K:p.gives=x.gives:=congrArg jo.gives F;have M:=JE (H p z).ver;obtain⟨O,D⟩:=Gh (H p z).gives;rw[U] at M;rw[K] at O D;exact⟨h.ok.all x J,by omega,by omega,fun g R=>⟨by have:=D g R;omega⟩⟩
theorem WM {p:fZ}(h:qL a b p):(∀ s∈p.needs,uH a false (bl s))/\∀ s∈p.bars,uH a true (bl s):=by
 have D:=Zk h.toZ;unfold kr at D;exact⟨fun s F=>Lu h.needs (fun d z=>D d (List.mem_append_left _ z)) (bl s) (List.mem_map_of_mem F),fun s F=>Lu h.bars (fun d z=>D d (List.mem_append_right _ z)) (bl s) (List.mem_map_of_mem F)⟩
theorem WN (H:iY a){kn:List jH}{p q:fZ}(h:qL a b p)(I:BP a b kn p q):(∀ s∈q.needs,uH b false (bl s))/\∀ s∈q.bars,uH b true (bl s):=by
 obtain⟨e,ht⟩:=RQ H h I;have D:∀ d∈kr b q,∀ g∈d.alts,0<=g.op/\g.op<=5:=fun d z=>Zk h.toZ d (Gd (by rw[<-e];exact z));unfold kr at D;exact⟨fun s F=>Lu ht.needs (fun d z=>D d (List.mem_append_left _ z)) (bl s) (List.mem_map_of_mem F),fun s F=>Lu ht.bars (fun d z=>D d (List.mem_append_right _ z)) (bl s) (List.mem_map_of_mem F)⟩
theorem Sc {kn:List jH}{p q:fZ}(h:qL a b p)(J:BP a b kn p q):(q.needs.length<=64/\∀ s∈q.needs,s.size<=1000000)/\q.bars.length<=64/\∀ s∈q.bars,s.size<=1000000:=by
 obtain⟨z,I⟩:=OT h.toZ false;obtain⟨D,H⟩:=OT h.toZ true;rw[<-J.needs] at z I;rw[<-J.bars] at D H;rw[List.length_map] at z D;exact⟨⟨z,fun s F=>by have:=I (bl s) (List.mem_map_of_mem F);rw[fI] at this;exact this⟩,D,fun s F=>by have:=H (bl s) (List.mem_map_of_mem F);rw[fI] at this;exact this⟩
theorem Ah (a b:Int)(A:OA)(c:Nat)(l:List fZ)(AK:OA)(cK:Nat)(kn:List jH)(w:World)(hG:yM w)(hd:vl w A l)(hf:∀ p∈l,p.fits)(hl:l.length<=9223372036854775807)(hk:Rd w 5 AK kn.length (kn.flatMap jH.cells))(aE:∀ k∈kn,k.fits)(aF:kn.length<=9223372036854775807):Calls prog 4 #[.int .i64 a,.int .i64 b,.slice A l.length c,.slice AK kn.length cK] w fun e w'=>e=.returned (.bool true)/\Bw w w':=by
 have HG:=fH hG;have HD:=fH hd;have HK:=fH hk;have LI:=fH fun W z=>OF A c l AK cK kn W (HD.below z) hf hl (HK.below z) aE aF;clear hG hd hf hl hk aE aF;go_in;go_wp2_with fail;refine mb (OC w HG) ?_;rintro w1 aG;have B1:=fH aG;clear aG;go_wp2_with fail;refine(LI w1 B1).mono ?_;rintro e w2 ⟨lb,rfl,F,ay⟩;have B2:=fH (fM B1 ay);have HP:=fH F;clear ay F LI;cases lb
 ·go_wp2;go_ret;exact⟨rfl,B2⟩
 have HL:=fH (HP rfl);have aN:l.length<=40:=HL.1.1;clear HP;have CV:=fH (tE a b A c l AK cK kn w2 (HG.below B2) (HD.below B2) (by omega) (by have:=HL.1.2;omega) (fun p F=>by have:=Kz F;have:=HL.1.2;omega) (fun p F=>ac0 (by have:=Kz F;have:=HL.1.2;omega)) (HK.below B2) (by have:=HL.2.1;omega) HL.2.2);go_wp2_with fail;refine CV.mono ?_;rintro e w3 ⟨hv,az⟩;have B3:=fH (fM B2 az);clear az CV;rcases hv with aC | aj
 ·obtain⟨v,R,rfl,hR,H,_⟩:=aC;obtain⟨Av,cv,rfl⟩:=gg H;have aM:(0:Int)<(R.length:Int):=by have:=List.length_pos_iff.2 hR;omega
  clear H hR;go_wp2;go_ret;exact⟨rfl,B3⟩
 obtain⟨O,M,rfl,ia,ib,hz,ht,hc,H,J⟩:=aj;obtain⟨Ao,co,rfl⟩:=gg H;obtain⟨zx,V⟩:=V8 ib hc ht hz;have ak:∀ q∈M,QW b q:=Tv (by rw[zx]);have K:=hc.len;have aJ:Hid (∀ (i:Nat)(p q:fZ),l[i]?=some p->M[i]?=some q->_):=fun i p q F J=>RS ib hc ht V F J;have DX:Hid (vl w3 Ao M):=ac2 H J;have SX:=fH fun W z=>AV Ao co M W (DX.below z) (by omega) (fun q J=>JF (ak q J));have aD:Hid (∀ p∈l,p.few):=fun p F=>JF (V p F);have FA:Hid (∀ (w w':World)(A:OA)(c:Nat)(D:List gj),KY w w' D A D.length c->D.map gj.plain=l.map fZ.inst->uG w' A D):=fun w w' A c D h e=>Ty h e V (by omega);have FB:Hid (∀ (w w':World)(A:OA)(c:Nat)(D:List gj),KY w w' D A D.length c->D.map gj.plain=M.map fZ.inst->uG w' A D):=fun w w' A c D h e=>Ty h e ak (by omega);have TD:Hid (∀ (i:Nat)(p q:fZ),l[i]?=some p->M[i]?=some q->((∀ s∈p.needs,uH a false (bl s))/\∀ s∈p.bars,uH a true (bl s))/\((∀ s∈q.needs,uH b false (bl s))/\∀ s∈q.bars,uH b true (bl s))/\((q.needs.length<=64/\∀ s∈q.needs,s.size<=1000000)/\q.bars.length<=64/\∀ s∈q.bars,s.size<=1000000)/\p.needs.length<=64/\p.bars.length<=64):=by
  intro i p q F J;have h1:=(ht p (gM F)).deps;have h2:=hc.each i p q F J;have h3:=V p (gM F);exact⟨WM h1,WN ia h1 h2,Sc h1 h2,qg h3.needs,qg h3.bars⟩
 have aH:=fH K;have IA:=fH ia;have IB:=fH ib;rw[K] at SX;rw[K];clear zx V ak hc ht hz H J K ia ib;go_wp2_with fail;refine(AV A c l w3 (HD.below B3) (by omega) aD).mono ?_;rintro e w4 ⟨Aa,ca,X,rfl,sa,pa⟩;have ad:=fH sa.bel;have av:=fH sa.ok;have ab:=fH (FA _ _ _ _ _ sa pa);have PA:=fH pa;clear sa pa;go_wp2_with fail;refine(SX w4 ad).mono ?_;rintro e w5 ⟨Ab,cb,ah,rfl,sb,pb⟩;have Y:=fH sb.bel;have aq:=fH (FB _ _ _ _ _ sb pb);have PB:=fH pb;have au:=fH (fM ad Y);clear sb pb SX FA FB;go_wp2_with fail;refine(abE A c l w5 (HD.below (fM B3 au)) (by omega)).mono ?_;rintro e w6 ⟨Ar,cr,rfl,ar,aB⟩;have Z:=fH aB;have R6:=fH ar;clear ar aB;go_wp2_with fail;rw[show l.length=(l.map fZ.instL).length by rw[List.length_map]];refine mb (OR Aa Ar ca cr X (l.map fZ.instL) w6 (av.below (fM Y Z)) R6 (PA.out.trans (OO l).symm) (by have:=ab.few;omega) (fun x hx=>(ab.all x hx).few)) ?_;rintro w7 ap;rw[List.length_map];have al:=fH (fM (fM Y Z) ap);have aA:=fH (fM Z ap);have an:=fH (fM ad al);have B7:=fH (fM B3 an);have D7:=fH (HD.below B7);have X7:=fH (DX.below an);have ZA:=fH (ab.below al);have ZB:=fH (aq.below aA);have af:=fH (HG.below B7);clear ap al aA an Z Y ad au B3 B2 B1 av ab aq R6 HD DX HG HK aD;go_wp2;go_loopw [13] (fun i wr=>∃ k:Nat,k<=l.length/\i=.int .i64 k/\Hid (Bw w7 wr)) (fun i _=>l.length-(intOf i).toNat)
 case atStart=>exact⟨0,z0,rfl,bR⟩
 case round=>
  obtain⟨k,hk,rfl,HB⟩:=hrel;by_cases aa:k<l.length
  ·obtain⟨p,F⟩:∃ p,l[k]?=some p:=⟨_,gG aa⟩
   obtain⟨q,J⟩:∃ q,M[k]?=some q:=⟨_,gG (by rw[aH.out];exact aa)⟩
   obtain⟨b1,ag,am,aI⟩:=D7.row.elem lk k p F;obtain⟨b2,U,I,aK⟩:=X7.row.elem lk k q J;have E1:Hid (∀ W,Bw w7 W->W.cell? ⟨b1,ag+k*9+4,none⟩=some (.slice p.na p.needs.length p.nc)/\W.cell? ⟨b1,ag+k*9+5,none⟩=some (.slice p.ba p.bars.length p.bc)):=by
    intro W z;obtain⟨b2,U,I,he⟩:=(D7.below z).row.elem lk k p F;rw[am] at I;injection I with I;injection I with e1 e2 _;subst e1;subst e2;exact⟨he 4 _ rfl,he 5 _ rfl⟩
   have E2:Hid (∀ W,Bw w7 W->W.cell? ⟨b2,U+k*9+4,none⟩=some (.slice q.na q.needs.length q.nc)/\W.cell? ⟨b2,U+k*9+5,none⟩=some (.slice q.ba q.bars.length q.bc)):=by
    intro W z;obtain⟨b3,aL,ae,he⟩:=(X7.below z).row.elem lk k q J;rw[I] at ae;injection ae with ae;injection ae with e1 e2 _;subst e1;subst e2;exact⟨he 4 _ rfl,he 5 _ rfl⟩
   have aO:=fun W=>gi (T:=22) (E:=38) (sz:=9) (c:=c) underlying22 rfl sizeOf38 am aa W;have aP:=fun W=>gi (T:=22) (E:=38) (sz:=9) (c:=co) underlying22 rfl sizeOf38 I aa W;obtain⟨t1,t2,⟨⟨s1,s2⟩,s3,s4⟩,s5,s6⟩:=TD.out k p q F J;obtain⟨_,_,_,_,ac⟩:=aJ.out k p q F J;have pz:(∀ s∈p.needs,s.size<=1000000)/\∀ s∈p.bars,s.size<=1000000:=by
    have h1:=Kz (gM F);have h2:=fZ.small_of (p:=p) (by have:=HL.1.2;omega);exact⟨h2.needs_,h2.bars_⟩
   have ai:=D7.all p (gM F);have ao:=X7.all q (gM J);have C1:=fH fun W z=>tr a IA Aa ca X p.na p.nc p.needs false W (af.below z).e (ZA.below z) (ai.needs.below z) (by omega) pz.1 t1.1;have C2:=fH fun W z=>tr a IA Aa ca X p.ba p.bc p.bars true W (af.below z).e (ZA.below z) (ai.bars.below z) (by omega) pz.2 t1.2;have C3:=fH fun W z=>tr b IB Ab cb ah q.na q.nc q.needs false W (af.below z).e (ZB.below z) (ao.needs.below z) (by omega) s2 t2.1;have C4:=fH fun W z=>tr b IB Ab cb ah q.ba q.bc q.bars true W (af.below z).e (ZB.below z) (ao.bars.below z) (by omega) s4 t2.2;rw[PA.out] at C1 C2;rw[PB.out] at C3 C4;have ac:(jk a (l.map fZ.inst) (pW a false (p.needs.map bl))&&jk a (l.map fZ.inst) (pW a true (p.bars.map bl)))=(jk b (M.map fZ.inst) (pW b false (q.needs.map bl))&&jk b (M.map fZ.inst) (pW b true (q.bars.map bl))):=ac;have ax:=fH ac;generalize jk a (l.map fZ.inst) (pW a false (p.needs.map bl))=P1 at *;generalize jk a (l.map fZ.inst) (pW a true (p.bars.map bl))=P2 at *;generalize jk b (M.map fZ.inst) (pW b false (q.needs.map bl))=P3 at *;generalize jk b (M.map fZ.inst) (pW b true (q.bars.map bl))=P4 at *;clear ac pz ai ao t1 t2 s1 s2 s3 s4 s5 s6 F J am I aI aK;obtain⟨x1,_⟩:=E1.out wr HB.out;go_wp2_with fail;refine mb (C1 wr HB) ?_;rintro v1 k1;have V1:=fH (fM HB k1);clear x1 k1;obtain⟨_,x2⟩:=E1.out v1 V1.out;go_wp2_with fail;refine mb (C2 v1 V1) ?_;rintro v2 k2;have V2:=fH (fM V1 k2);clear x2 k2;obtain⟨x3,_⟩:=E2.out v2 V2.out;go_wp2_with fail;refine mb (C3 v2 V2) ?_;rintro v3 k3;have V3:=fH (fM V2 k3);clear x3 k3;obtain⟨_,x4⟩:=E2.out v3 V3.out;go_wp2_with fail;refine mb (C4 v3 V3) ?_;rintro v4 k4;have V4:=fH (fM V3 k4);clear x4 k4 C1 C2 C3 C4;cases P1<;>cases P2<;>cases P3<;>cases P4
   all_goals first
    | (exfalso;exact absurd ax.out (by decide))
    | (clear ax
       go_wp2;go_roundw
       case rel=>exact⟨k+1,by omega,by go_num,V4⟩
       case measure=>simp[intOf];omega)
  ·go_wp2;go_ret;exact⟨rfl,fM B7 HB⟩
end
end Go.Proofs.YtkmjcombhjombaaGreatDoor
