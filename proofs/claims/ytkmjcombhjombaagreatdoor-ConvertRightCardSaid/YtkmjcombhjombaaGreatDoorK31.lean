/- A part of the proof. -/
import Derived.Test.YtkmjcombhjombaaGreatDoorK27
import Derived.Test.YtkmjcombhjombaaGreatDoorK29
set_option maxRecDepth 100000
set_option maxHeartbeats 20000000
set_option linter.unusedVariables false
set_option linter.unusedSimpArgs false
namespace Go.Proofs.YtkmjcombhjombaaGreatDoor
variable{Q:Exit->Act->World->Prop}{a b:Int}{kb mb:Nat}{T:Nat->Prop}{aA aB aC aD aE aF aG aH aI aJ aK aL aM aN aO aP aQ aR aS aT aU aV aW aX aY aZ aa ab ac ad ae af ag ah ai aj ak al am an ao ap aq ar au av ax ay az bA bB bC bD bE bF bG bH bI bJ bK bL bM bN bO bP bQ bR bS bT bU bV bW bX bY bZ ba bb bc bd be bf bg bh bi bj bk bm bn bo bp bq br bt bu bv bw bx bz c0 c1 c4 cA cD cE cF cG cH cI cJ cK cL cM cN cO cP cQ cR cS cT cU cV cW cX cY cZ ca cb cc ce cf cg ch ci cj ck cl cm cn co cp cq cr cs ct cu cv cw cx cy cz dA dB dC dD dE dF dG dH dI dJ dK dL dM dN dO dP dQ dR dS dT dU dV dW dZ da db dc de df dg dh di dj dk dl dm dn dp dq dr ds dt du dv dw dx dy dz ea eb ec ed ee ef eg eh ei ej ek el em en eo ep eq er v:Value}{W w:World}
section
open Go.RowKit
theorem Zl {ms:List ql}{R:List ky}{p:jn}{V:BA}{A7 A8:Option Addr}{n7 n8 c7 c8:Nat}{ds7 ds8:List jd}{wa wb:World}{c6:Value}(hGB:∀ {wr:World}{v:Value}{R:List ky}{q:jn},lN T w wr kb mb a b ms v R q->xC wr)(hA:p.able)(hR:R.length<=1000000)(h7:kZ a false (p.needs.map bl)=0)(h8:kZ a true (p.bars.map bl)=0)(x71:ds7.map jd.pl=mh a false (p.needs.map bl))(x72:w.heap.size+2<wa.heap.size)(x73:pt wa W ds7 A7 n7 c7)(x81:ds8.map jd.pl=mh a true (p.bars.map bl))(x82:w.heap.size+2<wb.heap.size)(x83:pt wb W ds8 A8 n8 c8)(hB:lN T w W kb mb a b ms v R (p.setVer V))
  (hQ:∀ (u6 ey ez eA eB eC eD eE eF eG eH eI eJ eK eL:Value)(wx:World),(∃ (A1:Option Addr)(c1:Nat)(A2:Option Addr)(c2:Nat)(ns bts:List BA),u6=.int .i64 (za b (lB a p))/\lN T w wx kb mb a b ms v R (((p.setVer V).setNeeds A1 c1 ns).setBars A2 c2 bts)/\(za b (lB a p)=0->ns.map bl=xz b false (lB a p)/\bts.map bl=xz b true (lB a p)))->Q .normal ⟨#[c0,c1,.pointer (some ⟨w.heap.size,0,none⟩),.pointer (some ⟨w.heap.size+1,0,none⟩),c4,.func (Fn.func 46) #[] #[.pointer (some ⟨w.heap.size,0,none⟩),.pointer (some ⟨w.heap.size+1,0,none⟩)],u6,.slice A7 n7 c7,.int .i64 0,.slice A8 n8 c8,.int .i64 0,cD,cE,cF,cG,cH,cI,cJ,cK,cL,cM,cN,cO,cP,cQ,cR,cS,cT,cU,cV,cW,cX,cY,cZ,da,db,dc,de,df,dg,dh,di,dj,dk,dl,dm,dn,dp,dq,dr,ds,dt,du,dv,dw,dx,dy,dz,dA,dB,dC,dD,dE,dF,dG,dH,dI,dJ,dK,dL,dM,dN,dO,dP,dQ,dR,ey,ez,eA,eB,eC,eD,eE,eF,eG,eH,eI,eJ,eK,eL,en,eo,ep,eq,er,dS,dT,dU,dV,dW,aa,ab,ac,ad,ae,af,ag,ah,ai,aj,ak,al,am,an,ao,ap,aq,ar,au,av,ax,ay,az,aA,aB,aC,aD,aE,aF,aG,aH,aI,aJ,aK,aL,aM,aN,aO,aP,aQ,aR,aS,aT,aU,aV,aW,aX,aY,aZ,ba,bb,bc,bd,be,bf,bg,bh,bi,bj,bk,bm,bn,bo,bp,bq,br,bt,bu,bv,bw,bx,bz,bA,bB,bC,bD,bE,bF,bG,bH,bI,bJ,bK,bL,bM,bN,bO,bP,bQ,bR,bS,bT,bU,bV,bW,bX,bY,bZ,ca,cb,cc,ce,cf,cg,ch,ci,cj,ck,cl,cm,cn,co,cp,cq,cr,cs,ct,cu,cv,cw,cx,cy,cz,cA],[]⟩ wx):
  Code.wp Tryz.prog (cd [1,1,1,1,1,1,1,1,0,1,3,0]) Q ⟨#[c0,c1,.pointer (some ⟨w.heap.size,0,none⟩),.pointer (some ⟨w.heap.size+1,0,none⟩),c4,.func (Fn.func 46) #[] #[.pointer (some ⟨w.heap.size,0,none⟩),.pointer (some ⟨w.heap.size+1,0,none⟩)],c6,.slice A7 n7 c7,.int .i64 0,.slice A8 n8 c8,.int .i64 0,cD,cE,cF,cG,cH,cI,cJ,cK,cL,cM,cN,cO,cP,cQ,cR,cS,cT,cU,cV,cW,cX,cY,cZ,da,db,dc,de,df,dg,dh,di,dj,dk,dl,dm,dn,dp,dq,dr,ds,dt,du,dv,dw,dx,dy,dz,dA,dB,dC,dD,dE,dF,dG,dH,dI,dJ,dK,dL,dM,dN,dO,dP,dQ,dR,dZ,ea,eb,ec,ed,ee,ef,eg,eh,ei,ej,ek,el,em,en,eo,ep,eq,er,dS,dT,dU,dV,dW,aa,ab,ac,ad,ae,af,ag,ah,ai,aj,ak,al,am,an,ao,ap,aq,ar,au,av,ax,ay,az,aA,aB,aC,aD,aE,aF,aG,aH,aI,aJ,aK,aL,aM,aN,aO,aP,aQ,aR,aS,aT,aU,aV,aW,aX,aY,aZ,ba,bb,bc,bd,be,bf,bg,bh,bi,bj,bk,bm,bn,bo,bp,bq,br,bt,bu,bv,bw,bx,bz,bA,bB,bC,bD,bE,bF,bG,bH,bI,bJ,bK,bL,bM,bN,bO,bP,bQ,bR,bS,bT,bU,bV,bW,bX,bY,bZ,ca,cb,cc,ce,cf,cg,ch,ci,cj,ck,cl,cm,cn,co,cp,cq,cr,cs,ct,cu,cv,cw,cx,cy,cz,cA],[]⟩ W:=by
 have HQ:=iV hQ;clear hQ;obtain⟨i0,es,eO,eM,ew⟩:=info_parts sr;have GB:Hid (∀ {wr:World} {v:Value} {R:List ky} {q:jn},lN T w wr kb mb a b ms v R q->xC wr):=hGB;have HS:=iV hA;have eR:=iV hR;obtain⟨l7,l8,I⟩:=UO h7 h8 x71 x81 hA.small.needs_ hA.small.bars_;have U:=iV x73;have D8:=iV x83;have L7:n7<=64:=by rw[<-x73.len];exact l7
 have L8:n8<=64:=by rw[<-x83.len];exact l8
 have eQ:=iV x73.len;have cC:=iV x83.len;have XB:=iV (IK x71 x81);have ex:=iV I;have eN:=iV x72;have F:=iV hB;obtain⟨H,J⟩:∃ H,W=H:=⟨_,rfl⟩
 rw[J] at U D8 F |-;have R8:=iV ((D8.out.ok.row.drew).reads (by decide));rw[cC.out] at R8;have O8:=iV (yL ds8);clear hGB hA hR h7 h8 x71 x72 x73 x81 x82 x83 l7 l8 I hB J
 conv=>arg 2;whnf
 have c0:=F.out.box.cell 0 _ rfl;have k1:=F.out.kv.cell 1 _ rfl
 go_region_held3 (fun w'=>w'.cell? ⟨w.heap.size,0,none⟩=some (.pointer (some ⟨kb,0,none⟩))/\w'.cell? ⟨kb,1,none⟩=some (.int .i64 b))
  (first
    | exact⟨c0,k1⟩
    | exact⟨eu,dX⟩
    | exact⟨N.out.box.cell 0 _ rfl,N.out.kv.cell 1 _ rfl⟩
    | exact⟨M.out.box.cell 0 _ rfl,M.out.kv.cell 1 _ rfl⟩
    | exact⟨z.out.box.cell 0 _ rfl,z.out.kv.cell 1 _ rfl⟩
    | go_keep)
  (first
    | (go_at_call 48;refine(dY.out).mono ?_;rintro e eS ⟨A1,c1,A2,c2,ns,bs,rfl,K,Z,X,cB,et⟩
       have z:=iV (D.out.step K);have HZ:Hid (w.heap.size+3<=w9.heap.size):=D.out.res.sz;have N1:=iV (Z.mono HZ.out);have N2:=iV ((X.mono HZ.out).set (c:=w.heap.size+1) (by omega) 4 (.slice A1 ns.length c1));have M:=iV (z.out.putNeeds N1.out);have N:=iV (M.out.putBars N2.out);have eP:=iV cB;have y4:=z.out.pk.cell 4 _ rfl;have g4:=z.out.pk.free 4 (by show 4<9;omega);have y5:=z.out.pk.cell 5 _ rfl;have g5:=z.out.pk.free 5 (by show 5<9;omega))
    | (refine kr _ (by rfl) _ _ _ (by rfl) wa.heap.size 75 i0 _ 2 32 Tryz.underlying30 es eO eM ew rfl (by omega) (.slice A7 n7 c7) n7 (ds7.flatMap jd.cells) (by rfl) (U.out.row.drew) _ A8 n8 c8 (ds8.flatMap jd.cells) (by rfl) R8.out O8.out (by simp only[maxLen];omega) (by omega) (by have:=U.out.bel.size;simp;omega) ?_
       intro v9 w9 y O Y;obtain⟨A9,c9,rfl⟩:=jk y;have D:=iV ((F.out.drew).dep U.out.row.drew eN.out O);have ev:=iV (Xx (U.out.below (Xy H)) (D8.out.below (Xy H)) y O);have dY:=iV (Zc b A9 c9 (ds7++ds8) w9 (GB.out D.out) ev.out ex.out);rw[XB.out,List.length_append,eQ.out,cC.out] at dY;have eu:=D.out.box.cell 0 _ rfl;have dX:=D.out.kv.cell 1 _ rfl))
 all_goals
  clear c0 k1 eu dX y4 g4 y5 g5 K y O Y Z X cB et;go_wp2_with fail;exact HQ.out _ _ _ _ _ _ _ _ _ _ _ _ _ _ _ _ ⟨A1,c1,A2,c2,ns,bs,rfl,N.out,eP.out⟩
theorem Zm {ms:List ql}{R:List ky}{q:jn}{te:Int}{c7 c8 c9 ev:Value}(hR:R.length<=1000000)(hB:lN T w W kb mb a b ms v R q)
  (hQ:∀ (eM eN eO eP eQ:Value)(wx:World),(∃ v1 bs,lN T w wx kb mb a b ms v1 (R++bs) q/\(bs=[]↔te=0)/\bs.length<=1)->Q .normal ⟨#[c0,c1,.pointer (some ⟨w.heap.size,0,none⟩),.pointer (some ⟨w.heap.size+1,0,none⟩),c4,.func (Fn.func 46) #[] #[.pointer (some ⟨w.heap.size,0,none⟩),.pointer (some ⟨w.heap.size+1,0,none⟩)],.int .i64 te,c7,c8,c9,ev,cD,cE,cF,cG,cH,cI,cJ,cK,cL,cM,cN,cO,cP,cQ,cR,cS,cT,cU,cV,cW,cX,cY,cZ,da,db,dc,de,df,dg,dh,di,dj,dk,dl,dm,dn,dp,dq,dr,ds,dt,du,dv,dw,dx,dy,dz,dA,dB,dC,dD,dE,dF,dG,dH,dI,dJ,dK,dL,dM,dN,dO,dP,dQ,dR,dZ,ea,eb,ec,ed,ee,ef,eg,eh,ei,ej,ek,el,em,eM,eN,eO,eP,eQ,dS,dT,dU,dV,dW,aa,ab,ac,ad,ae,af,ag,ah,ai,aj,ak,al,am,an,ao,ap,aq,ar,au,av,ax,ay,az,aA,aB,aC,aD,aE,aF,aG,aH,aI,aJ,aK,aL,aM,aN,aO,aP,aQ,aR,aS,aT,aU,aV,aW,aX,aY,aZ,ba,bb,bc,bd,be,bf,bg,bh,bi,bj,bk,bm,bn,bo,bp,bq,br,bt,bu,bv,bw,bx,bz,bA,bB,bC,bD,bE,bF,bG,bH,bI,bJ,bK,bL,bM,bN,bO,bP,bQ,bR,bS,bT,bU,bV,bW,bX,bY,bZ,ca,cb,cc,ce,cf,cg,ch,ci,cj,ck,cl,cm,cn,co,cp,cq,cr,cs,ct,cu,cv,cw,cx,cy,cz,cA],[]⟩ wx):
  Code.wp Tryz.prog (cd [1,1,1,1,1,1,1,1,0,1,3,1]) Q ⟨#[c0,c1,.pointer (some ⟨w.heap.size,0,none⟩),.pointer (some ⟨w.heap.size+1,0,none⟩),c4,.func (Fn.func 46) #[] #[.pointer (some ⟨w.heap.size,0,none⟩),.pointer (some ⟨w.heap.size+1,0,none⟩)],.int .i64 te,c7,c8,c9,ev,cD,cE,cF,cG,cH,cI,cJ,cK,cL,cM,cN,cO,cP,cQ,cR,cS,cT,cU,cV,cW,cX,cY,cZ,da,db,dc,de,df,dg,dh,di,dj,dk,dl,dm,dn,dp,dq,dr,ds,dt,du,dv,dw,dx,dy,dz,dA,dB,dC,dD,dE,dF,dG,dH,dI,dJ,dK,dL,dM,dN,dO,dP,dQ,dR,dZ,ea,eb,ec,ed,ee,ef,eg,eh,ei,ej,ek,el,em,en,eo,ep,eq,er,dS,dT,dU,dV,dW,aa,ab,ac,ad,ae,af,ag,ah,ai,aj,ak,al,am,an,ao,ap,aq,ar,au,av,ax,ay,az,aA,aB,aC,aD,aE,aF,aG,aH,aI,aJ,aK,aL,aM,aN,aO,aP,aQ,aR,aS,aT,aU,aV,aW,aX,aY,aZ,ba,bb,bc,bd,be,bf,bg,bh,bi,bj,bk,bm,bn,bo,bp,bq,br,bt,bu,bv,bw,bx,bz,bA,bB,bC,bD,bE,bF,bG,bH,bI,bJ,bK,bL,bM,bN,bO,bP,bQ,bR,bS,bT,bU,bV,bW,bX,bY,bZ,ca,cb,cc,ce,cf,cg,ch,ci,cj,ck,cl,cm,cn,co,cp,cq,cr,cs,ct,cu,cv,cw,cx,cy,cz,cA],[]⟩ W:=by
 have M:=iV hQ;clear hQ;have I:=iV hR;have z:=iV hB;obtain⟨F,y⟩:∃ F,W=F:=⟨_,rfl⟩
 rw[y] at z |-;clear hR hB y
 conv=>arg 2;whnf
 by_cases D:te=0
 ·have O:(te != 0)=false:=by simp[D]
  have J:=iV D;clear D;go_wp2_with fail;exact M.out _ _ _ _ _ _ ⟨v,[],by rw[List.append_nil];exact z.out,⟨fun _=>J.out,fun _=>rfl⟩,by simp⟩
 ·have O:(te != 0)=true:=by simpa [bne] using D
  have J:=iV D;clear D;go_wp2_with fail;refine(qI z.out I.out q.nm ⟨#[110,101,101,100,115]⟩ te rfl).mono ?_;rintro e N ⟨rfl,U,H⟩;have K:=iV H;clear H;go_wp2_with fail;exact M.out _ _ _ _ _ _ ⟨U,_,K.out,⟨fun e=>by simp at e,fun e=>absurd e J.out⟩,by simp⟩
end
end Go.Proofs.YtkmjcombhjombaaGreatDoor
