/- A part of the proof. -/
import Derived.Test.YtkmjcombhjombaaGreatDoorK29
set_option maxRecDepth 100000
set_option maxHeartbeats 20000000
set_option linter.unusedVariables false
set_option linter.unusedSimpArgs false
namespace Go.Proofs.YtkmjcombhjombaaGreatDoor
variable{s:BA}{Q:Exit->Act->World->Prop}{a b fmt:Int}{kb lo mb:Nat}{T:Nat->Prop}{aA aB aC aD aE aF aG aH aI aJ aK aL aM aN aO aP aQ aR aS aT aU aV aW aX aY aZ aa ab ac ad ae af ag ah ai aj ak al am an ao ap aq ar au av ax ay az bA bB bC bD bE bF bG bH bI bJ bK bL bM bN bO bP bQ bR bS bT bU bV bW bX bY bZ ba bb bc bd be bf bg bh bi bj bk bm bn bo bp bq br bs bt bu bv bw bx bz c0 c1 c4 c7 c8 c9 cB cC cD cE cF cG cH cI cJ cK cL cM cN cO cP cQ cR cS cT cU cV cW cX cY cZ ca cb cc ce cf cg ch ci cj ck cl cm cn co cp cq cr cs ct cu cv cw cx cy cz dA dB dC dD dE dF dG dH dI dJ dK dL dM dN dO dP dQ dR dS dT dU dV dW dX dY dZ da db dc de df dg dh di dj dk dl dm dn dp dq dr ds dt du dv dw dx dy dz ea eb ed ee ef eg eh ei ej ek el em en eo ep v:Value}{W w:World}
section
open Go.RowKit
theorem Zf {ms:List ql}{R0:List ky}{p:jn}{c6:Value}(hGB:∀ {wr:World}{v:Value}{R:List ky}{q:jn},lN T w wr kb mb a b ms v R q->xC wr)(hA:p.able)(hR0:R0.length<=500000)(hB:lN T w W kb mb a b ms v R0 p)
  (hQ:∀ (u6 ew ex ey ez eA eB eC eD eE eF eG eH eI eJ eK:Value)(wx:World),(u6=.int .i64 (trans a b p.ver).2/\lN T w wx kb mb a b ms v R0 (p.setVer (ke (trans a b p.ver).1)))->Q .normal ⟨#[c0,c1,.pointer (some ⟨w.heap.size,0,none⟩),.pointer (some ⟨w.heap.size+1,0,none⟩),c4,.func (Fn.func 46) #[] #[.pointer (some ⟨w.heap.size,0,none⟩),.pointer (some ⟨w.heap.size+1,0,none⟩)],u6,c7,c8,c9,cB,cC,cD,cE,cF,cG,cH,cI,cJ,cK,cL,ew,ex,ey,ez,eA,eB,eC,eD,eE,eF,eG,eH,eI,eJ,eK,em,en,eo,ep,cM,cN,cO,cP,cQ,cR,cS,cT,cU,cV,cW,cX,cY,cZ,da,db,dc,de,df,dg,dh,di,dj,dk,dl,dm,dn,dp,dq,dr,ds,dt,du,dv,dw,dx,dy,dz,dA,dB,dC,dD,dE,dF,dG,dH,dI,dJ,dK,dL,dM,dN,dO,dP,dQ,dR,dS,dT,dU,dV,aa,ab,ac,ad,ae,af,ag,ah,ai,aj,ak,al,am,an,ao,ap,aq,ar,au,av,ax,ay,az,aA,aB,aC,aD,aE,aF,aG,aH,aI,aJ,aK,aL,aM,aN,aO,aP,aQ,aR,aS,aT,aU,aV,aW,aX,aY,aZ,ba,bb,bc,bd,be,bf,bg,bh,bi,bj,bk,bm,bn,bo,bp,bq,br,bs,bt,bu,bv,bw,bx,bz,bA,bB,bC,bD,bE,bF,bG,bH,bI,bJ,bK,bL,bM,bN,bO,bP,bQ,bR,bS,bT,bU,bV,bW,bX,bY,bZ,ca,cb,cc,ce,cf,cg,ch,ci,cj,ck,cl,cm,cn,co,cp,cq,cr,cs,ct,cu,cv,cw,cx,cy,cz],[]⟩ wx):
  Code.wp Tryz.prog (cd [1,1,1,0,0]) Q ⟨#[c0,c1,.pointer (some ⟨w.heap.size,0,none⟩),.pointer (some ⟨w.heap.size+1,0,none⟩),c4,.func (Fn.func 46) #[] #[.pointer (some ⟨w.heap.size,0,none⟩),.pointer (some ⟨w.heap.size+1,0,none⟩)],c6,c7,c8,c9,cB,cC,cD,cE,cF,cG,cH,cI,cJ,cK,cL,dW,dX,dY,dZ,ea,eb,ed,ee,ef,eg,eh,ei,ej,ek,el,em,en,eo,ep,cM,cN,cO,cP,cQ,cR,cS,cT,cU,cV,cW,cX,cY,cZ,da,db,dc,de,df,dg,dh,di,dj,dk,dl,dm,dn,dp,dq,dr,ds,dt,du,dv,dw,dx,dy,dz,dA,dB,dC,dD,dE,dF,dG,dH,dI,dJ,dK,dL,dM,dN,dO,dP,dQ,dR,dS,dT,dU,dV,aa,ab,ac,ad,ae,af,ag,ah,ai,aj,ak,al,am,an,ao,ap,aq,ar,au,av,ax,ay,az,aA,aB,aC,aD,aE,aF,aG,aH,aI,aJ,aK,aL,aM,aN,aO,aP,aQ,aR,aS,aT,aU,aV,aW,aX,aY,aZ,ba,bb,bc,bd,be,bf,bg,bh,bi,bj,bk,bm,bn,bo,bp,bq,br,bs,bt,bu,bv,bw,bx,bz,bA,bB,bC,bD,bE,bF,bG,bH,bI,bJ,bK,bL,bM,bN,bO,bP,bQ,bR,bS,bT,bU,bV,bW,bX,bY,bZ,ca,cb,cc,ce,cf,cg,ch,ci,cj,ck,cl,cm,cn,co,cp,cq,cr,cs,ct,cu,cv,cw,cx,cy,cz],[]⟩ W:=by
 have HQ:=iV hQ;clear hQ;obtain⟨V,Y⟩:∃ V:BA,(⟨(trans a b p.ver).1.toArray⟩:BA)=V:=⟨_,rfl⟩
 obtain⟨X,F⟩:∃ X:Int,(trans a b p.ver).2=X:=⟨_,rfl⟩
 have HV:=iV Y;have U:=iV F;have HT:=iV fun W hg=>si a b p.ver W hg (by have:=hA.small.ver;omega);rw[show va (trans a b p.ver)=.tuple #[.string V,.int .i64 X] by rw[<-Y,<-F];rfl] at HT;have GB:Hid (∀ {wr:World} {v:Value} {R:List ky} {q:jn},lN T w wr kb mb a b ms v R q->xC wr):=hGB;have H:=iV hB;have cA:=iV hR0;obtain⟨W3,M⟩:∃ W3,W=W3:=⟨_,rfl⟩
 rw[M] at H |-;clear hGB hB hA hR0 Y F M;refine wp_mono (Q:=Exit.then (fun a w=>Q .normal a w) fun _ _ _=>False) ?_ (fun e a w h=>by cases e<;>first | exact h | exact h.elim)
 conv=>arg 2;whnf
 have c0:=H.out.box.cell 0 _ rfl;have O:=H.out.kv.cell 0 _ rfl;have Z:=H.out.kv.cell 1 _ rfl;have p1:=H.out.pk.cell 1 _ rfl;go_upto_region 3 with(fail)
 refine wp_region_held_drew (S:=fun y=>y.cell? ⟨w.heap.size,0,none⟩=some (.pointer (some ⟨kb,0,none⟩))/\y.cell? ⟨kb,0,none⟩=some (.int .i64 a)/\y.cell? ⟨kb,1,none⟩=some (.int .i64 b)) (by kernel_rfl) ?_ (fun z=>?_)
 ·exact⟨c0,O,Z⟩
 refine' wpAnyH_take (i:=0) (oi:=_) (v:=_) rfl (by kernel_rfl) (by kernel_rfl) (by kernel_rfl) (fun _ _ _ h=>h) (Or.inl ⟨by rfl,?hy1⟩) (by assumption) ?rr1
 case hy1=>(intro y hSw;(try dsimp only at hSw);go_simp;try (with_reducible rfl))
 (try simp only[Act.put,sA,sB,sC])
 refine' wpAnyH_take (i:=1) (oi:=_) (v:=_) rfl (by kernel_rfl) (by kernel_rfl) (by kernel_rfl) (fun _ _ _ h=>h) (Or.inl ⟨by rfl,?hy2⟩) (by assumption) ?rr2
 case hy2=>(intro y hSw;(try dsimp only at hSw);go_simp;try (with_reducible rfl))
 (try simp only[Act.put,sA,sB,sC])
 refine' wpAnyH_take (i:=2) (oi:=_) (v:=_) rfl (by kernel_rfl) (by kernel_rfl) (by kernel_rfl) (fun _ _ _ h=>h) (Or.inl ⟨by rfl,?hy3⟩) (by assumption) ?rr3
 case hy3=>(intro y hSw;(try dsimp only at hSw);go_simp;try (with_reducible rfl))
 (try simp only[Act.put,sA,sB,sC])
 refine' wpAnyH_take (i:=3) (oi:=_) (v:=_) rfl (by kernel_rfl) (by kernel_rfl) (by kernel_rfl) (fun _ _ _ h=>h) (Or.inl ⟨by rfl,?hy4⟩) (by assumption) ?rr4
 case hy4=>(intro y hSw;(try dsimp only at hSw);go_simp;try (with_reducible rfl))
 (try simp only[Act.put,sA,sB,sC])
 refine' wpAnyH_take (i:=4) (oi:=_) (v:=_) rfl (by kernel_rfl) (by kernel_rfl) (by kernel_rfl) (fun _ _ _ h=>h) (Or.inl ⟨by rfl,?hy5⟩) (by assumption) ?rr5
 case hy5=>(intro y hSw;(try dsimp only at hSw);go_simp;try (with_reducible rfl))
 (try simp only[Act.put,sA,sB,sC])
 refine' wpAnyH_take (i:=5) (oi:=_) (v:=_) rfl (by kernel_rfl) (by kernel_rfl) (by kernel_rfl) (fun _ _ _ h=>h) (Or.inl ⟨by rfl,?hy6⟩) (by assumption) ?rr6
 case hy6=>(intro y hSw;(try dsimp only at hSw);go_simp;try (with_reducible rfl))
 (try simp only[Act.put,sA,sB,sC])
 refine' wpAnyH_take (i:=6) (oi:=_) (v:=_) rfl (by kernel_rfl) (by kernel_rfl) (by kernel_rfl) (fun _ _ _ h=>h) (Or.inl ⟨by rfl,?hy7⟩) (by assumption) ?rr7
 case hy7=>(intro y hSw;(try dsimp only at hSw);go_simp;try (with_reducible rfl))
 (try simp only[Act.put,sA,sB,sC])
 refine' wpAnyH_take (i:=7) (oi:=_) (v:=_) rfl (by kernel_rfl) (by kernel_rfl) (by kernel_rfl) (fun _ _ _ h=>h) (Or.inl ⟨by rfl,?hy8⟩) (by assumption) ?rr8
 case hy8=>(intro y hSw;(try dsimp only at hSw);go_simp;try (with_reducible rfl))
 (try simp only[Act.put,sA,sB,sC])
 refine' wpAnyH_take (i:=8) (oi:=_) (v:=_) rfl (by kernel_rfl) (by kernel_rfl) (by kernel_rfl) (fun _ _ _ h=>h) (Or.inl ⟨by rfl,?hy9⟩) (by assumption) ?rr9
 case hy9=>(intro y hSw;(try dsimp only at hSw);go_simp;try (with_reducible rfl))
 (try simp only[Act.put,sA,sB,sC])
 refine wpAnyH_ready (rs:=[9]) (by kernel_rfl) (by simp) ?_;refine AllReadyH.cons (o:=_) rfl (fun K D=>?_) AllReadyH.nil;go_simp;refine D.out _ _ ?_ (fun z=>?_)
 ·exact⟨c0,O,Z⟩
 clear D K
 (try simp only[Act.put,sA,sB,sC])
 refine wpAnyH_ready (rs:=[10]) (by kernel_rfl) (by simp) ?_;refine AllReadyH.cons (o:=_) rfl (fun K D=>?_) AllReadyH.nil;go_simp;refine(HT.out _ ((GB.out H.out.drew).p)).mono ?_;rintro e w4 ⟨rfl,J⟩;have I:=iV (H.out.drew.step J);have N:=iV (I.out.putVer V);have y1:=I.out.pk.cell 1 _ rfl;have g1:=I.out.pk.free 1 (by show 1<9;omega);go_wp2_with fail;refine D.out _ _ ?_ (fun z=>?_)
 ·exact⟨I.out.box.cell 0 _ rfl,I.out.kv.cell 0 _ rfl,I.out.kv.cell 1 _ rfl⟩
 clear D K
 (try simp only[Act.put,sA,sB,sC])
 refine' wpAnyH_take (i:=11) (oi:=_) (v:=_) rfl (by kernel_rfl) (by kernel_rfl) (by kernel_rfl) (fun _ _ _ h=>h) (Or.inl ⟨by rfl,?hy11⟩) (by assumption) ?rr11
 case hy11=>(intro y hSw;(try dsimp only at hSw);go_simp;try (with_reducible rfl))
 (try simp only[Act.put,sA,sB,sC])
 refine' wpAnyH_take (i:=12) (oi:=_) (v:=_) rfl (by kernel_rfl) (by kernel_rfl) (by kernel_rfl) (fun _ _ _ h=>h) (Or.inl ⟨by rfl,?hy12⟩) (by assumption) ?rr12
 case hy12=>(intro y hSw;(try dsimp only at hSw);go_simp;try (with_reducible rfl))
 (try simp only[Act.put,sA,sB,sC])
 refine' wpAnyH_take (i:=13) (oi:=_) (v:=_) rfl (by kernel_rfl) (by kernel_rfl) (by kernel_rfl) (fun _ _ _ h=>h) (Or.inl ⟨by rfl,?hy13⟩) (by assumption) ?rr13
 case hy13=>(intro y hSw;(try dsimp only at hSw);go_simp;try (with_reducible rfl))
 (try simp only[Act.put,sA,sB,sC])
 refine' wpAnyH_take (i:=14) (oi:=_) (v:=_) rfl (by kernel_rfl) (by kernel_rfl) (by kernel_rfl) (fun _ _ _ h=>h) (Or.inl ⟨by rfl,?hy10⟩) (by assumption) ?rr10
 case hy10=>(intro y hSw;(try dsimp only at hSw);go_simp;try (with_reducible rfl))
 (try simp only[Act.put,sA,sB,sC])
 refine wpAnyH_ready (rs:=[15]) (by kernel_rfl) (by simp) ?_;refine AllReadyH.cons (o:=_) rfl (fun K D=>?_) AllReadyH.nil;go_simp;refine D.out _ _ ?_ (fun z=>?_)
 ·exact⟨N.out.box.cell 0 _ rfl,N.out.kv.cell 0 _ rfl,N.out.kv.cell 1 _ rfl⟩
 clear D K
 (try simp only[Act.put,sA,sB,sC])
 refine' wpAnyH_take (i:=16) (oi:={ dst:=some 6,op:=Op.assign (Operand.tmp 34),type:=45,pos:=_,after:=_,guard:=none }) (v:=_) rfl (by kernel_rfl) (by kernel_rfl) (by kernel_rfl) (fun _ _ _ h=>h) (Or.inl ⟨by rfl,?hy14⟩) (by assumption) ?rr14
 case hy14=>(intro y hSw;(try dsimp only at hSw);go_simp;try (with_reducible rfl))
 (try simp only[Act.put,sA,sB,sC])
 refine wpAnyH_done (by kernel_rfl) ?_ _
 (try simp only[Act.put,sA,sB,sC,List.set])
 clear c0 O Z p1 y1 g1 J;go_wp2_with fail;exact HQ.out _ _ _ _ _ _ _ _ _ _ _ _ _ _ _ _ _ ⟨by rw[U.out],by rw[show ke (trans a b p.ver).1=V from HV.out];exact N.out⟩
theorem Zg {ms:List ql}{R0:List ky}{p:jn}{ec:Int}(hec:(trans a b p.ver).2=ec)(hR0:R0.length<=500000)(hB:lN T w W kb mb a b ms v R0 (p.setVer (ke (trans a b p.ver).1)))
  (hQ:∀ (eL eM eN eO:Value)(wx:World),(∃ v5,lN T w wx kb mb a b ms v5 (R0++qU a b p) (p.setVer (ke (trans a b p.ver).1)))->Q .normal ⟨#[c0,c1,.pointer (some ⟨w.heap.size,0,none⟩),.pointer (some ⟨w.heap.size+1,0,none⟩),c4,.func (Fn.func 46) #[] #[.pointer (some ⟨w.heap.size,0,none⟩),.pointer (some ⟨w.heap.size+1,0,none⟩)],.int .i64 ec,c7,c8,c9,cB,cC,cD,cE,cF,cG,cH,cI,cJ,cK,cL,dW,dX,dY,dZ,ea,eb,ed,ee,ef,eg,eh,ei,ej,ek,el,eL,eM,eN,eO,cM,cN,cO,cP,cQ,cR,cS,cT,cU,cV,cW,cX,cY,cZ,da,db,dc,de,df,dg,dh,di,dj,dk,dl,dm,dn,dp,dq,dr,ds,dt,du,dv,dw,dx,dy,dz,dA,dB,dC,dD,dE,dF,dG,dH,dI,dJ,dK,dL,dM,dN,dO,dP,dQ,dR,dS,dT,dU,dV,aa,ab,ac,ad,ae,af,ag,ah,ai,aj,ak,al,am,an,ao,ap,aq,ar,au,av,ax,ay,az,aA,aB,aC,aD,aE,aF,aG,aH,aI,aJ,aK,aL,aM,aN,aO,aP,aQ,aR,aS,aT,aU,aV,aW,aX,aY,aZ,ba,bb,bc,bd,be,bf,bg,bh,bi,bj,bk,bm,bn,bo,bp,bq,br,bs,bt,bu,bv,bw,bx,bz,bA,bB,bC,bD,bE,bF,bG,bH,bI,bJ,bK,bL,bM,bN,bO,bP,bQ,bR,bS,bT,bU,bV,bW,bX,bY,bZ,ca,cb,cc,ce,cf,cg,ch,ci,cj,ck,cl,cm,cn,co,cp,cq,cr,cs,ct,cu,cv,cw,cx,cy,cz],[]⟩ wx):
  Code.wp Tryz.prog (cd [1,1,1,0,1]) Q ⟨#[c0,c1,.pointer (some ⟨w.heap.size,0,none⟩),.pointer (some ⟨w.heap.size+1,0,none⟩),c4,.func (Fn.func 46) #[] #[.pointer (some ⟨w.heap.size,0,none⟩),.pointer (some ⟨w.heap.size+1,0,none⟩)],.int .i64 ec,c7,c8,c9,cB,cC,cD,cE,cF,cG,cH,cI,cJ,cK,cL,dW,dX,dY,dZ,ea,eb,ed,ee,ef,eg,eh,ei,ej,ek,el,em,en,eo,ep,cM,cN,cO,cP,cQ,cR,cS,cT,cU,cV,cW,cX,cY,cZ,da,db,dc,de,df,dg,dh,di,dj,dk,dl,dm,dn,dp,dq,dr,ds,dt,du,dv,dw,dx,dy,dz,dA,dB,dC,dD,dE,dF,dG,dH,dI,dJ,dK,dL,dM,dN,dO,dP,dQ,dR,dS,dT,dU,dV,aa,ab,ac,ad,ae,af,ag,ah,ai,aj,ak,al,am,an,ao,ap,aq,ar,au,av,ax,ay,az,aA,aB,aC,aD,aE,aF,aG,aH,aI,aJ,aK,aL,aM,aN,aO,aP,aQ,aR,aS,aT,aU,aV,aW,aX,aY,aZ,ba,bb,bc,bd,be,bf,bg,bh,bi,bj,bk,bm,bn,bo,bp,bq,br,bs,bt,bu,bv,bw,bx,bz,bA,bB,bC,bD,bE,bF,bG,bH,bI,bJ,bK,bL,bM,bN,bO,bP,bQ,bR,bS,bT,bU,bV,bW,bX,bY,bZ,ca,cb,cc,ce,cf,cg,ch,ci,cj,ck,cl,cm,cn,co,cp,cq,cr,cs,ct,cu,cv,cw,cx,cy,cz],[]⟩ W:=by
 have M:=iV hQ;clear hQ;have F:=iV hB;have H:=iV hR0;have D:=iV hec;obtain⟨I,z⟩:∃ I,W=I:=⟨_,rfl⟩
 rw[z] at F |-;clear hB hR0 hec z
 conv=>arg 2;whnf
 by_cases y:ec=0
 ·have q:(ec != 0)=false:=by simp[y]
  have E:qU a b p=[]:=IJ.2 (D.out.trans y);have K:Hid (lN T w I kb mb a b ms v (R0++qU a b p) (p.setVer (ke (trans a b p.ver).1))):=by show lN _ _ _ _ _ _ _ _ _ _ _;rw[E,List.append_nil];exact F.out
  clear y E;go_wp2_with fail;exact M.out _ _ _ _ _ ⟨v,K.out⟩
 ·have q:(ec != 0)=true:=by simpa [bne] using y
  have E:Hid (qU a b p=[⟨p.nm,yP,11⟩]):=by show _=_;unfold qU;rw[if_neg (by rw[D.out];exact y)]
  clear y;go_wp2_with fail;refine(qI F.out (by have:=H.out;omega) p.nm yP 11 rfl).mono ?_;rintro e O ⟨rfl,N,J⟩;rw[<-E.out] at J;have K:=iV J;clear J;go_wp2_with fail;exact M.out _ _ _ _ _ ⟨N,K.out⟩
theorem jn.alike.symm {p q:jn}(h:p.alike q):q.alike p:=⟨h.nm.symm,h.ver.symm,h.ar.symm,h.sm.symm,h.needs.symm,h.bars.symm,h.gives.symm,h.files.symm,h.scripts.symm⟩
theorem yS {kn:List kV}{p q:jn}(h:p.alike q)(hc:oG a b kn p):oG a b kn q:=by
 obtain⟨Y,I,X,Z,z,y,U,J,K⟩:=h;obtain⟨D,F,N,V,M⟩:=hc;refine⟨by rw[<-I];exact D,?_,by rw[<-U];exact N,by rw[<-J];exact V,by rw[<-K];exact M⟩;have e:lB a q=lB a p:=by unfold lB;rw[z,y]
 obtain⟨R,O,H⟩:=F;exact⟨by rw[<-z];exact R,by rw[<-y];exact O,by rw[e];exact H⟩
theorem yT {kn:List kV}{p q:jn}(h:p.alike q)(hc:vk a b kn p):vk a b kn q:=by
 obtain⟨X,U,V,Y,z,y,O,H,I⟩:=h;obtain⟨D,K,R,J⟩:=hc;refine⟨?_,by rw[<-O];exact K,by rw[<-H];exact R,by rw[<-I];exact J⟩;have e:lB a q=lB a p:=by unfold lB;rw[z,y]
 obtain⟨N,M,F⟩:=D;exact⟨by rw[<-z];exact N,by rw[<-y];exact M,by rw[e];exact F⟩
theorem Qn {kn:List kV}{p q x:jn}(h:p.alike q)(hc:xj a b kn p x):xj a b kn q x:=by
 obtain⟨N,I,h3,V,R,K,X,M,O⟩:=h;obtain⟨z,F,U,D,Y,Z,y,J,H⟩:=hc;have e:lB a q=lB a p:=by unfold lB;rw[R,K]
 exact⟨by rw[<-N];exact z,by rw[<-I];exact F,by rw[<-h3];exact U,by rw[<-V];exact D,by rw[e];exact Y,by rw[e];exact Z,by rw[<-X];exact y,by rw[<-M];exact J,by rw[<-O];exact H⟩
theorem pJ {bars:Bool}{f:LU->Bool}{l:List BA}(h:nw fmt bars f l=true):l.length<=64:=by
 unfold nw at h;rw[Bool.and_eq_true,decide_eq_true_eq] at h;exact Nat.le_trans h.1 (Ls fmt bars)
theorem Zx {p:jn}(h:Ad fmt p)(hw:sW p<=1000000):p.able:=by
 refine⟨jn.small_of hw,Nat.le_trans (pJ h.needs) (by decide),Nat.le_trans (pJ h.bars) (by decide),?_,?_⟩
 ·have:=h.gives;unfold oY at this;rw[Bool.and_eq_true,decide_eq_true_eq] at this;omega
 ·have:=h.files;unfold kR at this;split at this
  ·cases this
  ·omega
theorem Qo {p q:jn}(h:p.alike q)(ha:p.able):q.able:=by
 obtain⟨h1,X,h3,h4,Z,h6,h7,h8,h9⟩:=h;obtain⟨nm,ver,ar,sm,na,nc,K,ba,bc,Y,ga,gc,V,fa,fc,U,sa,sc,z⟩:=p;obtain⟨ak,aa,ai,ah,ad,af,H,ae,ab,R,ag,am,D,an,al,F,aj,ac,y⟩:=q;simp only at h1 X h3 h4 Z h6 h7 h8 h9;subst h1 X h3 h4 Z h6 h7 h8 h9;obtain⟨⟨s1,s2,s3,s4,s5,s6,s7,s8,s9,O,J,N,I,M⟩,a2,a3,a4,a5⟩:=ha;exact⟨⟨s1,s2,s3,s4,s5,s6,s7,s8,s9,O,J,N,I,M⟩,a2,a3,a4,a5⟩
theorem Be (n:Int)(w:World):Calls Tryz.prog 23 #[.int .i64 n] w fun e w'=>e=.returned (.bool (decide (lE n)))/\w=w':=by
 go_in;go_wp2
 all_goals (go_ret;refine⟨iW ?_,rfl⟩;rw[bI];simp[lE];omega)
theorem XH {ans:jn->BA×Int}{fo:Bool}{l:List jn}(h:(BL ans fo l).2.2=0):l.length<=128/\fo=true:=by
 unfold BL at h;split at h
 ·cases h
 ·rename_i y;split at h
  ·cases h
  ·exact⟨by omega,by simpa using y⟩
def LpP (a b:Int)(kn:List kV)(l:List jn)(k:Nat)(R:List ky)(os:List jn):Prop:=
 os.length=k/\R.length<=601*k/\(R=[]↔∀ p∈l.take k,oG a b kn p)/\(R=[]->ng a b kn (l.take k) os)/\∀ p,l=[p]->k=1->∃ bs,R=qU a b p++bs/\(bs=[]↔vk a b kn p)
theorem LpP.start (a b:Int)(kn:List kV)(l:List jn):LpP a b kn l 0 [] []:=
 ⟨rfl,z0,by simp,fun _=>by rw[List.take_zero];exact .nil a b kn,fun p _ h=>by cases h⟩
theorem LpP.next {kn:List kV}{l:List jn}{k:Nat}{R:List ky}{os:List jn}(h:LpP a b kn l k R os){p q:jn}(hp:l[k]?=some p){bs:List ky}(hb:bs=[]↔vk a b kn p)(hl:bs.length<=600)
  (hc:(trans a b p.ver).2=0->bs=[]->xj a b kn p q):LpP a b kn l (k+1) (R++(qU a b p++bs)) (os++[q]):=by
 obtain⟨I,X,U,K,Z⟩:=h;have Y:=MZ a b p;have ht:l.take (k+1)=l.take k++[p]:=by rw[List.take_add_one,hp];rfl
 have e:R++(qU a b p++bs)=[]↔R=[]/\(trans a b p.ver).2=0/\bs=[]:=by
  rw[List.append_eq_nil_iff,List.append_eq_nil_iff,IJ]
 refine⟨by rw[List.length_append,I];rfl,by rw[List.length_append,List.length_append];omega,?_,fun F=>?_,fun M z V=>?_⟩
 ·rw[e,ht,U,hb,<-Ze];constructor
  ·rintro⟨a1,a2⟩ x y;rcases List.mem_append.1 y with y | y
   ·exact a1 x y
   ·rw[List.mem_singleton.1 y];exact a2
  ·intro y;exact⟨fun x H=>y x (List.mem_append_left _ H),y p (List.mem_append_right _ (List.mem_singleton.2 rfl))⟩
 ·obtain⟨O,N,J⟩:=e.1 F;rw[ht];exact(K O).snoc (hc N J)
 ·have D:k=0:=by omega
  subst D;have F:R=[]:=List.eq_nil_of_length_eq_zero (by omega);rw[z] at hp;have:M=p:=by simpa using hp
  subst this;exact⟨bs,by rw[F];rfl,hb⟩
theorem IS (h:kf fmt s=0):s.size<=64:=by
 unfold kf at h;split at h
 ·cases h
 ·split at h
  ·cases h
  ·omega
theorem xv {l:List jf}(h:oY fmt l=true):l.length<=32/\∀ g∈l,g.ver.size<=64:=by
 unfold oY at h;rw[Bool.and_eq_true,decide_eq_true_eq,List.all_eq_true] at h;refine⟨h.1,fun g z=>?_⟩;have:=h.2 g z;unfold tG at this;rw[Bool.and_eq_true] at this;have y:=this.2;split at y
 ·have:=dO y;omega
 ·rw[Bool.and_eq_true,decide_eq_true_eq,decide_eq_true_eq] at y;exact IS y.2
theorem IT {l:List jg}(h:(kR fmt l).2=0):l.length<=512:=by
 unfold kR at h;split at h
 ·cases h
 ·omega
theorem Nj {l:List jy}(h:lH fmt l=0):l.length<=7:=by
 unfold lH at h;split at h
 ·cases h
 ·omega
theorem tR {p:jn}(h:Ad fmt p):p.few:=by
 have z:=Nat.le_trans (pJ h.needs) (by decide:64<=100000);have y:=Nat.le_trans (pJ h.bars) (by decide:64<=100000);have H:=(xv h.gives).1;have F:=IT h.files;have D:=Nj h.scripts;exact⟨z,y,by omega,by omega,by omega⟩
theorem XS {p:jn}(h:sW p<=100000):p.few:=by
 unfold sW mz kT mY my mO at h;have F:=qg (fun s:BA=>1+s.size) (fun _=>by omega) p.needs;have z:=qg (fun s:BA=>1+s.size) (fun _=>by omega) p.bars;have H:=qg (fun x:jf=>1+x.nm.size+x.ver.size) (fun _=>by omega) p.gives;have y:=qg (fun x:jg=>1+x.path.size+x.owner.size+x.group.size+x.link.size+x.sum.size) (fun _=>by omega) p.files;have D:=qg (fun x:jy=>1+x.body.size) (fun _=>by omega) p.scripts;exact⟨by omega,by omega,by omega,by omega,by omega⟩
theorem aaS {q:jn}(h:nT q w lo):q.ok w:=⟨jL h.needs,jL h.bars,jL h.gives,jL h.files,jL h.scripts⟩
theorem Qu {O:Option Addr}{co lo2:Nat}{qs:List jn}(h:w.ownsRow lo 38 9 (.slice O qs.length co) qs.length (qs.flatMap jn.cells))(ho:∀ q∈qs,nT q w lo2):tU w O qs:=
 ⟨jL h,fun q y=>aaS (ho q y)⟩
def ZB (l:List jn)(kn:List kV):Prop:=(l.length<=40/\vL l<=10000)/\kn.length<=100/\∀ k∈kn,k.small
theorem Bg (A:Option Addr)(c:Nat)(l:List jn)(AK:Option Addr)(cK:Nat)(kn:List kV)(w:World)(hd:tU w A l)(hf:∀ p∈l,p.fits)(hl:l.length<=9223372036854775807)(hk:Rd w 5 AK kn.length (kn.flatMap kV.cells))(hkf:∀ k∈kn,k.fits)(hkl:kn.length<=9223372036854775807):Calls Tryz.prog 7 #[.slice A l.length c,.slice AK kn.length cK] w (Ni (ZB l kn) w):=by
 have M:=iV hd;have U:=iV hf;have V:=iV hk;have I:=iV hkf;clear hd hf hk hkf;go_in;go_wp2_with fail;refine(R9 A c l 40 (by decide) 10000 (by decide) (by decide) w M.out U.out hl).mono ?_;rintro e N ⟨⟨R,rfl,z⟩,y⟩;have F:=iV y;have H:=iV z;clear y z;cases R
 ·go_wp2;go_ret;exact oH F.out
 ·go_wp2_with fail;refine(Fy AK cK kn N (V.out.below F.out) I.out hkl).mono ?_;rintro e X ⟨b,rfl,J,D⟩;have O:=iV (jc F.out D);have K:=iV J;clear D J;go_wp2;go_ret;exact⟨b,rfl,fun h=>⟨by have:=H.out (by first | rfl | trivial);exact⟨this.1,by omega⟩,K.out h⟩,O.out⟩
theorem Nn (sep:LU):∀ (l:List (LU)),(Lib.join l sep).length<=(l.map fun s=>s.length+sep.length).sum
 | []=>by simp[Lib.join,List.intercalate]
 | [a]=>by simp[Lib.join,List.intercalate]
 | a::c::r=>by
  have y:=Nn sep (c::r);have e:Lib.join (a::c::r) sep=a++sep++Lib.join (c::r) sep:=by simp[Lib.join,List.intercalate,List.intersperse]
  rw[e,List.length_append,List.length_append,List.map_cons,List.sum_cons];omega
theorem FD {m:Nat}(f:jA->Nat):∀ (l:List jA),(∀ d∈l,f d<=d.alts.length*m)->(l.map f).sum<=jt l*m
 | [],_=>by simp
 | d::r,h=>by
  have D:=h d (by simp);have z:=FD f r (fun x y=>h x (List.mem_cons_of_mem _ y));have e:jt (d::r)=d.alts.length+jt r:=by unfold jt;rw[List.map_cons,List.sum_cons]
  rw[List.map_cons,List.sum_cons,e,Nat.add_mul];omega
theorem FE (bar:Bool):∀ l:List jA,jt (jY bar l)<=jt l
 | []=>Nat.le_refl _
 | d::r=>by
  have y:=FE bar r;unfold jt jY at y |-;rw[List.filter_cons];split
  ·rw[List.map_cons,List.sum_cons,List.map_cons,List.sum_cons];omega
  ·rw[List.map_cons,List.sum_cons];omega
def Qv (l:List (LU)):Nat:=(l.map fun s=>1+s.length).sum
theorem J9 (hf:lE fmt){out:List jA}(h:∀ d∈out,d.told fmt)(hc:jt out<=64)(bar:Bool):Qv (kE fmt bar out)<=20000:=by
 have N:out.length<=64:=Nat.le_trans (qG fun d H=>(h d H).ne) hc;have O:=FE bar out;have one:∀ t:LU,t.length<=19999->Qv [t]<=20000:=fun t ht=>by unfold Qv;simp;omega
 unfold kE;rcases hf with rfl | rfl | rfl
 ·rw[if_pos rfl];split
  ·exact z0
  ·refine one _ ?_;unfold lO;refine Nat.le_trans (Nn [44,32] _) ?_;rw[List.map_map,List.map_map];refine Nat.le_trans (FD (m:=205) _ _ (fun d H=>?_)) (by omega);have I:=(mi H).1;have V:=List.length_pos_iff.2 (h d I).ne;have M:=pZ [32,124,32] 200 ((d.alts.map tN).map kP.text) (fun y J=>by
    obtain⟨z,K,rfl⟩:=List.mem_map.1 J;obtain⟨a,R,rfl⟩:=List.mem_map.1 K;exact IV ((h d I).each a R))
   simp only[List.length_map,List.length_cons,List.length_nil] at M;simp only[Function.comp,List.length_cons,List.length_nil];omega
 ·rw[if_neg (by decide),if_pos rfl];unfold Qv;rw[List.map_map];refine Nat.le_trans (FD (m:=300) _ _ (fun d H=>?_)) (by omega);have I:=(mi H).1;have D:=h d I;obtain⟨b,F⟩:=d
  match F,D with
  | [],D=>exact absurd rfl D.ne
  | [g],D=>
   have:=Ap (D.each g (by simp));show 1+(jX (lh g)).length<=_;simp only[List.length_cons,List.length_nil];omega
  | g::g2::r,D=>
   have U:=xw (g::g2::r) 0 D.each;show 1+(jX (.node mW ((g::g2::r).map lh))).length<=_;simp only[jX,List.length_append,List.length_cons,List.length_nil] at U |-;omega
 ·rw[if_neg (by decide),if_neg (by decide)];split
  ·exact z0
  ·refine one _ ?_;unfold mf;have M:=pZ [32] 200 ((out.map qk).map mo.text) (fun y J=>by
    obtain⟨z,K,rfl⟩:=List.mem_map.1 J;obtain⟨d,H,rfl⟩:=List.mem_map.1 K;have D:=h d H;obtain⟨b,F⟩:=d
    match F,D with
    | [],D=>exact absurd rfl D.ne
    | g::r,D=>exact IW b (D.each g (by simp)))
   refine Nat.le_trans M ?_;simp only[List.length_map,List.length_cons,List.length_nil];omega
theorem IX {l:List jA}(h:za fmt l=0)(bar:Bool):Qv (xz fmt bar l)<=20000:=by
 obtain⟨z,y,D⟩:=Nk h;exact J9 z y D bar
theorem No (l:List BA):kT l=Qv (l.map bl):=by
 unfold kT Qv;rw[List.map_map];congr 1
 try exact List.map_congr_left fun s _=>by simp[iX]
theorem FF {α:Type}{f g:α->Nat}{m:Nat}:∀ (l:List α),(∀ x∈l,g x<=f x+m)->(l.map g).sum<=(l.map f).sum+l.length*m
 | [],_=>by simp
 | a::r,h=>by
  have D:=h a (by simp);have z:=FF (f:=f) (g:=g) (m:=m) r (fun x y=>h x (List.mem_cons_of_mem _ y));rw[List.map_cons,List.sum_cons,List.map_cons,List.sum_cons,List.length_cons,Nat.succ_mul];omega
theorem XW (hb:lE b)(h:pG b s=true):s.size<=64:=by
 unfold pG at h;rw[Bool.and_eq_true,decide_eq_true_eq] at h;rw[h.1];rcases hb with rfl | rfl | rfl<;>decide
theorem Qw (hb:lE b){kn:List kV}(f:jg):(lD a b kn f).size<=f.sum.size+64:=by
 unfold lD;split
 ·omega
 ·split
  ·rename_i k y;have:=XW hb (qL y).2.1;omega
  ·show(0:Nat)<=_;omega
theorem UY (hf:lE fmt)(h:pR fmt s=true):s.size<=16:=by
 unfold pR at h;rw[decide_eq_true_eq] at h;rcases h with rfl | rfl | rfl<;>rcases hf with rfl | rfl | rfl<;>decide
theorem Bh {kn:List kV}{p q:jn}(h:oG a b kn p)(hc:xj a b kn p q)(hp:Ad a p)(hq:Ad b q):sW q<=sW p+100000:=by
 have V:q.nm.size=p.nm.size:=by rw[hc.nm]
 have O:=IS hq.ver;have N:=UY hq.isf hq.arch;have J:q.sm.size=p.sm.size:=by rw[hc.sm]
 have U:kT q.needs<=20000:=by rw[No,hc.needs];exact IX h.deps.toZ false
 have H:kT q.bars<=20000:=by rw[No,hc.bars];exact IX h.deps.toZ true
 obtain⟨R,y⟩:=xv hq.gives;have K:mY q.gives<=mY p.gives+p.gives.length*64:=by
  rw[hc.gives] at y |-;unfold mY;rw[List.map_map];refine FF p.gives (fun x z=>?_);have:=y _ (List.mem_map_of_mem z);show 1+x.nm.size+(sM a b x).ver.size<=_;omega
 have I:my q.files<=my p.files+p.files.length*64:=by
  rw[hc.files];unfold my;rw[List.map_map];refine FF p.files (fun x z=>?_);have:=Qw (a:=a) hq.isf (kn:=kn) x;show 1+x.path.size+x.owner.size+x.group.size+x.link.size+(lD a b kn x).size<=_;omega
 have M:=IT hp.files;have D:=(xv hp.gives).1;have F:mO q.scripts=mO p.scripts:=by rw[hc.scripts]
 unfold sW mz;omega
theorem IY {a b:Int}{kn:List kV}:∀ {l x:List jn},ng a b kn l x->(∀ p∈l,oG a b kn p)->(∀ p∈l,Ad a p)->(∀ q∈x,Ad b q)->vL x<=vL l+l.length*100000
 | [],[],_,_,_,_=>z0
 | [],q::x,h,_,_,_=>by have:=h.len;simp at this
 | p::l,[],h,_,_,_=>by have:=h.len;simp at this
 | p::l,q::x,h,ht,hp,hq=>by
  obtain⟨F,D⟩:=h.cons_inv;have i:=IY D (fun y z=>ht y (List.mem_cons_of_mem _ z)) (fun y z=>hp y (List.mem_cons_of_mem _ z)) (fun y z=>hq y (List.mem_cons_of_mem _ z));have k:=Bh (ht p (by simp)) F (hp p (by simp)) (hq q (by simp));unfold vL at i |-;rw[List.map_cons,List.sum_cons,List.map_cons,List.sum_cons,List.length_cons,Nat.succ_mul];omega
theorem FG {kn:List kV}{l x:List jn}(h:ng a b kn l x)(ht:∀ p∈l,oG a b kn p)(hp:∀ p∈l,Ad a p)(hq:∀ q∈x,Ad b q)(hl:l.length<=40)(hw:vL l<=10000):vL x<=10000000/\∀ q∈x,sW q<=1000000:=by
 refine⟨by have:=IY h ht hp hq;omega,fun q z=>?_⟩;obtain⟨i,F⟩:=List.mem_iff_getElem?.1 z;obtain⟨p,D⟩:∃ p,l[i]?=some p:=⟨_,gG (by rw[<-h.len];exact(gS F).1)⟩
 have y:=gM D;have:=Bh (ht p y) (h.each i p q D F) (hp p y) (hq q z);have:=vx y;omega
end
end Go.Proofs.YtkmjcombhjombaaGreatDoor
