/- A part of the proof. -/
import Derived.Test.YtkmjcombhjombaaGreatDoorK23
set_option maxRecDepth 100000
set_option maxHeartbeats 20000000
set_option linter.unusedVariables false
set_option linter.unusedSimpArgs false
namespace Go.Proofs.YtkmjcombhjombaaGreatDoor
variable{Q:Exit->Act->World->Prop}{a b:Int}{kb mb:Nat}{T:Nat->Prop}{aA aB aC aD aE aF aG aH aI aJ aK aL aM aN aO aP aQ aR aS aT aU aV aW aX aY aZ aa ab ac ad ae af ag ah ai aj ak al am an ao ap aq ar au av ax ay az bA bB bC bD bE bF bG bH bI bJ bK bL bM bO bP bQ bR bS bT bU bV bW bX bY bZ ba bb bc bd be bf bg bh bi bj bk bm bn bo bp bq br bs bt bu bv bw bx bz c0 c1 c6 c7 c8 c9 cA cB cC cD cE cF cG cH cI cJ cK cL cM cN cO cP cQ cR cS cT cU cV cW cX cY cZ ca cb cc ce cg ch ci cj ck cl cm cn co cp cq cr cs ct cu cv cw cx cy cz dA dB dC dD dE dF dG dH dI dJ dK dL dM dN dO dP dQ dR dS dT dU dV dW dX dY dZ da db dc de df dg dh di dj dk dl dm dn dp dq dr ds dt du dv dw dx dy dz ea eb ec ed ee ef eg eh ei ej ek el em en v:Value}{W w wr:World}
section
open Go.RowKit
structure CvI (T:Nat->Prop) (w:World) (kb mb:Nat) (a b:Int) (ms:List ql) (v:Value) (R:List ky) (q:jn):Prop where
 lt:kb<w.heap.size
 ml:mb<kb
 tl:∀ g,T g->g<w.heap.size
 tk:T kb
 tv:∀ g,v.ownBlock=some g->T g
 tg:∀ g,(q.sl 2).ownBlock=some g->T g
 tf:∀ g,(q.sl 3).ownBlock=some g->T g
 kv:jh w kb (U9 a b (.map (some mb)) v)
 rf:w.ownsRow (kb+1) 49 3 v R.length (R.flatMap ky.cells)
 mp:mj w mb ms
 own:nT q w (kb+1)
structure jn.able (p:jn):Prop where
 small:p.small
 needs:p.needs.length<=1000
 bars:p.bars.length<=1000
 gives:p.gives.length<=1000
 files:p.files.length<=512
theorem lN.noV {ms:List ql}{R:List ky}{q:jn}(h:lN T w wr kb mb a b ms v R q):v.ownBlock≠some w.heap.size/\v.ownBlock≠some (w.heap.size+1):=by
 constructor
 ·intro e;rcases h.tv _ e with y | y
  ·have:=h.tl _ y;omega
  ·omega
 ·intro e;rcases h.tv _ e with y | y
  ·have:=h.tl _ y;omega
  ·omega
theorem qI {ms:List ql}{R:List ky}{q:jn}(h:lN T w wr kb mb a b ms v R q)(hR:R.length<=1000000)(nm what:BA)(code:Int)(hn:q.nm=nm):Calls Tryz.prog 46 #[.string what,.int .i64 code,.pointer (some ⟨w.heap.size,0,none⟩),.pointer (some ⟨w.heap.size+1,0,none⟩)] wr fun e w'=>e=.returned (.tuple #[])/\∃ v',lN T w w' kb mb a b ms v' (R++[⟨nm,what,code⟩]) q:=
 (Fm a b (.map (some mb)) v kb w.heap.size R nm what code _ wr h.kv h.rf hR h.box (by have:=h.pk;unfold jn.cells at this;rw[hn] at this;exact this) h.noV.1 h.noV.2).mono fun _ _ ⟨y,z⟩=>⟨y,h.ref z⟩
theorem lN.base {w0:World}{ms:List ql}{R:List ky}{q:jn}(h:lN T w wr kb mb a b ms v R q)(hb:Below w0.heap.size w0 w)(ht:∀ g,T g->w0.heap.size<=g):Below w0.heap.size w0 wr:=
 ⟨h.kp.os.trans hb.os,h.kp.tape.trans hb.tape,h.kp.output.trans hb.output,Nat.le_trans hb.size h.kp.size,fun k y=>(h.kp.block k (Nat.lt_of_lt_of_le y hb.size) (fun e=>by have:=ht k e;omega)).trans (hb.block k y)⟩
theorem Xy (w:World):Below w.heap.size w w.drew:=⟨rfl,rfl,rfl,lr,fun _ _=>rfl⟩
def vm:List Nat->Code->Code
 | [],c=>c
 | 0::r,.seq x _=>vm r x
 | 1::r,.seq _ y=>vm r y
 | 2::r,.block _ x=>vm r x
 | 2::r,.loop x=>vm r x
 | 2::r,.scope x=>vm r x
 | 3::r,.cond _ x _=>vm r x
 | 4::r,.cond _ _ y=>vm r y
 | _,_=>.skip
noncomputable def cd (p:List Nat):Code:=vm p (Tryz.f26.body.getD .skip)
theorem XD {ms:List ql}{R:List ky}{q:jn}{fb:Nat}{f:jg}{sm:BA}{kn:List kV}{c4:Value}(hb:lE b)(ho:f.owner.size<=9223372036854775807)(hg:f.group.size<=9223372036854775807)(hsm:sm=lD a b kn f)(hF:jh W fb f.cells)(hB:lN T w W kb mb a b ms v R q)
  (hQ:∀ (eo ep eq er es et eu ev ew ex ey ez eA eB eC eD eE eF eG eH eI eJ eK eL eM eN eO eP eQ eR eS eT eU eV eW eX eY bN:Value)(wx:World),(∃ bad:Bool,bN=.bool bad/\(bad=false↔oZ a b kn f)/\lN T w wx kb mb a b ms v R q/\jh wx fb f.cells)->Q .normal ⟨#[c0,c1,.pointer (some ⟨w.heap.size,0,none⟩),.pointer (some ⟨w.heap.size+1,0,none⟩),c4,.func (Fn.func 46) #[] #[.pointer (some ⟨w.heap.size,0,none⟩),.pointer (some ⟨w.heap.size+1,0,none⟩)],c6,c7,c8,c9,bO,bP,bQ,bR,bS,bT,bU,bV,.pointer (some ⟨fb,0,none⟩),.string sm,bW,bX,bY,bZ,ca,cb,cc,ce,cg,ch,ci,cj,ck,cl,cm,cn,co,cp,cq,cr,cs,ct,cu,cv,cw,cx,cy,cz,cA,cB,cC,cD,cE,cF,cG,cH,cI,cJ,cK,cL,cM,cN,cO,cP,cQ,cR,cS,cT,cU,cV,cW,cX,cY,cZ,da,db,dc,de,df,dg,dh,di,dj,dk,dl,dm,dn,dp,dq,dr,ds,dt,du,dv,dw,dx,dy,dz,dA,dB,aa,ab,ac,ad,ae,af,ag,ah,ai,aj,ak,al,am,an,ao,ap,aq,ar,au,av,ax,ay,az,aA,aB,aC,aD,aE,aF,aG,aH,aI,aJ,aK,aL,aM,aN,aO,aP,aQ,aR,aS,aT,aU,aV,aW,aX,aY,aZ,ba,bb,bc,bd,be,bf,bg,bh,bi,bj,bk,bm,bn,bo,bp,bq,br,bs,bt,eo,ep,eq,er,es,et,eu,ev,ew,ex,ey,ez,eA,eB,eC,eD,eE,eF,eG,eH,eI,eJ,eK,eL,eM,eN,eO,eP,eQ,eR,eS,eT,eU,eV,eW,eX,eY,bN,bu,bv,bw,bx,bz,bA,bB,bC,bD,bE,bF,bG,bH,bI,bJ,bK,bL,bM],[]⟩ wx):
  Code.wp Tryz.prog (cd [1,1,1,1,1,1,1,1,1,1,1,0,1,2,2,1,1,0,2,1,1,0,0]) Q ⟨#[c0,c1,.pointer (some ⟨w.heap.size,0,none⟩),.pointer (some ⟨w.heap.size+1,0,none⟩),c4,.func (Fn.func 46) #[] #[.pointer (some ⟨w.heap.size,0,none⟩),.pointer (some ⟨w.heap.size+1,0,none⟩)],c6,c7,c8,c9,bO,bP,bQ,bR,bS,bT,bU,bV,.pointer (some ⟨fb,0,none⟩),.string sm,bW,bX,bY,bZ,ca,cb,cc,ce,cg,ch,ci,cj,ck,cl,cm,cn,co,cp,cq,cr,cs,ct,cu,cv,cw,cx,cy,cz,cA,cB,cC,cD,cE,cF,cG,cH,cI,cJ,cK,cL,cM,cN,cO,cP,cQ,cR,cS,cT,cU,cV,cW,cX,cY,cZ,da,db,dc,de,df,dg,dh,di,dj,dk,dl,dm,dn,dp,dq,dr,ds,dt,du,dv,dw,dx,dy,dz,dA,dB,aa,ab,ac,ad,ae,af,ag,ah,ai,aj,ak,al,am,an,ao,ap,aq,ar,au,av,ax,ay,az,aA,aB,aC,aD,aE,aF,aG,aH,aI,aJ,aK,aL,aM,aN,aO,aP,aQ,aR,aS,aT,aU,aV,aW,aX,aY,aZ,ba,bb,bc,bd,be,bf,bg,bh,bi,bj,bk,bm,bn,bo,bp,bq,br,bs,bt,dC,dD,dE,dF,dG,dH,dI,dJ,dK,dL,dM,dN,dO,dP,dQ,dR,dS,dT,dU,dV,dW,dX,dY,dZ,ea,eb,ec,ed,ee,ef,eg,eh,ei,ej,ek,el,em,en,bu,bv,bw,bx,bz,bA,bB,bC,bD,bE,bF,bG,bH,bI,bJ,bK,bL,bM],[]⟩ W:=by
 have HQ:=iV hQ;clear hQ;have Z:=iV hB;have Y:=iV hF;have fG:=iV hb;obtain⟨W1,fu⟩:∃ W1,W=W1:=⟨_,rfl⟩
 rw[fu] at Z Y |-;obtain⟨o1,fm⟩:∃ o,nV b f.owner=o:=⟨_,rfl⟩
 obtain⟨o2,fq⟩:∃ o,nV b f.group=o:=⟨_,rfl⟩
 have O1:=iV fun W=>(su b f.owner W ho).mono fun (e:Ending) (w':World) (h:e=.returned (.bool (nV b f.owner))/\W=w')=>(⟨by rw[h.1,fm],h.2.symm⟩:e=.returned (.bool o1)/\w'=W)
 have O2:=iV fun W=>(su b f.group W hg).mono fun (e:Ending) (w':World) (h:e=.returned (.bool (nV b f.group))/\W=w')=>(⟨by rw[h.1,fq],h.2.symm⟩:e=.returned (.bool o2)/\w'=W)
 obtain⟨cf,fk⟩:∃ c,f.conf=c:=⟨_,rfl⟩
 obtain⟨t3,fC⟩:∃ t,(b==3)=t:=⟨_,rfl⟩
 obtain⟨t1,fA⟩:∃ t,(f.kind==1)=t:=⟨_,rfl⟩
 obtain⟨ts,fD⟩:∃ t,sm.toList.isEmpty=t:=⟨_,rfl⟩
 have HP:Hid (oZ a b kn f↔o1=true/\o2=true/\¬ (cf=true/\t3=true)/\(t1=true->ts=false)):=by
  show _↔_;unfold oZ;rw[fm,fq,fk,<-fC,<-fA,<-fD,hsm];simp only[beq_iff_eq];have e:((lD a b kn f).size≠0)↔(lD a b kn f).toList.isEmpty=false:=by
   rw[iY,jB];simp
  rw[e]
 have k0:=Z.out.box.cell 0 _ rfl;have k1:=Z.out.kv.cell 1 _ rfl;have f1:=Y.out.cell 1 _ rfl;have f3:=Y.out.cell 3 _ rfl;have f4:=Y.out.cell 4 _ rfl;have f7:=Y.out.cell 7 _ rfl;rw[fk] at f7;clear hB hF hb fu ho hg fm fq fk hsm;refine wp_mono (Q:=Exit.then (fun a w=>Q .normal a w) fun _ _ _=>False) ?_ (fun e a w h=>by cases e<;>first | exact h | exact h.elim)
 conv=>arg 2;whnf
 refine abo fun O F=>?_;have p0:=lC (k:=0) F rfl;have p1:=lC (k:=1) F rfl;have p2:=lC (k:=2) F rfl;have p3:=lC (k:=3) F rfl;have p4:=lC (k:=4) F rfl;have p5:=lC (k:=5) F rfl;have p6:=lC (k:=6) F rfl;have p7:=lC (k:=7) F rfl;have U:=lC (k:=8) F rfl;have p9:=lC (k:=9) F rfl;have fz:=lC (k:=10) F rfl;have fx:=lC (k:=11) F rfl;have ft:=lC (k:=12) F rfl;have fv:=lC (k:=13) F rfl;have fy:=lC (k:=14) F rfl;have fw:=lC (k:=15) F rfl;have fs:=lC (k:=16) F rfl;have fl:=lC (k:=17) F rfl;have I:=lC (k:=18) F rfl;have fp:=lC (k:=19) F rfl;have fn:=lC (k:=20) F rfl;have D:=lC (k:=21) F rfl;have fj:=lC (k:=22) F rfl;have fi:=lC (k:=23) F rfl;have fh:=lC (k:=24) F rfl;have fg:=lC (k:=25) F rfl;have ff:=lC (k:=26) F rfl;have eZ:=lC (k:=27) F rfl;have fe:=lC (k:=28) F rfl;have z:=lC (k:=29) F rfl;have fd:=lC (k:=30) F rfl;have fa:=lC (k:=31) F rfl;have fc:=lC (k:=32) F rfl;have H:=lC (k:=33) F rfl;have V:=lC (k:=34) F rfl;have X:=lC (k:=35) F rfl;have M:=lC (k:=36) F rfl;have N:=lC (k:=37) F rfl;have ok:∀ k,k<38->Qi O k=true:=by
  have h:(List.range 38).all (Qi O)=true:=by rw[F];kernel_rfl
  intro k hk;exact List.all_eq_true.1 h k (List.mem_range.2 hk)
 have y:Region.noSelect O=true:=by rw[F];kernel_rfl
 have r6:Region.ready .any O (lst O.size 6)=[6]:=by rw[F];kernel_rfl
 have fF:Region.ready .any O (lst O.size 15)=[15]:=by rw[F];kernel_rfl
 have J:Region.ready .any O (lst O.size 38)=[]:=by rw[F];kernel_rfl
 have fB:O.size=38:=by rw[F];rfl
 clear F;refine aaI (S:=fun w'=>w'.cell? ⟨w.heap.size,0,none⟩=some (.pointer (some ⟨kb,0,none⟩))/\w'.cell? ⟨kb,1,none⟩=some (.int .i64 b)/\w'.cell? ⟨fb,1,none⟩=some (.int .i64 f.kind)/\w'.cell? ⟨fb,3,none⟩=some (.string f.owner)/\w'.cell? ⟨fb,4,none⟩=some (.string f.group)/\w'.cell? ⟨fb,7,none⟩=some (.bool cf)) (by kernel_rfl) ?_ (fun fE=>?_)
 ·exact⟨k0,k1,f1,f3,f4,f7⟩
 rw[show wpAnyH _ _ O _ _ O.size=wpAnyH _ _ O _ _ 38 by rw[fB]];refine' kS ok y p0 ?_
 (try simp only[sA,sB,sC])
 refine' kS ok y p1 ?_
 (try simp only[sA,sB,sC])
 refine' kS ok y p2 ?_
 (try simp only[sA,sB,sC])
 refine' kS ok y p3 ?_
 (try simp only[sA,sB,sC])
 refine' kS ok y p4 ?_
 (try simp only[sA,sB,sC])
 refine' kS ok y p5 ?_
 (try simp only[sA,sB,sC])
 refine' ZR (k:=6) (j:=174) (v:=.bool o1) r6 p6 rfl (by unfold Region.wanted;rfl) (by assumption) ?hy7 ?rr7
 case hy7=>
  intro K hK;go_simp;refine(O1.out _).mono ?_;rintro e w2 ⟨rfl,rfl⟩
  (try go_simp)
  exact hK
 (try simp only[sA,sB,sC])
 refine' kS ok y p7 ?_
 (try simp only[sA,sB,sC])
 refine' kS ok y U ?_
 (try simp only[sA,sB,sC])
 cases o1
 ·skip
  refine' jP ok y p9 U ?_
  (try simp only[sA,sB,sC])
  refine' jP ok y fz U ?_
  (try simp only[sA,sB,sC])
  refine' jP ok y fx U ?_
  (try simp only[sA,sB,sC])
  refine' jP ok y ft U ?_
  (try simp only[sA,sB,sC])
  refine' jP ok y fv U ?_
  (try simp only[sA,sB,sC])
  refine' jP ok y fy U ?_
  (try simp only[sA,sB,sC])
  refine' jP ok y fw U ?_
  (try simp only[sA,sB,sC])
  refine' jP ok y fs U ?_
  (try simp only[sA,sB,sC])
  refine' kS ok y fl ?_
  (try simp only[sA,sB,sC])
  refine' kS ok y I ?_
  (try simp only[sA,sB,sC])
  refine' jP ok y fp I ?_
  (try simp only[sA,sB,sC])
  refine' jP ok y fn I ?_
  (try simp only[sA,sB,sC])
  refine' jP ok y D I ?_
  (try simp only[sA,sB,sC])
  refine' jP ok y fj D ?_
  (try simp only[sA,sB,sC])
  refine' jP ok y fi D ?_
  (try simp only[sA,sB,sC])
  refine' jP ok y fh D ?_
  (try simp only[sA,sB,sC])
  refine' jP ok y fg D ?_
  (try simp only[sA,sB,sC])
  refine' jP ok y ff D ?_
  (try simp only[sA,sB,sC])
  refine' jP ok y eZ I ?_
  (try simp only[sA,sB,sC])
  refine' kS ok y fe ?_
  (try simp only[sA,sB,sC])
  refine' kS ok y z ?_
  (try simp only[sA,sB,sC])
  refine' jP ok y fd z ?_
  (try simp only[sA,sB,sC])
  refine' jP ok y fa z ?_
  (try simp only[sA,sB,sC])
  refine' jP ok y fc z ?_
  (try simp only[sA,sB,sC])
  refine' jP ok y H z ?_
  (try simp only[sA,sB,sC])
  refine' jP ok y V H ?_
  (try simp only[sA,sB,sC])
  refine' jP ok y X H ?_
  (try simp only[sA,sB,sC])
  refine' jP ok y M z ?_
  (try simp only[sA,sB,sC])
  refine' kS ok y N ?_
  (try simp only[sA,sB,sC])
  refine yR J ?_;exact HQ.out _ _ _ _ _ _ _ _ _ _ _ _ _ _ _ _ _ _ _ _ _ _ _ _ _ _ _ _ _ _ _ _ _ _ _ _ _ _ _ ⟨true,rfl,by rw[HP.out];simp,Z.out.drew,Y.out.drew⟩
 ·skip
  refine' kJ ok y p9 U ?_
  (try simp only[sA,sB,sC])
  refine' kJ ok y fz U ?_
  (try simp only[sA,sB,sC])
  refine' kJ ok y fx U ?_
  (try simp only[sA,sB,sC])
  refine' kJ ok y ft U ?_
  (try simp only[sA,sB,sC])
  refine' kJ ok y fv U ?_
  (try simp only[sA,sB,sC])
  refine' kJ ok y fy U ?_
  (try simp only[sA,sB,sC])
  refine' ZR (k:=15) (j:=183) (v:=.bool o2) fF fw rfl (by rw[Al rfl U rfl];kernel_rfl) (by assumption) ?hy45 ?rr45
  case hy45=>
   intro K hK;go_simp;refine(O2.out _).mono ?_;rintro e w2 ⟨rfl,rfl⟩
   (try go_simp)
   exact hK
  (try simp only[sA,sB,sC])
  refine' kJ ok y fs U ?_
  (try simp only[sA,sB,sC])
  cases o2
  ·skip
   refine' kS ok y fl ?_
   (try simp only[sA,sB,sC])
   refine' kS ok y I ?_
   (try simp only[sA,sB,sC])
   refine' jP ok y fp I ?_
   (try simp only[sA,sB,sC])
   refine' jP ok y fn I ?_
   (try simp only[sA,sB,sC])
   refine' jP ok y D I ?_
   (try simp only[sA,sB,sC])
   refine' jP ok y fj D ?_
   (try simp only[sA,sB,sC])
   refine' jP ok y fi D ?_
   (try simp only[sA,sB,sC])
   refine' jP ok y fh D ?_
   (try simp only[sA,sB,sC])
   refine' jP ok y fg D ?_
   (try simp only[sA,sB,sC])
   refine' jP ok y ff D ?_
   (try simp only[sA,sB,sC])
   refine' jP ok y eZ I ?_
   (try simp only[sA,sB,sC])
   refine' kS ok y fe ?_
   (try simp only[sA,sB,sC])
   refine' kS ok y z ?_
   (try simp only[sA,sB,sC])
   refine' jP ok y fd z ?_
   (try simp only[sA,sB,sC])
   refine' jP ok y fa z ?_
   (try simp only[sA,sB,sC])
   refine' jP ok y fc z ?_
   (try simp only[sA,sB,sC])
   refine' jP ok y H z ?_
   (try simp only[sA,sB,sC])
   refine' jP ok y V H ?_
   (try simp only[sA,sB,sC])
   refine' jP ok y X H ?_
   (try simp only[sA,sB,sC])
   refine' jP ok y M z ?_
   (try simp only[sA,sB,sC])
   refine' kS ok y N ?_
   (try simp only[sA,sB,sC])
   refine yR J ?_;exact HQ.out _ _ _ _ _ _ _ _ _ _ _ _ _ _ _ _ _ _ _ _ _ _ _ _ _ _ _ _ _ _ _ _ _ _ _ _ _ _ _ ⟨true,rfl,by rw[HP.out];simp,Z.out.drew,Y.out.drew⟩
  ·skip
   refine' kS ok y fl ?_
   (try simp only[sA,sB,sC])
   refine' kS ok y I ?_
   (try simp only[sA,sB,sC])
   refine' kJ ok y fp I ?_
   (try simp only[sA,sB,sC])
   refine' kJ ok y fn I ?_
   (try simp only[sA,sB,sC])
   refine' kJ ok y D I ?_
   (try simp only[sA,sB,sC])
   cases cf
   ·skip
    refine' jP ok y fj D ?_
    (try simp only[sA,sB,sC])
    refine' jP ok y fi D ?_
    (try simp only[sA,sB,sC])
    refine' jP ok y fh D ?_
    (try simp only[sA,sB,sC])
    refine' jP ok y fg D ?_
    (try simp only[sA,sB,sC])
    refine' jP ok y ff D ?_
    (try simp only[sA,sB,sC])
    refine' kJ ok y eZ I ?_
    (try simp only[sA,sB,sC])
    refine' kS ok y fe ?_
    (try simp only[sA,sB,sC])
    refine' kS ok y z ?_
    (try simp only[sA,sB,sC])
    refine' kJ ok y fd z ?_
    (try simp only[sA,sB,sC])
    refine' kJ ok y fa z ?_
    (try simp only[sA,sB,sC])
    refine' kJ ok y fc z ?_
    (try simp only[sA,sB,sC])
    refine' kJ ok y H z ?_
    (try simp only[sA,sB,sC])
    cases t1
    ·skip
     refine' jP ok y V H ?_
     (try simp only[sA,sB,sC])
     refine' jP ok y X H ?_
     (try simp only[sA,sB,sC])
     refine' kJ ok y M z ?_
     (try simp only[sA,sB,sC])
     refine' kS ok y N ?_
     (try simp only[sA,sB,sC])
     refine yR J ?_;exact HQ.out _ _ _ _ _ _ _ _ _ _ _ _ _ _ _ _ _ _ _ _ _ _ _ _ _ _ _ _ _ _ _ _ _ _ _ _ _ _ _ ⟨false,rfl,by rw[HP.out];simp,Z.out.drew,Y.out.drew⟩
    ·skip
     refine' kJ ok y V H ?_
     (try simp only[sA,sB,sC])
     refine' kJ ok y X H ?_
     (try simp only[sA,sB,sC])
     cases ts
     ·skip
      refine' kJ ok y M z ?_
      (try simp only[sA,sB,sC])
      refine' kS ok y N ?_
      (try simp only[sA,sB,sC])
      refine yR J ?_;exact HQ.out _ _ _ _ _ _ _ _ _ _ _ _ _ _ _ _ _ _ _ _ _ _ _ _ _ _ _ _ _ _ _ _ _ _ _ _ _ _ _ ⟨false,rfl,by rw[HP.out];simp,Z.out.drew,Y.out.drew⟩
     ·skip
      refine' kJ ok y M z ?_
      (try simp only[sA,sB,sC])
      refine' kS ok y N ?_
      (try simp only[sA,sB,sC])
      refine yR J ?_;exact HQ.out _ _ _ _ _ _ _ _ _ _ _ _ _ _ _ _ _ _ _ _ _ _ _ _ _ _ _ _ _ _ _ _ _ _ _ _ _ _ _ ⟨true,rfl,by rw[HP.out];simp,Z.out.drew,Y.out.drew⟩
   ·skip
    refine' kJ ok y fj D ?_
    (try simp only[sA,sB,sC])
    refine' kJ ok y fi D ?_
    (try simp only[sA,sB,sC])
    refine' kJ ok y fh D ?_
    (try simp only[sA,sB,sC])
    refine' kJ ok y fg D ?_
    (try simp only[sA,sB,sC])
    refine' kJ ok y ff D ?_
    (try simp only[sA,sB,sC])
    cases t3
    ·skip
     refine' kJ ok y eZ I ?_
     (try simp only[sA,sB,sC])
     refine' kS ok y fe ?_
     (try simp only[sA,sB,sC])
     refine' kS ok y z ?_
     (try simp only[sA,sB,sC])
     refine' kJ ok y fd z ?_
     (try simp only[sA,sB,sC])
     refine' kJ ok y fa z ?_
     (try simp only[sA,sB,sC])
     refine' kJ ok y fc z ?_
     (try simp only[sA,sB,sC])
     refine' kJ ok y H z ?_
     (try simp only[sA,sB,sC])
     cases t1
     ·skip
      refine' jP ok y V H ?_
      (try simp only[sA,sB,sC])
      refine' jP ok y X H ?_
      (try simp only[sA,sB,sC])
      refine' kJ ok y M z ?_
      (try simp only[sA,sB,sC])
      refine' kS ok y N ?_
      (try simp only[sA,sB,sC])
      refine yR J ?_;exact HQ.out _ _ _ _ _ _ _ _ _ _ _ _ _ _ _ _ _ _ _ _ _ _ _ _ _ _ _ _ _ _ _ _ _ _ _ _ _ _ _ ⟨false,rfl,by rw[HP.out];simp,Z.out.drew,Y.out.drew⟩
     ·skip
      refine' kJ ok y V H ?_
      (try simp only[sA,sB,sC])
      refine' kJ ok y X H ?_
      (try simp only[sA,sB,sC])
      cases ts
      ·skip
       refine' kJ ok y M z ?_
       (try simp only[sA,sB,sC])
       refine' kS ok y N ?_
       (try simp only[sA,sB,sC])
       refine yR J ?_;exact HQ.out _ _ _ _ _ _ _ _ _ _ _ _ _ _ _ _ _ _ _ _ _ _ _ _ _ _ _ _ _ _ _ _ _ _ _ _ _ _ _ ⟨false,rfl,by rw[HP.out];simp,Z.out.drew,Y.out.drew⟩
      ·skip
       refine' kJ ok y M z ?_
       (try simp only[sA,sB,sC])
       refine' kS ok y N ?_
       (try simp only[sA,sB,sC])
       refine yR J ?_;exact HQ.out _ _ _ _ _ _ _ _ _ _ _ _ _ _ _ _ _ _ _ _ _ _ _ _ _ _ _ _ _ _ _ _ _ _ _ _ _ _ _ ⟨true,rfl,by rw[HP.out];simp,Z.out.drew,Y.out.drew⟩
    ·skip
     refine' kJ ok y eZ I ?_
     (try simp only[sA,sB,sC])
     refine' kS ok y fe ?_
     (try simp only[sA,sB,sC])
     refine' kS ok y z ?_
     (try simp only[sA,sB,sC])
     refine' jP ok y fd z ?_
     (try simp only[sA,sB,sC])
     refine' jP ok y fa z ?_
     (try simp only[sA,sB,sC])
     refine' jP ok y fc z ?_
     (try simp only[sA,sB,sC])
     refine' jP ok y H z ?_
     (try simp only[sA,sB,sC])
     refine' jP ok y V H ?_
     (try simp only[sA,sB,sC])
     refine' jP ok y X H ?_
     (try simp only[sA,sB,sC])
     refine' jP ok y M z ?_
     (try simp only[sA,sB,sC])
     refine' kS ok y N ?_
     (try simp only[sA,sB,sC])
     refine yR J ?_;exact HQ.out _ _ _ _ _ _ _ _ _ _ _ _ _ _ _ _ _ _ _ _ _ _ _ _ _ _ _ _ _ _ _ _ _ _ _ _ _ _ _ ⟨true,rfl,by rw[HP.out];simp,Z.out.drew,Y.out.drew⟩
theorem aaL {ms:List ql}{R:List ky}{q:jn}{bN cf:Value}(hB:lN T w W kb mb a b ms v R q)
  (hQ:∀ (eo:Value)(wx:World),wx=W.setCells (w.heap.size+2) 0 q.cells->Q .normal ⟨#[c0,c1,.pointer (some ⟨w.heap.size,0,none⟩),.pointer (some ⟨w.heap.size+1,0,none⟩),.pointer (some ⟨w.heap.size+2,0,none⟩),.func (Fn.func 46) #[] #[.pointer (some ⟨w.heap.size,0,none⟩),.pointer (some ⟨w.heap.size+1,0,none⟩)],c6,c7,c8,c9,cz,cA,cB,cC,cD,cE,cF,cG,cH,cI,cJ,cK,cL,cM,cN,cO,cP,cQ,cR,cS,cT,cU,cV,cW,cX,cY,cZ,da,db,dc,de,df,dg,dh,di,dj,dk,dl,dm,dn,dp,dq,dr,ds,dt,du,dv,dw,dx,dy,dz,dA,dB,dC,dD,dE,dF,dG,dH,dI,dJ,dK,dL,dM,dN,dO,dP,dQ,dR,dS,dT,dU,dV,dW,dX,dY,dZ,ea,eb,ec,ed,ee,ef,eg,eh,ei,ej,ek,el,em,aa,ab,ac,ad,ae,af,ag,ah,ai,aj,ak,al,am,an,ao,ap,aq,ar,au,av,ax,ay,az,aA,aB,aC,aD,aE,aF,aG,aH,aI,aJ,aK,aL,aM,aN,aO,aP,aQ,aR,aS,aT,aU,aV,aW,aX,aY,aZ,ba,bb,bc,bd,be,bf,bg,bh,bi,bj,bk,bm,bn,bo,bp,bq,br,bs,bt,bu,bv,bw,bx,bz,bA,bB,bC,bD,bE,bF,bG,bH,bI,bJ,bK,bL,bM,bN,bO,bP,bQ,bR,bS,bT,bU,bV,bW,bX,bY,bZ,ca,cb,cc,ce,cf,cg,ch,ci,cj,ck,cl,cm,cn,co,cp,cq,cr,cs,ct,cu,cv,cw,cx,cy,eo],[]⟩ wx):
  Code.wp Tryz.prog (cd [1,1,1,1,1,1,1,1,1,1,1,1,1,0]) Q ⟨#[c0,c1,.pointer (some ⟨w.heap.size,0,none⟩),.pointer (some ⟨w.heap.size+1,0,none⟩),.pointer (some ⟨w.heap.size+2,0,none⟩),.func (Fn.func 46) #[] #[.pointer (some ⟨w.heap.size,0,none⟩),.pointer (some ⟨w.heap.size+1,0,none⟩)],c6,c7,c8,c9,cz,cA,cB,cC,cD,cE,cF,cG,cH,cI,cJ,cK,cL,cM,cN,cO,cP,cQ,cR,cS,cT,cU,cV,cW,cX,cY,cZ,da,db,dc,de,df,dg,dh,di,dj,dk,dl,dm,dn,dp,dq,dr,ds,dt,du,dv,dw,dx,dy,dz,dA,dB,dC,dD,dE,dF,dG,dH,dI,dJ,dK,dL,dM,dN,dO,dP,dQ,dR,dS,dT,dU,dV,dW,dX,dY,dZ,ea,eb,ec,ed,ee,ef,eg,eh,ei,ej,ek,el,em,aa,ab,ac,ad,ae,af,ag,ah,ai,aj,ak,al,am,an,ao,ap,aq,ar,au,av,ax,ay,az,aA,aB,aC,aD,aE,aF,aG,aH,aI,aJ,aK,aL,aM,aN,aO,aP,aQ,aR,aS,aT,aU,aV,aW,aX,aY,aZ,ba,bb,bc,bd,be,bf,bg,bh,bi,bj,bk,bm,bn,bo,bp,bq,br,bs,bt,bu,bv,bw,bx,bz,bA,bB,bC,bD,bE,bF,bG,bH,bI,bJ,bK,bL,bM,bN,bO,bP,bQ,bR,bS,bT,bU,bV,bW,bX,bY,bZ,ca,cb,cc,ce,cf,cg,ch,ci,cj,ck,cl,cm,cn,co,cp,cq,cr,cs,ct,cu,cv,cw,cx,cy,en],[]⟩ W:=by
 have F:=iV hQ;clear hQ;have y:=iV hB;obtain⟨D,z⟩:∃ D,W=D:=⟨_,rfl⟩
 rw[z] at y F |-;clear hB z
 conv=>arg 2;whnf
 have q0:=y.out.pk.cell 0 _ rfl;have q1:=y.out.pk.cell 1 _ rfl;have q2:=y.out.pk.cell 2 _ rfl;have q3:=y.out.pk.cell 3 _ rfl;have q4:=y.out.pk.cell 4 _ rfl;have Y:=y.out.pk.cell 5 _ rfl;have J:=y.out.pk.cell 6 _ rfl;have Z:=y.out.pk.cell 7 _ rfl;have I:=y.out.pk.cell 8 _ rfl;have M:=y.out.res.cell 0 _ rfl;have z1:=y.out.res.cell 1 _ rfl;have H:=y.out.res.cell 2 _ rfl;have N:=y.out.res.cell 3 _ rfl;have z4:=y.out.res.cell 4 _ rfl;have z5:=y.out.res.cell 5 _ rfl;have K:=y.out.res.cell 6 _ rfl;have z7:=y.out.res.cell 7 _ rfl;have z8:=y.out.res.cell 8 _ rfl;have O:=y.out.res.free 0 (by decide);have V:=y.out.res.free 1 (by decide);have f2:=y.out.res.free 2 (by decide);have f3:=y.out.res.free 3 (by decide);have X:=y.out.res.free 4 (by decide);have f5:=y.out.res.free 5 (by decide);have f6:=y.out.res.free 6 (by decide);have U:=y.out.res.free 7 (by decide);have f8:=y.out.res.free 8 (by decide);go_wp2_with fail;exact F.out _ _ rfl
end
end Go.Proofs.YtkmjcombhjombaaGreatDoor
