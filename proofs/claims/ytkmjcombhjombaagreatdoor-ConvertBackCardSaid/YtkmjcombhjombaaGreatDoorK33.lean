/- A part of the proof. -/
import Derived.Test.YtkmjcombhjombaaGreatDoorK30
import Derived.Test.YtkmjcombhjombaaGreatDoorK31
import Derived.Test.YtkmjcombhjombaaGreatDoorK32
set_option maxRecDepth 100000
set_option maxHeartbeats 20000000
set_option linter.unusedVariables false
set_option linter.unusedSimpArgs false
namespace Go.Proofs.YtkmjcombhjombaaGreatDoor
variable{ver:BA}{e:Ending}{a b:Int}{g:Nat}{W w w':World}
section
open Go.RowKit
theorem aaM:cd []=.seq (cd [0]) (cd [1]):=by kernel_rfl
theorem abp:cd [1]=.seq (cd [1,0]) (cd [1,1]):=by kernel_rfl
theorem aa8:cd [1,1]=.seq (cd [1,1,0]) (cd [1,1,1]):=by kernel_rfl
theorem aaN:cd [1,1,1]=.seq (cd [1,1,1,0]) (cd [1,1,1,1]):=by kernel_rfl
theorem Zs:cd [1,1,1,0]=.seq (cd [1,1,1,0,0]) (cd [1,1,1,0,1]):=by kernel_rfl
theorem Zt:cd [1,1,1,1]=.seq (cd [1,1,1,1,0]) (cd [1,1,1,1,1]):=by kernel_rfl
theorem XG:cd [1,1,1,1,1]=.seq (cd [1,1,1,1,1,0]) (cd [1,1,1,1,1,1]):=by kernel_rfl
theorem UR:cd [1,1,1,1,1,1]=.seq (cd [1,1,1,1,1,1,0]) (cd [1,1,1,1,1,1,1]):=by kernel_rfl
theorem Qm:cd [1,1,1,1,1,1,1]=.seq (cd [1,1,1,1,1,1,1,0]) (cd [1,1,1,1,1,1,1,1]):=by kernel_rfl
theorem M9:cd [1,1,1,1,1,1,1,1]=.seq (cd [1,1,1,1,1,1,1,1,0]) (cd [1,1,1,1,1,1,1,1,1]):=by kernel_rfl
theorem J6:cd [1,1,1,1,1,1,1,1,0]=.seq (cd [1,1,1,1,1,1,1,1,0,0]) (cd [1,1,1,1,1,1,1,1,0,1]):=by kernel_rfl
theorem Fq:cd [1,1,1,1,1,1,1,1,0,1,3]=.seq (cd [1,1,1,1,1,1,1,1,0,1,3,0]) (cd [1,1,1,1,1,1,1,1,0,1,3,1]):=by kernel_rfl
theorem J7:cd [1,1,1,1,1,1,1,1,1]=.seq (cd [1,1,1,1,1,1,1,1,1,0]) (cd [1,1,1,1,1,1,1,1,1,1]):=by kernel_rfl
theorem GP:cd [1,1,1,1,1,1,1,1,1,1]=.seq (cd [1,1,1,1,1,1,1,1,1,1,0]) (cd [1,1,1,1,1,1,1,1,1,1,1]):=by kernel_rfl
theorem Fr:cd [1,1,1,1,1,1,1,1,1,1,0]=.seq (cd [1,1,1,1,1,1,1,1,1,1,0,0]) (cd [1,1,1,1,1,1,1,1,1,1,0,1]):=by kernel_rfl
theorem Fs:cd [1,1,1,1,1,1,1,1,1,1,1]=.seq (cd [1,1,1,1,1,1,1,1,1,1,1,0]) (cd [1,1,1,1,1,1,1,1,1,1,1,1]):=by kernel_rfl
theorem BQ:cd [1,1,1,1,1,1,1,1,1,1,1,1]=.seq (cd [1,1,1,1,1,1,1,1,1,1,1,1,0]) (cd [1,1,1,1,1,1,1,1,1,1,1,1,1]):=by kernel_rfl
theorem Am:cd [1,1,1,1,1,1,1,1,1,1,1,1,1]=.seq (cd [1,1,1,1,1,1,1,1,1,1,1,1,1,0]) (cd [1,1,1,1,1,1,1,1,1,1,1,1,1,1]):=by kernel_rfl
theorem Zu:cd [1,1,1,1,1,1,1,1,0,1]=.cond (.tmp 75) (cd [1,1,1,1,1,1,1,1,0,1,3]) (cd [1,1,1,1,1,1,1,1,0,1,4]):=by kernel_rfl
theorem Zv:cd [1,1,1,1,1,1,1,1,0,1,4]=.skip:=by kernel_rfl
theorem aaO:cd [1,1,1,1,1,1,1,1,1,1,1,1,1,1]=.ret:=by kernel_rfl
theorem IM {T:Nat->Prop}{kb mb:Nat}{ms:List ql}{kn:List kV}{R0:List ky}{p:jn}{v:Value}{q:jn}{bs:List ky}{c0 c1 c6 c7 c8 c9 cF cG cH cI cJ cK cL cM cN cO cP cQ cR cS cT cU cV cW cX cY cZ da db dc de df dg dh di dj dk dl dm dn dp dq dr ds dt du dv dw dx dy dz dA dB dC dD dE dF dG dH dI dJ dK dL dM dN dO dP dQ dR dS dT dU dV dW dX dY dZ ea eb ec ed ee ef eg eh ei ej ek el em en eo ep eq er es aa ab ac ad ae af ag ah ai aj ak al am an ao ap aq au av ax ay az aA aB aC aD aE aF aG aH aI aJ aK aL aM aN aO aP aQ aR aS aT aU aV aW aX aY aZ ba bb bc bd be bf bg bh bi bj bk bm bn bo bp bq br bt bu bv bw bx bz bA bB bC bD bE bF bG bH bI bJ bK bL bM bN bO bP bQ bR bS bT bU bV bW bX bY bZ ca cb cc ce cf cg ch ci cj ck cl cm cn co cp cq cr cs ct cu cv cw cx cy cz cA cB:Value}(ha:lE a)(hb:lE b)(hL:lZ a b kn ms)(hGB:∀ {wr:World}{v:Value}{R:List ky}{q:jn},lN T w wr kb mb a b ms v R q->xC wr)(hA:p.able)(hR:(R0++qU a b p++bs).length<=500010)(hS:StD a b p q bs)(hB:lN T w W kb mb a b ms v (R0++qU a b p++bs) q):
  Code.wp Tryz.prog (cd [1,1,1,1,1,1,1,1,1]) (bodyPost Tryz.prog Tryz.f26 (M7 T kb mb a b kn ms R0 p w)) ⟨#[c0,c1,.pointer (some ⟨w.heap.size,0,none⟩),.pointer (some ⟨w.heap.size+1,0,none⟩),.pointer (some ⟨w.heap.size+2,0,none⟩),.func (Fn.func 46) #[] #[.pointer (some ⟨w.heap.size,0,none⟩),.pointer (some ⟨w.heap.size+1,0,none⟩)],c6,c7,c8,c9,cF,cG,cH,cI,cJ,cK,cL,cM,cN,cO,cP,cQ,cR,cS,cT,cU,cV,cW,cX,cY,cZ,da,db,dc,de,df,dg,dh,di,dj,dk,dl,dm,dn,dp,dq,dr,ds,dt,du,dv,dw,dx,dy,dz,dA,dB,dC,dD,dE,dF,dG,dH,dI,dJ,dK,dL,dM,dN,dO,dP,dQ,dR,dS,dT,dU,dV,dW,dX,dY,dZ,ea,eb,ec,ed,ee,ef,eg,eh,ei,ej,ek,el,em,en,eo,ep,eq,er,es,aa,ab,ac,ad,ae,af,ag,ah,ai,aj,ak,al,am,an,ao,ap,aq,au,av,ax,ay,az,aA,aB,aC,aD,aE,aF,aG,aH,aI,aJ,aK,aL,aM,aN,aO,aP,aQ,aR,aS,aT,aU,aV,aW,aX,aY,aZ,ba,bb,bc,bd,be,bf,bg,bh,bi,bj,bk,bm,bn,bo,bp,bq,br,bt,bu,bv,bw,bx,bz,bA,bB,bC,bD,bE,bF,bG,bH,bI,bJ,bK,bL,bM,bN,bO,bP,bQ,bR,bS,bT,bU,bV,bW,bX,bY,bZ,ca,cb,cc,ce,cf,cg,ch,ci,cj,ck,cl,cm,cn,co,cp,cq,cr,cs,ct,cu,cv,cw,cx,cy,cz,cA,cB],[]⟩ W:=by
 have O:q.gives.length<=100000:=by rw[hS.gives];have:=hA.gives;omega
 have N:∀ g∈q.gives,g.nm.size<=9223372036854775807/\g.ver.size<=9223372036854775807:=by
  intro g J;rw[hS.gives] at J;have:=hA.small.gives_ g J;constructor<;>omega
 rw[J7];refine wp_seq (aaK hGB N (by omega) O hB ?_);intro gT gU gV gW gX gY gZ hc hd ex ey ez eA eB eC eD eE eF eG eH eI eJ eK eL eM eN eO eP eQ eR eS eT eU eV eW eX eY eZ fa fb fc fd fe ff fg fh fi fj F z;show Code.wp _ (cd [1,1,1,1,1,1,1,1,1,1]) _ _ _;obtain⟨v1,G,H,B1,K1,F1,E1⟩:=z;rw[GP,Fr];refine wp_seq ?_;refine wp_seq (Zn ha (show py a b (q.setGives G).ar=((py a b q.ar).1,(py a b q.ar).2) from rfl) B1 ?_);intro hh hi fk fl fm fn fo fp fq fr fs ft fu fv fw fx F z;show Code.wp _ (cd [1,1,1,1,1,1,1,1,1,1,0,1]) _ _ _;obtain⟨rfl,rfl,B2⟩:=z;refine Zo B2 ?_;intro fy fz fA fB F z;show Code.wp _ (cd [1,1,1,1,1,1,1,1,1,1,1]) _ _ _;have V:∃ y:jn,lN T w F kb mb a b ms v1 (R0++qU a b p++bs++H) y/\y.nm=q.nm/\y.ver=q.ver/\y.ar=wu a b q.ar/\y.sm=q.sm/\y.needs=q.needs/\y.bars=q.bars/\y.gives=G/\y.files=q.files/\y.scripts=q.scripts:=by
  rcases z with⟨M,z⟩ | ⟨M,z⟩
  ·exact⟨_,z,rfl,rfl,by unfold wu;rw[if_pos M];rfl,rfl,rfl,rfl,rfl,rfl,rfl⟩
  ·exact⟨_,z,rfl,rfl,by unfold wu;rw[if_neg M];rfl,rfl,rfl,rfl,rfl,rfl,rfl⟩
 obtain⟨y,B3,n1,n2,n3,n4,n5,n6,n7,n8,K⟩:=V;rw[Fs];refine wp_seq (aaJ hb hL (by intro f hf;rw[n8,hS.files] at hf;have:=hA.small.files_ f hf;constructor<;>omega) (by rw[List.length_append];omega) (by rw[n8,hS.files];have:=hA.files;omega) B3 ?_);intro hj hk hl fC fD fE fF fG fH fI fJ fK fL fM fN fO fP fQ fR fS fT fU fV fW fX fY fZ ga gb gc ge gf gg gh gi gj gk gm gn go gp gq gr gs gt gu gv gw gx gy gz gA gB gC gD gE gF gG gH gI gJ gK gL F z;show Code.wp _ (cd [1,1,1,1,1,1,1,1,1,1,1,1]) _ _ _;obtain⟨v3,Y,B4,K3,F3⟩:=z;rw[n8,hS.files] at B4 K3 F3;rw[BQ];refine wp_seq (aaH hb (by show y.scripts.length<=_;rw[K,hS.scripts];exact hA.small.scripts) (by have:=hA.files;rw[List.length_append,List.length_append];omega) B4 ?_);intro gM gN gO gP gQ gR F z;show Code.wp _ (cd [1,1,1,1,1,1,1,1,1,1,1,1,1]) _ _ _;obtain⟨v4,I,B5,Z,F4⟩:=z;have Z:I=[]↔∀ s∈p.scripts,zD b s.phase=true:=by rw[Z];show(∀ s∈y.scripts,_)↔_;rw[K,hS.scripts]
 rw[Am];refine wp_seq (aaL B5 ?_);intro gS F z;show Code.wp _ (cd [1,1,1,1,1,1,1,1,1,1,1,1,1,1]) _ _ _;subst z;rw[aaO];refine wp_ret ?_;obtain⟨D,EF⟩:=B5.done rfl;have x0:=D.cell 0 _ rfl;have x1:=D.cell 1 _ rfl;have x2:=D.cell 2 _ rfl;have x3:=D.cell 3 _ rfl;have x4:=D.cell 4 _ rfl;have x5:=D.cell 5 _ rfl;have x6:=D.cell 6 _ rfl;have x7:=D.cell 7 _ rfl;have x8:=D.cell 8 _ rfl;refine bodyPost_ret (v:=(y.setFiles (p.files.map (li a b kn))).val) (by unfold jn.val;simp[results,Tryz.results26,go_sem,x0,x1,x2,x3,x4,x5,x6,x7,x8]) rfl ?_;refine⟨v4,y.setFiles (p.files.map (li a b kn)),bs++(H++(Y++I)),rfl,?_,?_,?_,?_⟩
 ·have:=EF;simp only[List.append_assoc] at this |-;exact this
 ·simp only[List.append_eq_nil_iff];rw[hS.ok,K1,K3,Z,hS.gives];exact⟨fun ⟨X,U,h3,h4⟩=>⟨X,U,h3,h4⟩,fun h=>⟨h.deps,h.gives,h.files,h.scripts⟩⟩
 ·have:=hS.few;have:=hA.files;simp only[List.length_append];omega
 ·intro _ he;simp only[List.append_eq_nil_iff] at he;obtain⟨X,U,h3,h4⟩:=he;have ht:=hS.txt X;have J:=E1 U;refine⟨n1.trans hS.nm,n2.trans hS.ver,?_,n4.trans hS.sm,?_,?_,?_,rfl,K.trans hS.scripts⟩
  ·show y.ar=_;rw[n3,hS.ar]
  ·show y.needs.map bl=_;rw[n5];exact ht.1
  ·show y.bars.map bl=_;rw[n6];exact ht.2
  ·show y.gives=_;rw[n7,J,hS.gives]
theorem Na (a b:Int)(ha:lE a)(hb:lE b)(T:Nat->Prop)(kb mb:Nat)(kn:List kV)(ms:List ql)(hL:lZ a b kn ms)(v:Value)(R0:List ky)(p:jn)(w0 w:World)(hG:xC w0)(hW0:Below w0.heap.size w0 w)(hT0:∀ g,T g->w0.heap.size<=g)(hR0:R0.length<=500000)(hA:p.able)(hI:CvI T w kb mb a b ms v R0 p):Calls Tryz.prog 26 #[.pointer (some ⟨kb,0,none⟩),p.val] w (M7 T kb mb a b kn ms R0 p w):=by
 have O:∀ {wr:World} {v:Value} {R:List ky} {q:jn},lN T w wr kb mb a b ms v R q->xC wr:=fun h=>hG.below (h.base hW0 hT0);have B3:=lN.start hI.lt hI.ml hI.tl hI.tk hI.tv hI.tg hI.tf hI.kv hI.rf hI.mp hI.own 110 38;have am:(R0++qU a b p).length<=500001:=by have:=MZ a b p;rw[List.length_append];omega
 unfold jn.val;go_in;show Code.wp _ (cd []) _ _ _;rw[aaM];refine wp_seq (Zp  ?_);intro u2 u3 u4 D y;show Code.wp _ (cd [1]) _ _ _;obtain⟨rfl,rfl,rfl,rfl⟩:=y;rw[abp];refine wp_seq (Zq  ?_);intro u5 hm D y;show Code.wp _ (cd [1,1]) _ _ _;obtain⟨rfl,rfl⟩:=y;rw[aa8];refine wp_seq (Zr  ?_);intro u6 D y;show Code.wp _ (cd [1,1,1]) _ _ _;subst y;rw[aaN,Zs];refine wp_seq ?_;refine wp_seq (Zf O hA hR0 B3 ?_);intro u6 hn ho hp hq hr hs hu hv hw hy hz hC hD hE hF D y;show Code.wp _ (cd [1,1,1,0,1]) _ _ _;obtain⟨rfl,B5⟩:=y;refine Zg rfl hR0 B5 ?_;intro hH hJ hK hM D y;show Code.wp _ (cd [1,1,1,1]) _ _ _;obtain⟨v5,B6⟩:=y;rw[Zt];refine wp_seq (Zh O hA B6 ?_);intro u7 u8 hN hO hP hQ hT hU hV hW hX hY D y;show Code.wp _ (cd [1,1,1,1,1]) _ _ _;obtain⟨A7,n7,c7,aq,K,rfl,rfl,B7,_,V⟩:=y;rw[XG];refine wp_seq (Zi O hA B7 ?_);intro u9 hZ ia ib ic id ie ig ih ii ij ik D y;show Code.wp _ (cd [1,1,1,1,1,1]) _ _ _;obtain⟨A8,n8,c8,an,H,rfl,rfl,B8,al,X⟩:=y;rw[UR];have Q7:K=0↔kZ a false (p.needs.map bl)=0:=by
  have h:=V;unfold Xz at h;split at h
  ·rename_i I;exact⟨fun _=>I,fun _=>h.1⟩
  ·rename_i I;exact⟨fun e=>absurd e h,fun e=>absurd e I⟩
 have Q8:H=0↔kZ a true (p.bars.map bl)=0:=by
  have h:=X;unfold Xz at h;split at h
  ·rename_i I;exact⟨fun _=>I,fun _=>h.1⟩
  ·rename_i I;exact⟨fun e=>absurd e h,fun e=>absurd e I⟩
 refine wp_seq (Zj (by omega) B8 ?_);intro il im io ip iq D y;show Code.wp _ (cd [1,1,1,1,1,1,1]) _ _ _;obtain⟨v6,F,B9,K1,F1,E1⟩:=y;rw[Qm];refine wp_seq (Zk (by rw[List.length_append];omega) B9 ?_);intro ir is it iu iv D y;show Code.wp _ (cd [1,1,1,1,1,1,1,1]) _ _ _;obtain⟨v7,z,N,K2,F2,E2⟩:=y;rw[M9,J6];refine wp_seq ?_;refine wp_seq (XA  ?_);intro iw ix iy iz iA iB D y;show Code.wp _ (cd [1,1,1,1,1,1,1,1,0,1]) _ _ _;obtain⟨tb,rfl,J,rfl⟩:=y;rw[Zu];rw[List.append_assoc] at N;have M:(R0++qU a b p++(F++z)).length<=500003:=by
  have h1:(F++z).length<=2:=by rw[List.length_append];omega
  have h2:(R0++qU a b p++(F++z)).length=(R0++qU a b p).length+(F++z).length:=List.length_append;omega
 cases tb with
 | false=>
  refine wp_cond (t:=false) rfl ?_;show Code.wp _ (cd [1,1,1,1,1,1,1,1,0,1,4]) _ _ _;rw[Zv];refine wp_skip ?_;show Code.wp _ (cd [1,1,1,1,1,1,1,1,1]) _ _ _;have ai:F++z≠[]:=by
   intro e;rw[List.append_eq_nil_iff] at e;have:=J.2 ⟨K1.1 e.1,K2.1 e.2⟩;cases this
  have ak:¬ vg a b p:=by
   intro h;have:=J.2 ⟨Q7.2 h.needs,Q8.2 h.bars⟩;cases this
  refine IM ha hb hL O hA (by omega) (StD.none ai ak (by rw[List.length_append];omega)) N
 | true=>
  obtain⟨rfl,rfl⟩:=J.1 rfl;have h7:=Q7.1 rfl;have Y:=Q8.1 rfl;have e1:=K1.2 rfl;have e2:=K2.2 rfl;subst e1;subst e2;have ac:=E1 rfl;have aj:=E2 rfl;unfold Xz at V X;rw[if_pos h7] at V;rw[if_pos Y] at X;obtain⟨_,Z,wa,ae,af⟩:=V;obtain⟨_,ah,wb,ag,aa⟩:=X;have D7:=af.below al;have D8:=aa;rw[<-ac,<-aj] at D7 D8;refine wp_cond (t:=true) rfl ?_;show Code.wp _ (cd [1,1,1,1,1,1,1,1,0,1,3]) _ _ _;rw[Fq];refine wp_seq (Zl O hA (by rw[List.append_nil] at M |-;omega) h7 Y Z ae D7 ah ag D8 N ?_);intro u6 iC iD iE iF iG iH iI iJ iK iL iM iN iO iP D y;show Code.wp _ (cd [1,1,1,1,1,1,1,1,0,1,3,1]) _ _ _;obtain⟨A1,c1,A2,c2,ns,ap,rfl,ad,ab⟩:=y;refine Zm (by rw[List.append_nil] at M |-;omega) ad ?_;intro iQ iR iS iT iU D y;show Code.wp _ (cd [1,1,1,1,1,1,1,1,1]) _ _ _;obtain⟨v9,ao,U,K3,F3⟩:=y;rw[List.append_nil,List.append_nil] at U;refine IM ha hb hL O hA (by rw[List.append_nil,List.append_nil] at M;rw[List.length_append];omega) (StD.some ⟨fun e=>⟨h7,Y,K3.1 e⟩,fun h=>K3.2 h.toZ⟩ (by omega) (fun e=>ab (K3.1 e))) U
end
section
open Go.RowKit Go.Maps
def Zy (a b:Int)(kn:List kV)(l:List jn)(w:World)(e:Ending)(w':World):Prop:=
 ∃ (v:Value) (R:List ky),e=.returned (.tuple #[.slice none 0 0,v])/\R≠[]/\w'.ownsRow w.heap.size 49 3 v R.length (R.flatMap ky.cells) /\
  (lE a->lE b->(BL (ny a) (pN a) l).2.2=0->(¬ ∀ p∈l,oG a b kn p)/\∀ p,l=[p]->∃ bs,R=qU a b p++bs/\(bs=[]↔vk a b kn p))
def XI (a b:Int)(kn:List kV)(l:List jn)(w:World)(e:Ending)(w':World):Prop:=
 ∃ (O:Value) (qs:List jn),e=.returned (.tuple #[O,.slice none 0 0])/\lE a/\lE b/\(BL (ny a) (pN a) l).2.2=0/\(∀ p∈l,oG a b kn p)/\ng a b kn l qs /\
  w'.ownsRow w.heap.size 38 9 O qs.length (qs.flatMap jn.cells)/\∀ q∈qs,nT q w' w.heap.size
def tQ (a b:Int)(kn:List kV)(l:List jn)(w:World)(e:Ending)(w':World):Prop:=
 (Zy a b kn l w e w'\/XI a b kn l w e w')/\Below w.heap.size w w'
theorem XJ:(Tryz.prog.info? 38).map (fun i=>(i.zero,i.size,i.bytes))=some (some (.agg #[.string ⟨#[]⟩,.string ⟨#[]⟩,.string ⟨#[]⟩,.string ⟨#[]⟩,.slice none 0 0,.slice none 0 0,.slice none 0 0,.slice none 0 0,.slice none 0 0]),9,184):=by kernel_rfl
theorem RI {a:Int}:∀ (l pre:List jn),(zF (ny a) pre l).2.2=0->∀ p∈l,Ad a p
 | [],_,_,p,y=>by cases y
 | q::r,pre,h,p,y=>by
  unfold zF at h;by_cases z:(Kj (ny a q) pre q).2.2=0
  ·rw[if_pos z] at h;rcases List.mem_cons.1 y with rfl | y
   ·refine yG.1 ?_;by_cases D:(ny a p).2=0
    ·exact D
    ·rw[Rc D] at z;exact absurd z D
   ·exact RI r _ h p y
  ·rw[if_neg z] at h;exact absurd h z
theorem Co {l:List jn}(h:(BL (ny a) (pN a) l).2.2=0):∀ p∈l,Ad a p:=by
 obtain⟨z,y⟩:=XH h;unfold BL at h;rw[if_neg (by rw[y];simp),if_neg (by omega)] at h;exact RI l [] h
theorem XK (w:World)(t:TypeId)(q:jn):oP (w.alloc (.cells #[.string q.nm,.string q.ver,.string q.ar,.string q.sm,.slice q.na q.needs.length q.nc,.slice q.ba q.bars.length q.bc,.slice q.ga q.gives.length q.gc,.slice q.fa q.files.length q.fc,.slice q.sa q.scripts.length q.sc] t)) (w.heap.size+1) 9 (some ⟨w.heap.size,0,none⟩) 1 q.cells:=by
 refine⟨rfl,fun _=>⟨_,rfl,by simp,fun j u y=>?_⟩⟩;rw[show Addr.add ⟨w.heap.size,0,none⟩ j=⟨w.heap.size,j,none⟩ by unfold Addr.add;split<;>simp_all];exact(jh.new w q.cells t).cell j u y
theorem Nb {kn:List kV}{l:List jn}(nm what:BA)(code:Int)(hW:Below w.heap.size w W)(hw:w'=W.alloc (.cells #[.string nm,.string what,.int .i64 code] 49))
  (hn:lE a->lE b->¬ (BL (ny a) (pN a) l).2.2=0):tQ a b kn l w (.returned (.tuple #[.slice none 0 0,.slice (some ⟨W.heap.size,0,none⟩) 1 1])) w':=by
 subst hw;exact⟨.inl ⟨_,[⟨nm,what,code⟩],rfl,by simp,World.ownsRow_lit W #[.string nm,.string what,.int .i64 code] 1 hW.size (by simp[maxLen]) rfl,fun z y D=>absurd D (hn z y)⟩,hW.alloc hW.size _⟩
theorem US {kn:List kV}{l:List jn}(nm what:BA)(code:Int)(hW:Below w.heap.size w W)(hg:g=W.heap.size)(hw:w'=(W.alloc (.cells #[.string nm,.string what,.int .i64 code] 49)).drew)
  (hn:lE a->lE b->¬ (BL (ny a) (pN a) l).2.2=0):tQ a b kn l w (.returned (.tuple #[.slice none 0 0,.slice (some ⟨g,0,none⟩) 1 1])) w':=by
 subst hw;subst hg;exact⟨.inl ⟨_,[⟨nm,what,code⟩],rfl,by simp,(World.ownsRow_lit W #[.string nm,.string what,.int .i64 code] 1 hW.size (by simp[maxLen]) rfl).drew,fun z y D=>absurd D (hn z y)⟩,(hW.alloc hW.size _).drew⟩
theorem pu (a b:Int)(A:Option Addr)(c:Nat)(l:List jn)(AK:Option Addr)(cK:Nat)(kn:List kV)(w:World)(hG:xC w)(hd:tU w A l)(hl:l.length<=100000)(hwd:vL l<=10000000)(hw:∀ p∈l,sW p<=1000000)(hf:∀ p∈l,p.few)
  (hk:Rd w 5 AK kn.length (kn.flatMap kV.cells))(hkl:kn.length<=100000)(hkz:∀ k∈kn,k.small):Calls Tryz.prog 9 #[.int .i64 a,.int .i64 b,.slice A l.length c,.slice AK kn.length cK] w (tQ a b kn l w):=by
 have HG:=iV hG;have HD:=iV hd;have HF:=iV hf;have HW:=iV hw;have HK:=iV hk;have aR:=iV hkz;have HL:=iV hl;have aT:=iV hwd;have aP:=iV hkl;have be:=@run_makeMap Tryz.prog;clear hG hd hf hw hk hkz hl hwd hkl;go_in;go_wp2_with fail;refine(Be a w).mono ?_;rintro e w0 ⟨rfl,rfl⟩;obtain⟨fa,ai⟩:∃ f,decide (lE a)=f:=⟨_,rfl⟩
 rw[ai];have aG:=iV ai;clear ai;cases fa
 ·go_wp2_with fail;refine bodyPost_ret (v:=.tuple #[.slice none 0 0,.slice (some ⟨w.heap.size,0,none⟩) 1 1]) ?_ ?_ ?_
  ·simp[results,Tryz.results9,go_sem]
  ·rfl
  ·exact Nb ⟨#[]⟩ ⟨#[102,111,114,109,97,116]⟩ 9 bR rfl (fun h1 _=>absurd h1 (of_decide_eq_false aG.out))
 ·go_wp2_with fail;refine(Be b w).mono ?_;rintro e w0 ⟨rfl,rfl⟩;obtain⟨fb,aj⟩:∃ f,decide (lE b)=f:=⟨_,rfl⟩
  rw[aj];have aI:=iV aj;clear aj;cases fb
  ·go_wp2_with fail;refine bodyPost_ret (v:=.tuple #[.slice none 0 0,.slice (some ⟨w.heap.size,0,none⟩) 1 1]) ?_ ?_ ?_
   ·simp[results,Tryz.results9,go_sem]
   ·rfl
   ·exact Nb ⟨#[]⟩ ⟨#[102,111,114,109,97,116]⟩ 9 bR rfl (fun _ K=>absurd K (of_decide_eq_false aI.out))
  ·go_wp2_with fail;refine(AQ a A c l w HG.out.1 HD.out HL.out aT.out HW.out).mono ?_;rintro e w1 ⟨rfl,av⟩;have B1:=iV av;clear av;obtain⟨r,hr⟩:∃ r,BL (ny a) (pN a) l=r:=⟨_,rfl⟩
   rw[hr];have HR:=iV hr;clear hr;obtain⟨r1,r2,ec⟩:=r;unfold ZK;by_cases h0:ec=0
   ·subst h0;go_wp2_with fail;obtain⟨W2,Y⟩:∃ W2,((w1.alloc (.cells #[.string r1,.string r2,.int .i64 0] 49)).alloc (.map #[] 0)).alloc (.cells #[.int .i64 a,.int .i64 b,.map (some (w1.heap.size+1)),.slice none 0 0] 68)=W2:=⟨_,rfl⟩
    obtain⟨y,aa⟩:∃ y,w1.heap.size+1=y:=⟨_,rfl⟩
    have B2:Hid (Below w.heap.size w W2):=by
     show Below _ _ _;rw[<-Y];have:=B1.out.size;exact((B1.out.alloc B1.out.size _).alloc (by simp;omega) _).alloc (by simp;omega) _
    have K2:Hid (jh W2 (y+1) (U9 a b (.map (some y)) (.slice none 0 0))):=by
     have hk:=jh.new ((w1.alloc (.cells #[.string r1,.string r2,.int .i64 0] 49)).alloc (.map #[] 0)) (U9 a b (.map (some (w1.heap.size+1))) (.slice none 0 0)) 68;rw[show((w1.alloc (.cells #[.string r1,.string r2,.int .i64 0] 49)).alloc (.map #[] 0)).heap.size=w1.heap.size+1+1 by simp] at hk;show jh _ _ _;rw[<-Y,<-aa];exact hk
    have HM:Hid (mj W2 y []):=by
     show mj _ _ _;have h1:=mj.made (w1.alloc (.cells #[.string r1,.string r2,.int .i64 0] 49));rw[show(w1.alloc (.cells #[.string r1,.string r2,.int .i64 0] 49)).heap.size=w1.heap.size+1 by simp,aa] at h1;rw[<-Y,aa];exact h1.below (bR.alloc lr _)
    have aD:Hid (w.heap.size<=y):=by have:=B1.out.size;show _<=_;omega
    rw[Y,aa];clear Y aa;have an:=iV (dO aG.out:lE a);have ak:=iV (dO aI.out:lE b);refine(GN a b an.out ak.out (y+1) y (.slice none 0 0) AK cK kn W2 K2.out HM.out (Nat.lt_succ_self _) (HK.out.below B2.out) aP.out aR.out).mono ?_;rintro e w2 ⟨rfl,ms,aE,aF,al⟩;have M2:=iV aE;have L2:=iV aF;have K3:=iV (K2.out.grown al (by omega));have B3:=iV (B2.out.grown al B2.out.size (fun j hj=>by injection hj with hj;have:=aD.out;omega));clear aE aF al B2 K2 HM;go_wp2_with fail;refine(NJ A c l w2 (HD.out.below B3.out) HL.out HF.out).mono ?_;rintro e w3 ⟨A3,c3,g3,H,rfl,aB,aH,V,F⟩;have ax:Below w.heap.size w w3:=B3.out.trans ⟨F.os,F.tape,F.output,F.size,fun i hi=>F.block i (Nat.lt_of_lt_of_le hi B3.out.size)⟩;have ad:y+1<w2.heap.size:=K3.out.sz;have I0:Hid (RH w w3 (y+1) y a b ms (.slice none 0 0) [] (.slice A3 l.length c3) (.slice none 0 0) H H [] []):=by
     have aJ:∀ p∈H,nT p w3 (y+1+1):=by
      intro p z;have h1:=(World.ownsRow.lt V.row g3 (V.blk (List.length_pos_of_mem z))).1;have K:=V.all p z;exact⟨jK K.needs (by omega),jK K.bars (by omega),jK K.gives (by omega),jK K.files (by omega),jK K.scripts (by omega)⟩
     exact⟨ax,by have:=aD.out;omega,Nat.lt_succ_self _,Nat.lt_of_lt_of_le ad F.size,K3.out.below F,World.ownsRow_nil _ _ _ _,M2.out.below F,jK V.row (by omega),World.ownsRow_nil _ _ _ _,(fun g U=>by cases U),aJ,(fun q hq=>by cases hq),V.far,(fun q hq=>by cases hq),(fun q hq=>by cases hq)⟩
    have X:=iV aH;have bb:=(XH (ans:=ny a) (fo:=pN a) (l:=l) (by rw[HR.out])).1;have aW:Hid (∀ p∈l,Ad a p):=fun p z=>Co (by rw[HR.out]) p z;obtain⟨i0,aL,aS,aM,aO⟩:=info_parts XJ;have I:=iV aB;clear aB aH V F ax ad B3 K3 M2;go_wp2;go_loopw [12,42] (fun O i wr=>∃ (k:Nat) (Ao:Option Addr) (co:Nat) (v:Value) (R:List ky) (os:List jn),k<=l.length/\i=.int .i64 k/\O=.slice Ao k co/\Hid (RH w wr (y+1) y a b ms v R (.slice A3 l.length c3) (.slice Ao k co) H (H.drop k) os os)/\Hid (LpP a b kn H k R os)) (fun _ i _=>l.length-(intOf i).toNat)
    case atStart=>exact⟨0,none,0,.slice none 0 0,[],[],z0,rfl,rfl,I0.out,LpP.start a b kn H⟩
    case round=>
     obtain⟨k,Ao,co,v,R,os,hk,rfl,rfl,HS,HP⟩:=hrel;by_cases ae:k<l.length
     ·obtain⟨p,z⟩:∃ p,H[k]?=some p:=⟨_,gG (by rw[I.out];exact ae)⟩
      obtain⟨p0,af⟩:∃ p0,l[k]?=some p0:=⟨_,gG ae⟩
      have M:=X.out k p0 p af z;have ap:=iV (Qo M (Zx (aW.out p0 (gM af)) (HW.out p0 (gM af))));have aV:=iV z;have Z:H.drop k=p::H.drop (k+1):=by
       obtain⟨h1,K⟩:=gS z;rw[List.drop_eq_getElem_cons h1,K]
      have S0:=HS.out;rw[Z] at S0;have ah:=S0.cp;rw[<-I.out] at ah;obtain⟨b',off,hA,he⟩:=(jL ah).elem mX k p z;clear ah;have e0:=he 0 _ rfl;have e1:=he 1 _ rfl;have e2:=he 2 _ rfl;have e3:=he 3 _ rfl;have e4:=he 4 _ rfl;have e5:=he 5 _ rfl;have e6:=he 6 _ rfl;have e7:=he 7 _ rfl;have e8:=he 8 _ rfl;simp only[Nat.add_zero] at e0;have bf:=fun W=>jm (T:=22) (E:=38) (sz:=9) (c:=c3) Tryz.underlying22 rfl Tryz.sizeOf38 hA ae W;obtain⟨W1,am⟩:∃ W1,wr.alloc (.cells #[.string p.nm,.string p.ver,.string p.ar,.string p.sm,.slice p.na p.needs.length p.nc,.slice p.ba p.bars.length p.bc,.slice p.ga p.gives.length p.gc,.slice p.fa p.files.length p.fc,.slice p.sa p.scripts.length p.sc] 38)=W1:=⟨_,rfl⟩
      have bw:Below wr.heap.size wr W1:=by rw[<-am];exact bR.alloc lr _
      have BX:Hid (jh W1 wr.heap.size p.cells):=by show jh _ _ _;rw[<-am];exact jh.new wr p.cells _
      have x0:=BX.out.cell 0 _ rfl;have x1:=BX.out.cell 1 _ rfl;have x2:=BX.out.cell 2 _ rfl;have x3:=BX.out.cell 3 _ rfl;have x4:=BX.out.cell 4 _ rfl;have x5:=BX.out.cell 5 _ rfl;have x6:=BX.out.cell 6 _ rfl;have x7:=BX.out.cell 7 _ rfl;have x8:=BX.out.cell 8 _ rfl;have S1:=iV (S0.grow bw);have au:=S0.k0;have HT:Hid (∀ g,Zw (y+1) v p g->w.heap.size<=g):=by
       have ho:=S0.left p (List.mem_cons_self ..);intro g U;rcases U with rfl | U | U | U
       ·exact au
       ·have:=(World.ownsRow.lt S0.rf g U).1;omega
       ·have:=(World.ownsRow.lt ho.gives g U).1;omega
       ·have:=(World.ownsRow.lt ho.files g U).1;omega
      have aU:Hid (R.length<=500000):=by have:=HP.out.2.1;show _<=_;omega
      clear z af M Z S0 hA he bw au HS;go_upto_region 12 with(fail)
      clear am;go_wp2_with fail;refine(Na a b an.out ak.out (Zw (y+1) v p) (y+1) y kn ms L2.out v R p w W1 HG.out S1.out.bl HT.out aU.out ap.out S1.out.enter).mono ?_;rintro e w5 ⟨v5,q,bs,rfl,aC,ay,az,aA⟩;have S5:=iV (S1.out.leave aC);have PN:=iV (HP.out.next aV.out ay az aA);have aQ:Hid (w5.ownsRow (y+1+1) 38 9 (.slice Ao k co) k (os.flatMap jn.cells)):=by have h:=S5.out.out;rw[HP.out.1] at h;exact h
      have aN:Hid (y+1+1<=w5.heap.size):=S5.out.lt;have aX:Hid (os.length=k):=HP.out.1;have bd:k<l.length:=ae;clear aC ay az aA x0 x1 x2 x3 x4 x5 x6 x7 x8 e0 e1 e2 e3 e4 e5 e6 e7 e8;unfold jn.val
      go_wp2_with (
       at_builtin
       refine je _ rfl _ _ 22 rfl (y+1+1) 38 i0 _ 9 184 Tryz.underlying22 aL aS aM aO rfl (by omega) (.slice Ao k co) k _ rfl (aQ.out.alloc _) (w5.heap.size+1) (some ⟨w5.heap.size,0,none⟩) 1 1 q.cells rfl (XK w5 _ q) (Ve q) (by simp only[maxLen];omega) (by omega) (by have:=aN.out;simp;omega) ?_;intro v6 w6 N aq ag;obtain⟨A6,c6,rfl⟩:=jk N;have S6:Hid (RH w w6 (y+1) y a b ms v5 (R++(qU a b p++bs)) (.slice A3 l.length c3) (.slice A6 (k+1) c6) H (H.drop (k+1)) (os++[q]) (os++[q])):=by
        refine(S5.out.grow ((Below.refl w5.heap.size w5).alloc lr _)).put aq ?_ ?_
        ·rw[List.length_append,aX.out,List.flatMap_append];simpa using N
        ·intro g U;rcases ag with h | h
         ·exact .inl (h ▸ U)
         ·right;rw[h] at U;injection U with U;omega
       clear N aq ag)
      go_wp2;go_roundw
      case rel=>exact⟨k+1,A6,c6,v5,R++(qU a b p++bs),os++[q],by omega,by go_num,rfl,S6.out,PN.out⟩
      case measure=>simp[intOf];omega
     ·have ac:k=l.length:=by omega
      have ab:H.take k=H:=tL (by have:=I.out;omega);obtain⟨Av,cv,rfl⟩:=jk HS.out.rf;have aY:=HS.out.kv.cell 3 _ rfl;cases R with
      | nil=>
       have aK:=iV ac;have ao:=iV ab;clear ac ab hk;go_wp2_with fail;refine bodyPost_ret (v:=.tuple #[.slice Ao k co,.slice none 0 0]) ?_ ?_ ?_
       ·simp[results,Tryz.results9,go_sem]
       ·rfl
       ·obtain⟨p1,p2,p3,p4,p5⟩:=HP.out;rw[ao.out] at p3 p4;have t3:=p3.1 (by simp);have t4:=p4 (by simp);have ho:=HS.out.out;rw[p1] at ho;have ad:=HS.out.k0;refine⟨.inr ⟨.slice Ao k co,os,rfl,an.out,ak.out,by rw[HR.out],fun p z=>?_,⟨by rw[t4.len,I.out],fun i p q z hq=>?_⟩,?_,fun q hq=>?_⟩,HS.out.bl⟩
        ·obtain⟨i,hi⟩:=List.mem_iff_getElem?.1 z;obtain⟨J,D⟩:∃ J,H[i]?=some J:=⟨_,gG (by rw[I.out];exact(gS hi).1)⟩
         exact yS (X.out i p J hi D).symm (t3 J (gM D))
        ·obtain⟨J,D⟩:∃ J,H[i]?=some J:=⟨_,gG (by rw[I.out];exact(gS z).1)⟩
         exact Qn (X.out i p J z D).symm (t4.each i J q D hq)
        ·rw[p1];exact jK ho (by omega)
        ·have K:=HS.out.own q hq;exact⟨jK K.needs (by omega),jK K.bars (by omega),jK K.gives (by omega),jK K.files (by omega),jK K.scripts (by omega)⟩
      | cons r R=>
       have aZ:(0:Int)<((r::R).length:Int):=by simp only[List.length_cons];omega
       have aK:=iV ac;have ao:=iV ab;clear ac ab hk;go_wp2;go_region;go_wp2_with fail;refine bodyPost_ret (v:=.tuple #[.slice none 0 0,.slice Av (r::R).length cv]) ?_ ?_ ?_
       ·simp[results,Tryz.results9,go_sem]
       ·rfl
       ·obtain⟨p1,p2,p3,p4,p5⟩:=HP.out;have ad:=HS.out.k0;have S1:=HS.out.grow (wx:=wr.drew) ⟨rfl,rfl,rfl,lr,fun _ _=>rfl⟩;refine⟨.inl ⟨_,r::R,rfl,by simp,jK S1.rf (by omega),fun _ _ _=>⟨fun h=>?_,fun p z=>?_⟩⟩,S1.bl⟩
        ·rw[ao.out] at p3;have h3:=p3.2 fun J D=>by
          obtain⟨i,hi⟩:=List.mem_iff_getElem?.1 D;obtain⟨p,z⟩:∃ p,l[i]?=some p:=⟨_,gG (by rw[<-I.out];exact(gS hi).1)⟩
          exact yS (X.out i p J z hi) (h p (gM z))
         simp at h3
        ·have h3:H.length=1:=by rw[I.out,z];rfl
         obtain⟨J,D⟩:∃ J,H=[J]:=List.length_eq_one_iff.1 h3;have M:=X.out 0 p J (by rw[z];rfl) (by rw[D];rfl);obtain⟨bs,e1,e2⟩:=p5 J D (by rw[aK.out,z];rfl);refine⟨bs,?_,e2.trans ⟨yT M.symm,yT M⟩⟩;rw[e1];unfold qU;rw[M.nm,M.ver]
   ·have tq:(ec != 0)=true:=by simpa using h0
    have Z0:=iV h0;clear h0;go_upto_region 5 with(fail)
    go_region;go_wp2_with fail;refine bodyPost_ret (v:=.tuple #[.slice none 0 0,.slice (some ⟨w1.heap.size+1,0,none⟩) 1 1]) ?_ ?_ ?_
    ·simp[results,Tryz.results9,go_sem]
    ·rfl
    ·exact US r1 r2 ec (B1.out.alloc B1.out.size _) (by simp) rfl (fun _ _ h=>Z0.out (by rw[HR.out] at h;exact h))
def An (ver:BA):jn:={ nm:=⟨#[97,97]⟩,ver:=ver,ar:=⟨#[97,108,108]⟩,sm:=⟨#[115]⟩,na:=none,nc:=0,needs:=[],ba:=none,bc:=0,bars:=[],ga:=none,gc:=0,gives:=[],fa:=none,fc:=0,files:=[],sa:=none,sc:=0,scripts:=[] }
def Qp:BA:=⟨#[49,46,50]⟩
def Ft:BA:=⟨#[49,46,50,45,51]⟩
def isV (ver:BA):Prop:=ver=Qp\/ver=Ft
theorem aaQ (ver:BA)(w:World):(An ver).ok w:=⟨Rd.nil _ _ _,Rd.nil _ _ _,Rd.nil _ _ _,Rd.nil _ _ _,Rd.nil _ _ _⟩
theorem Zz {b sz:Nat}{vs:List Value}(h:jh w b vs)(hl:vs.length=sz):Rd w sz (some ⟨b,0,none⟩) 1 vs:=
 ⟨by rw[hl];simp,fun _=>⟨b,0,rfl,fun j u y=>by simpa using h.cell j u y⟩⟩
theorem aaR {pb:Nat}(hp:jh w pb (An ver).cells):tU w (some ⟨pb,0,none⟩) [An ver]:=
 ⟨Zz (vs:=(An ver).cells) hp rfl,fun p hp=>by rw[List.mem_singleton.1 hp];exact aaQ ver w⟩
theorem Nc:trans 1 2 Qp=([],11):=by kernel_rfl
theorem IN:trans 1 3 Ft=([49,46,50,45,114,51],0):=by kernel_rfl
theorem UT (h:isV ver):Ad 1 (An ver):=by
 refine⟨.inl rfl,(by decide:jZ (bl ⟨#[97,97]⟩)=true),?_,by simp[pR,aw,An],(by decide:Cz (bl ⟨#[115]⟩)=true),rfl,rfl,rfl,rfl,rfl⟩;rcases h with rfl | rfl<;>kernel_rfl
theorem Nd (h:isV ver):(BL (ny 1) (pN 1) [An ver]).2.2=0:=by
 have e:=yG.2 (UT h);have k:=L3 (l:=[An ver]) (k:=0) (p:=An ver) e (If _ _) (fun y z=>absurd (show y∈([]:List jg) from z) (List.not_mem_nil));rw[List.take_zero] at k;unfold BL;rw[if_neg (by decide),if_neg (by simp)];unfold zF;rw[k,if_pos rfl];rfl
theorem XL (ver:BA):vk 1 2 [] (An ver):=by
 refine⟨⟨?_,?_,?_⟩,(fun g y=>absurd (show g∈([]:List jf) from y) List.not_mem_nil),(fun g y=>absurd (show g∈([]:List jg) from y) List.not_mem_nil),(fun g y=>absurd (show g∈([]:List jy) from y) List.not_mem_nil)⟩<;>kernel_rfl
theorem ZA:wu 1 3 ⟨#[97,108,108]⟩=⟨#[110,111,97,114,99,104]⟩:=by
 rw[yH (.inl rfl) (.inr (.inr rfl))];simp[aw]
theorem QB {base:Nat}{e:TypeId}{size n c:Nat}{xs:List Value}(h:w.ownsRow base e size (.slice (some ⟨g,0,none⟩) n c) n xs):jh w g xs:=by
 refine⟨(h.lt g rfl).2,fun j u z=>?_,fun j D=>h.frozenAt j⟩;have y:=h.cells (g:=g) rfl j u z;rw[show Addr.add ⟨g,0,none⟩ j=⟨g,j,none⟩ by unfold Addr.add;split<;>simp_all] at y;exact y
theorem XM (h:tQ 1 2 [] [An Qp] w e w'):
  ∃ g cc,e=.returned (.tuple #[.slice none 0 0,.slice (some ⟨g,0,none⟩) 1 cc])/\jh w' g [.string ⟨#[97,97]⟩,.string ⟨#[118,101,114,115,105,111,110]⟩,.int .i64 11]/\w.heap.size<=g/\Below w.heap.size w w':=by
 obtain⟨h | h,H⟩:=h
 ·obtain⟨v,R,rfl,V,y,J⟩:=h;obtain⟨_,F⟩:=J (.inl rfl) (.inr (.inl rfl)) (Nd (.inl rfl));obtain⟨U,D,K⟩:=F _ rfl;have z:=K.2 (XL Qp);subst z;have I:qU 1 2 (An Qp)=[⟨⟨#[97,97]⟩,yP,11⟩]:=by
   unfold qU;rw[if_neg (by rw[show(An Qp).ver=Qp from rfl,Nc];simp)];rfl
  rw[I,List.append_nil] at D;subst D;obtain⟨g,cap,rfl,M,_⟩:=y.form (by decide);exact⟨g,cap,rfl,QB y,M,H⟩
 ·obtain⟨O,N,_,_,_,_,ht,_⟩:=h;have:=(ht (An Qp) (by simp)).ver;rw[show(An Qp).ver=Qp from rfl,Nc] at this;cases this
theorem UU (h:tQ 1 3 [] [An Ft] w e w'):
  ∃ g cc,e=.returned (.tuple #[.slice (some ⟨g,0,none⟩) 1 cc,.slice none 0 0])/\(∃ r,jh w' g (.string ⟨#[97,97]⟩ :: .string ⟨#[49,46,50,45,114,51]⟩ :: .string ⟨#[110,111,97,114,99,104]⟩::r))/\Below w.heap.size w w':=by
 obtain⟨h | h,K⟩:=h
 ·obtain⟨v,R,rfl,Y,y,M⟩:=h;obtain⟨N,_⟩:=M (.inl rfl) (.inr (.inr rfl)) (Nd (.inr rfl));exfalso;apply N;intro p I;rw[List.mem_singleton.1 I];refine⟨?_,⟨?_,?_,?_⟩,(fun g z=>absurd (show g∈([]:List jf) from z) List.not_mem_nil),(fun g z=>absurd (show g∈([]:List jg) from z) List.not_mem_nil),(fun g z=>absurd (show g∈([]:List jy) from z) List.not_mem_nil)⟩
  ·rw[show(An Ft).ver=Ft from rfl,IN]
  all_goals kernel_rfl
 ·obtain⟨O,J,rfl,_,_,_,ht,H,y,_⟩:=h
  match J,H.len with
  | [q],_=>
   have F:=H.each 0 (An Ft) q rfl rfl;obtain⟨g,cap,rfl,z,_⟩:=y.form (by show 0<1;decide);have D:=QB y;refine⟨g,cap,rfl,⟨[.string q.sm,.slice q.na q.needs.length q.nc,.slice q.ba q.bars.length q.bc,.slice q.ga q.gives.length q.gc,.slice q.fa q.files.length q.fc,.slice q.sa q.scripts.length q.sc],?_⟩,K⟩;have X:q.nm=⟨#[97,97]⟩:=F.nm;have V:q.ver=⟨#[49,46,50,45,114,51]⟩:=by
    rw[F.ver,show(An Ft).ver=Ft from rfl,IN];rfl
   have U:q.ar=⟨#[110,111,97,114,99,104]⟩:=by
    rw[F.ar];exact ZA
   have:[q].flatMap jn.cells=q.cells:=by simp
   rw[this] at D;unfold jn.cells at D;rw[X,V,U] at D;exact D
theorem Bf (w:World)(hG:xC w):Calls Tryz.prog 6 #[] w fun e w'=>e=.returned (.bool true)/\Below w.heap.size w w':=by
 have HG:=iV hG;clear hG;have CV:=iV (fun (b:Int) (ver:BA) (hv:isV ver) (pb:Nat) (W:World) (hb:Below w.heap.size w W) (R:jh W pb (An ver).cells)=>
  pu 1 b (some ⟨pb,0,none⟩) 1 [An ver] none 0 [] W (HG.out.below hb) (aaR R) (by simp) (by rcases hv with rfl | rfl<;>decide) (by intro p R;rw[List.mem_singleton.1 R];rcases hv with rfl | rfl<;>decide) (by intro p R;rw[List.mem_singleton.1 R];exact⟨z0,z0,z0,z0,z0⟩) (Rd.nil _ _ _) (by simp) (by intro k hk;cases hk))
 go_in;go_wp2_with fail;obtain⟨X,D⟩:∃ X,w.alloc (.cells #[.string ⟨#[97,97]⟩,.string ⟨#[49,46,50]⟩,.string ⟨#[97,108,108]⟩,.string ⟨#[115]⟩,.slice none 0 0,.slice none 0 0,.slice none 0 0,.slice none 0 0,.slice none 0 0] 38)=X:=⟨_,rfl⟩
 obtain⟨M,F⟩:∃ M,X.alloc (.cells #[.string ⟨#[97,97]⟩,.string ⟨#[49,46,50]⟩,.string ⟨#[97,108,108]⟩,.string ⟨#[115]⟩,.slice none 0 0,.slice none 0 0,.slice none 0 0,.slice none 0 0,.slice none 0 0] 38)=M:=⟨_,rfl⟩
 have B2:Hid (Below w.heap.size w M):=by show Below _ _ _;rw[<-F,<-D];exact(bR.alloc lr _).alloc (by simp) _
 have P2:Hid (jh M w.heap.size (An Qp).cells):=by show jh _ _ _;rw[<-F,<-D];exact(jh.new w (An Qp).cells _).alloc _
 have Q2:Hid (jh M (w.heap.size+1) (An Qp).cells):=by
  show jh _ _ _;have h:=jh.new X (An Qp).cells 38;rw[show X.heap.size=w.heap.size+1 by rw[<-D];simp] at h;rw[<-F];exact h
 rw[D,F];clear D F;refine(CV.out 2 Qp (.inl rfl) (w.heap.size+1) M B2.out Q2.out).mono ?_;intro e w3 Y;obtain⟨g3,c3,rfl,U,Z,I⟩:=XM Y;have P3:=iV (P2.out.below I);have B3:=iV (jc B2.out I);have R3:=iV U;have y1:w3.cell? ⟨w.heap.size,1,none⟩=some (.string ⟨#[49,46,50]⟩):=P3.out.cell 1 _ rfl;have f1:=P3.out.free 1 (by decide);have H:=iV (P3.out.set 1 (by decide) (.string ⟨#[49,46,50,45,51]⟩));have B4:=iV (jb B3.out lr (j:=1) (.string ⟨#[49,46,50,45,51]⟩));have R4:Hid (jh (w3.setCell ⟨w.heap.size,1,none⟩ (.string ⟨#[49,46,50,45,51]⟩)) g3 [.string ⟨#[97,97]⟩,.string ⟨#[118,101,114,115,105,111,110]⟩,.int .i64 11]):=R3.out.far (by have:=P2.out.sz;omega) _;obtain⟨y,O⟩:∃ y,w3.setCell ⟨w.heap.size,1,none⟩ (.string ⟨#[49,46,50,45,51]⟩)=y:=⟨_,rfl⟩
 rw[O] at H B4 R4;have z0:y.cell? ⟨w.heap.size,0,none⟩=some (.string ⟨#[97,97]⟩):=H.out.cell 0 _ rfl;have z1:y.cell? ⟨w.heap.size,1,none⟩=some (.string ⟨#[49,46,50,45,51]⟩):=H.out.cell 1 _ rfl;have z2:y.cell? ⟨w.heap.size,2,none⟩=some (.string ⟨#[97,108,108]⟩):=H.out.cell 2 _ rfl;have z3:y.cell? ⟨w.heap.size,3,none⟩=some (.string ⟨#[115]⟩):=H.out.cell 3 _ rfl;have z4:y.cell? ⟨w.heap.size,4,none⟩=some (.slice none 0 0):=H.out.cell 4 _ rfl;have z5:y.cell? ⟨w.heap.size,5,none⟩=some (.slice none 0 0):=H.out.cell 5 _ rfl;have z6:y.cell? ⟨w.heap.size,6,none⟩=some (.slice none 0 0):=H.out.cell 6 _ rfl;have z7:y.cell? ⟨w.heap.size,7,none⟩=some (.slice none 0 0):=H.out.cell 7 _ rfl;have z8:y.cell? ⟨w.heap.size,8,none⟩=some (.slice none 0 0):=H.out.cell 8 _ rfl;clear Y U Z I;go_wp2_with fail;obtain⟨N,z⟩:∃ N,y.alloc (.cells #[.string ⟨#[97,97]⟩,.string ⟨#[49,46,50,45,51]⟩,.string ⟨#[97,108,108]⟩,.string ⟨#[115]⟩,.slice none 0 0,.slice none 0 0,.slice none 0 0,.slice none 0 0,.slice none 0 0] 38)=N:=⟨_,rfl⟩
 have B5:Hid (Below w.heap.size w N):=by show Below _ _ _;rw[<-z];exact B4.out.alloc B4.out.size _
 have Q5:Hid (jh N y.heap.size (An Ft).cells):=by show jh _ _ _;rw[<-z];exact jh.new y (An Ft).cells _
 have R5:Hid (jh N g3 [.string ⟨#[97,97]⟩,.string ⟨#[118,101,114,115,105,111,110]⟩,.int .i64 11]):=by show jh _ _ _;rw[<-z];exact R4.out.alloc _
 rw[z];clear z0 z1 z2 z3 z4 z5 z6 z7 z8 y1 f1 z;refine(CV.out 3 Ft (.inr rfl) y.heap.size N B5.out Q5.out).mono ?_;intro e w6 V;obtain⟨g6,c6,rfl,⟨r6,K⟩,J⟩:=UU V;have R6:=iV (R5.out.below J);have B6:=iV (jc B5.out J);have x0:=R6.out.cell 0 _ rfl;have x1:=R6.out.cell 1 _ rfl;have x2:=R6.out.cell 2 _ rfl;have q1:=K.cell 1 _ rfl;have q2:=K.cell 2 _ rfl;clear V K J O;go_wp2;go_ret;exact⟨rfl,B6.out⟩
end
end Go.Proofs.YtkmjcombhjombaaGreatDoor
