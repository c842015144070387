/- A part of the proof. -/
import Derived.Test.YtkmjcombhjombaaGreatDoorK28
set_option maxRecDepth 100000
set_option maxHeartbeats 20000000
set_option linter.unusedVariables false
set_option linter.unusedSimpArgs false
namespace Go.Proofs.YtkmjcombhjombaaGreatDoor
variable{AR V:BA}{Q:Exit->Act->World->Prop}{a b code:Int}{l:List BA}{B c c2 gb k kb mb:Nat}{T:Nat->Prop}{A A1 A2:Option Addr}{aA aB aC aD aE aF aG aH aI aJ aK aL aM aN aO aP aQ aR aS aT aU aV aW aX aY aZ aa ab ac ad ae af ag ah ai aj ak al am an ao ap aq au av ax ay az bA bB bC bD bE bF bG bH bI bJ bK bL bM bN bO bP bQ bR bS bT bU bV bW bX bY bZ ba bb bc bd be bf bg bh bi bj bk bm bn bo bp bq br bs bt bu bv bw bx bz c0 c1 c4 c6 c7 c8 c9 cA cB cC cD cE cF cG cH cI cJ cK cL cM cN cO cP cQ cR cS cT cU cV cW cX cY cZ ca cb cc ce cf cg ch ci cj ck cl cm cn co cp cq cr cs ct cu cv cw cx cy cz dA dB dC dD dE dF dG dH dI dJ dK dL dM dN dO dP dQ dR dS dT dU dV dW dX dY dZ da db dc de df dg dh di dj dk dl dm dn dp dq dr ds dt du dv dw dx dy dz ea eb ec ed ee ef eg eh ei ej ek el em en eo ep eq er es eu v:Value}{W w w' wr:World}
section
open Go.RowKit
structure vk (a b:Int) (kn:List kV) (p:jn):Prop where
 deps:vg a b p
 gives:∀ g∈p.gives,qH a b g
 files:∀ f∈p.files,oZ a b kn f
 scripts:∀ s∈p.scripts,zD b s.phase=true
theorem Ze {kn:List kV}{p:jn}:oG a b kn p↔(trans a b p.ver).2=0/\vk a b kn p:=
 ⟨fun h=>⟨h.1,h.2,h.3,h.4,h.5⟩,fun h=>⟨h.1,h.2.1,h.2.2,h.2.3,h.2.4⟩⟩
def yP:BA:=⟨#[118,101,114,115,105,111,110]⟩
def qU (a b:Int)(p:jn):List ky:=if (trans a b p.ver).2=0 then [] else [⟨p.nm,yP,11⟩]
theorem IJ {p:jn}:qU a b p=[]↔(trans a b p.ver).2=0:=by
 unfold qU;split
 ·simp_all
 ·simp_all
theorem MZ (a b:Int)(p:jn):(qU a b p).length<=1:=by unfold qU;split<;>simp
def M7 (T:Nat->Prop)(kb mb:Nat)(a b:Int)(kn:List kV)(ms:List ql)(R0:List ky)(p:jn)(w:World)(e:Ending)(w':World):Prop:=
 ∃ (v:Value) (q:jn) (bs:List ky),e=.returned q.val/\CvE T w w' kb mb a b ms v (R0++(qU a b p++bs)) q/\(bs=[]↔vk a b kn p)/\bs.length<=600/\((trans a b p.ver).2=0->bs=[]->xj a b kn p q)
def jn.setVer (p:jn)(s:BA):jn:=⟨p.nm,s,p.ar,p.sm,p.na,p.nc,p.needs,p.ba,p.bc,p.bars,p.ga,p.gc,p.gives,p.fa,p.fc,p.files,p.sa,p.sc,p.scripts⟩
def jn.setAr (p:jn)(s:BA):jn:=⟨p.nm,p.ver,s,p.sm,p.na,p.nc,p.needs,p.ba,p.bc,p.bars,p.ga,p.gc,p.gives,p.fa,p.fc,p.files,p.sa,p.sc,p.scripts⟩
def jn.setNeeds (p:jn)(A:Option Addr)(c:Nat)(l:List BA):jn:=⟨p.nm,p.ver,p.ar,p.sm,A,c,l,p.ba,p.bc,p.bars,p.ga,p.gc,p.gives,p.fa,p.fc,p.files,p.sa,p.sc,p.scripts⟩
def jn.setBars (p:jn)(A:Option Addr)(c:Nat)(l:List BA):jn:=⟨p.nm,p.ver,p.ar,p.sm,p.na,p.nc,p.needs,A,c,l,p.ga,p.gc,p.gives,p.fa,p.fc,p.files,p.sa,p.sc,p.scripts⟩
section
variable {T : Nat -> Prop} {w wr : World} {kb mb : Nat} {a b : Int} {ms : List ql} {v : Value} {R : List ky} {q : jn}
theorem lN.putVer (h:lN T w wr kb mb a b ms v R q)(s:BA):lN T w (wr.setCell ⟨w.heap.size+1,1,none⟩ (.string s)) kb mb a b ms v R (q.setVer s):=
 h.put 1 (by decide) (.string s) (q.setVer s) rfl ⟨h.own.1,h.own.2,h.own.3,h.own.4,h.own.5⟩ rfl rfl (fun j g y=>h.fr j g (by match j,y with | 0,y=>exact y | 1,y=>exact y | 2,y=>exact y | 3,y=>exact y | j+4,y=>exact y))
theorem lN.putAr (h:lN T w wr kb mb a b ms v R q)(s:BA):lN T w (wr.setCell ⟨w.heap.size+1,2,none⟩ (.string s)) kb mb a b ms v R (q.setAr s):=
 h.put 2 (by decide) (.string s) (q.setAr s) rfl ⟨h.own.1,h.own.2,h.own.3,h.own.4,h.own.5⟩ rfl rfl (fun j g y=>h.fr j g (by match j,y with | 0,y=>exact y | 1,y=>exact y | 2,y=>exact y | 3,y=>exact y | j+4,y=>exact y))
theorem lN.putNeeds (h:lN T w wr kb mb a b ms v R q)(hn:rg (w.heap.size+3) wr A c l):lN T w (wr.setCell ⟨w.heap.size+1,4,none⟩ (.slice A l.length c)) kb mb a b ms v R (q.setNeeds A c l):=by
 have z:=h.lt;refine h.put 4 (by decide) (.slice A l.length c) (q.setNeeds A c l) rfl ⟨hn.mono (by omega),h.own.2,h.own.3,h.own.4,h.own.5⟩ rfl rfl (fun j g y=>?_)
 match j,y with
 | 0,y=>have:=(World.ownsRow.lt hn g y).1;right;omega
 | 1,y=>exact h.fr 1 g y
 | 2,y=>exact h.fr 2 g y
 | 3,y=>exact h.fr 3 g y
 | j+4,y=>exact h.fr (j+4) g y
theorem lN.putBars (h:lN T w wr kb mb a b ms v R q)(hn:rg (w.heap.size+3) wr A c l):lN T w (wr.setCell ⟨w.heap.size+1,5,none⟩ (.slice A l.length c)) kb mb a b ms v R (q.setBars A c l):=by
 have z:=h.lt;refine h.put 5 (by decide) (.slice A l.length c) (q.setBars A c l) rfl ⟨h.own.1,hn.mono (by omega),h.own.3,h.own.4,h.own.5⟩ rfl rfl (fun j g y=>?_)
 match j,y with
 | 0,y=>exact h.fr 0 g y
 | 1,y=>have:=(World.ownsRow.lt hn g y).1;right;omega
 | 2,y=>exact h.fr 2 g y
 | 3,y=>exact h.fr 3 g y
 | j+4,y=>exact h.fr (j+4) g y
theorem rg.set {cc:Nat}(hn:rg B wr A cc l)(hc:c<B)(j:Nat)(u:Value):rg B (wr.setCell ⟨c,j,none⟩ u) A cc l:=
 kg hn (ji (World.grownBy.refl wr _) (.inl rfl) u) (fun e=>by have:=(World.ownsRow.lt hn c e).1;omega)
theorem lN.dep {u:Value}{n:Nat}{xs:List Value}(h:lN T w wr kb mb a b ms v R q)(ho:wr.ownsRow B 75 2 u n xs)(hB:w.heap.size+2<B)(hg:wr.grownBy w' u.ownBlock):lN T w w' kb mb a b ms v R q:=by
 have y:∀ g,u.ownBlock=some g->w.heap.size+2<g:=fun g hg=>by have:=(ho.lt g hg).1;omega
 have D:=h.lt;have z:=h.ml;have far:∀ c,c<=w.heap.size+2->some c≠u.ownBlock:=fun c F e=>by have:=y c e.symm;omega
 exact⟨h.kp.grown hg (fun g hg=>by have:=y g hg;right;omega),h.lt,h.ml,h.tl,h.tk,h.tv,h.tg,h.tf,h.fr,h.kv.grownQ hg (far _ (by omega)),jH h.rf ho (by decide) hg,h.box.grownQ hg (far _ (by omega)),h.pk.grownQ hg (far _ (by omega)),h.res.grownQ hg (far _ (by omega)),h.mp.block (hg.block mb h.mp.lt (far _ (by omega))),
  ⟨jH h.own.1 ho (by decide) hg,jH h.own.2 ho (by decide) hg,jH h.own.3 ho (by decide) hg,jH h.own.4 ho (by decide) hg,jH h.own.5 ho (by decide) hg⟩⟩
end
structure StD (a b:Int) (p q:jn) (bs:List ky):Prop where
 nm:q.nm=p.nm
 ver:q.ver=ke (trans a b p.ver).1
 ar:q.ar=p.ar
 sm:q.sm=p.sm
 ga:q.ga=p.ga
 gc:q.gc=p.gc
 gives:q.gives=p.gives
 fa:q.fa=p.fa
 fc:q.fc=p.fc
 files:q.files=p.files
 sa:q.sa=p.sa
 sc:q.sc=p.sc
 scripts:q.scripts=p.scripts
 ok:bs=[]↔vg a b p
 few:bs.length<=3
 txt:bs=[]->q.needs.map bl=xz b false (lB a p)/\q.bars.map bl=xz b true (lB a p)
def nR (a b:Int)(l:List jf)(k:Nat):List jf:=(l.take k).map (sM a b)++l.drop k
theorem Xw {l:List jf}{x:jf}(hx:l[k]?=some x):(nR a b l k)[k]?=some x:=by
 unfold nR;have y:=(gS hx).1;rw[List.getElem?_append_right (by rw[List.length_map,List.length_take];omega),List.length_map,List.length_take,List.getElem?_drop,show k+(k-min k l.length)=k by omega];exact hx
theorem UM (a b:Int)(l:List jf)(hk:k<=l.length):(nR a b l k).length=l.length:=by
 unfold nR;rw[List.length_append,List.length_map,List.length_take,List.length_drop];omega
theorem Qg {l:List jf}{x:jf}(hx:l[k]?=some x)(h3:x.op=3):(nR a b l k).set k ⟨x.nm,x.op,⟨(trans a b x.ver).1.toArray⟩⟩=nR a b l (k+1):=by
 unfold nR;have z:=(gS hx).1;have y:l.drop k=x::l.drop (k+1):=by rw[List.drop_eq_getElem_cons z];congr 1;exact(gS hx).2
 rw[List.set_append_right _ _ (by rw[List.length_map,List.length_take];omega),List.length_map,List.length_take,show k-min k l.length=0 by omega,y,List.set_cons_zero,jI hx,List.map_append,List.append_assoc,h3];rfl
theorem UN (a b:Int)(l:List jf):nR a b l l.length=l.map (sM a b):=by unfold nR;simp
theorem IK {p:jn}{x y:List jd}(hx:x.map jd.pl=mh a false (p.needs.map bl))(hy:y.map jd.pl=mh a true (p.bars.map bl)):(x++y).map jd.pl=lB a p:=by
 rw[List.map_append,hx,hy];rfl
theorem UO {p:jn}{x y:List jd}(h1:kZ a false (p.needs.map bl)=0)(h2:kZ a true (p.bars.map bl)=0)(hx:x.map jd.pl=mh a false (p.needs.map bl))(hy:y.map jd.pl=mh a true (p.bars.map bl))(hs1:∀ s∈p.needs,s.size<=1000000)(hs2:∀ s∈p.bars,s.size<=1000000):
  x.length<=64/\y.length<=64/\J1 (x++y):=by
 have key:∀ (l:List BA),(∀ s∈l,s.size<=1000000)->∀ s∈l.map bl,s.length<=1000000:=by
  intro l O s N;obtain⟨z,R,rfl⟩:=List.mem_map.1 N;rw[iX];exact O z R
 have M:=yO h1 (key _ hs1);have K:=yO h2 (key _ hs2);have H:x.length<=64:=by have:=congrArg List.length hx;rw[List.length_map] at this;have:=M.1;omega
 have I:y.length<=64:=by have:=congrArg List.length hy;rw[List.length_map] at this;have:=K.1;omega
 have J:∀ d∈x++y,d.alts.length<=64/\∀ g∈d.alts,g.nm.size<=64/\g.ver.size<=64:=by
  intro d D;rcases List.mem_append.1 D with D | D
  ·exact M.2 d.pl (by rw[<-hx];exact List.mem_map.2 ⟨d,D,rfl⟩)
  ·exact K.2 d.pl (by rw[<-hy];exact List.mem_map.2 ⟨d,D,rfl⟩)
 exact⟨H,I,by rw[List.length_append];omega,fun d D=>by have:=(J d D).1;omega,fun d D g F=>by have:=((J d D).2 g F).1;omega,fun d D g F=>by have:=((J d D).2 g F).2;omega⟩
theorem Xx {wa wb:World}{x y:List jd}{n1 n2 c1:Nat}(hx:pt wa wr x A1 n1 c1)(hy:pt wb wr y A2 n2 c2)(ho:w'.ownsRow wa.heap.size 75 2 (.slice A (n1+n2) c) (n1+n2) (x.flatMap jd.cells++y.flatMap jd.cells))(hg:wr.grownBy w' (Value.slice A1 n1 c1).ownBlock):qm w' A (x++y):=by
 refine⟨?_,fun d z=>?_⟩
 ·have:=jL ho;rw[List.flatMap_append,List.length_append,hx.len,hy.len];exact this
 ·rcases List.mem_append.1 z with z | z
  ·exact jL (jH (hx.al d z) hx.row (by decide) hg)
  ·exact jL (jH (hy.al d z) hx.row (by decide) hg)
theorem StD.none {p:jn}{bs:List ky}(hb:bs≠[])(hn:¬ vg a b p)(hf:bs.length<=3):StD a b p (p.setVer (ke (trans a b p.ver).1)) bs:=
 ⟨rfl,rfl,rfl,rfl,rfl,rfl,rfl,rfl,rfl,rfl,rfl,rfl,rfl,⟨fun e=>absurd e hb,fun h=>absurd h hn⟩,hf,fun e=>absurd e hb⟩
theorem StD.some {p:jn}{bs:List ky}{c1:Nat}{ns ms:List BA}(ok:bs=[]↔vg a b p)(hf:bs.length<=3)(ht:bs=[]->ns.map bl=xz b false (lB a p)/\ms.map bl=xz b true (lB a p)):StD a b p (((p.setVer (ke (trans a b p.ver).1)).setNeeds A1 c1 ns).setBars A2 c2 ms) bs:=
 ⟨rfl,rfl,rfl,rfl,rfl,rfl,rfl,rfl,rfl,rfl,rfl,rfl,rfl,ok,hf,ht⟩
end
section
open Go.RowKit
def Xz (a:Int)(bar:Bool)(ts:List (LU))(w wx:World)(ds:List jd)(A:Option Addr)(n c:Nat)(code:Int):Prop:=
 if kZ a bar ts=0 then code=0/\ds.map jd.pl=mh a bar ts/\∃ wb,w.heap.size+2<wb.heap.size/\pt wb wx ds A n c else code≠0
theorem Zh {ar:Value}{ms:List ql}{R:List ky}{p:jn}(hGB:∀ {wr:World}{v:Value}{R:List ky}{q:jn},lN T w wr kb mb a b ms v R q->xC wr)(hA:p.able)(hB:lN T w W kb mb a b ms v R (p.setVer V))
  (hQ:∀ (u7 u8 eB eC eD eE eF eG eH eI eJ eK:Value)(wx:World),(∃ (A:Option Addr)(n c:Nat)(ds:List jd)(code:Int),u7=.slice A n c/\u8=.int .i64 code/\lN T w wx kb mb a b ms v R (p.setVer V)/\Below W.heap.size W wx/\Xz a false (p.needs.map bl) w wx ds A n c code)->Q .normal ⟨#[c0,c1,.pointer (some ⟨w.heap.size,0,none⟩),.pointer (some ⟨w.heap.size+1,0,none⟩),c4,.func (Fn.func 46) #[] #[.pointer (some ⟨w.heap.size,0,none⟩),.pointer (some ⟨w.heap.size+1,0,none⟩)],c6,u7,u8,c9,dY,cE,cF,cG,cH,cI,cJ,cK,cL,cM,cN,cO,cP,cQ,cR,cS,cT,cU,cV,cW,cX,cY,cZ,da,db,dc,de,df,dg,dh,eB,eC,eD,eE,eF,eG,eH,eI,eJ,eK,ej,ek,el,em,en,eo,ep,eq,er,es,di,dj,dk,dl,dm,dn,dp,dq,dr,dt,du,dv,dw,dx,dy,dz,dA,dB,dC,dD,dE,dF,dG,dH,dI,dJ,dK,dL,dM,dN,dO,dP,dQ,dR,dS,dT,dU,dV,dW,dX,ab,ac,ad,ae,af,ag,ah,ai,aj,ak,al,am,an,ao,ap,aq,ar,au,av,ax,ay,az,aA,aB,aC,aD,aE,aF,aG,aH,aI,aJ,aK,aL,aM,aN,aO,aP,aQ,aR,aS,aT,aU,aV,aW,aX,aY,aZ,bb,bd,be,bf,bg,bh,bi,bj,bk,bm,bn,bo,bp,bq,br,bs,bt,bu,bv,bw,bx,bz,bA,bB,bC,bD,bE,bF,bG,bH,bI,bJ,bK,bL,bM,bN,bO,bP,bQ,bR,bS,bT,bU,bV,bW,bX,bY,bZ,ca,cb,cc,ce,cf,cg,ch,ci,cj,ck,cl,cm,cn,co,cp,cq,cr,cs,ct,cu,cv,cw,cx,cy,cz,cA,cB,cC],[]⟩ wx):
  Code.wp Tryz.prog (cd [1,1,1,1,0]) Q ⟨#[c0,c1,.pointer (some ⟨w.heap.size,0,none⟩),.pointer (some ⟨w.heap.size+1,0,none⟩),c4,.func (Fn.func 46) #[] #[.pointer (some ⟨w.heap.size,0,none⟩),.pointer (some ⟨w.heap.size+1,0,none⟩)],c6,c7,c8,c9,dY,cE,cF,cG,cH,cI,cJ,cK,cL,cM,cN,cO,cP,cQ,cR,cS,cT,cU,cV,cW,cX,cY,cZ,da,db,dc,de,df,dg,dh,dZ,ea,eb,ec,ed,ee,ef,eg,eh,ei,ej,ek,el,em,en,eo,ep,eq,er,es,di,dj,dk,dl,dm,dn,dp,dq,dr,dt,du,dv,dw,dx,dy,dz,dA,dB,dC,dD,dE,dF,dG,dH,dI,dJ,dK,dL,dM,dN,dO,dP,dQ,dR,dS,dT,dU,dV,dW,dX,ab,ac,ad,ae,af,ag,ah,ai,aj,ak,al,am,an,ao,ap,aq,ar,au,av,ax,ay,az,aA,aB,aC,aD,aE,aF,aG,aH,aI,aJ,aK,aL,aM,aN,aO,aP,aQ,aR,aS,aT,aU,aV,aW,aX,aY,aZ,bb,bd,be,bf,bg,bh,bi,bj,bk,bm,bn,bo,bp,bq,br,bs,bt,bu,bv,bw,bx,bz,bA,bB,bC,bD,bE,bF,bG,bH,bI,bJ,bK,bL,bM,bN,bO,bP,bQ,bR,bS,bT,bU,bV,bW,bX,bY,bZ,ca,cb,cc,ce,cf,cg,ch,ci,cj,ck,cl,cm,cn,co,cp,cq,cr,cs,ct,cu,cv,cw,cx,cy,cz,cA,cB,cC],[]⟩ W:=by
 have Y:=iV hQ;clear hQ;have GB:Hid (∀ {wr:World} {v:Value} {R:List ky} {q:jn},lN T w wr kb mb a b ms v R q->xC wr):=hGB;have y:=iV hB;have HS:=iV hA;obtain⟨K,I⟩:∃ K,W=K:=⟨_,rfl⟩
 rw[I] at y Y |-;clear hGB hB hA I
 conv=>arg 2;whnf
 have c0:=y.out.box.cell 0 _ rfl;have Z:=y.out.kv.cell 0 _ rfl;have p4:=y.out.pk.cell 4 _ rfl
 go_region_held3 (fun M=>M.cell? ⟨w.heap.size,0,none⟩=some (.pointer (some ⟨kb,0,none⟩))/\M.cell? ⟨kb,0,none⟩=some (.int .i64 a)/\M.cell? ⟨w.heap.size+1,4,none⟩=some (.slice p.na p.needs.length p.nc))
  (first
    | exact⟨c0,Z,p4⟩
    | exact⟨J.out.box.cell 0 _ rfl,J.out.kv.cell 0 _ rfl,J.out.pk.cell 4 _ rfl⟩
    | go_keep)
  (first
    | (go_at_call 27;refine(vH a false p.na p.nc p.needs _ (GB.out y.out.drew) (jL y.out.drew.own.needs) HS.out.needs HS.out.small.needs_).mono ?_;rintro e w7 ⟨A7,n7,c7,N,D,rfl,z,F⟩
       have J:=iV (y.out.drew.step z);have U:=iV z;have X:=iV F;clear F))
 all_goals
  clear c0 Z p4 z;go_wp2_with fail;refine Y.out _ _ _ _ _ _ _ _ _ _ _ _ _ ⟨A7,n7,c7,N,D,rfl,rfl,J.out,(Below.refl _ K).drew.trans U.out,?_⟩;have H:=X.out;show if _ then _ else _
  split at H
  ·rename_i O;rw[if_pos O];exact⟨H.1,H.2.1,K.drew,y.out.res.sz,H.2.2⟩
  ·rename_i O;rw[if_neg O];exact H.1
theorem Zi {ar:Value}{ms:List ql}{R:List ky}{p:jn}(hGB:∀ {wr:World}{v:Value}{R:List ky}{q:jn},lN T w wr kb mb a b ms v R q->xC wr)(hA:p.able)(hB:lN T w W kb mb a b ms v R (p.setVer V))
  (hQ:∀ (u9 ey eM eN eO eP eQ eR eS eT eU eV:Value)(wx:World),(∃ (A:Option Addr)(n c:Nat)(ds:List jd)(code:Int),u9=.slice A n c/\ey=.int .i64 code/\lN T w wx kb mb a b ms v R (p.setVer V)/\Below W.heap.size W wx/\Xz a true (p.bars.map bl) w wx ds A n c code)->Q .normal ⟨#[c0,c1,.pointer (some ⟨w.heap.size,0,none⟩),.pointer (some ⟨w.heap.size+1,0,none⟩),c4,.func (Fn.func 46) #[] #[.pointer (some ⟨w.heap.size,0,none⟩),.pointer (some ⟨w.heap.size+1,0,none⟩)],c6,c7,c8,u9,ey,cE,cF,cG,cH,cI,cJ,cK,cL,cM,cN,cO,cP,cQ,cR,cS,cT,cU,cV,cW,cX,cY,cZ,da,db,dc,de,df,dg,dh,dZ,ea,eb,ec,ed,ee,ef,eg,eh,ei,eM,eN,eO,eP,eQ,eR,eS,eT,eU,eV,di,dj,dk,dl,dm,dn,dp,dq,dr,dt,du,dv,dw,dx,dy,dz,dA,dB,dC,dD,dE,dF,dG,dH,dI,dJ,dK,dL,dM,dN,dO,dP,dQ,dR,dS,dT,dU,dV,dW,dX,ab,ac,ad,ae,af,ag,ah,ai,aj,ak,al,am,an,ao,ap,aq,ar,au,av,ax,ay,az,aA,aB,aC,aD,aE,aF,aG,aH,aI,aJ,aK,aL,aM,aN,aO,aP,aQ,aR,aS,aT,aU,aV,aW,aX,aY,aZ,bb,bd,be,bf,bg,bh,bi,bj,bk,bm,bn,bo,bp,bq,br,bs,bt,bu,bv,bw,bx,bz,bA,bB,bC,bD,bE,bF,bG,bH,bI,bJ,bK,bL,bM,bN,bO,bP,bQ,bR,bS,bT,bU,bV,bW,bX,bY,bZ,ca,cb,cc,ce,cf,cg,ch,ci,cj,ck,cl,cm,cn,co,cp,cq,cr,cs,ct,cu,cv,cw,cx,cy,cz,cA,cB,cC],[]⟩ wx):
  Code.wp Tryz.prog (cd [1,1,1,1,1,0]) Q ⟨#[c0,c1,.pointer (some ⟨w.heap.size,0,none⟩),.pointer (some ⟨w.heap.size+1,0,none⟩),c4,.func (Fn.func 46) #[] #[.pointer (some ⟨w.heap.size,0,none⟩),.pointer (some ⟨w.heap.size+1,0,none⟩)],c6,c7,c8,c9,dY,cE,cF,cG,cH,cI,cJ,cK,cL,cM,cN,cO,cP,cQ,cR,cS,cT,cU,cV,cW,cX,cY,cZ,da,db,dc,de,df,dg,dh,dZ,ea,eb,ec,ed,ee,ef,eg,eh,ei,ej,ek,el,em,en,eo,ep,eq,er,es,di,dj,dk,dl,dm,dn,dp,dq,dr,dt,du,dv,dw,dx,dy,dz,dA,dB,dC,dD,dE,dF,dG,dH,dI,dJ,dK,dL,dM,dN,dO,dP,dQ,dR,dS,dT,dU,dV,dW,dX,ab,ac,ad,ae,af,ag,ah,ai,aj,ak,al,am,an,ao,ap,aq,ar,au,av,ax,ay,az,aA,aB,aC,aD,aE,aF,aG,aH,aI,aJ,aK,aL,aM,aN,aO,aP,aQ,aR,aS,aT,aU,aV,aW,aX,aY,aZ,bb,bd,be,bf,bg,bh,bi,bj,bk,bm,bn,bo,bp,bq,br,bs,bt,bu,bv,bw,bx,bz,bA,bB,bC,bD,bE,bF,bG,bH,bI,bJ,bK,bL,bM,bN,bO,bP,bQ,bR,bS,bT,bU,bV,bW,bX,bY,bZ,ca,cb,cc,ce,cf,cg,ch,ci,cj,ck,cl,cm,cn,co,cp,cq,cr,cs,ct,cu,cv,cw,cx,cy,cz,cA,cB,cC],[]⟩ W:=by
 have Y:=iV hQ;clear hQ;have GB:Hid (∀ {wr:World} {v:Value} {R:List ky} {q:jn},lN T w wr kb mb a b ms v R q->xC wr):=hGB;have y:=iV hB;have HS:=iV hA;obtain⟨K,I⟩:∃ K,W=K:=⟨_,rfl⟩
 rw[I] at y Y |-;clear hGB hB hA I
 conv=>arg 2;whnf
 have c0:=y.out.box.cell 0 _ rfl;have Z:=y.out.kv.cell 0 _ rfl;have p4:=y.out.pk.cell 5 _ rfl
 go_region_held3 (fun M=>M.cell? ⟨w.heap.size,0,none⟩=some (.pointer (some ⟨kb,0,none⟩))/\M.cell? ⟨kb,0,none⟩=some (.int .i64 a)/\M.cell? ⟨w.heap.size+1,5,none⟩=some (.slice p.ba p.bars.length p.bc))
  (first
    | exact⟨c0,Z,p4⟩
    | exact⟨J.out.box.cell 0 _ rfl,J.out.kv.cell 0 _ rfl,J.out.pk.cell 5 _ rfl⟩
    | go_keep)
  (first
    | (go_at_call 27;refine(vH a true p.ba p.bc p.bars _ (GB.out y.out.drew) (jL y.out.drew.own.bars) HS.out.bars HS.out.small.bars_).mono ?_;rintro e w7 ⟨A7,n7,c7,N,D,rfl,z,F⟩
       have J:=iV (y.out.drew.step z);have U:=iV z;have X:=iV F;clear F))
 all_goals
  clear c0 Z p4 z;go_wp2_with fail;refine Y.out _ _ _ _ _ _ _ _ _ _ _ _ _ ⟨A7,n7,c7,N,D,rfl,rfl,J.out,(Below.refl _ K).drew.trans U.out,?_⟩;have H:=X.out;show if _ then _ else _
  split at H
  ·rename_i O;rw[if_pos O];exact⟨H.1,H.2.1,K.drew,y.out.res.sz,H.2.2⟩
  ·rename_i O;rw[if_neg O];exact H.1
theorem Zj {ar:Value}{ms:List ql}{R:List ky}{p:jn}(hR:R.length<=1000000)(hB:lN T w W kb mb a b ms v R (p.setVer V))
  (hQ:∀ (ew ex ey ez eA:Value)(wx:World),(∃ v1 bs,lN T w wx kb mb a b ms v1 (R++bs) (p.setVer V)/\(bs=[]↔code=0)/\bs.length<=1/\(code=0->wx=W))->Q .normal ⟨#[c0,c1,.pointer (some ⟨w.heap.size,0,none⟩),.pointer (some ⟨w.heap.size+1,0,none⟩),c4,.func (Fn.func 46) #[] #[.pointer (some ⟨w.heap.size,0,none⟩),.pointer (some ⟨w.heap.size+1,0,none⟩)],c6,c7,.int .i64 code,c9,eu,cB,cC,cD,cE,cF,cG,cH,cI,cJ,cK,cL,cM,cN,cO,cP,cQ,cR,cS,cT,cU,cV,cW,cX,cY,cZ,da,db,dc,de,df,dg,dh,di,dj,dk,dl,dm,dn,dp,dq,dr,ds,dt,du,dv,dw,dx,dy,dz,ew,ex,ey,ez,eA,ed,ee,ef,eg,eh,ei,ej,ek,el,em,en,dA,dB,dC,dD,dE,dF,dG,dH,dI,dJ,dK,dL,dM,dN,dO,dP,dQ,dR,dS,dT,dU,dV,dW,dX,aa,ab,ac,ad,ae,af,ag,ah,ai,aj,ak,al,am,an,ao,ap,aq,ar,au,av,ax,ay,az,aA,aB,aC,aD,aE,aF,aG,aH,aI,aJ,aK,aL,aM,aN,aO,aP,aQ,aR,aS,aT,aU,aV,aW,aX,aY,aZ,ba,bb,bc,bd,be,bf,bg,bh,bi,bj,bk,bm,bn,bo,bp,bq,br,bt,bu,bv,bw,bx,bz,bA,bB,bC,bD,bE,bF,bG,bH,bI,bJ,bK,bL,bM,bN,bO,bP,bQ,bR,bS,bT,bU,bV,bW,bX,bY,bZ,ca,cb,cc,ce,cf,cg,ch,ci,cj,ck,cl,cm,cn,co,cp,cq,cr,cs,ct,cu,cv,cw,cx,cy,cz,cA],[]⟩ wx):
  Code.wp Tryz.prog (cd [1,1,1,1,1,1,0]) Q ⟨#[c0,c1,.pointer (some ⟨w.heap.size,0,none⟩),.pointer (some ⟨w.heap.size+1,0,none⟩),c4,.func (Fn.func 46) #[] #[.pointer (some ⟨w.heap.size,0,none⟩),.pointer (some ⟨w.heap.size+1,0,none⟩)],c6,c7,.int .i64 code,c9,eu,cB,cC,cD,cE,cF,cG,cH,cI,cJ,cK,cL,cM,cN,cO,cP,cQ,cR,cS,cT,cU,cV,cW,cX,cY,cZ,da,db,dc,de,df,dg,dh,di,dj,dk,dl,dm,dn,dp,dq,dr,ds,dt,du,dv,dw,dx,dy,dz,dY,dZ,ea,eb,ec,ed,ee,ef,eg,eh,ei,ej,ek,el,em,en,dA,dB,dC,dD,dE,dF,dG,dH,dI,dJ,dK,dL,dM,dN,dO,dP,dQ,dR,dS,dT,dU,dV,dW,dX,aa,ab,ac,ad,ae,af,ag,ah,ai,aj,ak,al,am,an,ao,ap,aq,ar,au,av,ax,ay,az,aA,aB,aC,aD,aE,aF,aG,aH,aI,aJ,aK,aL,aM,aN,aO,aP,aQ,aR,aS,aT,aU,aV,aW,aX,aY,aZ,ba,bb,bc,bd,be,bf,bg,bh,bi,bj,bk,bm,bn,bo,bp,bq,br,bt,bu,bv,bw,bx,bz,bA,bB,bC,bD,bE,bF,bG,bH,bI,bJ,bK,bL,bM,bN,bO,bP,bQ,bR,bS,bT,bU,bV,bW,bX,bY,bZ,ca,cb,cc,ce,cf,cg,ch,ci,cj,ck,cl,cm,cn,co,cp,cq,cr,cs,ct,cu,cv,cw,cx,cy,cz,cA],[]⟩ W:=by
 have I:=iV hQ;clear hQ;have F:=iV hB;have H:=iV hR;obtain⟨J,z⟩:∃ J,W=J:=⟨_,rfl⟩
 rw[z] at F I |-;clear hB hR z
 conv=>arg 2;whnf
 by_cases y:code=0
 ·have q:(code != 0)=false:=by simp[y]
  have D:=iV y;clear y;go_wp2_with fail;exact I.out _ _ _ _ _ _ ⟨v,[],by rw[List.append_nil];exact F.out,⟨fun _=>D.out,fun _=>rfl⟩,by show(0:Nat)<=1;decide,fun _=>rfl⟩
 ·have q:(code != 0)=true:=by simpa [bne] using y
  have D:=iV y;clear y;go_wp2_with fail;refine(qI F.out H.out p.nm ⟨#[110,101,101,100,115]⟩ code rfl).mono ?_;rintro e O ⟨rfl,M,K⟩;have N:=iV K;clear K;go_wp2_with fail;exact I.out _ _ _ _ _ _ ⟨M,_,N.out,⟨fun e=>by simp at e,fun e=>absurd e D.out⟩,by simp,fun e=>absurd e D.out⟩
theorem Zk {ar:Value}{ms:List ql}{R:List ky}{p:jn}(hR:R.length<=1000000)(hB:lN T w W kb mb a b ms v R (p.setVer V))
  (hQ:∀ (eC eD eE eF eG:Value)(wx:World),(∃ v1 bs,lN T w wx kb mb a b ms v1 (R++bs) (p.setVer V)/\(bs=[]↔code=0)/\bs.length<=1/\(code=0->wx=W))->Q .normal ⟨#[c0,c1,.pointer (some ⟨w.heap.size,0,none⟩),.pointer (some ⟨w.heap.size+1,0,none⟩),c4,.func (Fn.func 46) #[] #[.pointer (some ⟨w.heap.size,0,none⟩),.pointer (some ⟨w.heap.size+1,0,none⟩)],c6,c7,c8,c9,.int .i64 code,cB,cC,cD,cE,cF,cG,cH,cI,cJ,cK,cL,cM,cN,cO,cP,cQ,cR,cS,cT,cU,cV,cW,cX,cY,cZ,da,db,dc,de,df,dg,dh,di,dj,dk,dl,dm,dn,dp,dq,dr,ds,dt,du,dv,dw,dx,dy,dz,dY,dZ,ea,eb,ec,eC,eD,eE,eF,eG,ei,ej,ek,el,em,en,dA,dB,dC,dD,dE,dF,dG,dH,dI,dJ,dK,dL,dM,dN,dO,dP,dQ,dR,dS,dT,dU,dV,dW,dX,aa,ab,ac,ad,ae,af,ag,ah,ai,aj,ak,al,am,an,ao,ap,aq,ar,au,av,ax,ay,az,aA,aB,aC,aD,aE,aF,aG,aH,aI,aJ,aK,aL,aM,aN,aO,aP,aQ,aR,aS,aT,aU,aV,aW,aX,aY,aZ,ba,bb,bc,bd,be,bf,bg,bh,bi,bj,bk,bm,bn,bo,bp,bq,br,bt,bu,bv,bw,bx,bz,bA,bB,bC,bD,bE,bF,bG,bH,bI,bJ,bK,bL,bM,bN,bO,bP,bQ,bR,bS,bT,bU,bV,bW,bX,bY,bZ,ca,cb,cc,ce,cf,cg,ch,ci,cj,ck,cl,cm,cn,co,cp,cq,cr,cs,ct,cu,cv,cw,cx,cy,cz,cA],[]⟩ wx):
  Code.wp Tryz.prog (cd [1,1,1,1,1,1,1,0]) Q ⟨#[c0,c1,.pointer (some ⟨w.heap.size,0,none⟩),.pointer (some ⟨w.heap.size+1,0,none⟩),c4,.func (Fn.func 46) #[] #[.pointer (some ⟨w.heap.size,0,none⟩),.pointer (some ⟨w.heap.size+1,0,none⟩)],c6,c7,c8,c9,.int .i64 code,cB,cC,cD,cE,cF,cG,cH,cI,cJ,cK,cL,cM,cN,cO,cP,cQ,cR,cS,cT,cU,cV,cW,cX,cY,cZ,da,db,dc,de,df,dg,dh,di,dj,dk,dl,dm,dn,dp,dq,dr,ds,dt,du,dv,dw,dx,dy,dz,dY,dZ,ea,eb,ec,ed,ee,ef,eg,eh,ei,ej,ek,el,em,en,dA,dB,dC,dD,dE,dF,dG,dH,dI,dJ,dK,dL,dM,dN,dO,dP,dQ,dR,dS,dT,dU,dV,dW,dX,aa,ab,ac,ad,ae,af,ag,ah,ai,aj,ak,al,am,an,ao,ap,aq,ar,au,av,ax,ay,az,aA,aB,aC,aD,aE,aF,aG,aH,aI,aJ,aK,aL,aM,aN,aO,aP,aQ,aR,aS,aT,aU,aV,aW,aX,aY,aZ,ba,bb,bc,bd,be,bf,bg,bh,bi,bj,bk,bm,bn,bo,bp,bq,br,bt,bu,bv,bw,bx,bz,bA,bB,bC,bD,bE,bF,bG,bH,bI,bJ,bK,bL,bM,bN,bO,bP,bQ,bR,bS,bT,bU,bV,bW,bX,bY,bZ,ca,cb,cc,ce,cf,cg,ch,ci,cj,ck,cl,cm,cn,co,cp,cq,cr,cs,ct,cu,cv,cw,cx,cy,cz,cA],[]⟩ W:=by
 have I:=iV hQ;clear hQ;have F:=iV hB;have H:=iV hR;obtain⟨J,z⟩:∃ J,W=J:=⟨_,rfl⟩
 rw[z] at F I |-;clear hB hR z
 conv=>arg 2;whnf
 by_cases y:code=0
 ·have q:(code != 0)=false:=by simp[y]
  have D:=iV y;clear y;go_wp2_with fail;exact I.out _ _ _ _ _ _ ⟨v,[],by rw[List.append_nil];exact F.out,⟨fun _=>D.out,fun _=>rfl⟩,by show(0:Nat)<=1;decide,fun _=>rfl⟩
 ·have q:(code != 0)=true:=by simpa [bne] using y
  have D:=iV y;clear y;go_wp2_with fail;refine(qI F.out H.out p.nm ⟨#[98,97,114,115]⟩ code rfl).mono ?_;rintro e O ⟨rfl,M,K⟩;have N:=iV K;clear K;go_wp2_with fail;exact I.out _ _ _ _ _ _ ⟨M,_,N.out,⟨fun e=>by simp at e,fun e=>absurd e D.out⟩,by simp,fun e=>absurd e D.out⟩
theorem XA {ar:Value}{code7 code8:Int}
  (hQ:∀ (eH eI eJ eK eL ev:Value)(wx:World),(∃ tb:Bool,ev=.bool tb/\(tb=true↔code7=0/\code8=0)/\wx=W)->Q .normal ⟨#[c0,c1,.pointer (some ⟨w.heap.size,0,none⟩),.pointer (some ⟨w.heap.size+1,0,none⟩),c4,.func (Fn.func 46) #[] #[.pointer (some ⟨w.heap.size,0,none⟩),.pointer (some ⟨w.heap.size+1,0,none⟩)],c6,c7,.int .i64 code7,c9,.int .i64 code8,cB,cC,cD,cE,cF,cG,cH,cI,cJ,cK,cL,cM,cN,cO,cP,cQ,cR,cS,cT,cU,cV,cW,cX,cY,cZ,da,db,dc,de,df,dg,dh,di,dj,dk,dl,dm,dn,dp,dq,dr,ds,dt,du,dv,dw,dx,dy,dz,dY,dZ,ea,eb,ec,ed,ee,ef,eg,eh,eH,eI,eJ,eK,eL,ev,dA,dB,dC,dD,dE,dF,dG,dH,dI,dJ,dK,dL,dM,dN,dO,dP,dQ,dR,dS,dT,dU,dV,dW,dX,aa,ab,ac,ad,ae,af,ag,ah,ai,aj,ak,al,am,an,ao,ap,aq,ar,au,av,ax,ay,az,aA,aB,aC,aD,aE,aF,aG,aH,aI,aJ,aK,aL,aM,aN,aO,aP,aQ,aR,aS,aT,aU,aV,aW,aX,aY,aZ,ba,bb,bc,bd,be,bf,bg,bh,bi,bj,bk,bm,bn,bo,bp,bq,br,bt,bu,bv,bw,bx,bz,bA,bB,bC,bD,bE,bF,bG,bH,bI,bJ,bK,bL,bM,bN,bO,bP,bQ,bR,bS,bT,bU,bV,bW,bX,bY,bZ,ca,cb,cc,ce,cf,cg,ch,ci,cj,ck,cl,cm,cn,co,cp,cq,cr,cs,ct,cu,cv,cw,cx,cy,cz,cA],[]⟩ wx):
  Code.wp Tryz.prog (cd [1,1,1,1,1,1,1,1,0,0]) Q ⟨#[c0,c1,.pointer (some ⟨w.heap.size,0,none⟩),.pointer (some ⟨w.heap.size+1,0,none⟩),c4,.func (Fn.func 46) #[] #[.pointer (some ⟨w.heap.size,0,none⟩),.pointer (some ⟨w.heap.size+1,0,none⟩)],c6,c7,.int .i64 code7,c9,.int .i64 code8,cB,cC,cD,cE,cF,cG,cH,cI,cJ,cK,cL,cM,cN,cO,cP,cQ,cR,cS,cT,cU,cV,cW,cX,cY,cZ,da,db,dc,de,df,dg,dh,di,dj,dk,dl,dm,dn,dp,dq,dr,ds,dt,du,dv,dw,dx,dy,dz,dY,dZ,ea,eb,ec,ed,ee,ef,eg,eh,ei,ej,ek,el,em,en,dA,dB,dC,dD,dE,dF,dG,dH,dI,dJ,dK,dL,dM,dN,dO,dP,dQ,dR,dS,dT,dU,dV,dW,dX,aa,ab,ac,ad,ae,af,ag,ah,ai,aj,ak,al,am,an,ao,ap,aq,ar,au,av,ax,ay,az,aA,aB,aC,aD,aE,aF,aG,aH,aI,aJ,aK,aL,aM,aN,aO,aP,aQ,aR,aS,aT,aU,aV,aW,aX,aY,aZ,ba,bb,bc,bd,be,bf,bg,bh,bi,bj,bk,bm,bn,bo,bp,bq,br,bt,bu,bv,bw,bx,bz,bA,bB,bC,bD,bE,bF,bG,bH,bI,bJ,bK,bL,bM,bN,bO,bP,bQ,bR,bS,bT,bU,bV,bW,bX,bY,bZ,ca,cb,cc,ce,cf,cg,ch,ci,cj,ck,cl,cm,cn,co,cp,cq,cr,cs,ct,cu,cv,cw,cx,cy,cz,cA],[]⟩ W:=by
 have H:=iV hQ;clear hQ;obtain⟨I,z⟩:∃ I,W=I:=⟨_,rfl⟩
 rw[z] at H |-;clear z
 conv=>arg 2;whnf
 by_cases y:code7=0
 ·have M:(code7==0)=true:=by simpa using y
  have J:=iV y;clear y;obtain⟨D,K⟩:∃ D,(code8==0)=D:=⟨_,rfl⟩
  have F:Hid (D=true↔code7=0/\code8=0):=by show _↔_;rw[<-K,J.out];simp
  go_wp2_with fail;exact H.out _ _ _ _ _ _ _ ⟨D,rfl,F.out,rfl⟩
 ·have M:(code7==0)=false:=by simpa using y
  have F:Hid (false=true↔code7=0/\code8=0):=by show _↔_;simp[y]
  clear y;go_wp2_with fail;exact H.out _ _ _ _ _ _ _ ⟨false,rfl,F.out,rfl⟩
theorem Zn {ms:List ql}{R:List ky}{q:jn}{ec:Int}{eP eQ:Value}(ha:lE a)(har:py a b q.ar=(AR,ec))(hB:lN T w W kb mb a b ms v R q)
  (hQ:∀ (ev ew ex ey ez eA eB eC eD eE eF eG eH eI eJ eK:Value)(wx:World),(ev=.string AR/\ew=.int .i64 ec/\lN T w wx kb mb a b ms v R q)->Q .normal ⟨#[c0,c1,.pointer (some ⟨w.heap.size,0,none⟩),.pointer (some ⟨w.heap.size+1,0,none⟩),c4,.func (Fn.func 46) #[] #[.pointer (some ⟨w.heap.size,0,none⟩),.pointer (some ⟨w.heap.size+1,0,none⟩)],c6,c7,c8,c9,cC,cD,cE,cF,cG,ev,ew,cH,cI,cJ,cK,cL,cM,cN,cO,cP,cQ,cR,cS,cT,cU,cV,cW,cX,cY,cZ,da,db,dc,de,df,dg,dh,di,dj,dk,dl,dm,dn,dp,dq,dr,ds,dt,du,dv,dw,dx,dy,dz,dA,dB,dC,dD,dE,dF,dG,dH,dI,dJ,dK,dL,dM,dN,dO,dP,dQ,dR,dS,dT,dU,dV,dW,dX,dY,dZ,ea,eb,ed,ee,ef,eg,eh,ei,ej,ek,el,em,en,eo,aa,ab,ac,ad,ae,af,ag,ah,ai,aj,ak,al,am,an,ao,ap,aq,au,av,ax,ay,az,aA,aB,aC,aD,aE,aF,aG,aH,aI,aJ,aK,aL,aM,aN,aO,aP,aQ,ex,ey,ez,eA,eB,eC,eD,eE,eF,eG,eH,eI,eJ,eK,cx,cy,cz,cA,aR,aS,aT,aU,aV,aW,aX,aY,aZ,ba,bb,bc,bd,be,bf,bg,bh,bi,bj,bk,bm,bn,bo,bp,bq,br,bs,bt,bu,bv,bw,bx,bz,bA,bB,bC,bD,bE,bF,bG,bH,bI,bJ,bK,bL,bM,bN,bO,bP,bQ,bR,bS,bT,bU,bV,bW,bX,bY,bZ,ca,cb,cc,ce,cf,cg,ch,ci],[]⟩ wx):
  Code.wp Tryz.prog (cd [1,1,1,1,1,1,1,1,1,1,0,0]) Q ⟨#[c0,c1,.pointer (some ⟨w.heap.size,0,none⟩),.pointer (some ⟨w.heap.size+1,0,none⟩),c4,.func (Fn.func 46) #[] #[.pointer (some ⟨w.heap.size,0,none⟩),.pointer (some ⟨w.heap.size+1,0,none⟩)],c6,c7,c8,c9,cC,cD,cE,cF,cG,eP,eQ,cH,cI,cJ,cK,cL,cM,cN,cO,cP,cQ,cR,cS,cT,cU,cV,cW,cX,cY,cZ,da,db,dc,de,df,dg,dh,di,dj,dk,dl,dm,dn,dp,dq,dr,ds,dt,du,dv,dw,dx,dy,dz,dA,dB,dC,dD,dE,dF,dG,dH,dI,dJ,dK,dL,dM,dN,dO,dP,dQ,dR,dS,dT,dU,dV,dW,dX,dY,dZ,ea,eb,ed,ee,ef,eg,eh,ei,ej,ek,el,em,en,eo,aa,ab,ac,ad,ae,af,ag,ah,ai,aj,ak,al,am,an,ao,ap,aq,au,av,ax,ay,az,aA,aB,aC,aD,aE,aF,aG,aH,aI,aJ,aK,aL,aM,aN,aO,aP,aQ,cj,ck,cl,cm,cn,co,cp,cq,cr,cs,ct,cu,cv,cw,cx,cy,cz,cA,aR,aS,aT,aU,aV,aW,aX,aY,aZ,ba,bb,bc,bd,be,bf,bg,bh,bi,bj,bk,bm,bn,bo,bp,bq,br,bs,bt,bu,bv,bw,bx,bz,bA,bB,bC,bD,bE,bF,bG,bH,bI,bJ,bK,bL,bM,bN,bO,bP,bQ,bR,bS,bT,bU,bV,bW,bX,bY,bZ,ca,cb,cc,ce,cf,cg,ch,ci],[]⟩ W:=by
 have U:=iV hQ;clear hQ;have V:=iV ha;have y:=iV hB;have J:=iV har;obtain⟨H,D⟩:∃ H,W=H:=⟨_,rfl⟩
 rw[D] at y |-;clear ha hB har D
 conv=>arg 2;whnf
 have c0:=y.out.box.cell 0 _ rfl;have K:=y.out.kv.cell 0 _ rfl;have N:=y.out.kv.cell 1 _ rfl;have M:=y.out.pk.cell 2 _ rfl
 go_region_held3 (fun I=>I.cell? ⟨w.heap.size,0,none⟩=some (.pointer (some ⟨kb,0,none⟩))/\I.cell? ⟨kb,0,none⟩=some (.int .i64 a)/\I.cell? ⟨kb,1,none⟩=some (.int .i64 b)/\I.cell? ⟨w.heap.size+1,2,none⟩=some (.string q.ar))
  (first
    | exact⟨c0,K,N,M⟩
    | exact⟨z.out.box.cell 0 _ rfl,z.out.kv.cell 0 _ rfl,z.out.kv.cell 1 _ rfl,z.out.pk.cell 2 _ rfl⟩
    | go_keep)
  (first
    | (go_at_call 50;refine(NA a b q.ar _).mono ?_;rintro e O ⟨rfl,F⟩
       rw[J.out];have z:=iV (y.out.drew.step F);unfold Ax))
 all_goals
  clear c0 K N M F;go_wp2_with fail;exact U.out _ _ _ _ _ _ _ _ _ _ _ _ _ _ _ _ _ ⟨rfl,rfl,z.out⟩
theorem Zo {ms:List ql}{R:List ky}{q:jn}{ec:Int}(hB:lN T w W kb mb a b ms v R q)
  (hQ:∀ (eL eM eN eO:Value)(wx:World),(ec=0/\lN T w wx kb mb a b ms v R (q.setAr AR)\/ec≠0/\lN T w wx kb mb a b ms v R q)->Q .normal ⟨#[c0,c1,.pointer (some ⟨w.heap.size,0,none⟩),.pointer (some ⟨w.heap.size+1,0,none⟩),c4,.func (Fn.func 46) #[] #[.pointer (some ⟨w.heap.size,0,none⟩),.pointer (some ⟨w.heap.size+1,0,none⟩)],c6,c7,c8,c9,cC,cD,cE,cF,cG,.string AR,.int .i64 ec,cH,cI,cJ,cK,cL,cM,cN,cO,cP,cQ,cR,cS,cT,cU,cV,cW,cX,cY,cZ,da,db,dc,de,df,dg,dh,di,dj,dk,dl,dm,dn,dp,dq,dr,ds,dt,du,dv,dw,dx,dy,dz,dA,dB,dC,dD,dE,dF,dG,dH,dI,dJ,dK,dL,dM,dN,dO,dP,dQ,dR,dS,dT,dU,dV,dW,dX,dY,dZ,ea,eb,ed,ee,ef,eg,eh,ei,ej,ek,el,em,en,eo,aa,ab,ac,ad,ae,af,ag,ah,ai,aj,ak,al,am,an,ao,ap,aq,au,av,ax,ay,az,aA,aB,aC,aD,aE,aF,aG,aH,aI,aJ,aK,aL,aM,aN,aO,aP,aQ,cj,ck,cl,cm,cn,co,cp,cq,cr,cs,ct,cu,cv,cw,eL,eM,eN,eO,aR,aS,aT,aU,aV,aW,aX,aY,aZ,ba,bb,bc,bd,be,bf,bg,bh,bi,bj,bk,bm,bn,bo,bp,bq,br,bs,bt,bu,bv,bw,bx,bz,bA,bB,bC,bD,bE,bF,bG,bH,bI,bJ,bK,bL,bM,bN,bO,bP,bQ,bR,bS,bT,bU,bV,bW,bX,bY,bZ,ca,cb,cc,ce,cf,cg,ch,ci],[]⟩ wx):
  Code.wp Tryz.prog (cd [1,1,1,1,1,1,1,1,1,1,0,1]) Q ⟨#[c0,c1,.pointer (some ⟨w.heap.size,0,none⟩),.pointer (some ⟨w.heap.size+1,0,none⟩),c4,.func (Fn.func 46) #[] #[.pointer (some ⟨w.heap.size,0,none⟩),.pointer (some ⟨w.heap.size+1,0,none⟩)],c6,c7,c8,c9,cC,cD,cE,cF,cG,.string AR,.int .i64 ec,cH,cI,cJ,cK,cL,cM,cN,cO,cP,cQ,cR,cS,cT,cU,cV,cW,cX,cY,cZ,da,db,dc,de,df,dg,dh,di,dj,dk,dl,dm,dn,dp,dq,dr,ds,dt,du,dv,dw,dx,dy,dz,dA,dB,dC,dD,dE,dF,dG,dH,dI,dJ,dK,dL,dM,dN,dO,dP,dQ,dR,dS,dT,dU,dV,dW,dX,dY,dZ,ea,eb,ed,ee,ef,eg,eh,ei,ej,ek,el,em,en,eo,aa,ab,ac,ad,ae,af,ag,ah,ai,aj,ak,al,am,an,ao,ap,aq,au,av,ax,ay,az,aA,aB,aC,aD,aE,aF,aG,aH,aI,aJ,aK,aL,aM,aN,aO,aP,aQ,cj,ck,cl,cm,cn,co,cp,cq,cr,cs,ct,cu,cv,cw,cx,cy,cz,cA,aR,aS,aT,aU,aV,aW,aX,aY,aZ,ba,bb,bc,bd,be,bf,bg,bh,bi,bj,bk,bm,bn,bo,bp,bq,br,bs,bt,bu,bv,bw,bx,bz,bA,bB,bC,bD,bE,bF,bG,bH,bI,bJ,bK,bL,bM,bN,bO,bP,bQ,bR,bS,bT,bU,bV,bW,bX,bY,bZ,ca,cb,cc,ce,cf,cg,ch,ci],[]⟩ W:=by
 have J:=iV hQ;clear hQ;have y:=iV hB;obtain⟨F,z⟩:∃ F,W=F:=⟨_,rfl⟩
 rw[z] at y |-;clear hB z
 conv=>arg 2;whnf
 by_cases D:ec=0
 ·have K:(ec==0)=true:=by simp[D]
  have H:=iV D;clear D;have M:=y.out.pk.cell 2 _ rfl;have N:=y.out.pk.free 2 (by show 2<9;omega);have I:=iV (y.out.putAr AR);go_wp2_with fail;exact J.out _ _ _ _ _ (.inl ⟨H.out,I.out⟩)
 ·have K:(ec==0)=false:=by simpa using D
  have H:=iV D;clear D;go_wp2_with fail;exact J.out _ _ _ _ _ (.inr ⟨H.out,y.out⟩)
theorem XE {ar:Value}{ms:List ql}{R:List ky}{q:jn}{g:jf}{eY:Value}(hGB:∀ {wr:World}{v:Value}{R:List ky}{q:jn},lN T w wr kb mb a b ms v R q->xC wr)(hz:g.ver.size<=9223372036854775807)(hX:jh W gb g.cells)(hB:lN T w W kb mb a b ms v R q)
  (hQ:∀ (ew ex ey ez eA eB eC eD eE eF eG eH eI eJ eK eL:Value)(wx:World),(ew=.string ⟨(trans a b g.ver).1.toArray⟩/\ex=.int .i64 (trans a b g.ver).2/\lN T w wx kb mb a b ms v R q/\jh wx gb g.cells)->Q .normal ⟨#[c0,c1,.pointer (some ⟨w.heap.size,0,none⟩),.pointer (some ⟨w.heap.size+1,0,none⟩),c4,.func (Fn.func 46) #[] #[.pointer (some ⟨w.heap.size,0,none⟩),.pointer (some ⟨w.heap.size+1,0,none⟩)],c6,c7,c8,c9,cB,cC,.pointer (some ⟨gb,0,none⟩),ew,ex,cD,cE,cF,cG,cH,cI,cJ,cK,cL,cM,cN,cO,cP,cQ,cR,cS,cT,cU,cV,cW,cX,cY,cZ,da,db,dc,de,df,dg,dh,di,dj,dk,dl,dm,dp,dq,dr,ds,dt,du,dv,dw,dx,dy,dz,dA,dB,dC,dD,dE,dF,dG,dH,dI,dJ,dK,dL,dM,dN,dO,dP,dQ,dR,dS,dT,dU,dV,dW,dX,dY,dZ,ea,eb,ed,ee,ef,eg,eh,ei,ej,ek,el,em,en,aa,ab,ac,ey,ez,eA,eB,eC,eD,eE,eF,eG,eH,eI,eJ,eK,eL,cn,co,cp,cq,cr,cs,ct,cu,cv,cw,cx,cy,cz,ad,ae,af,ag,ah,ai,aj,ak,al,am,an,ao,ap,aq,ar,au,av,ax,ay,az,aA,aB,aC,aD,aE,aF,aG,aH,aI,aJ,aK,aL,aM,aN,aO,aP,aQ,aR,aS,aT,aU,aV,aW,aX,aY,aZ,ba,bb,bc,bd,be,bf,bg,bh,bi,bj,bk,bm,bn,bo,bp,bq,br,bs,bt,bu,bv,bw,bx,bz,bA,bB,bC,bD,bE,bF,bG,bH,bI,bJ,bK,bL,bM,bN,bO,bP,bQ,bR,bS,bT,bU,bV,bW,bX],[]⟩ wx):
  Code.wp Tryz.prog (cd [1,1,1,1,1,1,1,1,1,0,1,2,2,1,1,0,2,1,0]) Q ⟨#[c0,c1,.pointer (some ⟨w.heap.size,0,none⟩),.pointer (some ⟨w.heap.size+1,0,none⟩),c4,.func (Fn.func 46) #[] #[.pointer (some ⟨w.heap.size,0,none⟩),.pointer (some ⟨w.heap.size+1,0,none⟩)],c6,c7,c8,c9,cB,cC,.pointer (some ⟨gb,0,none⟩),eo,eY,cD,cE,cF,cG,cH,cI,cJ,cK,cL,cM,cN,cO,cP,cQ,cR,cS,cT,cU,cV,cW,cX,cY,cZ,da,db,dc,de,df,dg,dh,di,dj,dk,dl,dm,dp,dq,dr,ds,dt,du,dv,dw,dx,dy,dz,dA,dB,dC,dD,dE,dF,dG,dH,dI,dJ,dK,dL,dM,dN,dO,dP,dQ,dR,dS,dT,dU,dV,dW,dX,dY,dZ,ea,eb,ed,ee,ef,eg,eh,ei,ej,ek,el,em,en,aa,ab,ac,bY,bZ,ca,cb,cc,ce,cf,cg,ch,ci,cj,ck,cl,cm,cn,co,cp,cq,cr,cs,ct,cu,cv,cw,cx,cy,cz,ad,ae,af,ag,ah,ai,aj,ak,al,am,an,ao,ap,aq,ar,au,av,ax,ay,az,aA,aB,aC,aD,aE,aF,aG,aH,aI,aJ,aK,aL,aM,aN,aO,aP,aQ,aR,aS,aT,aU,aV,aW,aX,aY,aZ,ba,bb,bc,bd,be,bf,bg,bh,bi,bj,bk,bm,bn,bo,bp,bq,br,bs,bt,bu,bv,bw,bx,bz,bA,bB,bC,bD,bE,bF,bG,bH,bI,bJ,bK,bL,bM,bN,bO,bP,bQ,bR,bS,bT,bU,bV,bW,bX],[]⟩ W:=by
 have HQ:=iV hQ;clear hQ;have GB:Hid (∀ {wr:World} {v:Value} {R:List ky} {q:jn},lN T w wr kb mb a b ms v R q->xC wr):=hGB;have D:=iV hB;have N:=iV hX;obtain⟨V,M⟩:∃ V:BA,(⟨(trans a b g.ver).1.toArray⟩:BA)=V:=⟨_,rfl⟩
 obtain⟨K,y⟩:∃ K:Int,(trans a b g.ver).2=K:=⟨_,rfl⟩
 have HV:=iV M;have J:=iV y;have Z:=iV fun W hg=>si a b g.ver W hg hz;rw[show va (trans a b g.ver)=.tuple #[.string V,.int .i64 K] by rw[<-M,<-y];rfl] at Z;obtain⟨W6,F⟩:∃ W6,W=W6:=⟨_,rfl⟩
 rw[F] at D N |-;clear hGB hB hX hz M y F
 conv=>arg 2;whnf
 have c0:=D.out.box.cell 0 _ rfl;have O:=D.out.kv.cell 0 _ rfl;have X:=D.out.kv.cell 1 _ rfl;have U:=N.out.cell 2 _ rfl
 go_region_held3 (fun H=>H.cell? ⟨w.heap.size,0,none⟩=some (.pointer (some ⟨kb,0,none⟩))/\H.cell? ⟨kb,0,none⟩=some (.int .i64 a)/\H.cell? ⟨kb,1,none⟩=some (.int .i64 b)/\H.cell? ⟨gb,2,none⟩=some (.string g.ver))
  (first
    | exact⟨c0,O,X,U⟩
    | exact⟨I.out.box.cell 0 _ rfl,I.out.kv.cell 0 _ rfl,I.out.kv.cell 1 _ rfl,Y.out.cell 2 _ rfl⟩
    | go_keep)
  (first
    | (go_at_call 47;refine(Z.out _ ((GB.out D.out.drew).p)).mono ?_;rintro e w7 ⟨rfl,z⟩
       have I:=iV (D.out.drew.step z);have Y:=iV (N.out.drew.below z)))
 all_goals
  clear c0 O X U z;go_wp2_with fail;exact HQ.out _ _ _ _ _ _ _ _ _ _ _ _ _ _ _ _ _ ⟨by rw[HV.out],by rw[J.out],I.out,Y.out⟩
theorem XF {ar:Value}{g:jf}{ec:Int}(hz:g.nm.size<=9223372036854775807)(hec:(trans a b g.ver).2=ec)(hX:jh W gb g.cells)
  (hQ:∀ (eM eN eO eP eQ eR eS eT eU eV eW eX ev:Value)(wx:World),(∃ bad:Bool,ev=.bool bad/\(bad=false↔qH a b g)/\wx=W)->Q .normal ⟨#[c0,c1,.pointer (some ⟨w.heap.size,0,none⟩),.pointer (some ⟨w.heap.size+1,0,none⟩),c4,.func (Fn.func 46) #[] #[.pointer (some ⟨w.heap.size,0,none⟩),.pointer (some ⟨w.heap.size+1,0,none⟩)],c6,c7,c8,c9,cB,cC,.pointer (some ⟨gb,0,none⟩),eo,.int .i64 ec,cD,cE,cF,cG,cH,cI,cJ,cK,cL,cM,cN,cO,cP,cQ,cR,cS,cT,cU,cV,cW,cX,cY,cZ,da,db,dc,de,df,dg,dh,di,dj,dk,dl,dm,dp,dq,dr,ds,dt,du,dv,dw,dx,dy,dz,dA,dB,dC,dD,dE,dF,dG,dH,dI,dJ,dK,dL,dM,dN,dO,dP,dQ,dR,dS,dT,dU,dV,dW,dX,dY,dZ,ea,eb,ed,ee,ef,eg,eh,ei,ej,ek,el,em,en,aa,ab,ac,bY,bZ,ca,cb,cc,ce,cf,cg,ch,ci,cj,ck,cl,cm,eM,eN,eO,eP,eQ,eR,eS,eT,eU,eV,eW,eX,ev,ad,ae,af,ag,ah,ai,aj,ak,al,am,an,ao,ap,aq,ar,au,av,ax,ay,az,aA,aB,aC,aD,aE,aF,aG,aH,aI,aJ,aK,aL,aM,aN,aO,aP,aQ,aR,aS,aT,aU,aV,aW,aX,aY,aZ,ba,bb,bc,bd,be,bf,bg,bh,bi,bj,bk,bm,bn,bo,bp,bq,br,bs,bt,bu,bv,bw,bx,bz,bA,bB,bC,bD,bE,bF,bG,bH,bI,bJ,bK,bL,bM,bN,bO,bP,bQ,bR,bS,bT,bU,bV,bW,bX],[]⟩ wx):
  Code.wp Tryz.prog (cd [1,1,1,1,1,1,1,1,1,0,1,2,2,1,1,0,2,1,1,0,0]) Q ⟨#[c0,c1,.pointer (some ⟨w.heap.size,0,none⟩),.pointer (some ⟨w.heap.size+1,0,none⟩),c4,.func (Fn.func 46) #[] #[.pointer (some ⟨w.heap.size,0,none⟩),.pointer (some ⟨w.heap.size+1,0,none⟩)],c6,c7,c8,c9,cB,cC,.pointer (some ⟨gb,0,none⟩),eo,.int .i64 ec,cD,cE,cF,cG,cH,cI,cJ,cK,cL,cM,cN,cO,cP,cQ,cR,cS,cT,cU,cV,cW,cX,cY,cZ,da,db,dc,de,df,dg,dh,di,dj,dk,dl,dm,dp,dq,dr,ds,dt,du,dv,dw,dx,dy,dz,dA,dB,dC,dD,dE,dF,dG,dH,dI,dJ,dK,dL,dM,dN,dO,dP,dQ,dR,dS,dT,dU,dV,dW,dX,dY,dZ,ea,eb,ed,ee,ef,eg,eh,ei,ej,ek,el,em,en,aa,ab,ac,bY,bZ,ca,cb,cc,ce,cf,cg,ch,ci,cj,ck,cl,cm,cn,co,cp,cq,cr,cs,ct,cu,cv,cw,cx,cy,cz,ad,ae,af,ag,ah,ai,aj,ak,al,am,an,ao,ap,aq,ar,au,av,ax,ay,az,aA,aB,aC,aD,aE,aF,aG,aH,aI,aJ,aK,aL,aM,aN,aO,aP,aQ,aR,aS,aT,aU,aV,aW,aX,aY,aZ,ba,bb,bc,bd,be,bf,bg,bh,bi,bj,bk,bm,bn,bo,bp,bq,br,bs,bt,bu,bv,bw,bx,bz,bA,bB,bC,bD,bE,bF,bG,bH,bI,bJ,bK,bL,bM,bN,bO,bP,bQ,bR,bS,bT,bU,bV,bW,bX],[]⟩ W:=by
 have H:=iV hQ;clear hQ;have N:=iV hX;obtain⟨D,y⟩:∃ D,jZ (bl g.nm)=D:=⟨_,rfl⟩
 have J:=iV fun W=>(pE g.nm W hz).mono fun (e:Ending) (z:World) (h:e=.returned (.bool (jZ (bl g.nm)))/\W=z)=>(⟨by rw[h.1,y],h.2⟩:e=.returned (.bool D)/\W=z)
 obtain⟨R,M⟩:∃ t,(g.op != 3)=t:=⟨_,rfl⟩
 obtain⟨O,K⟩:∃ t,(ec != 0)=t:=⟨_,rfl⟩
 have I:Hid (qH a b g↔D=true/\R=false/\O=false):=by
  show _↔_;unfold qH;rw[y,<-M,<-K,hec];simp
 obtain⟨U,F⟩:∃ U,W=U:=⟨_,rfl⟩
 rw[F] at N H |-;clear hX hz y hec F
 conv=>arg 2;whnf
 have V:=N.out.cell 0 _ rfl;have X:=N.out.cell 1 _ rfl;cases D
 ·skip
  go_wp2_with fail;refine(J.out _).mono ?_;rintro e z ⟨rfl,rfl⟩;go_wp2_with fail;exact H.out _ _ _ _ _ _ _ _ _ _ _ _ _ _ ⟨true,rfl,by rw[I.out];simp,rfl⟩
 ·cases R
  ·cases O
   ·skip
    go_wp2_with fail;refine(J.out _).mono ?_;rintro e z ⟨rfl,rfl⟩;go_wp2_with fail;exact H.out _ _ _ _ _ _ _ _ _ _ _ _ _ _ ⟨false,rfl,by rw[I.out];simp,rfl⟩
   ·skip
    go_wp2_with fail;refine(J.out _).mono ?_;rintro e z ⟨rfl,rfl⟩;go_wp2_with fail;exact H.out _ _ _ _ _ _ _ _ _ _ _ _ _ _ ⟨true,rfl,by rw[I.out];simp,rfl⟩
  ·skip
   go_wp2_with fail;refine(J.out _).mono ?_;rintro e z ⟨rfl,rfl⟩;go_wp2_with fail;exact H.out _ _ _ _ _ _ _ _ _ _ _ _ _ _ ⟨true,rfl,by rw[I.out];simp,rfl⟩
def jn.setGives (p:jn)(l:List jf):jn:=⟨p.nm,p.ver,p.ar,p.sm,p.na,p.nc,p.needs,p.ba,p.bc,p.bars,p.ga,p.gc,l,p.fa,p.fc,p.files,p.sa,p.sc,p.scripts⟩
theorem Bd (a b:Int)(l:List jf):nR a b l 0=l:=by unfold nR;simp
theorem UQ {α:Type}{P:α->Prop}{l:List α}{x:α}(hx:l[k]?=some x):(∀ y∈l.take (k+1),P y)↔(∀ y∈l.take k,P y)/\P x:=by
 rw[jI hx];constructor
 ·intro h;exact⟨fun y z=>h y (List.mem_append_left _ z),h x (List.mem_append_right _ (by simp))⟩
 ·rintro⟨h1,h2⟩ y z;rcases List.mem_append.1 z with z | z
  ·exact h1 y z
  ·rw[List.mem_singleton.1 z];exact h2
theorem aaK {ms:List ql}{R:List ky}{q:jn}{fj fk fl fm fn fo fp fq fr et ev ew ex ey ez eA eB eC eD eE eF eG eH eI eJ eK eL eM eN:Value}(hGB:∀ {wr:World}{v:Value}{R:List ky}{q:jn},lN T w wr kb mb a b ms v R q->xC wr)(hsz:∀ g∈q.gives,g.nm.size<=9223372036854775807/\g.ver.size<=9223372036854775807)(hR:R.length<=1000000)(hn:q.gives.length<=100000)(hB:lN T w W kb mb a b ms v R q)
  (hQ:∀ (fs ft dY dZ fu fv fw fx fy eO eP eQ bQ bR bS bT bU bV bW bX bY bZ ca cb cc ce cf cg ch ci cj ck cl cm cn co cq cr cs eR eS eT eU eV eW eX eY eZ:Value)(wx:World),(∃ v1 G bs,lN T w wx kb mb a b ms v1 (R++bs) (q.setGives G)/\(bs=[]↔∀ g∈q.gives,qH a b g)/\bs.length<=1/\(bs=[]->G=q.gives.map (sM a b)))->Q .normal ⟨#[c0,c1,.pointer (some ⟨w.heap.size,0,none⟩),.pointer (some ⟨w.heap.size+1,0,none⟩),c4,.func (Fn.func 46) #[] #[.pointer (some ⟨w.heap.size,0,none⟩),.pointer (some ⟨w.heap.size+1,0,none⟩)],c6,c7,c8,c9,ct,fs,ft,dY,dZ,cu,cv,cw,cx,cy,cz,cA,cB,cC,cD,cE,cF,cG,cH,cI,cJ,cK,cL,cM,cN,cO,cP,cQ,cR,cS,cT,cU,cV,cW,cX,cY,cZ,da,db,dc,de,df,dg,dh,di,dj,dk,dl,dm,dn,dp,dq,dr,ds,dt,du,dv,dw,dx,dy,dz,dA,dB,dC,dD,dE,dF,dG,dH,dI,dJ,dK,dL,dM,dN,dO,dP,dQ,dR,dS,dT,dU,dV,dW,dX,fu,fv,fw,fx,fy,eO,eP,eQ,bQ,bR,bS,bT,bU,bV,bW,bX,bY,bZ,ca,cb,cc,ce,cf,cg,ch,ci,cj,ck,cl,cm,cn,co,cq,cr,cs,eR,eS,eT,eU,eV,eW,eX,eY,eZ,aa,ab,ac,ad,ae,af,ag,ah,ai,aj,ak,al,am,an,ao,ap,aq,au,av,ax,ay,az,aA,aB,aC,aD,aE,aF,aG,aH,aI,aJ,aK,aL,aM,aN,aO,aP,aQ,aR,aS,aT,aU,aV,aW,aX,aY,aZ,bb,bd,be,bf,bg,bh,bi,bj,bk,bm,bn,bo,bp,bq,br,bt,bu,bv,bw,bx,bz,bA,bB,bC,bD,bE,bF,bG,bH,bI,bJ,bK,bL,bM,bN,bO,bP],[]⟩ wx):
  Code.wp Tryz.prog (cd [1,1,1,1,1,1,1,1,1,0]) Q ⟨#[c0,c1,.pointer (some ⟨w.heap.size,0,none⟩),.pointer (some ⟨w.heap.size+1,0,none⟩),c4,.func (Fn.func 46) #[] #[.pointer (some ⟨w.heap.size,0,none⟩),.pointer (some ⟨w.heap.size+1,0,none⟩)],c6,c7,c8,c9,ct,fj,fk,fl,fm,cu,cv,cw,cx,cy,cz,cA,cB,cC,cD,cE,cF,cG,cH,cI,cJ,cK,cL,cM,cN,cO,cP,cQ,cR,cS,cT,cU,cV,cW,cX,cY,cZ,da,db,dc,de,df,dg,dh,di,dj,dk,dl,dm,dn,dp,dq,dr,ds,dt,du,dv,dw,dx,dy,dz,dA,dB,dC,dD,dE,dF,dG,dH,dI,dJ,dK,dL,dM,dN,dO,dP,dQ,dR,dS,dT,dU,dV,dW,dX,fn,fo,fp,fq,fr,ea,eb,ed,ee,ef,eg,eh,ei,ej,ek,el,em,en,eo,ep,eq,er,es,et,eu,ev,ew,ex,ey,ez,eA,eB,eC,eD,eE,eF,eG,eH,eI,eJ,eK,eL,eM,eN,aa,ab,ac,ad,ae,af,ag,ah,ai,aj,ak,al,am,an,ao,ap,aq,au,av,ax,ay,az,aA,aB,aC,aD,aE,aF,aG,aH,aI,aJ,aK,aL,aM,aN,aO,aP,aQ,aR,aS,aT,aU,aV,aW,aX,aY,aZ,bb,bd,be,bf,bg,bh,bi,bj,bk,bm,bn,bo,bp,bq,br,bt,bu,bv,bw,bx,bz,bA,bB,bC,bD,bE,bF,bG,bH,bI,bJ,bK,bL,bM,bN,bO,bP],[]⟩ W:=by
 have HQ:=iV hQ;clear hQ;have GB:Hid (∀ {wr:World} {v:Value} {R:List ky} {q:jn},lN T w wr kb mb a b ms v R q->xC wr):=hGB;have HS:=iV hsz;have fe:=iV hR;have B0:Hid (lN T w W kb mb a b ms v R (q.setGives (nR a b q.gives 0))):=by show lN _ _ _ _ _ _ _ _ _ _ _;rw[Bd];exact hB
 obtain⟨W0,Z⟩:∃ W0,W=W0:=⟨_,rfl⟩
 rw[Z] at B0 |-;clear hGB hsz hR hB Z
 conv=>arg 2;whnf
 have p6:W0.cell? ⟨w.heap.size+1,6,none⟩=some (.slice q.ga q.gives.length q.gc):=by
  have:=B0.out.pk.cell 6 _ rfl;rw[Bd] at this;exact this
 go_wp2_with fail;clear p6;go_loopw [98] (fun s wr=>∃ k:Nat,k<=q.gives.length/\s=.int .i64 k/\Hid (lN T w wr kb mb a b ms v R (q.setGives (nR a b q.gives k)))/\Hid (∀ g∈q.gives.take k,qH a b g)) (fun i _=>q.gives.length-(intOf i).toNat)
 case atStart=>exact⟨0,z0,rfl,B0,by simp[Hid]⟩
 case round=>
  clear B0;obtain⟨k,hk,rfl,B1,K1⟩:=hrel;by_cases ba:k<q.gives.length
  ·obtain⟨x,hx⟩:∃ x,q.gives[k]?=some x:=⟨_,gG ba⟩
   have HX:=iV hx;obtain⟨zn,zv⟩:=HS.out x (gM hx);have N:=iV (Xw (a:=a) (b:=b) hx);have K:=UM a b q.gives hk;have fd:=iV K;obtain⟨X,cp,hv,_,_⟩:=B1.out.own.gives.form (by show 0<(nR a b q.gives k).length;omega);have hA:q.ga=some ⟨X,0,none⟩:=by injection hv
   obtain⟨b2,D,y,U⟩:=(jL B1.out.own.gives).elem md k x N.out;obtain⟨rfl,rfl⟩:X=b2/\0=D:=by have y:q.ga=some ⟨b2,D,none⟩:=y;rw[hA] at y;injection y with y;injection y with h1 h2 _;exact⟨h1,h2⟩
   have e0:=U 0 _ rfl;have e1:=U 1 _ rfl;have e2:=U 2 _ rfl;simp only[Nat.add_zero,Nat.zero_add] at e0 e1 e2;have fi:=fun W=>jm (T:=34) (E:=78) (sz:=3) (c:=q.gc) Tryz.underlying34 rfl Tryz.sizeOf78 hA ba W;simp only[Nat.zero_add] at fi;have HA:=iV hA;clear hx hv hA y U K;obtain⟨W1,H⟩:∃ W1,wr.alloc (.cells #[.string x.nm,.int .i64 x.op,.string x.ver] 78)=W1:=⟨_,rfl⟩
   have D1:Hid (Below wr.heap.size wr W1):=by show Below _ _ _;rw[<-H];exact bR.alloc lr _
   have X1:Hid (jh W1 wr.heap.size x.cells):=by show jh _ _ _;rw[<-H];exact jh.new wr x.cells _
   have B2:=iV (B1.out.step D1.out);have bc:=iV H;clear H;go_upto_region 19 with(fail)
   rw[bc.out];clear e0 e1 e2 B1 D1 bc;refine XE (g:=x) GB.out zv X1.out B2.out ?_;intro dY dZ bQ bR bS bT bU bV bW bX bY bZ ca cb cc ce wx O;obtain⟨rfl,rfl,fa,fc⟩:=O;have Y:=iV fa;have X3:=iV fc;clear fa fc B2 X1;obtain⟨W3,ar⟩:∃ W3,wx=W3:=⟨_,rfl⟩
   rw[ar] at Y X3 |-;clear ar;obtain⟨V,hV⟩:∃ V:BA,(⟨(trans a b x.ver).1.toArray⟩:BA)=V:=⟨_,rfl⟩
   obtain⟨ec,M⟩:∃ ec:Int,(trans a b x.ver).2=ec:=⟨_,rfl⟩
   have HV:=iV hV;have fg:=iV M;rw[hV,M];clear hV M;go_upto_region 20 with(fail)
   refine XF (a:=a) (b:=b) (g:=x) (w:=w) zn fg.out X3.out ?_;intro cf cg ch ci cj ck cl cm cn co cq cr cs wx O;obtain⟨fh,rfl,J,rfl⟩:=O;have z:=iV J;clear J;cases fh
   ·obtain⟨ff,h3,_⟩:=z.out.1 (by simp);have p6:wx.cell? ⟨w.heap.size+1,6,none⟩=some (.slice q.ga q.gives.length q.gc):=by
     have hp:wx.cell? ⟨w.heap.size+1,6,none⟩=some (.slice q.ga (nR a b q.gives k).length q.gc):=Y.out.pk.cell 6 _ rfl;rw[fd.out] at hp;exact hp
    obtain⟨y2,z2⟩:wx.cell? ⟨X,k*3+2,none⟩=some (.string x.ver)/\wx.frozen? ⟨X,k*3+2,none⟩=false:=by
     obtain⟨b2,D,y,U⟩:=(jL Y.out.own.gives).elem md k x N.out;have F:q.ga=some ⟨b2,D,none⟩:=y;rw[HA.out] at F;injection F with F;injection F with h1 h2 _;subst h1;subst h2;have e2:=U 2 _ rfl;simp only[Nat.zero_add] at e2;have I:wx.ownsRow (kb+1) 78 3 (.slice q.ga (nR a b q.gives k).length q.gc) (nR a b q.gives k).length ((nR a b q.gives k).flatMap jf.cells):=Y.out.own.gives;rw[HA.out] at I;exact⟨e2,I.frozenAt _⟩
    have B5:Hid (lN T w (wx.setCell ⟨X,k*3+2,none⟩ (.string V)) kb mb a b ms v R (q.setGives (nR a b q.gives (k+1)))):=by
     have:=Y.out.setG (g:=X) (i:=k) (x:=x) HA.out N.out V;show lN _ _ _ _ _ _ _ _ _ _ _;rw[<-Qg HX.out h3,HV.out];exact this
    have KN:Hid (∀ g∈q.gives.take (k+1),qH a b g):=by
     show ∀ g∈_,_;rw[UQ HX.out];exact⟨K1.out,z.out.1 (by simp)⟩
    clear ff h3 z;go_wp2;go_roundw
    case rel=>exact⟨k+1,by omega,by go_num,B5,KN⟩
    case measure=>simp[intOf];omega
   ·have NG:Hid (¬ ∀ g∈q.gives,qH a b g):=fun h=>by
     have:=z.out.2 (h x (gM HX.out));simp at this
    go_wp2_with fail;refine(qI Y.out fe.out q.nm ⟨#[103,105,118,101,115]⟩ 11 rfl).mono ?_;rintro e w5 ⟨rfl,v5,h5⟩;have B5:=iV h5;clear h5;go_wp2_with fail;exact HQ.out _ _ _ _ _ _ _ _ _ _ _ _ _ _ _ _ _ _ _ _ _ _ _ _ _ _ _ _ _ _ _ _ _ _ _ _ _ _ _ _ _ _ _ _ _ _ _ _ _ ⟨v5,_,_,B5.out,⟨fun e=>by simp at e,fun e=>absurd e NG.out⟩,by simp,fun e=>by simp at e⟩
  ·have E:q.gives.take k=q.gives:=tL (by omega);have fb:k=q.gives.length:=by omega
   have B5:Hid (lN T w wr kb mb a b ms v R (q.setGives (q.gives.map (sM a b)))):=by
    have:=B1.out;rw[fb,UN] at this;exact this
   have KN:Hid (∀ g∈q.gives,qH a b g):=by have:=K1.out;rw[E] at this;exact this
   clear E fb;go_wp2_with fail;exact HQ.out _ _ _ _ _ _ _ _ _ _ _ _ _ _ _ _ _ _ _ _ _ _ _ _ _ _ _ _ _ _ _ _ _ _ _ _ _ _ _ _ _ _ _ _ _ _ _ _ _ ⟨v,_,[],by rw[List.append_nil];exact B5.out,⟨fun _=>KN.out,fun _=>rfl⟩,by simp,fun _=>rfl⟩
end
end Go.Proofs.YtkmjcombhjombaaGreatDoor
