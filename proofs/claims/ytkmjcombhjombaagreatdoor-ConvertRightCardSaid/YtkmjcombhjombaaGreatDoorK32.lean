/- A part of the proof. -/
import Derived.Test.YtkmjcombhjombaaGreatDoorK28
set_option maxRecDepth 100000
set_option maxHeartbeats 20000000
set_option linter.unusedVariables false
set_option linter.unusedSimpArgs false
namespace Go.Proofs.YtkmjcombhjombaaGreatDoor
variable{Q:Exit->Act->World->Prop}{a b:Int}{k kb mb:Nat}{T:Nat->Prop}{C O aA aB aC aD aE aF aG aH aI aJ aK aL aM aN aO aP aQ aR aS aT aU aV aW aX aY aZ aa ab ac ad ae af ag ah ai aj ak al am an ao aq au av ax ay az bA bB bC bD bE bF bG bH bI bJ bK bL bM bN bO bP bQ bR bS bT bU bV bW bX bY bZ bb bd be bf bg bh bi bj bk bm bn bo bp bq br bs bt bu bv bw bx bz c0 c1 c4 c5 c6 c7 c8 c9 cA cB cC cD cE cF cG cH cI cJ cK cL cM cN cO cP cQ cR cS cT cU cV cW cX cY cZ ca cb cc ce cf cg ch ci cj ck cl cm cn co cq cr cs ct cu cv cw cx cy cz dA dB dC dD dE dF dG dH dI dJ dK dL dM dN dO dP dQ dR dS dT dU dV dW dX dY dZ da db dc de df dg dh di dj dk dl dm dn dp dq dr ds dt du dv dw dx dy dz ea eb ec ed ee ef eg eh ei ej ek el em en eo ep eq v v':Value}{W w w0 wr:World}
section
open Go.RowKit
theorem aaH {ap:Value}{cp:Value}{ms:List ql}{R:List ky}{q:jn}{ar ba bc:Value}(hb:lE b)(hs:q.scripts.length<=1000000)(hR:R.length<=1000000)(hB:lN T w W kb mb a b ms v R q)
  (hQ:∀ (ep eq er es et eu:Value)(wx:World),(∃ v1 bs,lN T w wx kb mb a b ms v1 (R++bs) q/\(bs=[]↔∀ s∈q.scripts,zD b s.phase=true)/\bs.length<=1)->Q .normal ⟨#[c0,c1,.pointer (some ⟨w.heap.size,0,none⟩),.pointer (some ⟨w.heap.size+1,0,none⟩),c4,.func (Fn.func 46) #[] #[.pointer (some ⟨w.heap.size,0,none⟩),.pointer (some ⟨w.heap.size+1,0,none⟩)],c6,c7,c8,c9,cv,cw,cx,cy,cz,cA,cB,cC,cD,cE,cF,cG,cH,cI,cJ,cK,cL,cM,cN,cO,cP,cQ,cR,cS,cT,cU,cV,cW,cX,cY,cZ,da,db,dc,de,df,dg,dh,di,dj,dk,dl,dm,dn,dp,dq,dr,ds,dt,du,dv,dw,dx,dy,dz,dA,dB,dC,dD,dE,dF,dG,dH,dI,dJ,dK,dL,dM,dN,dO,dP,dQ,dR,dS,dT,dU,dV,dW,dX,dY,dZ,ea,eb,ec,ed,ee,ef,eg,eh,ei,aa,ab,ac,ad,ae,af,ag,ah,ai,aj,ak,al,am,an,ao,ap,aq,ar,au,av,ax,ay,az,aA,aB,aC,aD,aE,aF,aG,aH,aI,aJ,aK,aL,aM,aN,aO,aP,aQ,aR,aS,aT,aU,aV,aW,aX,aY,aZ,ba,bb,bc,bd,be,bf,bg,bh,bi,bj,bk,bm,bn,bo,bp,bq,br,bt,bu,bv,bw,bx,bz,bA,bB,bC,bD,bE,bF,bG,bH,bI,bJ,bK,bL,bM,bN,bO,bP,bQ,bR,bS,bT,bU,bV,bW,bX,bY,bZ,ca,cb,cc,ce,cf,cg,ch,ci,cj,ck,cl,cm,cn,co,cp,cq,cr,cs,ct,ep,eq,er,es,et,eu,cu],[]⟩ wx):
  Code.wp Tryz.prog (cd [1,1,1,1,1,1,1,1,1,1,1,1,0]) Q ⟨#[c0,c1,.pointer (some ⟨w.heap.size,0,none⟩),.pointer (some ⟨w.heap.size+1,0,none⟩),c4,.func (Fn.func 46) #[] #[.pointer (some ⟨w.heap.size,0,none⟩),.pointer (some ⟨w.heap.size+1,0,none⟩)],c6,c7,c8,c9,cv,cw,cx,cy,cz,cA,cB,cC,cD,cE,cF,cG,cH,cI,cJ,cK,cL,cM,cN,cO,cP,cQ,cR,cS,cT,cU,cV,cW,cX,cY,cZ,da,db,dc,de,df,dg,dh,di,dj,dk,dl,dm,dn,dp,dq,dr,ds,dt,du,dv,dw,dx,dy,dz,dA,dB,dC,dD,dE,dF,dG,dH,dI,dJ,dK,dL,dM,dN,dO,dP,dQ,dR,dS,dT,dU,dV,dW,dX,dY,dZ,ea,eb,ec,ed,ee,ef,eg,eh,ei,aa,ab,ac,ad,ae,af,ag,ah,ai,aj,ak,al,am,an,ao,ap,aq,ar,au,av,ax,ay,az,aA,aB,aC,aD,aE,aF,aG,aH,aI,aJ,aK,aL,aM,aN,aO,aP,aQ,aR,aS,aT,aU,aV,aW,aX,aY,aZ,ba,bb,bc,bd,be,bf,bg,bh,bi,bj,bk,bm,bn,bo,bp,bq,br,bt,bu,bv,bw,bx,bz,bA,bB,bC,bD,bE,bF,bG,bH,bI,bJ,bK,bL,bM,bN,bO,bP,bQ,bR,bS,bT,bU,bV,bW,bX,bY,bZ,ca,cb,cc,ce,cf,cg,ch,ci,cj,ck,cl,cm,cn,co,cp,cq,cr,cs,ct,ej,ek,el,em,en,eo,cu],[]⟩ W:=by
 have U:=iV hQ;clear hQ;have z:=iV hB;have HS:=iV hs;have M:=iV hR;have ev:=iV hb;obtain⟨N,F⟩:∃ N,W=N:=⟨_,rfl⟩
 rw[F] at z |-;have X:=iV (vl 54 (.pointer (some ⟨w.heap.size,0,none⟩)) (fun x=>!zD b x.phase) q.sa q.sc q.scripts N (jL z.out.own.scripts) hs (Tryz.call54) (iV fun x _ Z I=>BP a b hb (.map (some mb)) v kb w.heap.size x Z (z.out.kv.below I) (z.out.box.below I)));clear hB hs hR hb F
 conv=>arg 2;whnf
 have p8:=z.out.pk.cell 8 _ rfl;obtain⟨K,y⟩:∃ K,q.scripts.any (fun x=>!zD b x.phase)=K:=⟨_,rfl⟩
 have H:Hid (K=false↔∀ s∈q.scripts,zD b s.phase=true):=by show _↔_;rw[<-y,List.any_eq_false];simp
 rw[y] at X;clear y;go_wp2_with fail;refine X.out.mono ?_;rintro e w9 ⟨rfl,J⟩;have V:=iV (z.out.step J);clear J p8;cases K
 ·go_wp2_with fail;exact U.out _ _ _ _ _ _ _ ⟨v,[],by rw[List.append_nil];exact V.out,⟨fun _=>H.out.1 (by simp),fun _=>rfl⟩,by simp⟩
 ·go_wp2_with fail;refine(qI V.out M.out q.nm ⟨#[115,99,114,105,112,116,115]⟩ 11 rfl).mono ?_;rintro e Y ⟨rfl,v8,D⟩;have O:=iV D;clear D;go_wp2_with fail;exact U.out _ _ _ _ _ _ _ ⟨v8,_,O.out,⟨fun e=>by simp at e,fun e=>absurd (H.out.2 e) (by simp)⟩,by simp⟩
def nB (a b:Int)(kn:List kV)(l:List jg)(k:Nat):List jg:=(l.take k).map (li a b kn)++l.drop k
theorem UP {kn:List kV}{l:List jg}{x:jg}(hx:l[k]?=some x):(nB a b kn l k)[k]?=some x:=by
 unfold nB;have y:=(gS hx).1;rw[List.getElem?_append_right (by rw[List.length_map,List.length_take];omega),List.length_map,List.length_take,List.getElem?_drop,show k+(k-min k l.length)=k by omega];exact hx
theorem Qk (a b:Int)(kn:List kV)(l:List jg)(hk:k<=l.length):(nB a b kn l k).length=l.length:=by
 unfold nB;rw[List.length_append,List.length_map,List.length_take,List.length_drop];omega
theorem M8 {kn:List kV}{l:List jg}{x:jg}(hx:l[k]?=some x):(nB a b kn l k).set k (li a b kn x)=nB a b kn l (k+1):=by
 unfold nB;have z:=(gS hx).1;have y:l.drop k=x::l.drop (k+1):=by rw[List.drop_eq_getElem_cons z];congr 1;exact(gS hx).2
 rw[List.set_append_right _ _ (by rw[List.length_map,List.length_take];omega),List.length_map,List.length_take,show k-min k l.length=0 by omega,y,List.set_cons_zero,jI hx,List.map_append,List.append_assoc];rfl
theorem Ql (a b:Int)(kn:List kV)(l:List jg):nB a b kn l l.length=l.map (li a b kn):=by unfold nB;simp
theorem Bc (a b:Int)(kn:List kV)(l:List jg):nB a b kn l 0=l:=by unfold nB;simp
def jn.setFiles (p:jn)(l:List jg):jn:=⟨p.nm,p.ver,p.ar,p.sm,p.na,p.nc,p.needs,p.ba,p.bc,p.bars,p.ga,p.gc,p.gives,p.fa,p.fc,l,p.sa,p.sc,p.scripts⟩
theorem IL {α:Type}{P:α->Prop}{l:List α}{x:α}(hx:l[k]?=some x):(∀ y∈l.take (k+1),P y)↔(∀ y∈l.take k,P y)/\P x:=by
 rw[jI hx];constructor
 ·intro h;exact⟨fun y z=>h y (List.mem_append_left _ z),h x (List.mem_append_right _ (by simp))⟩
 ·rintro⟨h1,h2⟩ y z;rcases List.mem_append.1 z with z | z
  ·exact h1 y z
  ·rw[List.mem_singleton.1 z];exact h2
theorem aaJ {ap:Value}{ms:List ql}{R:List ky}{q:jn}{kn:List kV}{fH fI fJ er es et eu ev ew ex ey ez eA eB eC eD eE eF eG eH eI eJ eK eL eM eN eO eP eQ eR eS eT eU eV eW eX eY eZ fb fd fe:Value}(hb:lE b)(hL:lZ a b kn ms)(hsz:∀ f∈q.files,f.owner.size<=9223372036854775807/\f.group.size<=9223372036854775807)(hR:R.length<=900000)(hn:q.files.length<=100000)(hB:lN T w W kb mb a b ms v R q)
  (hQ:∀ (fK fL fM ff fg fh fi fj fk fl fm fn fo fp bu bv bw bx bz bA bB bC bD bE bF bG bH bI bJ bK bL bM bN bO bP bQ bR bS bT bU bV bW bX bY bZ ca cb cc ce cf cg ch fq fr fs ft fu fv fw fx fy fz fA:Value)(wx:World),(∃ v1 bs,lN T w wx kb mb a b ms v1 (R++bs) (q.setFiles (q.files.map (li a b kn)))/\(bs=[]↔∀ f∈q.files,oZ a b kn f)/\bs.length<=q.files.length)->Q .normal ⟨#[c0,c1,.pointer (some ⟨w.heap.size,0,none⟩),.pointer (some ⟨w.heap.size+1,0,none⟩),c4,.func (Fn.func 46) #[] #[.pointer (some ⟨w.heap.size,0,none⟩),.pointer (some ⟨w.heap.size+1,0,none⟩)],c6,c7,c8,c9,cj,ck,cl,cm,cn,co,cq,fK,fL,fM,cr,cs,ct,cu,cv,cw,cx,cy,cz,cA,cB,cC,cD,cE,cF,cG,cH,cI,cJ,cK,cL,cM,cN,cO,cP,cQ,cR,cS,cT,cU,cV,cW,cX,cY,cZ,da,db,dc,de,df,dg,dh,di,dj,dk,dl,dm,dn,dp,dq,dr,ds,dt,du,dv,dw,dx,dy,dz,dA,dB,dC,dD,dE,dF,dG,dH,dI,dJ,dK,dL,dM,dN,dO,dP,dQ,dR,dS,dT,dU,aa,ab,ac,ad,ae,af,ag,ah,ai,aj,ak,al,am,an,ao,ap,aq,au,av,ax,ay,az,aA,aB,aC,aD,aE,aF,aG,aH,aI,aJ,aK,aL,aM,aN,aO,aP,aQ,aR,aS,aT,aU,aV,aW,aX,aY,aZ,bb,bd,be,bf,bg,bh,bi,bj,bk,ff,fg,fh,fi,fj,fk,fl,fm,fn,fo,fp,bu,bv,bw,bx,bz,bA,bB,bC,bD,bE,bF,bG,bH,bI,bJ,bK,bL,bM,bN,bO,bP,bQ,bR,bS,bT,bU,bV,bW,bX,bY,bZ,ca,cb,cc,ce,cf,cg,ch,fq,fr,fs,ft,fu,fv,fw,fx,fy,fz,fA,bm,bn,bo,bp,bq,br,bt],[]⟩ wx):
  Code.wp Tryz.prog (cd [1,1,1,1,1,1,1,1,1,1,1,0]) Q ⟨#[c0,c1,.pointer (some ⟨w.heap.size,0,none⟩),.pointer (some ⟨w.heap.size+1,0,none⟩),c4,.func (Fn.func 46) #[] #[.pointer (some ⟨w.heap.size,0,none⟩),.pointer (some ⟨w.heap.size+1,0,none⟩)],c6,c7,c8,c9,cj,ck,cl,cm,cn,co,cq,fH,fI,fJ,cr,cs,ct,cu,cv,cw,cx,cy,cz,cA,cB,cC,cD,cE,cF,cG,cH,cI,cJ,cK,cL,cM,cN,cO,cP,cQ,cR,cS,cT,cU,cV,cW,cX,cY,cZ,da,db,dc,de,df,dg,dh,di,dj,dk,dl,dm,dn,dp,dq,dr,ds,dt,du,dv,dw,dx,dy,dz,dA,dB,dC,dD,dE,dF,dG,dH,dI,dJ,dK,dL,dM,dN,dO,dP,dQ,dR,dS,dT,dU,aa,ab,ac,ad,ae,af,ag,ah,ai,aj,ak,al,am,an,ao,ap,aq,au,av,ax,ay,az,aA,aB,aC,aD,aE,aF,aG,aH,aI,aJ,aK,aL,aM,aN,aO,aP,aQ,aR,aS,aT,aU,aV,aW,aX,aY,aZ,bb,bd,be,bf,bg,bh,bi,bj,bk,dV,dW,dX,dY,dZ,ea,eb,ec,ed,ee,ef,eg,eh,ei,ej,ek,el,em,en,eo,ep,eq,er,es,et,eu,ev,ew,ex,ey,ez,eA,eB,eC,eD,eE,eF,eG,eH,eI,eJ,eK,eL,eM,eN,eO,eP,eQ,eR,eS,eT,eU,eV,eW,eX,eY,eZ,fb,fd,fe,bm,bn,bo,bp,bq,br,bt],[]⟩ W:=by
 have HQ:=iV hQ;clear hQ;have HB:=iV hb;have HL:=iV hL;have HS:=iV hsz;have fQ:=iV hR;have fO:=iV hn;have B0:Hid (lN T w W kb mb a b ms v R (q.setFiles (nB a b kn q.files 0))):=by show lN _ _ _ _ _ _ _ _ _ _ _;rw[Bc];exact hB
 obtain⟨W0,Y⟩:∃ W0,W=W0:=⟨_,rfl⟩
 rw[Y] at B0 |-;clear hb hL hsz hR hB Y
 conv=>arg 2;whnf
 have p7:W0.cell? ⟨w.heap.size+1,7,none⟩=some (.slice q.fa q.files.length q.fc):=by
  have:=B0.out.pk.cell 7 _ rfl;rw[Bc] at this;exact this
 go_wp2_with fail;clear p7;go_loopw [160] (fun s wr=>∃ (k:Nat) (v1:Value) (bs:List ky),k<=q.files.length/\s=.int .i64 k/\Hid (lN T w wr kb mb a b ms v1 (R++bs) (q.setFiles (nB a b kn q.files k)))/\Hid (bs=[]↔∀ f∈q.files.take k,oZ a b kn f)/\Hid (bs.length<=k)) (fun i _=>q.files.length-(intOf i).toNat)
 case atStart=>exact⟨0,v,[],z0,rfl,by rw[List.append_nil];exact B0,by simp[Hid],z0⟩
 case round=>
  clear B0;obtain⟨k,v1,bs,hk,rfl,B1,K1,F1⟩:=hrel;by_cases fE:k<q.files.length
  ·obtain⟨x,hx⟩:∃ x,q.files[k]?=some x:=⟨_,gG fE⟩
   have HX:=iV hx;obtain⟨zo,zg⟩:=HS.out x (gM hx);have O:=iV (UP (a:=a) (b:=b) (kn:=kn) hx);have M:=Qk a b kn q.files hk;have fC:=iV M;obtain⟨X,cp,hv,_,_⟩:=B1.out.own.files.form (by show 0<(nB a b kn q.files k).length;omega);have hA:q.fa=some ⟨X,0,none⟩:=by injection hv
   obtain⟨b2,F,y,H⟩:=(jL B1.out.own.files).elem nS k x O.out;obtain⟨rfl,rfl⟩:X=b2/\0=F:=by have y:q.fa=some ⟨b2,F,none⟩:=y;rw[hA] at y;injection y with y;injection y with h1 h2 _;exact⟨h1,h2⟩
   have e0:=H 0 _ rfl;have e1:=H 1 _ rfl;have e2:=H 2 _ rfl;have e3:=H 3 _ rfl;have e4:=H 4 _ rfl;have e5:=H 5 _ rfl;have e6:=H 6 _ rfl;have e7:=H 7 _ rfl;simp only[Nat.add_zero,Nat.zero_add] at e0 e1 e2 e3 e4 e5 e6 e7;have fS:=fun W=>jm (T:=35) (E:=57) (sz:=8) (c:=q.fc) Tryz.underlying35 rfl Tryz.sizeOf57 hA fE W;simp only[Nat.zero_add] at fS;have HA:=iV hA;clear hx hv hA y H M;obtain⟨W1,K⟩:∃ W1,wr.alloc (.cells #[.string x.path,.int .i64 x.kind,.int .i64 x.mode,.string x.owner,.string x.group,.string x.link,.string x.sum,.bool x.conf] 57)=W1:=⟨_,rfl⟩
   have D1:Hid (Below wr.heap.size wr W1):=by show Below _ _ _;rw[<-K];exact bR.alloc lr _
   have J:Hid (jh W1 wr.heap.size x.cells):=by show jh _ _ _;rw[<-K];exact jh.new wr x.cells _
   have B2:=iV (B1.out.step D1.out);have Z:=iV K;clear K;go_upto_region 30 with(fail)
   rw[Z.out];clear e0 e1 e2 e3 e4 e5 e6 e7 B1 D1 Z;have c0:=B2.out.box.cell 0 _ rfl;have x0:=J.out.cell 0 _ rfl;have x1:=J.out.cell 1 _ rfl;have x2:=J.out.cell 2 _ rfl;have x3:=J.out.cell 3 _ rfl;have x4:=J.out.cell 4 _ rfl;have x5:=J.out.cell 5 _ rfl;have x6:=J.out.cell 6 _ rfl;have x7:=J.out.cell 7 _ rfl;obtain⟨sm,U⟩:∃ sm,lD a b kn x=sm:=⟨_,rfl⟩
   have fB:=iV U;have HO:=iV (Aj a b HB.out kb mb v1 kn ms HL.out x W1 B2.out.kv B2.out.mp);rw[U] at HO;unfold jg.val at HO;clear U;go_wp2_with fail;refine HO.out.mono ?_;rintro e w2 ⟨rfl,V⟩;have B3:=iV (B2.out.step V);have X3:=iV (J.out.below V);clear V HO c0 x0 x1 x2 x3 x4 x5 x6 x7 B2 J;go_upto_region 31 with(fail)
   refine XD (kn:=kn) (f:=x) (sm:=sm) HB.out zo zg fB.out.symm X3.out B3.out ?_;intro bu bv bw bx bz bA bB bC bD bE bF bG bH bI bJ bK bL bM bN bO bP bQ bR bS bT bU bV bW bX bY bZ ca cb cc ce cf cg ch wx fN;obtain⟨fR,rfl,N,ba,ar⟩:=fN;have B4:=iV ba;have D:=iV N;have X4:=iV ar;clear N ba ar B3 X3;have fF:Hid (∀ wr:World,∀ (v1:Value)(R1:List ky),lN T w wr kb mb a b ms v1 R1 (q.setFiles (nB a b kn q.files k))->wr.cell? ⟨w.heap.size+1,7,none⟩=some (.slice q.fa q.files.length q.fc)/\wr.cell? ⟨X,k*8+6,none⟩=some (.string x.sum)/\wr.frozen? ⟨X,k*8+6,none⟩=false/\lN T w (wr.setCell ⟨X,k*8+6,none⟩ (.string sm)) kb mb a b ms v1 R1 (q.setFiles (nB a b kn q.files (k+1)))):=by
    intro wr v1 R1 h;have hp:=h.pk.cell 7 _ rfl;have fD:wr.cell? ⟨w.heap.size+1,7,none⟩=some (.slice q.fa (nB a b kn q.files k).length q.fc):=hp;rw[fC.out] at fD;obtain⟨b2,F,y,H⟩:=(jL h.own.files).elem nS k x O.out;have z:q.fa=some ⟨b2,F,none⟩:=y;rw[HA.out] at z;injection z with z;injection z with h1 h2 _;subst h1;subst h2;have e6:=H 6 _ rfl;simp only[Nat.zero_add] at e6;have ci:=h.own.files;have I:wr.ownsRow (kb+1) 57 8 (.slice q.fa (nB a b kn q.files k).length q.fc) (nB a b kn q.files k).length ((nB a b kn q.files k).flatMap jg.cells):=ci;rw[HA.out] at I;refine⟨fD,e6,I.frozenAt _,?_⟩;have:=h.setF (g:=X) (i:=k) (x:=x) HA.out O.out sm;rw[<-M8 HX.out,show li a b kn x={ x with sum:=sm } by rw[<-fB.out];rfl];exact this
   obtain⟨W4,fG⟩:∃ W4,wx=W4:=⟨_,rfl⟩
   rw[fG] at B4 X4 |-;clear fG;cases fR
   ·obtain⟨p7,y6,z6,hs⟩:=fF.out W4 _ _ B4.out;have B5:=iV hs;have KN:Hid (bs=[]↔∀ f∈q.files.take (k+1),oZ a b kn f):=by
     show _↔_;rw[IL HX.out,K1.out];exact⟨fun h=>⟨h,D.out.1 (by simp)⟩,fun h=>h.1⟩
    have FN:Hid (bs.length<=k+1):=by have:=F1.out;show _<=_;omega
    clear hs D;go_wp2;go_roundw
    case rel=>exact⟨k+1,v1,bs,by omega,by go_num,B5,KN,FN⟩
    case measure=>simp[intOf];omega
   ·have x0:=X4.out.cell 0 _ rfl;have fP:Hid ((R++bs).length<=1000000):=by show _<=_;have:=fQ.out;have:=fO.out;have:=F1.out;rw[List.length_append];omega
    go_wp2_with fail;refine(qI B4.out fP.out q.nm x.path 11 rfl).mono ?_;rintro e w5 ⟨rfl,v5,h5⟩;rw[List.append_assoc] at h5;obtain⟨p7,y6,z6,hs⟩:=fF.out w5 _ _ h5;have B5:=iV hs;have KN:Hid (bs++[⟨q.nm,x.path,11⟩]=[]↔∀ f∈q.files.take (k+1),oZ a b kn f):=by
     show _↔_;rw[IL HX.out];exact⟨fun h=>by simp at h,fun h=>by have:=D.out.2 h.2;simp at this⟩
    have FN:Hid ((bs++[(⟨q.nm,x.path,11⟩:ky)]).length<=k+1):=by have:=F1.out;show _<=_;rw[List.length_append,List.length_singleton];omega
    clear h5 hs D x0;go_wp2;go_roundw
    case rel=>exact⟨k+1,v5,_,by omega,by go_num,B5,KN,FN⟩
    case measure=>simp[intOf];omega
  ·have E:q.files.take k=q.files:=tL (by omega);have bc:k=q.files.length:=by omega
   have B5:Hid (lN T w wr kb mb a b ms v1 (R++bs) (q.setFiles (q.files.map (li a b kn)))):=by
    have:=B1.out;rw[bc,Ql] at this;exact this
   have KN:Hid (bs=[]↔∀ f∈q.files,oZ a b kn f):=by have:=K1.out;rw[E] at this;exact this
   clear E bc;go_wp2_with fail;exact HQ.out _ _ _ _ _ _ _ _ _ _ _ _ _ _ _ _ _ _ _ _ _ _ _ _ _ _ _ _ _ _ _ _ _ _ _ _ _ _ _ _ _ _ _ _ _ _ _ _ _ _ _ _ _ _ _ _ _ _ _ _ _ _ _ _ ⟨v1,bs,B5.out,KN.out,by have:=F1.out;omega⟩
theorem Zp {ap:Value}{cp:Value}{p:jn}{c2 c3:Value}
  (hQ:∀ (u2 u3 u4:Value)(wx:World),(u2=.pointer (some ⟨w.heap.size,0,none⟩)/\u3=.pointer (some ⟨w.heap.size+1,0,none⟩)/\u4=.pointer (some ⟨w.heap.size+2,0,none⟩)/\wx=((w.alloc (.cells #[.pointer (some ⟨kb,0,none⟩)] 110)).alloc (.cells #[.string p.nm,.string p.ver,.string p.ar,.string p.sm,.slice p.na p.needs.length p.nc,.slice p.ba p.bars.length p.bc,.slice p.ga p.gives.length p.gc,.slice p.fa p.files.length p.fc,.slice p.sa p.scripts.length p.sc] 38)).alloc (.cells #[.string ⟨#[]⟩,.string ⟨#[]⟩,.string ⟨#[]⟩,.string ⟨#[]⟩,.slice none 0 0,.slice none 0 0,.slice none 0 0,.slice none 0 0,.slice none 0 0] 38))->Q .normal ⟨#[.pointer (some ⟨kb,0,none⟩),.agg #[.string p.nm,.string p.ver,.string p.ar,.string p.sm,.slice p.na p.needs.length p.nc,.slice p.ba p.bars.length p.bc,.slice p.ga p.gives.length p.gc,.slice p.fa p.files.length p.fc,.slice p.sa p.scripts.length p.sc],u2,u3,u4,c5,c6,c7,c8,c9,cD,cE,cF,cG,cH,cI,cJ,cK,cL,cM,eq,cN,cO,cP,cQ,cR,cS,cT,cU,cV,cW,cX,cY,cZ,da,db,dc,de,df,dg,dh,di,dj,dk,dl,dm,dn,dp,dq,dr,ds,dt,du,dv,dw,dx,dy,dz,dA,dB,dC,dD,dE,dF,dG,dH,dI,dJ,dK,dL,dM,dN,dO,dP,dQ,dR,dS,dT,dU,dV,dW,dX,dY,dZ,ea,eb,ec,ed,ee,ef,eg,eh,ei,ej,ek,el,em,en,eo,ep,aa,ab,ac,ad,ae,af,ag,ah,ai,aj,ak,al,am,an,ao,ap,aq,au,av,ax,ay,az,aA,aB,aC,aD,aE,aF,aG,aH,aI,aJ,aK,aL,aM,aN,aO,aP,aQ,aR,aS,aT,aU,aV,aW,aX,aY,aZ,bb,bd,be,bf,bg,bh,bi,bj,bk,bm,bn,bo,bp,bq,br,bs,bt,bu,bv,bw,bx,bz,bA,bB,bC,bD,bE,bF,bG,bH,bI,bJ,bK,bL,bM,bN,bO,bP,bQ,bR,bS,bT,bU,bV,bW,bX,bY,bZ,ca,cb,cc,ce,cf,cg,ch,ci,cj,ck,cl,cm,cn,co,cp,cq,cr,cs,ct,cu,cv,cw,cx,cy,cz,cA,cB,cC],[]⟩ wx):
  Code.wp Tryz.prog (cd [0]) Q ⟨#[.pointer (some ⟨kb,0,none⟩),.agg #[.string p.nm,.string p.ver,.string p.ar,.string p.sm,.slice p.na p.needs.length p.nc,.slice p.ba p.bars.length p.bc,.slice p.ga p.gives.length p.gc,.slice p.fa p.files.length p.fc,.slice p.sa p.scripts.length p.sc],c2,c3,c4,c5,c6,c7,c8,c9,cD,cE,cF,cG,cH,cI,cJ,cK,cL,cM,eq,cN,cO,cP,cQ,cR,cS,cT,cU,cV,cW,cX,cY,cZ,da,db,dc,de,df,dg,dh,di,dj,dk,dl,dm,dn,dp,dq,dr,ds,dt,du,dv,dw,dx,dy,dz,dA,dB,dC,dD,dE,dF,dG,dH,dI,dJ,dK,dL,dM,dN,dO,dP,dQ,dR,dS,dT,dU,dV,dW,dX,dY,dZ,ea,eb,ec,ed,ee,ef,eg,eh,ei,ej,ek,el,em,en,eo,ep,aa,ab,ac,ad,ae,af,ag,ah,ai,aj,ak,al,am,an,ao,ap,aq,au,av,ax,ay,az,aA,aB,aC,aD,aE,aF,aG,aH,aI,aJ,aK,aL,aM,aN,aO,aP,aQ,aR,aS,aT,aU,aV,aW,aX,aY,aZ,bb,bd,be,bf,bg,bh,bi,bj,bk,bm,bn,bo,bp,bq,br,bs,bt,bu,bv,bw,bx,bz,bA,bB,bC,bD,bE,bF,bG,bH,bI,bJ,bK,bL,bM,bN,bO,bP,bQ,bR,bS,bT,bU,bV,bW,bX,bY,bZ,ca,cb,cc,ce,cf,cg,ch,ci,cj,ck,cl,cm,cn,co,cp,cq,cr,cs,ct,cu,cv,cw,cx,cy,cz,cA,cB,cC],[]⟩ w:=by
 have y:=iV hQ;clear hQ
 conv=>arg 2;whnf
 go_wp2_with fail;exact y.out _ _ _ _ ⟨rfl,rfl,rfl,rfl⟩
theorem Zq {ap:Value}{cp:Value}
  (hQ:∀ (u5 eD:Value)(wx:World),(u5=.func (Fn.func 46) #[] #[.pointer (some ⟨w.heap.size,0,none⟩),.pointer (some ⟨w.heap.size+1,0,none⟩)]/\wx=W)->Q .normal ⟨#[c0,c1,.pointer (some ⟨w.heap.size,0,none⟩),.pointer (some ⟨w.heap.size+1,0,none⟩),c4,u5,c6,c7,c8,c9,cD,cE,cF,cG,cH,cI,cJ,cK,cL,cM,eD,cN,cO,cP,cQ,cR,cS,cT,cU,cV,cW,cX,cY,cZ,da,db,dc,de,df,dg,dh,di,dj,dk,dl,dm,dn,dp,dq,dr,ds,dt,du,dv,dw,dx,dy,dz,dA,dB,dC,dD,dE,dF,dG,dH,dI,dJ,dK,dL,dM,dN,dO,dP,dQ,dR,dS,dT,dU,dV,dW,dX,dY,dZ,ea,eb,ec,ed,ee,ef,eg,eh,ei,ej,ek,el,em,en,eo,ep,aa,ab,ac,ad,ae,af,ag,ah,ai,aj,ak,al,am,an,ao,ap,aq,au,av,ax,ay,az,aA,aB,aC,aD,aE,aF,aG,aH,aI,aJ,aK,aL,aM,aN,aO,aP,aQ,aR,aS,aT,aU,aV,aW,aX,aY,aZ,bb,bd,be,bf,bg,bh,bi,bj,bk,bm,bn,bo,bp,bq,br,bs,bt,bu,bv,bw,bx,bz,bA,bB,bC,bD,bE,bF,bG,bH,bI,bJ,bK,bL,bM,bN,bO,bP,bQ,bR,bS,bT,bU,bV,bW,bX,bY,bZ,ca,cb,cc,ce,cf,cg,ch,ci,cj,ck,cl,cm,cn,co,cp,cq,cr,cs,ct,cu,cv,cw,cx,cy,cz,cA,cB,cC],[]⟩ wx):
  Code.wp Tryz.prog (cd [1,0]) Q ⟨#[c0,c1,.pointer (some ⟨w.heap.size,0,none⟩),.pointer (some ⟨w.heap.size+1,0,none⟩),c4,c5,c6,c7,c8,c9,cD,cE,cF,cG,cH,cI,cJ,cK,cL,cM,eq,cN,cO,cP,cQ,cR,cS,cT,cU,cV,cW,cX,cY,cZ,da,db,dc,de,df,dg,dh,di,dj,dk,dl,dm,dn,dp,dq,dr,ds,dt,du,dv,dw,dx,dy,dz,dA,dB,dC,dD,dE,dF,dG,dH,dI,dJ,dK,dL,dM,dN,dO,dP,dQ,dR,dS,dT,dU,dV,dW,dX,dY,dZ,ea,eb,ec,ed,ee,ef,eg,eh,ei,ej,ek,el,em,en,eo,ep,aa,ab,ac,ad,ae,af,ag,ah,ai,aj,ak,al,am,an,ao,ap,aq,au,av,ax,ay,az,aA,aB,aC,aD,aE,aF,aG,aH,aI,aJ,aK,aL,aM,aN,aO,aP,aQ,aR,aS,aT,aU,aV,aW,aX,aY,aZ,bb,bd,be,bf,bg,bh,bi,bj,bk,bm,bn,bo,bp,bq,br,bs,bt,bu,bv,bw,bx,bz,bA,bB,bC,bD,bE,bF,bG,bH,bI,bJ,bK,bL,bM,bN,bO,bP,bQ,bR,bS,bT,bU,bV,bW,bX,bY,bZ,ca,cb,cc,ce,cf,cg,ch,ci,cj,ck,cl,cm,cn,co,cp,cq,cr,cs,ct,cu,cv,cw,cx,cy,cz,cA,cB,cC],[]⟩ W:=by
 have y:=iV hQ;clear hQ
 conv=>arg 2;whnf
 go_wp2_with fail;exact y.out _ _ _ ⟨rfl,rfl⟩
theorem Zr {ap:Value}{cp:Value}
  (hQ:∀ (u6:Value)(wx:World),wx=W->Q .normal ⟨#[c0,c1,.pointer (some ⟨w.heap.size,0,none⟩),.pointer (some ⟨w.heap.size+1,0,none⟩),c4,.func (Fn.func 46) #[] #[.pointer (some ⟨w.heap.size,0,none⟩),.pointer (some ⟨w.heap.size+1,0,none⟩)],u6,c7,c8,c9,cD,cE,cF,cG,cH,cI,cJ,cK,cL,cM,eq,cN,cO,cP,cQ,cR,cS,cT,cU,cV,cW,cX,cY,cZ,da,db,dc,de,df,dg,dh,di,dj,dk,dl,dm,dn,dp,dq,dr,ds,dt,du,dv,dw,dx,dy,dz,dA,dB,dC,dD,dE,dF,dG,dH,dI,dJ,dK,dL,dM,dN,dO,dP,dQ,dR,dS,dT,dU,dV,dW,dX,dY,dZ,ea,eb,ec,ed,ee,ef,eg,eh,ei,ej,ek,el,em,en,eo,ep,aa,ab,ac,ad,ae,af,ag,ah,ai,aj,ak,al,am,an,ao,ap,aq,au,av,ax,ay,az,aA,aB,aC,aD,aE,aF,aG,aH,aI,aJ,aK,aL,aM,aN,aO,aP,aQ,aR,aS,aT,aU,aV,aW,aX,aY,aZ,bb,bd,be,bf,bg,bh,bi,bj,bk,bm,bn,bo,bp,bq,br,bs,bt,bu,bv,bw,bx,bz,bA,bB,bC,bD,bE,bF,bG,bH,bI,bJ,bK,bL,bM,bN,bO,bP,bQ,bR,bS,bT,bU,bV,bW,bX,bY,bZ,ca,cb,cc,ce,cf,cg,ch,ci,cj,ck,cl,cm,cn,co,cp,cq,cr,cs,ct,cu,cv,cw,cx,cy,cz,cA,cB,cC],[]⟩ wx):
  Code.wp Tryz.prog (cd [1,1,0]) Q ⟨#[c0,c1,.pointer (some ⟨w.heap.size,0,none⟩),.pointer (some ⟨w.heap.size+1,0,none⟩),c4,.func (Fn.func 46) #[] #[.pointer (some ⟨w.heap.size,0,none⟩),.pointer (some ⟨w.heap.size+1,0,none⟩)],c6,c7,c8,c9,cD,cE,cF,cG,cH,cI,cJ,cK,cL,cM,eq,cN,cO,cP,cQ,cR,cS,cT,cU,cV,cW,cX,cY,cZ,da,db,dc,de,df,dg,dh,di,dj,dk,dl,dm,dn,dp,dq,dr,ds,dt,du,dv,dw,dx,dy,dz,dA,dB,dC,dD,dE,dF,dG,dH,dI,dJ,dK,dL,dM,dN,dO,dP,dQ,dR,dS,dT,dU,dV,dW,dX,dY,dZ,ea,eb,ec,ed,ee,ef,eg,eh,ei,ej,ek,el,em,en,eo,ep,aa,ab,ac,ad,ae,af,ag,ah,ai,aj,ak,al,am,an,ao,ap,aq,au,av,ax,ay,az,aA,aB,aC,aD,aE,aF,aG,aH,aI,aJ,aK,aL,aM,aN,aO,aP,aQ,aR,aS,aT,aU,aV,aW,aX,aY,aZ,bb,bd,be,bf,bg,bh,bi,bj,bk,bm,bn,bo,bp,bq,br,bs,bt,bu,bv,bw,bx,bz,bA,bB,bC,bD,bE,bF,bG,bH,bI,bJ,bK,bL,bM,bN,bO,bP,bQ,bR,bS,bT,bU,bV,bW,bX,bY,bZ,ca,cb,cc,ce,cf,cg,ch,ci,cj,ck,cl,cm,cn,co,cp,cq,cr,cs,ct,cu,cv,cw,cx,cy,cz,cA,cB,cC],[]⟩ W:=by
 have y:=iV hQ;clear hQ
 conv=>arg 2;whnf
 go_wp2_with fail;exact y.out _ _ rfl
theorem ma {B B':Nat}{e e':TypeId}{s s' n n':Nat}{xs xs':List Value}(h:w.ownsRow B e s v n xs)(h':w.ownsRow B' e' s' v' n' xs')(hne:e≠e'):∀ g,v.ownBlock=some g->v'.ownBlock≠some g:=by
 intro g D y;rcases h.2 with⟨rfl,_⟩ | ⟨N,cap,K,rfl,_,H,_⟩
 ·cases D
 ·rcases h'.2 with⟨rfl,_⟩ | ⟨J,I,F,rfl,_,z,_⟩
  ·cases y
  ·injection D with D;injection y with y;have O:N=g:=D;have M:J=g:=y;rw[O] at H;rw[M] at z;rw[H] at z;injection z with z;injection z with _ h3 _;exact hne h3
def Zw (kb:Nat)(v:Value)(p:jn)(g:Nat):Prop:=g=kb\/v.ownBlock=some g\/(p.sl 2).ownBlock=some g\/(p.sl 3).ownBlock=some g
structure RH (w0 wr:World) (kb mb:Nat) (a b:Int) (ms:List ql) (v:Value) (R:List ky) (C O:Value) (l rs os qs:List jn):Prop where
 bl:Below w0.heap.size w0 wr
 k0:w0.heap.size<=kb
 ml:mb<kb
 lt:kb<wr.heap.size
 kv:jh wr kb (U9 a b (.map (some mb)) v)
 rf:wr.ownsRow (kb+1) 49 3 v R.length (R.flatMap ky.cells)
 mp:mj wr mb ms
 cp:wr.ownsRow (kb+1) 38 9 C l.length (l.flatMap jn.cells)
 out:wr.ownsRow (kb+1) 38 9 O os.length (os.flatMap jn.cells)
 ap:∀ g,O.ownBlock=some g->C.ownBlock≠some g
 left:∀ p∈rs,nT p wr (kb+1)
 own:∀ q∈qs,nT q wr (kb+1)
 far:rs.Pairwise QE
 gq:∀ q∈qs,∀ p∈rs,∀ g,(q.sl 2).ownBlock=some g->(p.sl 2).ownBlock≠some g
 fq:∀ q∈qs,∀ p∈rs,∀ g,(q.sl 3).ownBlock=some g->(p.sl 3).ownBlock≠some g
theorem RH.grow {wx:World}{ms:List ql}{R:List ky}{l rs os qs:List jn}(h:RH w0 wr kb mb a b ms v R C O l rs os qs)(hb:Below wr.heap.size wr wx):
  RH w0 wx kb mb a b ms v R C O l rs os qs:=
 ⟨h.bl.trans ⟨hb.os,hb.tape,hb.output,hb.size,fun i D=>hb.block i (Nat.lt_of_lt_of_le D h.bl.size)⟩,h.k0,h.ml,Nat.lt_of_lt_of_le h.lt hb.size,h.kv.below hb,jp h.rf hb,h.mp.below hb,jp h.cp hb,jp h.out hb,h.ap,
  fun p y=>(h.left p y).below hb,fun q z=>(h.own q z).below hb,h.far,h.gq,h.fq⟩
theorem RH.enter {ms:List ql}{R:List ky}{l rs os qs:List jn}{p:jn}(h:RH w0 wr kb mb a b ms v R C O l (p::rs) os qs):CvI (Zw kb v p) wr kb mb a b ms v R p:=by
 have z:=h.left p (List.mem_cons_self ..);refine⟨h.lt,h.ml,?_,.inl rfl,fun g y=>.inr (.inl y),fun g y=>.inr (.inr (.inl y)),fun g y=>.inr (.inr (.inr y)),h.kv,h.rf,h.mp,z⟩;intro g y;rcases y with rfl | y | y | y
 ·exact h.lt
 ·exact(World.ownsRow.lt h.rf g y).2
 ·exact(World.ownsRow.lt z.gives g y).2
 ·exact(World.ownsRow.lt z.files g y).2
theorem RH.leave {w':World}{ms:List ql}{R R':List ky}{l rs os qs:List jn}{p q:jn}(h:RH w0 w kb mb a b ms v R C O l (p::rs) os qs)(hc:CvE (Zw kb v p) w w' kb mb a b ms v' R' q):
  RH w0 w' kb mb a b ms v' R' C O l rs os (qs++[q]):=by
 have M:=h.left p (List.mem_cons_self ..);have I:=List.pairwise_cons.1 h.far
 -- a row that is no refusals',no atoms',no files'
 have other:∀ {B:Nat} {e:TypeId} {s n:Nat} {u:Value} {U:List Value},w.ownsRow B e s u n U->kb<B->e≠49->e≠78->e≠57->w'.ownsRow B e s u n U:=by
  intro B e s n u U N hB h1 h2 h3;refine sN N hc.kp fun g D ht=>?_;rcases ht with rfl | ht | ht | ht
  ·have:=(World.ownsRow.lt N _ D).1;omega
  ·exact ma N h.rf h1 g D ht
  ·exact ma N M.gives h2 g D ht
  ·exact ma N M.files h3 g D ht
 have Y:∀ J:jn,nT J w (kb+1)->(∀ g,(J.sl 2).ownBlock=some g->(p.sl 2).ownBlock≠some g)->(∀ g,(J.sl 3).ownBlock=some g->(p.sl 3).ownBlock≠some g)->nT J w' (kb+1):=by
  intro J H V X;refine⟨other H.needs (Nat.lt_succ_self _) (by decide) (by decide) (by decide),other H.bars (Nat.lt_succ_self _) (by decide) (by decide) (by decide),?_,?_,other H.scripts (Nat.lt_succ_self _) (by decide) (by decide) (by decide)⟩
  ·refine sN H.gives hc.kp fun g D ht=>?_;rcases ht with rfl | ht | ht | ht
   ·have:=(World.ownsRow.lt H.gives _ D).1;omega
   ·exact ma H.gives h.rf (by decide) g D ht
   ·exact V g D ht
   ·exact ma H.gives M.files (by decide) g D ht
  ·refine sN H.files hc.kp fun g D ht=>?_;rcases ht with rfl | ht | ht | ht
   ·have:=(World.ownsRow.lt H.files _ D).1;omega
   ·exact ma H.files h.rf (by decide) g D ht
   ·exact ma H.files M.gives (by decide) g D ht
   ·exact X g D ht
 refine⟨?_,h.k0,h.ml,Nat.lt_of_lt_of_le h.lt hc.kp.size,hc.kv,hc.rf,hc.mp,other h.cp (Nat.lt_succ_self _) (by decide) (by decide) (by decide),other h.out (Nat.lt_succ_self _) (by decide) (by decide) (by decide),h.ap,?_,?_,I.2,?_,?_⟩
 ·refine⟨hc.kp.os.trans h.bl.os,hc.kp.tape.trans h.bl.tape,hc.kp.output.trans h.bl.output,Nat.le_trans h.bl.size hc.kp.size,fun i Z=>(hc.kp.block i (Nat.lt_of_lt_of_le Z h.bl.size) (fun ht=>?_)).trans (h.bl.block i Z)⟩;have hk:=h.k0;rcases ht with rfl | ht | ht | ht
  ·omega
  ·have:=(World.ownsRow.lt h.rf _ ht).1;omega
  ·have:=(World.ownsRow.lt M.gives _ ht).1;omega
  ·have:=(World.ownsRow.lt M.files _ ht).1;omega
 ·intro K F;refine Y K (h.left K (List.mem_cons_of_mem _ F)) (fun g D z=>?_) (fun g D z=>?_)
  ·exact Nat.lt_irrefl _ ((I.1 K F).1 g g z D)
  ·exact Nat.lt_irrefl _ ((I.1 K F).2 g g z D)
 ·intro J y;rcases List.mem_append.1 y with y | y
  ·exact Y J (h.own J y) (fun g D=>h.gq J y p (List.mem_cons_self ..) g D) (fun g D=>h.fq J y p (List.mem_cons_self ..) g D)
  ·rw[List.mem_singleton.1 y];exact hc.own
 ·intro J y K F g D z;rcases List.mem_append.1 y with y | y
  ·exact h.gq J y K (List.mem_cons_of_mem _ F) g D z
  ·rw[List.mem_singleton.1 y] at D;have H:=h.left K (List.mem_cons_of_mem _ F);rcases hc.tg g D with rfl | ht | ht | ht
   ·have:=(World.ownsRow.lt H.gives _ z).1;omega
   ·exact ma H.gives h.rf (by decide) g z ht
   ·exact Nat.lt_irrefl _ ((I.1 K F).1 g g ht z)
   ·exact ma H.gives M.files (by decide) g z ht
 ·intro J y K F g D z;rcases List.mem_append.1 y with y | y
  ·exact h.fq J y K (List.mem_cons_of_mem _ F) g D z
  ·rw[List.mem_singleton.1 y] at D;have H:=h.left K (List.mem_cons_of_mem _ F);rcases hc.tf g D with rfl | ht | ht | ht
   ·have:=(World.ownsRow.lt H.files _ z).1;omega
   ·exact ma H.files h.rf (by decide) g z ht
   ·exact ma H.files M.gives (by decide) g z ht
   ·exact Nat.lt_irrefl _ ((I.1 K F).2 g g ht z)
theorem RH.put {w6:World}{ms:List ql}{R:List ky}{O':Value}{l rs os os' qs:List jn}(h:RH w0 w kb mb a b ms v R C O l rs os qs)(hg:w.grownBy w6 O.ownBlock)
  (ho:w6.ownsRow (kb+1) 38 9 O' os'.length (os'.flatMap jn.cells))(hO:∀ g,O'.ownBlock=some g->O.ownBlock=some g\/w.heap.size<=g):
  RH w0 w6 kb mb a b ms v R C O' l rs os' qs:=by
 have kept:∀ {B:Nat} {e:TypeId} {s n:Nat} {u:Value} {D:List Value},w.ownsRow B e s u n D->e≠38->w6.ownsRow B e s u n D:=by
  intro B e s n u D M F;refine M.kept hg ?_;cases hu:u.ownBlock with
  | none=>exact .inl rfl
  | some g=>exact .inr fun e=>ma M h.out F g hu e.symm
 have K:∀ q:jn,nT q w (kb+1)->nT q w6 (kb+1):=fun q y=>
  ⟨kept y.needs (by decide),kept y.bars (by decide),kept y.gives (by decide),kept y.files (by decide),kept y.scripts (by decide)⟩
 have I:∀ i,i<=kb->w6.heap[i]?=w.heap[i]?:=fun i z=>hg.block i (Nat.lt_of_le_of_lt z h.lt) (fun e=>by have:=(World.ownsRow.lt h.out i e.symm).1;omega);have V:=h.k0;refine⟨⟨hg.os.trans h.bl.os,hg.tape.trans h.bl.tape,hg.output.trans h.bl.output,Nat.le_trans h.bl.size hg.size,fun i z=>(I i (by omega)).trans (h.bl.block i z)⟩,h.k0,h.ml,Nat.lt_of_lt_of_le h.lt hg.size,?_,kept h.rf (by decide),h.mp.block (I mb (by have:=h.ml;omega)),?_,ho,?_,fun p N=>K p (h.left p N),fun q y=>K q (h.own q y),h.far,h.gq,h.fq⟩
 ·exact h.kv.but (T:=fun i=>O.ownBlock=some i) ⟨hg.os,hg.tape,hg.output,hg.size,fun i z U=>hg.block i z (fun e=>U e.symm)⟩ (fun e=>by have:=(World.ownsRow.lt h.out _ e).1;omega)
 ·refine h.cp.kept hg ?_;cases hu:C.ownBlock with
  | none=>exact .inl rfl
  | some g=>exact .inr fun e=>h.ap g e.symm hu
 ·intro g F H;rcases hO g F with J | J
  ·exact h.ap g J H
  ·have:=(World.ownsRow.lt h.cp g H).2;omega
end
end Go.Proofs.YtkmjcombhjombaaGreatDoor
