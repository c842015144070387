/- A part of the proof. -/
import Derived.Test.YtkmjcombhjombaaGreatDoorJ14
import Derived.Test.YtkmjcombhjombaaGreatDoorJ15
import Derived.Test.YtkmjcombhjombaaGreatDoorJ16
set_option maxRecDepth 100000
set_option maxHeartbeats 20000000
set_option linter.unusedVariables false
set_option linter.unusedSimpArgs false
namespace Go.Proofs.YtkmjcombhjombaaGreatDoor
variable{bar:Bool}{Q:Exit->Act->World->Prop}{a b fmt:Int}{l:LU}{k kb mb n:Nat}{T:Nat->Prop}{f:Nat->Value}{p:Prop}{C O aA aB aC aD aE aF aG aH aI aJ aK aL aM aN aO aP aQ aR aS aT aU aV aW aX aY aZ aa ab ac ad ae af ag ah ai aj ak al am an ao ap aq au av ax ay az bA bB bC bD bE bF bG bH bI bJ bK bL bM bN bO bP bQ bR bS bT bU bV bW bX bY bZ bb bd be bf bg bh bi bj bk bm bn bo bp bq br bs bt bu bv bw bx bz c0 c1 c4 c5 c6 c7 c8 c9 cA cB cC cD cE cF cG cH cJ cK cL cM cN cO cP cQ cR cS cT cU cV cW cX cY cZ ca cb cc ce cf cg ch ci cj ck cl cm cn co cp cq cr cs ct cu cv cw cx cy cz dA dB dC dD dE dF dG dH dI dJ dK dL dM dN dO dP dQ dR dS dT dU dV dW dX dY dZ da db dc dd de df dg dh di dj dk dl dm dn dp dq dr ds dt du dv dw dx dy dz ea eb ec ed ee ef eg eh ei ej ek el em en eo ep eq v v':Value}{W w w' w0 wr:World}
open Go.Proofs.Tryz
section
open Go.RowKit Go.Deep
theorem Eo {T:fL}(h:jR T)(z:T.cnt<=64)(H:T.ht<=32)(w:World)(hG:Gl w)(hO:iD w 0 none T):Calls prog 139 #[T.val] w fun e w'=>e=.returned (.tuple #[.string (gX (ij T.pl)),.int .i64 0])/\Bw w w':=by
 have U:=fH hG;have HO:=fH hO;obtain⟨I,D⟩:∃ I,w.alloc (.cells #[.string T.op,.string T.nm,.int .i64 T.aop,.string T.ver,.slice T.ka T.kids.length T.kc] 86)=I:=⟨_,rfl⟩
 have J:Hid (Bw w I):=by rw[<-D];exact bR.alloc lr _
 have V:Hid (fV I w.heap.size T.cells):=by rw[<-D];exact fV.new w T.cells _
 obtain⟨Z,M,k2,Y,k4⟩:=rF V.cell;have O:=ub T 0 h.shape z H I (U.below J) (HO.low J) (fun W g o=>Qo h W g o z);have HT:Hid (∀ W,Gl W->iD W 0 none T->Calls prog 195 #[T.val] W fun e w'=>e=.returned (.string (gX (ij T.pl)))/\Bw W w'):=fun W g o=>UZ h W g o z;clear h z H hG hO;obtain⟨X,R⟩:∃ X,gX (ij T.pl)=X:=⟨_,rfl⟩
 rw[R] at HT |-;clear R;unfold fL.val at *;go_in;go_wp2_with fail;clear D;refine O.mono ?_;rintro e w2 ⟨rfl,F⟩;have K:=fH (fM J F);have K2:=fH (V.below F);clear F Z M k2 Y k4 O;obtain⟨Z,M,k2,Y,k4⟩:=rF K2.cell;go_wp2_with fail;refine mb (HT w2 (U.below K) (HO.low K)) ?_;rintro w3 F;have B3:=fH (fM K F);clear F;go_wp2;go_ret2;exact⟨rfl,B3⟩
theorem M9 (w:World)(F:Gl w):Calls prog 139 #[rW.val] w fun e w'=>e=.returned (.tuple #[.string ⟨#[]⟩,.int .i64 10])/\Bw w w':=by
 have H:=fH F;have z:=ub rW 10 lO.zero (by decide) (by decide) (w.alloc (.cells #[.string ⟨#[]⟩,.string ⟨#[]⟩,.int .i64 0,.string ⟨#[]⟩,.slice none 0 0] 86)) (H.alloc _) (Ei _ _ _ _ _ _) (fun W _ _=>MS W);rw[uP] at z |-;have J:Hid (Bw w (w.alloc (.cells #[.string ⟨#[]⟩,.string ⟨#[]⟩,.int .i64 0,.string ⟨#[]⟩,.slice none 0 0] 86))):=bR.alloc lr _;clear F;go_in;go_wp2_with fail;refine z.mono ?_;rintro e K ⟨rfl,D⟩;have I:=fH (fM J D);clear D z;go_wp2;go_ret2;exact⟨rfl,I⟩
theorem Hj (h:jt l=none):nY l=false:=by unfold nY;rw[h];simp
theorem Hk {d:mQ}(h:jt l=some d)(z:l≠[]):nY l=decide (ij d=l):=by
 unfold nY;rw[h];simp[z]
theorem Ep (s:BA)(w:World)(hG:Gl w)(hs:s.size<=1000000):Calls prog 111 #[.int .i64 2,.string s] w (DJ s (nY (bl s)) w):=by
 have HG:=fH hG;clear hG;have B0:Hid (Bw w (w.alloc (.cells #[.string ⟨#[]⟩,.int .i64 0,.int .i64 0] 132))):=bR.alloc lr _;have K0:Hid (fV (w.alloc (.cells #[.string ⟨#[]⟩,.int .i64 0,.int .i64 0] 132)) w.heap.size [.string ⟨#[]⟩,.int .i64 0,.int .i64 0]):=fV.new w _ _;go_in;go_wp2_with fail;refine(En s _ (HG.below B0) (by omega)).mono ?_;rintro e H ⟨T,f,a,D,rfl,U,F⟩;have B1:=fH (fM B0 U);have K1:=fH (K0.below U);have ah:w.heap.size<H.heap.size:=K1.sz;have ai:¬ w.heap.size=H.heap.size:=by omega
 clear U;cases hp:jt (bl s) with
 | none=>
  rw[hp] at F;obtain⟨hc,rfl⟩:=F;have EN:=fH (Hj hp);have aj:(D==0)=false:=by simp[hc]
  clear hp hc;obtain⟨K,z⟩:∃ K,(H.alloc (.cells #[.string ⟨#[]⟩,.string ⟨#[]⟩,.int .i64 0,.string ⟨#[]⟩,.slice none 0 0] 86)).alloc (.cells #[.string f,.int .i64 a,.int .i64 D] 132)=K:=⟨_,rfl⟩
  have V:Hid (Bw H K):=by rw[<-z];exact(bR.alloc lr _).alloc (by simp) _
  have D3:Hid (fV K H.heap.size [.string ⟨#[]⟩,.string ⟨#[]⟩,.int .i64 0,.string ⟨#[]⟩,.slice none 0 0]):=by rw[<-z];exact(fV.new H [.string ⟨#[]⟩,.string ⟨#[]⟩,.int .i64 0,.string ⟨#[]⟩,.slice none 0 0] _).alloc _
  have F3:Hid (fV K (H.heap.size+1) [.string f,.int .i64 a,.int .i64 D]):=by
   have:=fV.new (H.alloc (.cells #[.string ⟨#[]⟩,.string ⟨#[]⟩,.int .i64 0,.string ⟨#[]⟩,.slice none 0 0] 86)) [.string f,.int .i64 a,.int .i64 D] 132;rw[<-z];show fV _ _ _;simpa using this
  have J:=fH (K1.below V);have BB:=fH (fM B1 V);obtain⟨r0,r1,r2⟩:=qj J.cell;have ad:=J.free 0 (by simp);have ac:=J.free 1 (by simp);have af:=J.free 2 (by simp);obtain⟨d0,d1,d2⟩:=qj F3.cell;obtain⟨e0,e1,e2,e3,e4⟩:=rF D3.cell;have KS:=fH (((J.set 0 (by simp) (.string f)).set 1 (by simp) (.int .i64 a)).set 2 (by simp) (.int .i64 D));have Z:=fH (fO (j:=2) (fO (j:=1) (fO (j:=0) BB lr (.string f)) lr (.int .i64 a)) lr (.int .i64 D));have R:=M9 _ (HG.below Z);unfold lF;rw[uP] at R |-;go_upto_region 14 with(fail)
  clear z;go_wp2_with fail;refine R.mono ?_;rintro e w4 ⟨rfl,I⟩;have c2:=(KS.below I).cell 2 _ rfl;have B4:=fH (fM Z I);clear I;go_wp2;go_ret2;exact⟨_,false,rfl,B4,fun _=>by rw[EN.out];simp⟩
 | some t=>
  rw[hp] at F;obtain⟨rfl,hT,Y,O,aa,ab⟩:=F;have EN:Hid (s.size≠0->(gX (ij T.pl)=s↔nY (bl s)=true)):=fun h0=>by rw[Hk hp (XH h0),<-hT,decide_eq_true_iff];exact zc
  clear hp hT;obtain⟨K,z⟩:∃ K,(H.alloc (.cells #[.string T.op,.string T.nm,.int .i64 T.aop,.string T.ver,.slice T.ka T.kids.length T.kc] 86)).alloc (.cells #[.string f,.int .i64 a,.int .i64 0] 132)=K:=⟨_,rfl⟩
  have V:Hid (Bw H K):=by rw[<-z];exact(bR.alloc lr _).alloc (by simp) _
  have D3:Hid (fV K H.heap.size T.cells):=by rw[<-z];exact(fV.new H T.cells _).alloc _
  have F3:Hid (fV K (H.heap.size+1) [.string f,.int .i64 a,.int .i64 0]):=by
   have:=fV.new (H.alloc (.cells #[.string T.op,.string T.nm,.int .i64 T.aop,.string T.ver,.slice T.ka T.kids.length T.kc] 86)) [.string f,.int .i64 a,.int .i64 0] 132;rw[<-z];show fV _ _ _;simpa using this
  have J:=fH (K1.below V);have BB:=fH (fM B1 V);obtain⟨r0,r1,r2⟩:=qj J.cell;have ad:=J.free 0 (by simp);have ac:=J.free 1 (by simp);have af:=J.free 2 (by simp);obtain⟨d0,d1,d2⟩:=qj F3.cell;obtain⟨e0,e1,e2,e3,e4⟩:=rF D3.cell;have KS:=fH (((J.set 0 (by simp) (.string f)).set 1 (by simp) (.int .i64 a)).set 2 (by simp) (.int .i64 0));have Z:=fH (fO (j:=2) (fO (j:=1) (fO (j:=0) BB lr (.string f)) lr (.int .i64 a)) lr (.int .i64 0));have M:w.heap.size<(w.alloc (.cells #[.string ⟨#[]⟩,.int .i64 0,.int .i64 0] 132)).heap.size:=by simp
  have ae:=fH (((((O.low V).kept M (gU (j:=0) (.string f))).kept M (gU (j:=1) (.int .i64 a))).kept M (gU (j:=2) (.int .i64 0))).base z0);have R:=Eo Y ab aa _ (HG.below Z) ae.out;obtain⟨X,hX⟩:∃ X,gX (ij T.pl)=X:=⟨_,rfl⟩
  rw[hX] at R EN;clear Y O aa ab hX M;have ag:=fH z;clear z;unfold lF fL.val;unfold fL.val at R;go_upto_region 14 with(fail)
  rw[ag.out];go_wp2_with fail;refine R.mono ?_;rintro e w4 ⟨rfl,I⟩;have c2:=(KS.below I).cell 2 _ rfl;have B4:=fH (fM Z I);clear I R;go_wp2;go_ret2;exact⟨X,true,rfl,B4,fun h=>by have:=EN.out h;simpa using this⟩
def pkW (fo no:Bool)(ev:Int)(ao so ndo bo go:Bool)(fe:BA×Int)(se:Int):BA×Int:=
 if fo=false then (⟨#[102,111,114,109,97,116]⟩,9) else if no=false then (⟨#[110,97,109,101]⟩,10) else if ev≠0 then (⟨#[118,101,114,115,105,111,110]⟩,ev) else if ao=false then (⟨#[97,114,99,104]⟩,1) else if so=false then (⟨#[115,117,109,109,97,114,121]⟩,3)
 else if ndo=false then (⟨#[110,101,101,100,115]⟩,3) else if bo=false then (⟨#[98,97,114,115]⟩,3) else if go=false then (⟨#[103,105,118,101,115]⟩,3) else if fe.2≠0 then fe else (⟨#[115,99,114,105,112,116,115]⟩,se)
theorem Yi (nm:BA)(fo no:Bool)(F:Int)(H J z M I:Bool)(D:BA×Int)(K:Int):
  qX nm fo no F H J z M I D.1 D.2 K=if (pkW fo no F H J z M I D K).2=0 then mY ⟨#[]⟩ ⟨#[]⟩ 0 else mY nm (pkW fo no F H J z M I D K).1 (pkW fo no F H J z M I D K).2:=by
 unfold qX pkW;by_cases R:F=0
 ·subst R;cases fo
  ·rfl
  cases no
  ·rfl
  cases H
  ·rfl
  cases J
  ·rfl
  cases z
  ·rfl
  cases M
  ·rfl
  cases I
  ·rfl
  by_cases O:D.2=0
  ·by_cases U:K=0
   ·simp[O,U]
   ·simp[O,U]
  ·simp[O]
 ·cases fo
  ·rfl
  cases no
  ·rfl
  simp[R]
structure fZ.small (p:fZ):Prop where
 nm:p.nm.size<=1000000
 ver:p.ver.size<=1000000
 ar:p.ar.size<=1000000
 sm:p.sm.size<=1000000
 needs:p.needs.length<=1000000
 bars:p.bars.length<=1000000
 gives:p.gives.length<=1000000
 files:p.files.length<=1000000
 scripts:p.scripts.length<=1000000
 needs_:∀ s∈p.needs,s.size<=1000000
 bars_:∀ s∈p.bars,s.size<=1000000
 gives_:∀ x∈p.gives,x.nm.size<=4294967280/\x.ver.size<=4294967280
 files_:∀ x∈p.files,x.path.size<=4294967280/\x.owner.size<=4294967280/\x.group.size<=4294967280/\x.link.size<=4294967280/\x.sum.size<=4294967280
 scripts_:∀ x∈p.scripts,x.body.size<=4294967280
theorem rh {α:Type}(f:α->Nat):∀ (l:List α),(∀ x∈l,f x<=(l.map f).sum)
 | [],x,h=>by simp at h
 | a::r,x,h=>by
  simp only[List.map_cons,List.sum_cons];rcases List.mem_cons.1 h with rfl | h
  ·omega
  ·have:=rh f r x h;omega
theorem oa {α:Type}(f:α->Nat)(z:∀ x,1<=f x):∀ (l:List α),l.length<=(l.map f).sum
 | []=>by simp
 | a::r=>by simp only[List.map_cons,List.sum_cons,List.length_cons];have:=oa f z r;have:=z a;omega
theorem fZ.small_of {p:fZ}(h:wW p<=1000000):p.small:=by
 unfold wW kZ jx my mz mA at h;have F:=oa (fun s:BA=>1+s.size) (fun _=>by omega) p.needs;have H:=oa (fun s:BA=>1+s.size) (fun _=>by omega) p.bars;have I:=oa (fun x:fP=>1+x.nm.size+x.ver.size) (fun _=>by omega) p.gives;have D:=oa (fun x:fW=>1+x.path.size+x.owner.size+x.group.size+x.link.size+x.sum.size) (fun _=>by omega) p.files;have J:=oa (fun x:gE=>1+x.body.size) (fun _=>by omega) p.scripts;refine⟨by omega,by omega,by omega,by omega,by omega,by omega,by omega,by omega,by omega,fun s z=>?_,fun s z=>?_,fun s z=>?_,fun s z=>?_,fun s z=>?_⟩
 ·have:=rh (fun s:BA=>1+s.size) p.needs s z;omega
 ·have:=rh (fun s:BA=>1+s.size) p.bars s z;omega
 ·have:=rh (fun x:fP=>1+x.nm.size+x.ver.size) p.gives s z;constructor<;>omega
 ·have:=rh (fun x:fW=>1+x.path.size+x.owner.size+x.group.size+x.link.size+x.sum.size) p.files s z;refine⟨?_,?_,?_,?_,?_⟩<;>omega
 ·have:=rh (fun x:gE=>1+x.body.size) p.scripts s z;omega
def Sy (fmt:Int):LU->Bool:=if fmt=1 then nW else if fmt=2 then nY else nV
theorem Sz (fmt:Int):Sy fmt []=false:=by unfold Sy;(repeat' split)<;>rfl
theorem ri (fmt:Int)(s:BA)(w:World)(F:Mt w)(H:s.size<=1000000):Calls prog 111 #[.int .i64 fmt,.string s] w (DJ s (Sy fmt (bl s)) w):=by
 unfold Sy;by_cases z:fmt=1
 ·subst z;exact DK s w F.1 H
 ·by_cases D:fmt=2
  ·subst D;exact Ep s w F.1 H
  ·rw[if_neg z,if_neg D];exact DL fmt z D s w F H
theorem Ni {n:Int}(h:nO n=true):n=1\/n=2\/n=3:=dO h
def lA (fmt:Int)(p:fZ):BA×Int:=
 pkW (nO fmt) (hH (bl p.nm)) (gL fmt p.ver) (ry fmt p.ar) (C7 (bl p.sm)) (lz fmt false (Sy fmt) p.needs) (lz fmt true (Sy fmt) p.bars) (nh fmt p.gives) (iV fmt p.files) (jN fmt p.scripts)
theorem Kx (fmt:Int)(p:fZ)(w:World)(h:nO fmt=false):Calls prog 34 #[.int .i64 fmt,p.val] w fun e w'=>e=.returned (ckV p.nm (lA fmt p))/\Bw w w':=by
 have E:Hid (ckV p.nm (lA fmt p)=mY p.nm ⟨#[102,111,114,109,97,116]⟩ 9):=by show _=_;unfold lA pkW;rw[if_pos h];rfl
 generalize ckV p.nm (lA fmt p)=V at *;have I:=fun W=>rH fmt W;rw[h] at I;clear h;unfold fZ.val;go_in;go_wp2_with fail;refine mb (I _) ?_;rintro K D;have F:=xe.start w p.nm p.ver p.ar p.sm _ _ _ _ _ D;clear D;have R:=fH F;have M:=F.sz;go_wp2_with fail;refine mb (ie _ p.nm _ _ K F.c0 rfl (by show w.heap.size<_;omega)) ?_;rintro w2 H;have J:=F.step H;have z:=fH J;obtain⟨O,sz,c0,c1,c2,c3,c4,c5,c6,c7,X,r0,U,r2,Y,Z,f2⟩:=J;unfold mY;go_wp2_with fail;refine bodyPost_ret (v:=mY p.nm ⟨#[102,111,114,109,97,116]⟩ 9) (kJ _ z rfl _ _ _) rfl ?_;exact⟨by rw[E.out],lT z _ _ _⟩
theorem Ky (fmt:Int)(p:fZ)(w:World)(J:Mt w)(I:p.ok w)(D:p.small):Calls prog 34 #[.int .i64 fmt,p.val] w fun e w'=>e=.returned (ckV p.nm (lA fmt p))/\Bw w w':=by
 cases h:nO fmt with
 | false=>exact Kx fmt p w h
 | true=>
  have O:=Ni h;have H:∀ {a b:Nat},a<=1000000->b=a->b<=9223372036854775807:=fun V U=>by omega
  have:=we fmt p.nm p.ver p.ar p.sm p.na p.ba p.ga p.fa p.sa p.needs.length p.nc p.bars.length p.bc p.gives.length p.gc p.files.length p.fc p.scripts.length p.sc w (gL fmt p.ver) (iV fmt p.files).2 (jN fmt p.scripts) (lz fmt false (Sy fmt) p.needs) (lz fmt true (Sy fmt) p.bars) (nh fmt p.gives) (iV fmt p.files).1 (H D.nm rfl) (H D.sm rfl)
   (fH fun F z=>gP fmt p.ver F (J.1.below z) (H D.ver rfl))
   (fH fun F z=>rU fmt false (Sy fmt) (Sz fmt) p.na p.nc p.needs F (J.below z) (I.needs.below z) (by have:=D.needs;omega) (fun x M W K=>ri fmt x W K (D.needs_ x M)))
   (fH fun F z=>rU fmt true (Sy fmt) (Sz fmt) p.ba p.bc p.bars F (J.below z) (I.bars.below z) (by have:=D.bars;omega) (fun x M W K=>ri fmt x W K (D.bars_ x M)))
   (fH fun F z=>zi fmt p.ga p.gc p.gives F (J.1.below z) (I.gives.below z) (H D.gives rfl) D.gives_)
   (fH fun F z=>zj fmt O p.fa p.fc p.files F (J.1.below z) (I.files.below z) (H D.files rfl) D.files_)
   (fH fun F z=>wz fmt O p.sa p.sc p.scripts F (I.scripts.below z) (H D.scripts rfl) D.scripts_)
  refine this.mono fun e w' ⟨R,z⟩=>⟨?_,z⟩
  rw[R,Yi];rfl
theorem Nj {p:fZ}(h:(lA fmt p).2=0):(iV fmt p.files).2=0:=by
 unfold lA at h;generalize iV fmt p.files=fe at *;by_cases z:fe.2=0
 ·exact z
 ·unfold pkW at h
  (repeat' split at h)<;>simp_all
theorem Kz {l:List fZ}{p:fZ}(h:p∈l):wW p<=Bm l:=by
 have:=rh (fun p:fZ=>1+wW p) l p h;unfold Bm;omega
theorem Nk (fmt:Int)(A:OA)(c:Nat)(l:List fZ)(w:World)(J:Mt w)(K:vl w A l)(M:l.length<=100000)(F:Bm l<=10000000)(H:∀ p∈l,wW p<=1000000):Calls prog 17 #[.int .i64 fmt,.slice A l.length c] w fun e w'=>e=.returned (dbV (BN (lA fmt) (nO fmt) l))/\Bw w w':=by
 have I:∀ p∈l,p.small:=fun p z=>fZ.small_of (H p z);refine Eu fmt (lA fmt) A c l w J.1 K M F (fun p z=>⟨(I p z).files,fun x U=>?_⟩) (fun p z W R D=>Ky fmt p W (J.below R) D (I p z)) (fun p z h=>Nj h);have O:=H p z;unfold wW mz at O;have V:=rh (fun x:fW=>1+x.path.size+x.owner.size+x.group.size+x.link.size+x.sum.size) p.files x U;omega
end
section
open Go.RowKit
structure fP.told (fmt:Int) (a:fP):Prop where
 name:hH (bl a.nm)=true
 op0:0<=a.op
 op5:a.op<=5
 none:a.op=0->bl a.ver=[]
 ver:a.op≠0->∃ c,iR fmt c=true/\bl a.ver=gH fmt c
theorem zJ (D:iY fmt){a:fP}(h:a.good)(I:(gz 1 fmt a).2=0):
  (gz 1 fmt a).1.told fmt/\gz fmt 1 (gz 1 fmt a).1=(a,0):=by
 obtain⟨t,F,M,H,J⟩:=VD D h I;rw[F];refine⟨⟨h.name,h.op0,h.op5,fun z=>by rw[iS];exact H z,fun z=>?_⟩,M⟩;obtain⟨c,K,ht⟩:=J z;exact⟨c,K,by rw[iS,ht]⟩
theorem zK {a:fP}(h:a.told 1):(sY a).bare:=by
 have J:=h.op5;have K:=h.op0;refine⟨h.name,rfl,rfl,by show a.op.toNat<=5;omega,fun e=>h.none (by have:a.op.toNat=0:=e;omega),fun e=>?_⟩;have M:¬ a.op.toNat=0:=e;obtain⟨c,z,F⟩:=h.ver (by omega);obtain⟨D,_,H⟩:=wF z;show gL 1 (gX (bl a.ver))=0/\bl a.ver≠[]/\∀ x∈bl a.ver,Mk x=false;rw[F];exact⟨ol (.inl rfl) z,D,fun x I=>(H x I).1⟩
theorem uW {a:fP}(h:a.told 2):(js a).bare:=by
 have J:=h.op5;have K:=h.op0;refine .mk _ _ _ h.name (by omega) (fun e=>h.none (by omega)) (fun e=>?_);obtain⟨c,F,I⟩:=h.ver (by omega);obtain⟨H,_,z⟩:=wF F;rw[I];exact⟨ol (.inr (.inl rfl)) F,H,fun x D=>⟨(z x D).2.1,(z x D).2.2.1,(z x D).2.2.2⟩⟩
theorem Fk (no:Bool){a:fP}(h:a.told 3):(⟨no,bl a.nm,a.op.toNat,bl a.ver⟩:jP).bare:=by
 have J:=h.op5;have K:=h.op0;refine⟨h.name,by show a.op.toNat<=5;omega,fun e=>h.none (by have:a.op.toNat=0:=e;omega),fun e=>?_⟩;have M:¬ a.op.toNat=0:=e;obtain⟨c,z,D⟩:=h.ver (by omega);obtain⟨_,F,H⟩:=wF z;show gL 3 (gX (bl a.ver))=0/\(∃ d r,bl a.ver=d::r/\gf d=true)/\∀ y∈bl a.ver,(y==32)=false;rw[D];exact⟨ol (.inr (.inr rfl)) z,F,fun x I=>(H x I).2.1⟩
theorem uX {a:fP}(z:0<=a.op):(⟨gX (bl a.nm),(a.op.toNat:Int),gX (bl a.ver)⟩:fP)=a:=by
 obtain⟨nm,op,ver⟩:=a;simp only at z;rw[nF,nF,Int.toNat_of_nonneg z]
structure gI.told (fmt:Int) (d:gI):Prop where
 ne:d.alts≠[]
 one:d.bar=true->d.alts.length=1
 apk:fmt=3->d.alts.length=1
 each:∀ a∈d.alts,a.told fmt
theorem Fl {l:List fP}{f:fP->fP}(h:∀ a∈l,f a=a):l.map f=l:=by
 conv=>rhs;rw[<-List.map_id l]
 exact List.map_congr_left fun a z=>h a z
theorem kV {l:List gI}{d:gI}(h:d∈iJ bar l):d∈l/\d.bar=bar:=by
 unfold iJ at h;rw[List.mem_filter] at h;exact⟨h.1,by simpa using h.2⟩
theorem uq {l:List gI}{d:gI}(h:d∈l):d.alts.length<=gB l:=by
 unfold gB
 induction l with
 | nil=>simp at h
 | cons a r ih=>
  rw[List.map_cons,List.sum_cons];rcases List.mem_cons.1 h with rfl | h
  ·omega
  ·have:=ih h;omega
theorem oR (bar:Bool):∀ l:List gI,gB (iJ bar l)<=gB l
 | []=>by simp[iJ,gB]
 | a::r=>by
  have z:=oR bar r;unfold gB iJ at *;rw[List.filter_cons];split
  ·rw[List.map_cons,List.map_cons,List.sum_cons,List.sum_cons];omega
  ·rw[List.map_cons,List.sum_cons];omega
theorem qf {l:List gI}(h:∀ d∈l,d.alts≠[]):l.length<=gB l:=by
 unfold gB
 induction l with
 | nil=>simp
 | cons a r ih=>
  have D:=ih (fun d z=>h d (List.mem_cons_of_mem _ z));have F:=List.length_pos_iff.2 (h a (by simp));rw[List.map_cons,List.sum_cons,List.length_cons];omega
theorem QV (hf:iY fmt){out:List gI}(h:∀ d∈out,d.told fmt)(hc:gB out<=64):
  (∀ t∈iL fmt bar out,(ip fmt bar t).2=0)/\(iL fmt bar out).flatMap (fun t=>(ip fmt bar t).1)=(if fmt=3 then (if bar=true then [] else out) else iJ bar out):=by
 rcases hf with rfl | rfl | rfl
 ·rw[if_neg (by decide)];unfold iL;rw[if_pos rfl];by_cases K:iJ bar out=[]
  ·rw[if_pos K,K];exact⟨by simp,rfl⟩
  rw[if_neg K];have hb:∀ g∈(iJ bar out).map (fun d=>d.alts.map sY),g≠[]/\∀ t∈g,t.bare:=by
   intro g H;obtain⟨d,D,rfl⟩:=List.mem_map.1 H;have z:=h d (kV D).1;refine⟨by simpa using z.ne,fun t ht=>?_⟩;obtain⟨a,Z,rfl⟩:=List.mem_map.1 ht;exact zK (z.each a Z)
  have hs:((((iJ bar out).map (fun d=>d.alts.map sY))).map List.length).sum<=64:=by
   have:=oR bar out;have e:(((iJ bar out).map (fun d=>d.alts.map sY))).map List.length=(iJ bar out).map fun d=>d.alts.length:=by
    rw[List.map_map];exact List.map_congr_left fun d _=>by simp
   rw[e];unfold gB at *;omega
  have V:=AN (by simpa using K) hb hs;have ht:ip 1 bar (jQ ((iJ bar out).map (fun d=>d.alts.map sY)))=(iJ bar out,0):=by
   unfold ip;rw[if_pos rfl,V];simp only;unfold vL;rw[if_neg]
   ·congr 1;rw[List.map_map]
    conv=>rhs;rw[<-List.map_id (iJ bar out)]
    refine List.map_congr_left fun d D=>?_;obtain⟨I,F⟩:=kV D;have:(d.alts.map sY).map tC=d.alts:=by
     rw[List.map_map];exact Fl fun a Z=>uX ((h d I).each a Z).op0
    show(⟨bar,(d.alts.map sY).map tC⟩:gI)=d;rw[this,<-F]
   ·rw[Bool.not_eq_true,List.any_eq_false];intro g H;obtain⟨d,D,rfl⟩:=List.mem_map.1 H;obtain⟨I,F⟩:=kV D;rw[Bool.not_eq_true,Bool.or_eq_false_iff];constructor
    ·cases bar with
     | false=>rfl
     | true=>simp[(h d I).one F]
    ·rw[List.any_eq_false];intro t ht;obtain⟨a,_,rfl⟩:=List.mem_map.1 ht;simp[sY]
  exact⟨fun t I=>by rw[List.mem_singleton.1 I,ht],by simp[ht]⟩
 ·rw[if_neg (by decide)];unfold iL;rw[if_neg (by decide),if_pos rfl];have key:∀ d∈iJ bar out,ip 2 bar (ij (vr d))=([d],0):=by
   intro d D;obtain⟨I,F⟩:=kV D;have z:=h d I;have aa:=uq I;obtain⟨J,M⟩:=d;simp only at F;subst F
   match M,z,aa with
   | [],z,_=>exact absurd rfl z.ne
   | [g],z,_=>
    have H:=z.each g (by simp);have V:=uj (.one _ (uW H));have e:vr ⟨J,[g]⟩=js g:=rfl;have ex:Fi (js g)=g:=uX H.op0;unfold ip;rw[if_neg (by decide),if_pos rfl,e,V];simp only;unfold qI;have hi:Nv (js g)=true:=rfl;have U:uo (js g)=[js g]:=rfl;have X:vM (js g)=[js g]:=rfl;cases J with
    | true=>rw[if_pos rfl,if_pos hi,ex]
    | false=>
     rw[if_neg (by simp),U];simp only[List.all_cons,List.all_nil,Bool.and_true,X,hi,if_true,List.map_cons,List.map_nil,ex]
   | g::g2::r,z,aa=>
    have ae:J=false:=by
     cases J with
     | false=>rfl
     | true=>have:=z.one rfl;simp at this
    subst ae;have ad:∀ x∈js g::js g2::r.map js,x.bare:=by
     intro x Y;have ac:x∈(g::g2::r).map js:=by simpa using Y
     obtain⟨a,Z,rfl⟩:=List.mem_map.1 ac;exact uW (z.each a Z)
    have V:=uj (.some (js g) (js g2) (r.map js) ad (by simp at aa |-;omega));have e:vr ⟨false,g::g2::r⟩=.node kT (js g::js g2::r.map js):=rfl;have U:uo (.node kT (js g::js g2::r.map js))=[.node kT (js g::js g2::r.map js)]:=by
     show(if kT=lh then js g::js g2::r.map js else [.node kT (js g::js g2::r.map js)])=_;rw[if_neg (by decide)]
    have X:vM (.node kT (js g::js g2::r.map js))=(g::g2::r).map js:=by
     show(if kT=kT then js g::js g2::r.map js else [.node kT (js g::js g2::r.map js)])=_;rw[if_pos rfl];rfl
    have O:((g::g2::r).map js).all Nv=true:=by
     rw[List.all_eq_true];intro x Y;obtain⟨a,_,rfl⟩:=List.mem_map.1 Y;rfl
    have R:((g::g2::r).map js).map Fi=g::g2::r:=by
     rw[List.map_map];exact Fl fun a Z=>uX (z.each a Z).op0
    unfold ip;rw[if_neg (by decide),if_pos rfl,e,V];simp only;unfold qI;rw[if_neg (by simp),U];simp only[List.all_cons,List.all_nil,Bool.and_true,X,List.map_cons,List.map_nil] at O R |-;rw[O,if_pos rfl,R]
  refine⟨fun t ht=>?_,?_⟩
  ·obtain⟨d,D,rfl⟩:=List.mem_map.1 ht;rw[key d D]
  ·rw[List.flatMap_map];have:∀ L:List gI,(∀ d∈L,ip 2 bar (ij (vr d))=([d],0))->L.flatMap (fun d=>(ip 2 bar (ij (vr d))).1)=L:=by
    intro L
    induction L with
    | nil=>intro _;rfl
    | cons a r ih=>intro hh;rw[List.flatMap_cons,hh a (by simp),ih (fun d D=>hh d (List.mem_cons_of_mem _ D))];rfl
   exact this _ key
 ·rw[if_pos rfl];unfold iL;rw[if_neg (by decide),if_neg (by decide)];cases bar with
  | true=>rw[if_pos (.inl rfl),if_pos rfl];exact⟨by simp,rfl⟩
  | false=>
   rw[if_neg (c:=false=true) (by simp)];by_cases K:out=[]
   ·rw[if_pos (.inr K),K];exact⟨by simp,rfl⟩
   rw[if_neg (by simpa using K)];have one:∀ d∈out,∃ g,d.alts=[g]/\g.told 3:=by
    intro d D;have h1:=(h d D).apk rfl
    match he:d.alts with
    | []=>rw[he] at h1;simp at h1
    | [g]=>exact⟨g,rfl,(h d D).each g (by rw[he];simp)⟩
    | g::g2::r=>rw[he] at h1;simp at h1
   have hw:∀ x∈out.map oz,x.bare:=by
    intro x Y;obtain⟨d,D,rfl⟩:=List.mem_map.1 Y;obtain⟨g,e,H⟩:=one d D;unfold oz;rw[e];exact Fk d.bar H
   have ab:(out.map oz).length<=64:=by
    rw[List.length_map];have:=qf (fun d D=>(h d D).ne);omega
   have V:=AO hw ab;have ht:ip 3 false (ko (out.map oz))=(out,0):=by
    unfold ip;rw[if_neg (by decide),if_neg (by decide),V];simp only;unfold vN;rw[if_neg]
    ·congr 1;rw[List.map_map]
     conv=>rhs;rw[<-List.map_id out]
     refine List.map_congr_left fun d D=>?_;obtain⟨g,e,H⟩:=one d D;obtain⟨J,M⟩:=d;simp only at e;subst e;show(⟨false||J,[nH ⟨J,bl g.nm,g.op.toNat,bl g.ver⟩]⟩:gI)=⟨J,[g]⟩;rw[Bool.false_or];congr 1;rw[show nH ⟨J,bl g.nm,g.op.toNat,bl g.ver⟩=g from uX H.op0]
    ·rw[Bool.not_eq_true,List.any_eq_false];intro x Y;have:=(hw x Y).op;simp;omega
   exact⟨fun t I=>by rw[List.mem_singleton.1 I,ht],by simp[ht]⟩
theorem uY (I:iY fmt){d:gI}(h:um d=0)(H:qH fmt d=0):(kD 1 fmt d).told fmt/\kD fmt 1 (kD 1 fmt d)=d/\∀ b∈(kD 1 fmt d).alts,(gz fmt 1 b).2=0:=by
 obtain⟨D,alts⟩:=d;unfold um at h;simp only at h;split at h
 ·cases h
 rename_i R;have M:∀ a∈alts,a.good:=fun a z=>wE (gD.1 h a z);unfold qH at H;simp only at H;split at H
 ·cases H
 rename_i V;have O:∀ a∈alts,(gz 1 fmt a).2=0:=gD.1 H;have U:alts.length≠0:=fun e=>R (.inl e);refine⟨⟨?_,?_,?_,?_⟩,?_,?_⟩
 ·show alts.map (fun g=>(gz 1 fmt g).1)≠[];intro e;apply U;have:=congrArg List.length e;simpa using this
 ·intro F;show(alts.map _).length=1;have J:D=true:=F;rw[List.length_map];have:¬ 1<alts.length:=fun K=>R (.inr ⟨J,K⟩);omega
 ·intro F;show(alts.map _).length=1;rw[List.length_map];have:¬ 1<alts.length:=fun K=>V ⟨F,K⟩;omega
 ·intro b F;obtain⟨a,z,rfl⟩:=List.mem_map.1 F;exact(zJ I (M a z) (O a z)).1
 ·show(⟨D,(alts.map fun g=>(gz 1 fmt g).1).map fun g=>(gz fmt 1 g).1⟩:gI)=⟨D,alts⟩;congr 1;rw[List.map_map];refine Fl fun a z=>?_;show(gz fmt 1 (gz 1 fmt a).1).1=a;rw[(zJ I (M a z) (O a z)).2]
 ·intro b F;obtain⟨a,z,rfl⟩:=List.mem_map.1 F;rw[(zJ I (M a z) (O a z)).2]
theorem qK (a b:Int)(l:List gI):gB (l.map (kD a b))=gB l:=by
 unfold gB;rw[List.map_map];congr 1;exact List.map_congr_left fun d _=>by simp[kD]
theorem Fm (a b:Int)(bar:Bool)(l:List gI):iJ bar (l.map (kD a b))=(iJ bar l).map (kD a b):=by
 unfold iJ;rw[List.filter_map];rfl
theorem Fo {l:List gI}(h:wQ fmt l=0):
  jc fmt false (wD fmt false l)=0/\jc fmt true (wD fmt true l)=0/\iX fmt false (wD fmt false l)++iX fmt true (wD fmt true l)=up fmt l:=by
 unfold wQ at h;by_cases F:iY fmt
 rotate_left
 ·rw[if_pos F] at h;cases h
 rw[if_neg (fun Z=>Z F)] at h;by_cases H:ni l=0
 rotate_left
 ·rw[if_pos H] at h;exact absurd h H
 rw[if_neg (by simpa using H)] at h;unfold ni at H;split at H
 ·cases H
 rename_i aa;have O:∀ d∈l,um d=0:=gD.1 H;have he:∀ d∈l,qH fmt d=0:=gD.1 h;have X:∀ d∈l.map (kD 1 fmt),d.told fmt:=by
  intro d z;obtain⟨x,K,rfl⟩:=List.mem_map.1 z;exact(uY F (O x K) (he x K)).1
 have U:gB (l.map (kD 1 fmt))<=64:=by rw[qK];omega
 have V:∀ d∈l.map (kD 1 fmt),∀ b∈d.alts,(gz fmt 1 b).2=0:=by
  intro d z;obtain⟨x,K,rfl⟩:=List.mem_map.1 z;exact(uY F (O x K) (he x K)).2.2
 have J:(l.map (kD 1 fmt)).map (kD fmt 1)=l:=by
  rw[List.map_map]
  conv=>rhs;rw[<-List.map_id l]
  exact List.map_congr_left fun d z=>(uY F (O d z) (he d z)).2.1
 have key:∀ bar,iX fmt bar (wD fmt bar l)=(if fmt=3 then (if bar=true then [] else l) else iJ bar l)/\jc fmt bar (wD fmt bar l)=0:=by
  intro bar;obtain⟨k1,k2⟩:=QV F (bar:=bar) X U;have hL:iX fmt bar (wD fmt bar l)=(if fmt=3 then (if bar=true then [] else l) else iJ bar l):=by
   have e:iX fmt bar (wD fmt bar l)=((iL fmt bar (l.map (kD 1 fmt))).flatMap (fun t=>(ip fmt bar t).1)).map (kD fmt 1):=by
    unfold iX Fj wD;rw[List.map_flatMap]
   rw[e,k2];split
   ·split
    ·rfl
    ·exact J
   ·rw[Fm]
    conv=>rhs;rw[<-J]
    rw[Fm,Fm]
  refine⟨hL,?_⟩;have M:∀ t∈wD fmt bar l,∀ d∈(ip fmt bar t).1,d∈l.map (kD 1 fmt):=by
   intro t ht d D;have z:d∈(iL fmt bar (l.map (kD 1 fmt))).flatMap (fun t=>(ip fmt bar t).1):=List.mem_flatMap.2 ⟨t,ht,D⟩;rw[k2] at z;split at z
   ·split at z
    ·simp at z
    ·exact z
   ·exact(kV z).1
  have hz:iz (kI fmt bar) (wD fmt bar l)=0:=by
   rw[gD];intro t ht;unfold kI;rw[if_neg (by rw[k1 t ht];simp)];unfold qJ;rw[gD];intro b hb;obtain⟨d,D,R⟩:=List.mem_flatMap.1 hb;exact V d (M t ht d D) b R
  have Y:¬ 64<gB (iX fmt bar (wD fmt bar l)):=by
   rw[hL];split
   ·split
    ·simp[gB]
    ·omega
   ·have:=oR bar l;omega
  unfold jc;rw[if_neg (fun Z=>Z F),if_neg (by rw[hz];simp),if_neg Y]
 refine⟨(key false).2,(key true).2,?_⟩;rw[(key false).1,(key true).1];unfold up;by_cases I:fmt=3
 ·rw[if_pos I,if_pos I,if_pos I];simp
 ·rw[if_neg I,if_neg I,if_neg I]
def kr (a:Int)(p:fZ):List gI:=iX a false (p.needs.map bl)++iX a true (p.bars.map bl)
structure qL (a b:Int) (p:fZ):Prop where
 needs:jc a false (p.needs.map bl)=0
 bars:jc a true (p.bars.map bl)=0
 toZ:wQ b (kr a p)=0
def qM (a b:Int)(g:fP):Prop:=hH (bl g.nm)=true/\g.op=3/\(trans a b g.ver).2=0
def oo (a b:Int)(kn:List jH)(f:fW):Prop:=lU b f.owner=true/\lU b f.group=true/\¬ (f.conf=true/\b=3)/\(f.kind=1->(mZ a b kn f).size≠0)
structure pD (a b:Int) (kn:List jH) (p:fZ):Prop where
 ver:(trans a b p.ver).2=0
 deps:qL a b p
 gives:∀ g∈p.gives,qM a b g
 files:∀ f∈p.files,oo a b kn f
 scripts:∀ s∈p.scripts,zk b s.phase=true
def kF (a b:Int)(kn:List jH)(f:fW):fW:=⟨f.path,f.kind,f.mode,f.owner,f.group,f.link,mZ a b kn f,f.conf⟩
def AS (a b:Int)(s:BA):BA:=if (nw a b s).2=0 then (nw a b s).1 else s
structure BP (a b:Int) (kn:List jH) (p q:fZ):Prop where
 nm:q.nm=p.nm
 ver:q.ver=gX (trans a b p.ver).1
 ar:q.ar=AS a b p.ar
 sm:q.sm=p.sm
 needs:q.needs.map bl=wD b false (kr a p)
 bars:q.bars.map bl=wD b true (kr a p)
 gives:q.gives=p.gives.map (po a b)
 files:q.files=p.files.map (kF a b kn)
 scripts:q.scripts=p.scripts
theorem YA {fo no:Bool}{ev:Int}{ao so ndo bo go:Bool}{fe:BA×Int}{se:Int}:
  (pkW fo no ev ao so ndo bo go fe se).2=0↔fo=true/\no=true/\ev=0/\ao=true/\so=true/\ndo=true/\bo=true/\go=true/\fe.2=0/\se=0:=by
 unfold pkW;constructor
 ·intro h
  (repeat' split at h)<;>simp_all
 ·rintro⟨rfl,rfl,rfl,rfl,rfl,rfl,rfl,rfl,h,rfl⟩;simp[h]
structure QW (fmt:Int) (p:fZ):Prop where
 isf:iY fmt
 name:hH (bl p.nm)=true
 ver:gL fmt p.ver=0
 arch:ry fmt p.ar=true
 sum:C7 (bl p.sm)=true
 needs:lz fmt false (Sy fmt) p.needs=true
 bars:lz fmt true (Sy fmt) p.bars=true
 gives:nh fmt p.gives=true
 files:(iV fmt p.files).2=0
 scripts:jN fmt p.scripts=0
theorem xZ {p:fZ}:(lA fmt p).2=0↔QW fmt p:=by
 unfold lA;rw[YA];constructor
 ·rintro⟨h0,h1,h2,h3,h4,h5,h6,h7,h8,h9⟩;exact⟨Ni h0,h1,h2,h3,h4,h5,h6,h7,h8,h9⟩
 ·rintro⟨h0,h1,h2,h3,h4,h5,h6,h7,h8,h9⟩;exact⟨dT h0,h1,h2,h3,h4,h5,h6,h7,h8,h9⟩
theorem Fp (F:iY a)(H:iY b){v:BA}(h:(trans a b v).2=0):
  ∃ c,gL a v=0/\sd a (bl v)=some c/\iR b c=true/\(trans a b v).1=gH b c:=by
 unfold trans at h |-;rw[if_neg (by rintro(x | x);exact x F;exact x H)] at h |-;by_cases z:gL a v=0
 ·rw[if_neg (by simpa using z)] at h |-;cases hp:sd a (bl v) with
  | none=>rw[hp] at h;cases h
  | some c=>
   rw[hp] at h;simp only at h |-;unfold vq at h |-;by_cases D:iR b c=true
   ·rw[if_pos D];exact⟨c,z,rfl,D,rfl⟩
   ·rw[if_neg D] at h;cases h
 ·rw[if_pos z] at h;exact absurd h z
theorem AU (F:iY a)(z:iY b){v:BA}(h:(trans a b v).2=0):gL b (gX (trans a b v).1)=0:=by
 obtain⟨c,_,_,D,e⟩:=Fp F z h;rw[e];exact ol z D
theorem Nw (I:iY a)(J:iY b)(s:BA):AS a b s=(if aw a 0=s then aw b 0 else if aw a 1=s then aw b 1 else if aw a 2=s then aw b 2 else s):=by
 have H:nO a=true:=dT I;have K:nO b=true:=dT J;have e:nw a b s=(if aw a 0=s then (aw b 0,0) else if aw a 1=s then (aw b 1,0) else if aw a 2=s then (aw b 2,0) else (⟨#[]⟩,11)):=by
  unfold nw;rw[H,K,if_neg (by simp)]
 unfold AS;rw[e];by_cases F:aw a 0=s
 ·rw[if_pos F,if_pos F];rfl
 rw[if_neg F,if_neg F];by_cases D:aw a 1=s
 ·rw[if_pos D,if_pos D];rfl
 rw[if_neg D,if_neg D];by_cases z:aw a 2=s
 ·rw[if_pos z,if_pos z];rfl
 rw[if_neg z,if_neg z];rfl
theorem QX (H:iY a)(I:iY b){s:BA}(h:ry a s=true):ry b (AS a b s)=true:=by
 unfold ry at h |-;rw[decide_eq_true_eq] at h |-;rw[Nw H I];by_cases D:aw a 0=s
 ·rw[if_pos D];exact .inl rfl
 rw[if_neg D];by_cases z:aw a 1=s
 ·rw[if_pos z];exact .inr (.inl rfl)
 rw[if_neg z];by_cases F:aw a 2=s
 ·rw[if_pos F];exact .inr (.inr rfl)
 ·rcases h with h | h | h
  ·exact absurd h D
  ·exact absurd h z
  ·exact absurd h F
theorem VE (h:hH l=true):xO fmt l=true:=by
 unfold xO;split
 ·exact h
 ·split
  ·exact Cs h
  ·exact Ct h
theorem Nx (F:iY a)(J:iY b){l:List fP}(z:nh a l=true)(h:∀ g∈l,qM a b g):nh b (l.map (po a b))=true:=by
 unfold nh at z |-;rw[Bool.and_eq_true,decide_eq_true_eq] at z |-;refine⟨by rw[List.length_map];exact z.1,?_⟩;rw[List.all_eq_true];intro g K;obtain⟨x,O,rfl⟩:=List.mem_map.1 K;obtain⟨H,R,I⟩:=h x O;unfold rY;rw[VE (show hH (bl (po a b x).nm)=true from H)];have D:(po a b x).op=3:=rfl;have M:gL b (po a b x).ver=0:=AU F J I;rw[D,M];rfl
theorem Ny (H:iY b){kn:List jH}{f:fW}(D:f.kind=1)(F:wP a f.sum=true)(h:(mZ a b kn f).size≠0):wP b (mZ a b kn f)=true:=by
 unfold mZ at h |-;by_cases z:a=b
 ·subst z;rw[if_pos (.inr rfl)];exact F
 ·rw[if_neg (by rintro(x | x);exact x D;exact z x)] at h |-;cases e:mo a b kn f.path f.sum with
  | none=>rw[e] at h;exact absurd rfl h
  | some k=>exact(GI e).2.1
theorem Fq {f:fW}:jf fmt f=true↔(0<=f.mode/\f.mode<=4095)/\lU fmt f.owner=true/\lU fmt f.group=true/\(if f.kind=3 then decide (f.mode=511)&&qn (bl f.link)&&decide (f.link.size<=200) else decide (f.link.size=0))=true/\(if f.kind=1 then wP fmt f.sum&&(!f.conf||decide (fmt≠3)) else decide (f.sum.size=0) && !f.conf)=true:=by
 unfold jf;simp only[Bool.and_eq_true,decide_eq_true_eq,and_assoc]
theorem QY (O:iY b){kn:List jH}{f:fW}(h:jf a f=true)(ht:oo a b kn f):jf b (kF a b kn f)=true:=by
 obtain⟨I,F,H,M⟩:=ht;obtain⟨m,_,_,l,s⟩:=Fq.1 h;refine Fq.2 ⟨m,I,F,l,?_⟩;have e:(kF a b kn f).kind=f.kind:=rfl;have J:(kF a b kn f).conf=f.conf:=rfl;have K:(kF a b kn f).sum=mZ a b kn f:=rfl;rw[e,J,K];by_cases z:f.kind=1
 ·rw[if_pos z] at s |-;rw[Bool.and_eq_true] at s |-;refine⟨Ny O z s.1 (M z),?_⟩;cases hc:f.conf with
  | false=>rfl
  | true=>
   have:b≠3:=fun D=>H ⟨hc,D⟩;simp[this]
 ·rw[if_neg z] at s |-;unfold mZ;rw[if_pos (.inl z)];exact s
theorem QZ (M:iY b){kn:List jH}{pre:List fW}{f:fW}(h:pT a pre f=0)(ht:oo a b kn f):pT b (pre.map (kF a b kn)) (kF a b kn f)=0:=by
 unfold pT at h |-;have z:(kF a b kn f).path=f.path:=rfl;have O:(kF a b kn f).kind=f.kind:=rfl;have D:nA (pre.map (kF a b kn)).getLast? (kF a b kn f)=nA pre.getLast? f:=by
  rw[List.getLast?_map];cases pre.getLast?<;>rfl
 have I:oM (pre.map (kF a b kn)) (kF a b kn f)=oM pre f:=by
  unfold oM;rw[List.any_map];rfl
 rw[z,O,D,I];split at h
 ·cases h
 ·rename_i J;rw[if_neg J];split at h
  ·cases h
  ·rename_i F;rw[if_neg F];split at h
   ·cases h
   ·rename_i K;rw[if_neg K];split at h
    ·cases h
    ·rename_i H;rw[if_neg (by rw[QY M (by simpa using H) ht];simp)];exact h
theorem ya {a b:Int}(z:iY b){kn:List jH}:∀ (l pre:List fW),(∀ f∈l,oo a b kn f)->jC a pre l=none->jC b (pre.map (kF a b kn)) (l.map (kF a b kn))=none
 | [],_,_,_=>rfl
 | f::r,pre,ht,h=>by
  unfold jC at h;rw[List.map_cons];unfold jC;split at h
  ·rename_i D;rw[if_pos (QZ z D (ht f (by simp)))];have:=ya z r (pre++[f]) (fun x F=>ht x (List.mem_cons_of_mem _ F)) h;rw[List.map_append] at this;exact this
  ·cases h
theorem Nz {l:List fW}(h:(iV fmt l).2=0):l.length<=512/\jC fmt [] l=none:=by
 unfold iV at h;split at h
 ·cases h
 ·refine⟨by omega,?_⟩;cases e:jC fmt [] l with
  | none=>rfl
  | some x=>
   obtain⟨q,c⟩:=x;rw[e] at h;exact absurd h (filesE_codeP l [] q c e)
 where
 filesE_codeP {fmt:Int}:∀ (l pre:List fW)(q:BA)(e:Int),jC fmt pre l=some (q,e)->e≠0
 | [],_,_,_,h=>by cases h
 | f::r,pre,q,e,h=>by
  unfold jC at h;split at h
  ·exact filesE_codeP r _ q e h
  ·rename_i z;injection h with h;injection h with _ h;exact h ▸ z
theorem NA (D:iY b){kn:List jH}{l:List fW}(h:(iV a l).2=0)(ht:∀ f∈l,oo a b kn f):(iV b (l.map (kF a b kn))).2=0:=by
 obtain⟨F,z⟩:=Nz h;have:=ya D l [] ht z;unfold iV;rw[if_neg (by rw[List.length_map];omega)];rw[List.map_nil] at this;rw[this];rfl
theorem Hm {l:List gE}(h:jN a l=0)(ht:∀ s∈l,zk b s.phase=true):jN b l=0:=by
 unfold jN at h |-;split at h
 ·cases h
 ·rename_i F;rw[if_neg F];split at h
  ·cases h
  ·rename_i H;rw[if_neg H];split at h
   ·rename_i z;rw[if_pos];rw[List.all_eq_true] at z |-;intro s D;have:=z s D;unfold Yb at this |-;rw[Bool.and_eq_true,Bool.and_eq_true] at this;rw[ht s D,this.1.2,this.2];rfl
   ·cases h
theorem acI {L:List (List iU)}(z:L≠[])(h:∀ g∈L,g≠[]/\∀ t∈g,t.bare)(D:(L.map List.length).sum<=64):nW (jQ L)=true:=by
 have F:=AN z h D;have H:jQ L≠[]:=by
  intro e;have:=zE L h;rw[e] at this;exact z (List.length_eq_zero_iff.1 (by simpa using this))
 unfold nW;rw[F];simp[H]
theorem YY {d:mQ}(h:d.flat):ij d≠[]:=by
 intro e;cases h with
 | one d h=>
  cases h with
  | mk nm op v hn _ _ _=>
   have z:=(I8 hn).1;unfold ij at e;split at e
   ·exact z e
   ·simp at e
 | some k k2 ks h hn=>unfold ij at e;simp at e
theorem acJ {d:mQ}(h:d.flat):nY (ij d)=true:=by
 have z:=uj h;unfold nY;rw[z];simp[YY h]
theorem YZ {L:List jP}(z:L≠[])(h:∀ x∈L,x.bare)(H:L.length<=64):nV (ko L)=true:=by
 have D:=AO h H;have F:ko L≠[]:=by
  intro e;have:=zH L h;rw[e] at this;exact z (List.length_eq_zero_iff.1 (by simpa using this))
 unfold nV;rw[D];simp[F]
theorem Y0 (Y:iY fmt){out:List gI}(h:∀ d∈out,d.told fmt)(hc:gB out<=64):
  (iL fmt bar out).length<=rT fmt bar/\∀ t∈iL fmt bar out,Sy fmt t=true:=by
 rcases Y with rfl | rfl | rfl
 ·have F:rT 1 bar=1:=by unfold rT;cases bar<;>rfl
  rw[F];unfold iL;rw[if_pos rfl];by_cases H:iJ bar out=[]
  ·rw[if_pos H];exact⟨by simp,by simp⟩
  rw[if_neg H];refine⟨by simp,fun t ht=>?_⟩;rw[List.mem_singleton.1 ht];refine acI (by simpa using H) ?_ ?_
  ·intro g X;obtain⟨d,D,rfl⟩:=List.mem_map.1 X;have z:=h d (kV D).1;refine⟨by simpa using z.ne,fun t ht=>?_⟩;obtain⟨a,U,rfl⟩:=List.mem_map.1 ht;exact zK (z.each a U)
  ·have:=oR bar out;have e:(((iJ bar out).map (fun d=>d.alts.map sY))).map List.length=(iJ bar out).map fun d=>d.alts.length:=by
    rw[List.map_map];exact List.map_congr_left fun d _=>by simp
   rw[e];unfold gB at *;omega
 ·have F:rT 2 bar=64:=by unfold rT;rfl
  rw[F];unfold iL;rw[if_neg (by decide),if_pos rfl];constructor
  ·rw[List.length_map];have K:=oR bar out;have Z:=qf (l:=iJ bar out) (fun d D=>(h d (kV D).1).ne);omega
  ·intro t ht;obtain⟨d,D,rfl⟩:=List.mem_map.1 ht;obtain⟨F,V⟩:=kV D;have z:=h d F;have I:=uq F;refine acJ ?_;obtain⟨db,J⟩:=d
   match J,z,I with
   | [],z,_=>exact absurd rfl z.ne
   | [g],z,_=>exact .one _ (uW (z.each g (by simp)))
   | g::g2::r,z,I=>
    have O:∀ x∈js g::js g2::r.map js,x.bare:=by
     intro x R;have M:x∈(g::g2::r).map js:=by simpa using R
     obtain⟨a,U,rfl⟩:=List.mem_map.1 M;exact uW (z.each a U)
    exact .some (js g) (js g2) (r.map js) O (by simp at I |-;omega)
 ·unfold iL;rw[if_neg (by decide),if_neg (by decide)];cases bar with
  | true=>rw[if_pos (.inl rfl)];exact⟨by simp,by simp⟩
  | false=>
   have F:rT 3 false=1:=by unfold rT;rfl
   rw[F];by_cases H:out=[]
   ·rw[if_pos (.inr H)];exact⟨by simp,by simp⟩
   rw[if_neg (by simpa using H)];refine⟨by simp,fun t ht=>?_⟩;rw[List.mem_singleton.1 ht];refine YZ (by simpa using H) ?_ ?_
   ·intro x R;obtain⟨d,D,rfl⟩:=List.mem_map.1 R;have K:=(h d D).apk rfl;unfold oz
    match he:d.alts with
    | []=>rw[he] at K;simp at K
    | [g]=>exact Fk d.bar ((h d D).each g (by rw[he];simp))
    | g::g2::r=>rw[he] at K;simp at K
   ·rw[List.length_map];have:=qf (fun d D=>(h d D).ne);omega
theorem SZ {l:List gI}(h:wQ fmt l=0):iY fmt/\ni l=0/\(∀ d∈l,um d=0/\qH fmt d=0)/\(∀ d∈l.map (kD 1 fmt),d.told fmt)/\gB (l.map (kD 1 fmt))<=64:=by
 unfold wQ at h;by_cases F:iY fmt
 rotate_left
 ·rw[if_pos F] at h;cases h
 rw[if_neg (fun O=>O F)] at h;by_cases z:ni l=0
 rotate_left
 ·rw[if_pos z] at h;exact absurd h z
 rw[if_neg (by simpa using z)] at h;have H:=z;unfold ni at z;split at z
 ·cases z
 rename_i M;have I:∀ d∈l,um d=0:=gD.1 z;have J:∀ d∈l,qH fmt d=0:=gD.1 h;refine⟨F,H,fun d D=>⟨I d D,J d D⟩,fun d D=>?_,by rw[qK];omega⟩;obtain⟨x,K,rfl⟩:=List.mem_map.1 D;exact(uY F (I x K) (J x K)).1
theorem AZ {l:List gI}{ns:List BA}(h:wQ b l=0)(z:ns.map bl=wD b bar l):lz b bar (Sy b) ns=true:=by
 obtain⟨D,_,_,I,H⟩:=SZ h;obtain⟨K,F⟩:=Y0 D (bar:=bar) I H;unfold wD at z;unfold lz;rw[Bool.and_eq_true,decide_eq_true_eq,List.all_eq_true];refine⟨by have:=congrArg List.length z;rw[List.length_map] at this;omega,fun x J=>F _ ?_⟩;rw[<-z];exact List.mem_map.2 ⟨x,J,rfl⟩
theorem Rr (D:iY b){kn:List jH}{p q:fZ}(h:QW a p)(ht:pD a b kn p)(z:BP a b kn p q):QW b q:=by
 have F:=h.isf;refine⟨D,by rw[z.nm];exact h.name,by rw[z.ver];exact AU F D ht.ver,by rw[z.ar];exact QX F D h.arch,by rw[z.sm];exact h.sum,AZ ht.deps.toZ z.needs,AZ ht.deps.toZ z.bars,by rw[z.gives];exact Nx F D h.gives ht.gives,by rw[z.files];exact NA D h.files ht.files,by rw[z.scripts];exact Hm h.scripts ht.scripts⟩
theorem aaQ {kn:List jH}{p q:fZ}(z:q.files=p.files.map (kF a b kn))(x:fW):Et q (kF a b kn x)=Et p x:=by
 unfold Et xR;rw[z,List.find?_map];have:((fun y:fW=>decide (y.path=(kF a b kn x).path)) ∘ kF a b kn)=fun y=>decide (y.path=x.path):=rfl;rw[this];cases p.files.find? (fun y=>decide (y.path=x.path)) with
 | none=>rfl
 | some y=>rfl
structure lQ (a b:Int) (kn:List jH) (l x:List fZ):Prop where
 len:x.length=l.length
 each:∀ (i:Nat)(p q:fZ),l[i]?=some p->x[i]?=some q->BP a b kn p q
theorem lQ.nil (a b:Int)(kn:List jH):lQ a b kn [] []:=⟨rfl,fun i p q h=>by simp at h⟩
theorem lQ.snoc {kn:List jH}{l x:List fZ}{p q:fZ}(h:lQ a b kn l x)(J:BP a b kn p q):lQ a b kn (l++[p]) (x++[q]):=by
 refine⟨by rw[List.length_append,List.length_append,h.len];rfl,fun i y z D F=>?_⟩;by_cases I:i<l.length
 ·rw[List.getElem?_append_left I] at D;rw[List.getElem?_append_left (by rw[h.len];exact I)] at F;exact h.each i y z D F
 ·rw[List.getElem?_append_right (by omega)] at D;rw[List.getElem?_append_right (by rw[h.len];omega),h.len] at F;have H:i-l.length=0:=by
   have:=(gS D).1;simp at this;omega
  rw[H] at D F;simp at D F;subst D;subst F;exact J
theorem lQ.cons_inv {kn:List jH}{p q:fZ}{l x:List fZ}(h:lQ a b kn (p::l) (q::x)):BP a b kn p q/\lQ a b kn l x:=
 ⟨h.each 0 p q rfl rfl,by have:=h.len;simpa using this,fun i y z D F=>h.each (i+1) y z (by simpa using D) (by simpa using F)⟩
theorem Y1 {a b:Int}{kn:List jH}:∀ {l x:List fZ},lQ a b kn l x->∀ f:fW,conf x (kF a b kn f)=conf l f
 | [],[],_,_=>rfl
 | [],q::x,h,_=>by have:=h.len;simp at this
 | p::l,[],h,_=>by have:=h.len;simp at this
 | p::l,q::x,h,f=>by
  obtain⟨D,F⟩:=h.cons_inv;have z:=Y1 F f;unfold conf at z |-;rw[List.any_cons,List.any_cons,z,aaQ D.files]
theorem lQ.last {kn:List jH}{l x:List fZ}(h:lQ a b kn l x):(x.getLast?).map fZ.nm=(l.getLast?).map fZ.nm:=by
 rw[List.getLast?_eq_getElem?,List.getLast?_eq_getElem?,h.len];cases hp:l[l.length-1]? with
 | none=>
  have:=List.getElem?_eq_none_iff.1 hp;rw[List.getElem?_eq_none (by rw[h.len];exact this)]
 | some p=>
  have D:=(gS hp).1;have z:=gG (l:=x) (i:=l.length-1) (by rw[h.len];exact D);rw[z];simp only[Option.map_some];rw[(h.each _ p _ hp z).nm]
theorem adq {kn:List jH}{l x:List fZ}{p q:fZ}(h:lQ a b kn l x)(D:BP a b kn p q):Nd x q=Nd l p:=by
 have:=h.last;unfold Nd;rw[D.nm];cases e1:x.getLast? with
 | none=>
  cases e2:l.getLast? with
  | none=>rfl
  | some y=>rw[e1,e2] at this;cases this
 | some z=>
  cases e2:l.getLast? with
  | none=>rw[e1,e2] at this;cases this
  | some y=>
   rw[e1,e2] at this;injection this with this;show decide (bl z.nm<bl p.nm)=decide (bl y.nm<bl p.nm);rw[this]
theorem Oa {ans:BA×Int}{pre:List fZ}{p:fZ}(F:∀ f∈p.files,True):(LD ans pre p).2.2=0↔ans.2=0/\Nd pre p=true/\p.files.find? (conf pre)=none:=by
 unfold LD;constructor
 ·intro h;split at h
  ·rename_i z;exact absurd h z
  ·rename_i z;split at h
   ·cases h
   ·rename_i D;refine⟨by simpa using z,by simpa using D,?_⟩;split at h
    ·cases h
    ·assumption
 ·rintro⟨z,D,h2⟩;rw[if_neg (by simpa using z),if_neg (by rw[D];simp),h2]
theorem Ob {a b:Int}(I:iY b){kn:List jH}:∀ (l x pre z:List fZ),lQ a b kn pre z->lQ a b kn l x->(∀ p∈l,pD a b kn p)->(zm (lA a) pre l).2.2=0->zm (lA b) z x=(⟨#[]⟩,⟨#[]⟩,0)/\∀ p∈l,QW a p
 | [],[],_,_,_,_,_,_=>⟨rfl,by simp⟩
 | [],q::x,_,_,_,h,_,_=>by have:=h.len;simp at this
 | p::l,[],_,_,_,h,_,_=>by have:=h.len;simp at this
 | p::l,q::x,pre,z,hp,h,ht,hz=>by
  obtain⟨F,R⟩:=h.cons_inv;unfold zm at hz |-;split at hz
  rotate_left
  ·rename_i Y;exact absurd hz Y
  rename_i V;obtain⟨K,O,X⟩:=(Oa (fun _ _=>trivial)).1 V;have H:QW a p:=xZ.1 K;have U:(LD (lA b q) z q).2.2=0:=by
   refine(Oa (fun _ _=>trivial)).2 ⟨xZ.2 (Rr I H (ht p (by simp)) F),by rw[adq hp F];exact O,?_⟩;rw[F.files,List.find?_map];have:(conf z ∘ kF a b kn)=conf pre:=funext fun f=>Y1 hp f;rw[this,X];rfl
  rw[if_pos U];obtain⟨J,M⟩:=Ob I l x (pre++[p]) (z++[q]) (hp.snoc F) R (fun y D=>ht y (List.mem_cons_of_mem _ D)) hz;refine⟨J,fun y D=>?_⟩;rcases List.mem_cons.1 D with rfl | D
  ·exact H
  ·exact M y D
theorem V8 (F:iY b){kn:List jH}{l x:List fZ}(h:lQ a b kn l x)(ht:∀ p∈l,pD a b kn p)(z:(BN (lA a) (nO a) l).2.2=0):
  BN (lA b) (nO b) x=(⟨#[]⟩,⟨#[]⟩,0)/\∀ p∈l,QW a p:=by
 have H:nO b=true:=dT F;unfold BN at z |-;split at z
 ·cases z
 ·split at z
  ·cases z
  ·rename_i D;rw[H,if_neg (by simp),if_neg (by rw[h.len];exact D)];exact Ob F l x [] [] (.nil a b kn) h ht z
structure CvI (T:Nat->Prop) (w:World) (kb mb:Nat) (a b:Int) (ms:List oq) (v:Value) (R:List iA) (q:fZ):Prop where
 lt:kb<w.heap.size
 ml:mb<kb
 tl:∀ g,T g->g<w.heap.size
 tk:T kb
 tv:∀ g,v.ownBlock=some g->T g
 tg:∀ g,(q.sl 2).ownBlock=some g->T g
 tf:∀ g,(q.sl 3).ownBlock=some g->T g
 kv:fV w kb (WT a b (.map (some mb)) v)
 rf:w.ownsRow (kb+1) 49 3 v R.length (R.flatMap iA.cells)
 mp:ki w mb ms
 own:lS q w (kb+1)
structure fZ.able (p:fZ):Prop where
 small:p.small
 needs:p.needs.length<=1000
 bars:p.bars.length<=1000
 gives:p.gives.length<=1000
 files:p.files.length<=512
theorem jK.noV {ms:List oq}{R:List iA}{q:fZ}(h:jK T w wr kb mb a b ms v R q):v.ownBlock≠some w.heap.size/\v.ownBlock≠some (w.heap.size+1):=by
 constructor
 ·intro e;rcases h.tv _ e with z | z
  ·have:=h.tl _ z;omega
  ·omega
 ·intro e;rcases h.tv _ e with z | z
  ·have:=h.tl _ z;omega
  ·omega
theorem oU {ms:List oq}{R:List iA}{q:fZ}(h:jK T w wr kb mb a b ms v R q)(I:R.length<=1000000)(nm z:BA)(D:Int)(J:q.nm=nm):Calls prog 46 #[.string z,.int .i64 D,.pointer (some ⟨w.heap.size,0,none⟩),.pointer (some ⟨w.heap.size+1,0,none⟩)] wr fun e w'=>e=.returned (.tuple #[])/\∃ v',jK T w w' kb mb a b ms v' (R++[⟨nm,z,D⟩]) q:=
 (FJ a b (.map (some mb)) v kb w.heap.size R nm z D _ wr h.kv h.rf I h.box (by have:=h.pk;unfold fZ.cells at this;rw[J] at this;exact this) h.noV.1 h.noV.2).mono fun _ _ ⟨H,F⟩=>⟨H,h.ref F⟩
theorem jK.base {ms:List oq}{R:List iA}{q:fZ}(h:jK T w wr kb mb a b ms v R q)(z:Bw w0 w)(ht:∀ g,T g->w0.heap.size<=g):Bw w0 wr:=
 ⟨h.kp.os.trans z.os,h.kp.tape.trans z.tape,h.kp.output.trans z.output,Nat.le_trans z.size h.kp.size,fun k D=>(h.kp.block k (Nat.lt_of_lt_of_le D z.size) (fun e=>by have:=ht k e;omega)).trans (z.block k D)⟩
theorem Zo (w:World):Bw w w.drew:=⟨rfl,rfl,rfl,lr,fun _ _=>rfl⟩
def uC:List Nat->Code->Code
 | [],c=>c
 | 0::r,.seq x _=>uC r x
 | 1::r,.seq _ y=>uC r y
 | 2::r,.block _ x=>uC r x
 | 2::r,.loop x=>uC r x
 | 2::r,.scope x=>uC r x
 | 3::r,.cond _ x _=>uC r x
 | 4::r,.cond _ _ y=>uC r y
 | _,_=>.skip
noncomputable def cd (p:List Nat):Code:=uC p (Tryz.f26.body.getD .skip)
def FR (f:Nat->Value):Array Value:=#[f 0,f 1,f 2,f 3,f 4,f 5,f 6,f 7,f 8,f 9,f 10,f 11,f 12,f 13,f 14,f 15,f 16,f 17,f 18,f 19,f 20,f 21,f 22,f 23,f 24,f 25,f 26,f 27,f 28,f 29,f 30,f 31,f 32,f 33,f 34,f 35,f 36,f 37,f 38,f 39,f 40,f 41,f 42,f 43,f 44,f 45,f 46,f 47,f 48,f 49,f 50,f 51,f 52,f 53,f 54,f 55,f 56,f 57,f 58,f 59,f 60,f 61,f 62,f 63,f 64,f 65,f 66,f 67,f 68,f 69,f 70,f 71,f 72,f 73,f 74,f 75,f 76,f 77,f 78,f 79,f 80,f 81,f 82,f 83,f 84,f 85,f 86,f 87,f 88,f 89,f 90,f 91,f 92,f 93,f 94,f 95,f 96,f 97,f 98,f 99,f 100,f 101,f 102,f 103,f 104,f 105,f 106,f 107,f 108,f 109,f 110,f 111,f 112,f 113,f 114,f 115,f 116,f 117,f 118,f 119,f 120,f 121,f 122,f 123,f 124,f 125,f 126,f 127,f 128,f 129,f 130,f 131,f 132,f 133,f 134,f 135,f 136,f 137,f 138,f 139,f 140,f 141,f 142,f 143,f 144,f 145,f 146,f 147,f 148,f 149,f 150,f 151,f 152,f 153,f 154,f 155,f 156,f 157,f 158,f 159,f 160,f 161,f 162,f 163,f 164,f 165,f 166,f 167,f 168,f 169,f 170,f 171,f 172,f 173,f 174,f 175,f 176,f 177,f 178,f 179,f 180,f 181,f 182,f 183,f 184,f 185,f 186,f 187,f 188,f 189,f 190,f 191,f 192,f 193,f 194,f 195,f 196,f 197,f 198,f 199,f 200,f 201,f 202,f 203,f 204,f 205,f 206,f 207,f 208,f 209,f 210,f 211,f 212,f 213,f 214,f 215,f 216,f 217,f 218,f 219,f 220,f 221,f 222,f 223]
theorem acO (f:Nat->Value):FR f=((List.range 224).map f).toArray:=rfl
theorem jZ {e:Exit}{a:Array Value}(h:Q e ⟨FR fun k=>a.getD k undef,[]⟩ W)(D:a.size=224:=by rfl):Q e ⟨a,[]⟩ W:=by
 have k:(FR fun k=>a.getD k undef)=a:=by
  rw[acO];apply Array.ext
  ·simp[D]
  ·intro i F z;simp[Array.getD,z]
 rw[k] at h;exact h
theorem ads {P:Program}{c:Code}{a:Array Value}(h:Code.wp P c Q ⟨FR fun k=>a.getD k undef,[]⟩ W)(z:a.size=224:=by rfl):Code.wp P c Q ⟨a,[]⟩ W:=
 jZ (Q:=fun _ x w=>Code.wp P c Q x w) (e:=.normal) h z
def FX (w:World)(f:Nat->Value):Prop:=
 f 2=.pointer (some ⟨w.heap.size,0,none⟩)/\f 3=.pointer (some ⟨w.heap.size+1,0,none⟩)/\f 4=.pointer (some ⟨w.heap.size+2,0,none⟩)/\f 5=.func (Fn.func 46) #[] #[.pointer (some ⟨w.heap.size,0,none⟩),.pointer (some ⟨w.heap.size+1,0,none⟩)]
theorem acP {ms:List oq}{R:List iA}{q:fZ}(F:FX w f)(U:iY b)(Y:q.scripts.length<=1000000)(hR:R.length<=1000000)(hB:jK T w W kb mb a b ms v R q)
  (hQ:∀ (g:Nat->Value)(wx:World),FX w g->(∃ v1 bs,jK T w wx kb mb a b ms v1 (R++bs) q/\(bs=[]↔∀ s∈q.scripts,zk b s.phase=true)/\bs.length<=1)->Q .normal ⟨FR g,[]⟩ wx):
  Code.wp prog (cd [1,1,1,1,1,1,1,1,1,1,1,1,0]) Q ⟨FR f,[]⟩ W:=by
 have HQ:=fH hQ;clear hQ;have D:=fH hB;have HS:=fH Y;have V:=fH hR;have aa:=fH U;obtain⟨X,K⟩:∃ X,W=X:=⟨_,rfl⟩
 rw[K] at D |-;have HC:=fH (uB 54 (.pointer (some ⟨w.heap.size,0,none⟩)) (fun x=>!zk b x.phase) q.sa q.sc q.scripts X (gR D.own.scripts) Y (Tryz.call54) (fH fun x _ W' M=>BT a b U (.map (some mb)) v kb w.heap.size x W' (D.kv.below M) (D.box.below M)));clear hB Y hR U K;obtain⟨F2,F3,F4,F5⟩:=F;unfold FR;rw[F2,F3,F4,F5];clear F2 F3 F4 F5
 conv=>arg 2;whnf
 have p8:=D.pk.cell 8 _ rfl;obtain⟨O,z⟩:∃ O,q.scripts.any (fun x=>!zk b x.phase)=O:=⟨_,rfl⟩
 have I:Hid (O=false↔∀ s∈q.scripts,zk b s.phase=true):=by show _↔_;rw[<-z,List.any_eq_false];simp
 rw[z] at HC;clear z;go_wp2_with fail;refine HC.mono ?_;rintro e w9 ⟨rfl,J⟩;have B9:=fH (D.step J);clear J p8;cases O
 ·go_wp2_with fail;refine jZ ?_;exact HQ.out _ _ ⟨rfl,rfl,rfl,rfl⟩ ⟨v,[],by rw[List.append_nil];exact B9.out,⟨fun _=>I.1 (by simp),fun _=>rfl⟩,by simp⟩
 ·go_wp2_with fail;refine(oU B9 V q.nm ⟨#[115,99,114,105,112,116,115]⟩ 11 rfl).mono ?_;rintro e ab ⟨rfl,v8,H⟩;have Z:=fH H;clear H;go_wp2_with fail;refine jZ ?_;exact HQ.out _ _ ⟨rfl,rfl,rfl,rfl⟩ ⟨v8,_,Z,⟨fun e=>by simp at e,fun e=>absurd (I.2 e) (by simp)⟩,by simp⟩
theorem Zs {ms:List oq}{R:List iA}{q:fZ}{fb:Nat}{f:fW}{sm:BA}{kn:List jH}{ar ba bc:Value}(hb:iY b)(ho:f.owner.size<=9223372036854775807)(hg:f.group.size<=9223372036854775807)(ft:sm=mZ a b kn f)(hF:fV W fb f.cells)(hB:jK T w W kb mb a b ms v R q)
  (hQ:∀ (eo ep eq er es et eu ev ew ex ey ez eA eB eC eD eE eF eG eH eI eJ eK eL eM eN eO eP eQ eR eS eT eU eV eW eX eY bN:Value)(wx:World),(∃ bad:Bool,bN=.bool bad/\(bad=false↔oo a b kn f)/\jK T w wx kb mb a b ms v R q/\fV wx fb f.cells)->Q .normal ⟨#[c0,c1,.pointer (some ⟨w.heap.size,0,none⟩),.pointer (some ⟨w.heap.size+1,0,none⟩),c4,.func (Fn.func 46) #[] #[.pointer (some ⟨w.heap.size,0,none⟩),.pointer (some ⟨w.heap.size+1,0,none⟩)],c6,c7,c8,c9,bO,bP,bQ,bR,bS,bT,bU,bV,.pointer (some ⟨fb,0,none⟩),.string sm,bW,bX,bY,bZ,ca,cb,cc,ce,cg,ch,ci,cj,ck,cl,cm,cn,co,cp,cq,cr,cs,ct,cu,cv,cw,cx,cy,cz,cA,cB,cC,cD,cE,cF,cG,cH,cJ,cK,cL,cM,cN,cO,cP,cQ,cR,cS,cT,cU,cV,cW,cX,cY,cZ,da,db,dc,dd,de,df,dg,dh,di,dj,dk,dl,dm,dn,dp,dq,dr,ds,dt,du,dv,dw,dx,dy,dz,dA,dB,aa,ab,ac,ad,ae,af,ag,ah,ai,aj,ak,al,am,an,ao,ap,aq,ar,au,av,ax,ay,az,aA,aB,aC,aD,aE,aF,aG,aH,aI,aJ,aK,aL,aM,aN,aO,aP,aQ,aR,aS,aT,aU,aV,aW,aX,aY,aZ,ba,bb,bc,bd,be,bf,bg,bh,bi,bj,bk,bm,bn,bo,bp,bq,br,bs,bt,eo,ep,eq,er,es,et,eu,ev,ew,ex,ey,ez,eA,eB,eC,eD,eE,eF,eG,eH,eI,eJ,eK,eL,eM,eN,eO,eP,eQ,eR,eS,eT,eU,eV,eW,eX,eY,bN,bu,bv,bw,bx,bz,bA,bB,bC,bD,bE,bF,bG,bH,bI,bJ,bK,bL,bM],[]⟩ wx):
  Code.wp prog (cd [1,1,1,1,1,1,1,1,1,1,1,0,1,2,2,1,1,0,2,1,1,0,0]) Q ⟨#[c0,c1,.pointer (some ⟨w.heap.size,0,none⟩),.pointer (some ⟨w.heap.size+1,0,none⟩),c4,.func (Fn.func 46) #[] #[.pointer (some ⟨w.heap.size,0,none⟩),.pointer (some ⟨w.heap.size+1,0,none⟩)],c6,c7,c8,c9,bO,bP,bQ,bR,bS,bT,bU,bV,.pointer (some ⟨fb,0,none⟩),.string sm,bW,bX,bY,bZ,ca,cb,cc,ce,cg,ch,ci,cj,ck,cl,cm,cn,co,cp,cq,cr,cs,ct,cu,cv,cw,cx,cy,cz,cA,cB,cC,cD,cE,cF,cG,cH,cJ,cK,cL,cM,cN,cO,cP,cQ,cR,cS,cT,cU,cV,cW,cX,cY,cZ,da,db,dc,dd,de,df,dg,dh,di,dj,dk,dl,dm,dn,dp,dq,dr,ds,dt,du,dv,dw,dx,dy,dz,dA,dB,aa,ab,ac,ad,ae,af,ag,ah,ai,aj,ak,al,am,an,ao,ap,aq,ar,au,av,ax,ay,az,aA,aB,aC,aD,aE,aF,aG,aH,aI,aJ,aK,aL,aM,aN,aO,aP,aQ,aR,aS,aT,aU,aV,aW,aX,aY,aZ,ba,bb,bc,bd,be,bf,bg,bh,bi,bj,bk,bm,bn,bo,bp,bq,br,bs,bt,dC,dD,dE,dF,dG,dH,dI,dJ,dK,dL,dM,dN,dO,dP,dQ,dR,dS,dT,dU,dV,dW,dX,dY,dZ,ea,eb,ec,ed,ee,ef,eg,eh,ei,ej,ek,el,em,en,bu,bv,bw,bx,bz,bA,bB,bC,bD,bE,bF,bG,bH,bI,bJ,bK,bL,bM],[]⟩ W:=by
 have HQ:=fH hQ;clear hQ;have B1:=fH hB;have F1:=fH hF;have fG:=fH hb;obtain⟨W1,fw⟩:∃ W1,W=W1:=⟨_,rfl⟩
 rw[fw] at B1 F1 |-;obtain⟨o1,fp⟩:∃ o,lU b f.owner=o:=⟨_,rfl⟩
 obtain⟨o2,fm⟩:∃ o,lU b f.group=o:=⟨_,rfl⟩
 have O1:=fH fun W=>(qN b f.owner W ho).mono fun (e:Ending) (w':World) (h:e=.returned (.bool (lU b f.owner))/\W=w')=>(⟨by rw[h.1,fp],h.2.symm⟩:e=.returned (.bool o1)/\w'=W)
 have O2:=fH fun W=>(qN b f.group W hg).mono fun (e:Ending) (w':World) (h:e=.returned (.bool (lU b f.group))/\W=w')=>(⟨by rw[h.1,fm],h.2.symm⟩:e=.returned (.bool o2)/\w'=W)
 obtain⟨cf,fl⟩:∃ c,f.conf=c:=⟨_,rfl⟩
 obtain⟨t3,fF⟩:∃ t,(b==3)=t:=⟨_,rfl⟩
 obtain⟨t1,fC⟩:∃ t,(f.kind==1)=t:=⟨_,rfl⟩
 obtain⟨ts,fE⟩:∃ t,sm.toList.isEmpty=t:=⟨_,rfl⟩
 have HP:Hid (oo a b kn f↔o1=true/\o2=true/\¬ (cf=true/\t3=true)/\(t1=true->ts=false)):=by
  show _↔_;unfold oo;rw[fp,fm,fl,<-fF,<-fC,<-fE,ft];simp only[beq_iff_eq];have e:((mZ a b kn f).size≠0)↔(mZ a b kn f).toList.isEmpty=false:=by
   rw[fK,gu];simp
  rw[e]
 have k0:=B1.box.cell 0 _ rfl;have k1:=B1.kv.cell 1 _ rfl;have f1:=F1.cell 1 _ rfl;have f3:=F1.cell 3 _ rfl;have f4:=F1.cell 4 _ rfl;have f7:=F1.cell 7 _ rfl;rw[fl] at f7;clear hB hF hb fw ho hg fp fm fl ft;refine wp_mono (Q:=Exit.then (fun a w=>Q .normal a w) fun _ _ _=>False) ?_ (fun e a w h=>by cases e<;>first | exact h | exact h.elim)
 conv=>arg 2;whnf
 refine adE fun O H=>?_;have p0:=jB (k:=0) H rfl;have p1:=jB (k:=1) H rfl;have p2:=jB (k:=2) H rfl;have p3:=jB (k:=3) H rfl;have p4:=jB (k:=4) H rfl;have p5:=jB (k:=5) H rfl;have p6:=jB (k:=6) H rfl;have p7:=jB (k:=7) H rfl;have X:=jB (k:=8) H rfl;have p9:=jB (k:=9) H rfl;have fs:=jB (k:=10) H rfl;have fz:=jB (k:=11) H rfl;have fy:=jB (k:=12) H rfl;have fu:=jB (k:=13) H rfl;have fv:=jB (k:=14) H rfl;have fr:=jB (k:=15) H rfl;have fx:=jB (k:=16) H rfl;have fq:=jB (k:=17) H rfl;have J:=jB (k:=18) H rfl;have fk:=jB (k:=19) H rfl;have fn:=jB (k:=20) H rfl;have F:=jB (k:=21) H rfl;have ff:=jB (k:=22) H rfl;have fj:=jB (k:=23) H rfl;have fg:=jB (k:=24) H rfl;have fh:=jB (k:=25) H rfl;have fi:=jB (k:=26) H rfl;have fe:=jB (k:=27) H rfl;have eZ:=jB (k:=28) H rfl;have D:=jB (k:=29) H rfl;have fc:=jB (k:=30) H rfl;have fd:=jB (k:=31) H rfl;have fa:=jB (k:=32) H rfl;have I:=jB (k:=33) H rfl;have Z:=jB (k:=34) H rfl;have Y:=jB (k:=35) H rfl;have V:=jB (k:=36) H rfl;have U:=jB (k:=37) H rfl;have ok:∀ k,k<38->Rz O k=true:=by
  have h:(List.range 38).all (Rz O)=true:=by rw[H];kernel_rfl
  intro k hk;exact List.all_eq_true.1 h k (List.mem_range.2 hk)
 have z:Region.noSelect O=true:=by rw[H];kernel_rfl
 have r6:Region.ready .any O (CE O.size 6)=[6]:=by rw[H];kernel_rfl
 have fB:Region.ready .any O (CE O.size 15)=[15]:=by rw[H];kernel_rfl
 have M:Region.ready .any O (CE O.size 38)=[]:=by rw[H];kernel_rfl
 have fA:O.size=38:=by rw[H];rfl
 clear H;refine acQ (S:=fun w'=>w'.cell? ⟨w.heap.size,0,none⟩=some (.pointer (some ⟨kb,0,none⟩))/\w'.cell? ⟨kb,1,none⟩=some (.int .i64 b)/\w'.cell? ⟨fb,1,none⟩=some (.int .i64 f.kind)/\w'.cell? ⟨fb,3,none⟩=some (.string f.owner)/\w'.cell? ⟨fb,4,none⟩=some (.string f.group)/\w'.cell? ⟨fb,7,none⟩=some (.bool cf)) (by kernel_rfl) ?_ (fun fD=>?_)
 ·exact⟨k0,k1,f1,f3,f4,f7⟩
 rw[show wpAnyH _ _ O _ _ O.size=wpAnyH _ _ O _ _ 38 by rw[fA]];refine' ja ok z p0 ?_
 (try simp only[sA,sB,sC])
 refine' ja ok z p1 ?_
 (try simp only[sA,sB,sC])
 refine' ja ok z p2 ?_
 (try simp only[sA,sB,sC])
 refine' ja ok z p3 ?_
 (try simp only[sA,sB,sC])
 refine' ja ok z p4 ?_
 (try simp only[sA,sB,sC])
 refine' ja ok z p5 ?_
 (try simp only[sA,sB,sC])
 refine' abV (k:=6) (j:=174) (v:=.bool o1) r6 p6 rfl (by unfold Region.wanted;rfl) (by assumption) ?hy7 ?rr7
 case hy7=>
  intro K hK;go_simp;refine(O1 _).mono ?_;rintro _ w2 ⟨rfl,rfl⟩
  (try go_simp)
  exact hK
 (try simp only[sA,sB,sC])
 refine' ja ok z p7 ?_
 (try simp only[sA,sB,sC])
 refine' ja ok z X ?_
 (try simp only[sA,sB,sC])
 cases o1
 ·skip
  refine' gV ok z p9 X ?_
  (try simp only[sA,sB,sC])
  refine' gV ok z fs X ?_
  (try simp only[sA,sB,sC])
  refine' gV ok z fz X ?_
  (try simp only[sA,sB,sC])
  refine' gV ok z fy X ?_
  (try simp only[sA,sB,sC])
  refine' gV ok z fu X ?_
  (try simp only[sA,sB,sC])
  refine' gV ok z fv X ?_
  (try simp only[sA,sB,sC])
  refine' gV ok z fr X ?_
  (try simp only[sA,sB,sC])
  refine' gV ok z fx X ?_
  (try simp only[sA,sB,sC])
  refine' ja ok z fq ?_
  (try simp only[sA,sB,sC])
  refine' ja ok z J ?_
  (try simp only[sA,sB,sC])
  refine' gV ok z fk J ?_
  (try simp only[sA,sB,sC])
  refine' gV ok z fn J ?_
  (try simp only[sA,sB,sC])
  refine' gV ok z F J ?_
  (try simp only[sA,sB,sC])
  refine' gV ok z ff F ?_
  (try simp only[sA,sB,sC])
  refine' gV ok z fj F ?_
  (try simp only[sA,sB,sC])
  refine' gV ok z fg F ?_
  (try simp only[sA,sB,sC])
  refine' gV ok z fh F ?_
  (try simp only[sA,sB,sC])
  refine' gV ok z fi F ?_
  (try simp only[sA,sB,sC])
  refine' gV ok z fe J ?_
  (try simp only[sA,sB,sC])
  refine' ja ok z eZ ?_
  (try simp only[sA,sB,sC])
  refine' ja ok z D ?_
  (try simp only[sA,sB,sC])
  refine' gV ok z fc D ?_
  (try simp only[sA,sB,sC])
  refine' gV ok z fd D ?_
  (try simp only[sA,sB,sC])
  refine' gV ok z fa D ?_
  (try simp only[sA,sB,sC])
  refine' gV ok z I D ?_
  (try simp only[sA,sB,sC])
  refine' gV ok z Z I ?_
  (try simp only[sA,sB,sC])
  refine' gV ok z Y I ?_
  (try simp only[sA,sB,sC])
  refine' gV ok z V D ?_
  (try simp only[sA,sB,sC])
  refine' ja ok z U ?_
  (try simp only[sA,sB,sC])
  refine yD M ?_;exact HQ.out _ _ _ _ _ _ _ _ _ _ _ _ _ _ _ _ _ _ _ _ _ _ _ _ _ _ _ _ _ _ _ _ _ _ _ _ _ _ _ ⟨true,rfl,by rw[HP.out];simp,B1.drew,F1.drew⟩
 ·skip
  refine' iN ok z p9 X ?_
  (try simp only[sA,sB,sC])
  refine' iN ok z fs X ?_
  (try simp only[sA,sB,sC])
  refine' iN ok z fz X ?_
  (try simp only[sA,sB,sC])
  refine' iN ok z fy X ?_
  (try simp only[sA,sB,sC])
  refine' iN ok z fu X ?_
  (try simp only[sA,sB,sC])
  refine' iN ok z fv X ?_
  (try simp only[sA,sB,sC])
  refine' abV (k:=15) (j:=183) (v:=.bool o2) fB fr rfl (by rw[Ac rfl X rfl];kernel_rfl) (by assumption) ?hy45 ?rr45
  case hy45=>
   intro K hK;go_simp;refine(O2 _).mono ?_;rintro _ w2 ⟨rfl,rfl⟩
   (try go_simp)
   exact hK
  (try simp only[sA,sB,sC])
  refine' iN ok z fx X ?_
  (try simp only[sA,sB,sC])
  cases o2
  ·skip
   refine' ja ok z fq ?_
   (try simp only[sA,sB,sC])
   refine' ja ok z J ?_
   (try simp only[sA,sB,sC])
   refine' gV ok z fk J ?_
   (try simp only[sA,sB,sC])
   refine' gV ok z fn J ?_
   (try simp only[sA,sB,sC])
   refine' gV ok z F J ?_
   (try simp only[sA,sB,sC])
   refine' gV ok z ff F ?_
   (try simp only[sA,sB,sC])
   refine' gV ok z fj F ?_
   (try simp only[sA,sB,sC])
   refine' gV ok z fg F ?_
   (try simp only[sA,sB,sC])
   refine' gV ok z fh F ?_
   (try simp only[sA,sB,sC])
   refine' gV ok z fi F ?_
   (try simp only[sA,sB,sC])
   refine' gV ok z fe J ?_
   (try simp only[sA,sB,sC])
   refine' ja ok z eZ ?_
   (try simp only[sA,sB,sC])
   refine' ja ok z D ?_
   (try simp only[sA,sB,sC])
   refine' gV ok z fc D ?_
   (try simp only[sA,sB,sC])
   refine' gV ok z fd D ?_
   (try simp only[sA,sB,sC])
   refine' gV ok z fa D ?_
   (try simp only[sA,sB,sC])
   refine' gV ok z I D ?_
   (try simp only[sA,sB,sC])
   refine' gV ok z Z I ?_
   (try simp only[sA,sB,sC])
   refine' gV ok z Y I ?_
   (try simp only[sA,sB,sC])
   refine' gV ok z V D ?_
   (try simp only[sA,sB,sC])
   refine' ja ok z U ?_
   (try simp only[sA,sB,sC])
   refine yD M ?_;exact HQ.out _ _ _ _ _ _ _ _ _ _ _ _ _ _ _ _ _ _ _ _ _ _ _ _ _ _ _ _ _ _ _ _ _ _ _ _ _ _ _ ⟨true,rfl,by rw[HP.out];simp,B1.drew,F1.drew⟩
  ·skip
   refine' ja ok z fq ?_
   (try simp only[sA,sB,sC])
   refine' ja ok z J ?_
   (try simp only[sA,sB,sC])
   refine' iN ok z fk J ?_
   (try simp only[sA,sB,sC])
   refine' iN ok z fn J ?_
   (try simp only[sA,sB,sC])
   refine' iN ok z F J ?_
   (try simp only[sA,sB,sC])
   cases cf
   ·skip
    refine' gV ok z ff F ?_
    (try simp only[sA,sB,sC])
    refine' gV ok z fj F ?_
    (try simp only[sA,sB,sC])
    refine' gV ok z fg F ?_
    (try simp only[sA,sB,sC])
    refine' gV ok z fh F ?_
    (try simp only[sA,sB,sC])
    refine' gV ok z fi F ?_
    (try simp only[sA,sB,sC])
    refine' iN ok z fe J ?_
    (try simp only[sA,sB,sC])
    refine' ja ok z eZ ?_
    (try simp only[sA,sB,sC])
    refine' ja ok z D ?_
    (try simp only[sA,sB,sC])
    refine' iN ok z fc D ?_
    (try simp only[sA,sB,sC])
    refine' iN ok z fd D ?_
    (try simp only[sA,sB,sC])
    refine' iN ok z fa D ?_
    (try simp only[sA,sB,sC])
    refine' iN ok z I D ?_
    (try simp only[sA,sB,sC])
    cases t1
    ·skip
     refine' gV ok z Z I ?_
     (try simp only[sA,sB,sC])
     refine' gV ok z Y I ?_
     (try simp only[sA,sB,sC])
     refine' iN ok z V D ?_
     (try simp only[sA,sB,sC])
     refine' ja ok z U ?_
     (try simp only[sA,sB,sC])
     refine yD M ?_;exact HQ.out _ _ _ _ _ _ _ _ _ _ _ _ _ _ _ _ _ _ _ _ _ _ _ _ _ _ _ _ _ _ _ _ _ _ _ _ _ _ _ ⟨false,rfl,by rw[HP.out];simp,B1.drew,F1.drew⟩
    ·skip
     refine' iN ok z Z I ?_
     (try simp only[sA,sB,sC])
     refine' iN ok z Y I ?_
     (try simp only[sA,sB,sC])
     cases ts
     ·skip
      refine' iN ok z V D ?_
      (try simp only[sA,sB,sC])
      refine' ja ok z U ?_
      (try simp only[sA,sB,sC])
      refine yD M ?_;exact HQ.out _ _ _ _ _ _ _ _ _ _ _ _ _ _ _ _ _ _ _ _ _ _ _ _ _ _ _ _ _ _ _ _ _ _ _ _ _ _ _ ⟨false,rfl,by rw[HP.out];simp,B1.drew,F1.drew⟩
     ·skip
      refine' iN ok z V D ?_
      (try simp only[sA,sB,sC])
      refine' ja ok z U ?_
      (try simp only[sA,sB,sC])
      refine yD M ?_;exact HQ.out _ _ _ _ _ _ _ _ _ _ _ _ _ _ _ _ _ _ _ _ _ _ _ _ _ _ _ _ _ _ _ _ _ _ _ _ _ _ _ ⟨true,rfl,by rw[HP.out];simp,B1.drew,F1.drew⟩
   ·skip
    refine' iN ok z ff F ?_
    (try simp only[sA,sB,sC])
    refine' iN ok z fj F ?_
    (try simp only[sA,sB,sC])
    refine' iN ok z fg F ?_
    (try simp only[sA,sB,sC])
    refine' iN ok z fh F ?_
    (try simp only[sA,sB,sC])
    refine' iN ok z fi F ?_
    (try simp only[sA,sB,sC])
    cases t3
    ·skip
     refine' iN ok z fe J ?_
     (try simp only[sA,sB,sC])
     refine' ja ok z eZ ?_
     (try simp only[sA,sB,sC])
     refine' ja ok z D ?_
     (try simp only[sA,sB,sC])
     refine' iN ok z fc D ?_
     (try simp only[sA,sB,sC])
     refine' iN ok z fd D ?_
     (try simp only[sA,sB,sC])
     refine' iN ok z fa D ?_
     (try simp only[sA,sB,sC])
     refine' iN ok z I D ?_
     (try simp only[sA,sB,sC])
     cases t1
     ·skip
      refine' gV ok z Z I ?_
      (try simp only[sA,sB,sC])
      refine' gV ok z Y I ?_
      (try simp only[sA,sB,sC])
      refine' iN ok z V D ?_
      (try simp only[sA,sB,sC])
      refine' ja ok z U ?_
      (try simp only[sA,sB,sC])
      refine yD M ?_;exact HQ.out _ _ _ _ _ _ _ _ _ _ _ _ _ _ _ _ _ _ _ _ _ _ _ _ _ _ _ _ _ _ _ _ _ _ _ _ _ _ _ ⟨false,rfl,by rw[HP.out];simp,B1.drew,F1.drew⟩
     ·skip
      refine' iN ok z Z I ?_
      (try simp only[sA,sB,sC])
      refine' iN ok z Y I ?_
      (try simp only[sA,sB,sC])
      cases ts
      ·skip
       refine' iN ok z V D ?_
       (try simp only[sA,sB,sC])
       refine' ja ok z U ?_
       (try simp only[sA,sB,sC])
       refine yD M ?_;exact HQ.out _ _ _ _ _ _ _ _ _ _ _ _ _ _ _ _ _ _ _ _ _ _ _ _ _ _ _ _ _ _ _ _ _ _ _ _ _ _ _ ⟨false,rfl,by rw[HP.out];simp,B1.drew,F1.drew⟩
      ·skip
       refine' iN ok z V D ?_
       (try simp only[sA,sB,sC])
       refine' ja ok z U ?_
       (try simp only[sA,sB,sC])
       refine yD M ?_;exact HQ.out _ _ _ _ _ _ _ _ _ _ _ _ _ _ _ _ _ _ _ _ _ _ _ _ _ _ _ _ _ _ _ _ _ _ _ _ _ _ _ ⟨true,rfl,by rw[HP.out];simp,B1.drew,F1.drew⟩
    ·skip
     refine' iN ok z fe J ?_
     (try simp only[sA,sB,sC])
     refine' ja ok z eZ ?_
     (try simp only[sA,sB,sC])
     refine' ja ok z D ?_
     (try simp only[sA,sB,sC])
     refine' gV ok z fc D ?_
     (try simp only[sA,sB,sC])
     refine' gV ok z fd D ?_
     (try simp only[sA,sB,sC])
     refine' gV ok z fa D ?_
     (try simp only[sA,sB,sC])
     refine' gV ok z I D ?_
     (try simp only[sA,sB,sC])
     refine' gV ok z Z I ?_
     (try simp only[sA,sB,sC])
     refine' gV ok z Y I ?_
     (try simp only[sA,sB,sC])
     refine' gV ok z V D ?_
     (try simp only[sA,sB,sC])
     refine' ja ok z U ?_
     (try simp only[sA,sB,sC])
     refine yD M ?_;exact HQ.out _ _ _ _ _ _ _ _ _ _ _ _ _ _ _ _ _ _ _ _ _ _ _ _ _ _ _ _ _ _ _ _ _ _ _ _ _ _ _ ⟨true,rfl,by rw[HP.out];simp,B1.drew,F1.drew⟩
def lE (a b:Int)(kn:List jH)(l:List fW)(k:Nat):List fW:=(l.take k).map (kF a b kn)++l.drop k
theorem Wq {kn:List jH}{l:List fW}{x:fW}(z:l[k]?=some x):(lE a b kn l k)[k]?=some x:=by
 unfold lE;have D:=(gS z).1;rw[List.getElem?_append_right (by rw[List.length_map,List.length_take];omega),List.length_map,List.length_take,List.getElem?_drop,show k+(k-min k l.length)=k by omega];exact z
theorem RG (a b:Int)(kn:List jH)(l:List fW)(z:k<=l.length):(lE a b kn l k).length=l.length:=by
 unfold lE;rw[List.length_append,List.length_map,List.length_take,List.length_drop];omega
theorem Ou {kn:List jH}{l:List fW}{x:fW}(z:l[k]?=some x):(lE a b kn l k).set k (kF a b kn x)=lE a b kn l (k+1):=by
 unfold lE;have F:=(gS z).1;have D:l.drop k=x::l.drop (k+1):=by rw[List.drop_eq_getElem_cons F];congr 1;exact(gS z).2
 rw[List.set_append_right _ _ (by rw[List.length_map,List.length_take];omega),List.length_map,List.length_take,show k-min k l.length=0 by omega,D,List.set_cons_zero,gC z,List.map_append,List.append_assoc];rfl
theorem RH (a b:Int)(kn:List jH)(l:List fW):lE a b kn l l.length=l.map (kF a b kn):=by unfold lE;simp
theorem Be (a b:Int)(kn:List jH)(l:List fW):lE a b kn l 0=l:=by unfold lE;simp
def fZ.setFiles (p:fZ)(l:List fW):fZ:=⟨p.nm,p.ver,p.ar,p.sm,p.na,p.nc,p.needs,p.ba,p.bc,p.bars,p.ga,p.gc,p.gives,p.fa,p.fc,l,p.sa,p.sc,p.scripts⟩
theorem JA {α:Type}{P:α->Prop}{l:List α}{x:α}(D:l[k]?=some x):(∀ y∈l.take (k+1),P y)↔(∀ y∈l.take k,P y)/\P x:=by
 rw[gC D];constructor
 ·intro h;exact⟨fun y z=>h y (List.mem_append_left _ z),h x (List.mem_append_right _ (by simp))⟩
 ·rintro⟨h1,h2⟩ y z;rcases List.mem_append.1 z with z | z
  ·exact h1 y z
  ·rw[List.mem_singleton.1 z];exact h2
theorem acR {ms:List oq}{R:List iA}{q:fZ}{kn:List jH}(F:FX w f)(hb:iY b)(hL:jY a b kn ms)(ar:∀ f∈q.files,f.owner.size<=9223372036854775807/\f.group.size<=9223372036854775807)(hR:R.length<=900000)(hn:q.files.length<=100000)(hB:jK T w W kb mb a b ms v R q)
  (hQ:∀ (g:Nat->Value)(wx:World),FX w g->(∃ v1 bs,jK T w wx kb mb a b ms v1 (R++bs) (q.setFiles (q.files.map (kF a b kn)))/\(bs=[]↔∀ f∈q.files,oo a b kn f)/\bs.length<=q.files.length)->Q .normal ⟨FR g,[]⟩ wx):
  Code.wp prog (cd [1,1,1,1,1,1,1,1,1,1,1,0]) Q ⟨FR f,[]⟩ W:=by
 have HQ:=fH hQ;clear hQ;have HB:=fH hb;have HL:=fH hL;have HS:=fH ar;have be:=fH hR;have bd:=fH hn;have B0:Hid (jK T w W kb mb a b ms v R (q.setFiles (lE a b kn q.files 0))):=by show jK _ _ _ _ _ _ _ _ _ _ _;rw[Be];exact hB
 obtain⟨W0,aX⟩:∃ W0,W=W0:=⟨_,rfl⟩
 rw[aX] at B0 |-;clear hb hL ar hR hB aX;obtain⟨F2,F3,F4,F5⟩:=F;unfold FR;rw[F2,F3,F4,F5];clear F2 F3 F4 F5
 conv=>arg 2;whnf
 have p7:W0.cell? ⟨w.heap.size+1,7,none⟩=some (.slice q.fa q.files.length q.fc):=by
  have:=B0.pk.cell 7 _ rfl;rw[Be] at this;exact this
 go_wp2_with fail;clear p7;go_loopw [160] (fun s wr=>∃ (k:Nat) (v1:Value) (bs:List iA),k<=q.files.length/\s=.int .i64 k/\Hid (jK T w wr kb mb a b ms v1 (R++bs) (q.setFiles (lE a b kn q.files k)))/\Hid (bs=[]↔∀ f∈q.files.take k,oo a b kn f)/\Hid (bs.length<=k)) (fun i _=>q.files.length-(intOf i).toNat)
 case atStart=>exact⟨0,v,[],z0,rfl,by rw[List.append_nil];exact B0,by simp[Hid],z0⟩
 case round=>
  clear B0;obtain⟨k,v1,bs,hk,rfl,B1,K1,F1⟩:=hrel;by_cases aR:k<q.files.length
  ·obtain⟨x,hx⟩:∃ x,q.files[k]?=some x:=⟨_,gG aR⟩
   have HX:=fH hx;obtain⟨zo,zg⟩:=HS.out x (gM hx);have X:=fH (Wq (a:=a) (b:=b) (kn:=kn) hx);have M:=RG a b kn q.files hk;have aW:=fH M;obtain⟨Y,cp,hv,_,_⟩:=B1.own.files.form (by show 0<(lE a b kn q.files k).length;omega);have hA:q.fa=some ⟨Y,0,none⟩:=by injection hv
   obtain⟨b2,H,z,he⟩:=(gR B1.own.files).elem rG k x X.out;obtain⟨rfl,rfl⟩:Y=b2/\0=H:=by have z:q.fa=some ⟨b2,H,none⟩:=z;rw[hA] at z;injection z with z;injection z with h1 h2 _;exact⟨h1,h2⟩
   obtain⟨e0,e1,e2,e3,e4,e5,e6,e7⟩:=cF8 he;simp only[Nat.add_zero,Nat.zero_add] at e0 e1 e2 e3 e4 e5 e6 e7;have bb:=fun W=>gi (T:=35) (E:=57) (sz:=8) (c:=q.fc) underlying35 rfl sizeOf57 hA aR W;simp only[Nat.zero_add] at bb;have HA:=fH hA;clear hx hv hA z he M;obtain⟨W1,K⟩:∃ W1,wr.alloc (.cells #[.string x.path,.int .i64 x.kind,.int .i64 x.mode,.string x.owner,.string x.group,.string x.link,.string x.sum,.bool x.conf] 57)=W1:=⟨_,rfl⟩
   have D1:Hid (Bw wr W1):=by show Below _ _ _;rw[<-K];exact bR.alloc lr _
   have X1:Hid (fV W1 wr.heap.size x.cells):=by show fV _ _ _;rw[<-K];exact fV.new wr x.cells _
   have B2:=fH (B1.step D1);have aZ:=fH K;clear K;go_upto_region 30 with(fail)
   rw[aZ.out];clear e0 e1 e2 e3 e4 e5 e6 e7 B1 D1 aZ;have c0:=B2.box.cell 0 _ rfl;obtain⟨x0,x1,x2,x3,x4,x5,x6,x7⟩:=cF8 X1.cell;obtain⟨sm,U⟩:∃ sm,mZ a b kn x=sm:=⟨_,rfl⟩
   have Z:=fH U;have HO:=fH (zZ a b HB kb mb v1 kn ms HL x W1 B2.kv B2.out.mp);rw[U] at HO;unfold fW.val at HO;clear U;go_wp2_with fail;refine HO.mono ?_;rintro e w2 ⟨rfl,V⟩;have B3:=fH (B2.step V);have X3:=fH (X1.below V);clear V HO c0 x0 x1 x2 x3 x4 x5 x6 x7 B2 X1;go_upto_region 31 with(fail)
   refine Zs (kn:=kn) (f:=x) (sm:=sm) HB zo zg Z.out.symm X3.out B3 ?_;intro ab ac ad ae af ag ah ai aj ak al am an ao ap aq au av ax ay az aA aB aC aD aE aF aG aH aI aJ aK aL aM aN aO aP aQ wx bf;obtain⟨bg,rfl,O,aT,aV⟩:=bf;have B4:=fH aT;have I:=fH O;have X4:=fH aV;clear O aT aV B3 X3;have aY:Hid (∀ wr:World,∀ (v1:Value)(R1:List iA),jK T w wr kb mb a b ms v1 R1 (q.setFiles (lE a b kn q.files k))->wr.cell? ⟨w.heap.size+1,7,none⟩=some (.slice q.fa q.files.length q.fc)/\wr.cell? ⟨Y,k*8+6,none⟩=some (.string x.sum)/\wr.frozen? ⟨Y,k*8+6,none⟩=false/\jK T w (wr.setCell ⟨Y,k*8+6,none⟩ (.string sm)) kb mb a b ms v1 R1 (q.setFiles (lE a b kn q.files (k+1)))):=by
    intro wr v1 R1 h;have hp:=h.pk.cell 7 _ rfl;have aa:wr.cell? ⟨w.heap.size+1,7,none⟩=some (.slice q.fa (lE a b kn q.files k).length q.fc):=hp;rw[aW.out] at aa;obtain⟨b2,H,z,he⟩:=(gR h.own.files).elem rG k x X.out;have D:q.fa=some ⟨b2,H,none⟩:=z;rw[HA.out] at D;injection D with D;injection D with h1 h2 _;subst h1;subst h2;have e6:=he 6 _ rfl;simp only[Nat.zero_add] at e6;have ba:=h.own.files;have J:wr.ownsRow (kb+1) 57 8 (.slice q.fa (lE a b kn q.files k).length q.fc) (lE a b kn q.files k).length ((lE a b kn q.files k).flatMap fW.cells):=ba;rw[HA.out] at J;refine⟨aa,e6,J.frozenAt _,?_⟩;have:=h.setF (g:=Y) (i:=k) (x:=x) HA X sm;rw[<-Ou HX.out,show kF a b kn x={ x with sum:=sm } by rw[<-Z.out];rfl];exact this
   obtain⟨W4,aU⟩:∃ W4,wx=W4:=⟨_,rfl⟩
   rw[aU] at B4 X4 |-;clear aU;cases bg
   ·obtain⟨p7,y6,z6,hs⟩:=aY.out W4 _ _ B4.out;have B5:=fH hs;have KN:Hid (bs=[]↔∀ f∈q.files.take (k+1),oo a b kn f):=by
     show _↔_;rw[JA HX.out,K1.out];exact⟨fun h=>⟨h,I.1 (by simp)⟩,fun h=>h.1⟩
    have FN:Hid (bs.length<=k+1):=by have:=F1.out;show _<=_;omega
    clear hs I;go_wp2;go_roundw
    case rel=>exact⟨k+1,v1,bs,by omega,by go_num,B5,KN,FN⟩
    case measure=>simp[intOf];omega
   ·have x0:=X4.cell 0 _ rfl;have bc:Hid ((R++bs).length<=1000000):=by show _<=_;have:=be.out;have:=bd.out;have:=F1.out;rw[List.length_append];omega
    go_wp2_with fail;refine(oU B4 bc q.nm x.path 11 rfl).mono ?_;rintro e w5 ⟨rfl,v5,h5⟩;rw[List.append_assoc] at h5;obtain⟨p7,y6,z6,hs⟩:=aY.out w5 _ _ h5;have B5:=fH hs;have KN:Hid (bs++[⟨q.nm,x.path,11⟩]=[]↔∀ f∈q.files.take (k+1),oo a b kn f):=by
     show _↔_;rw[JA HX.out];exact⟨fun h=>by simp at h,fun h=>by have:=I.2 h.2;simp at this⟩
    have FN:Hid ((bs++[(⟨q.nm,x.path,11⟩:iA)]).length<=k+1):=by have:=F1.out;show _<=_;rw[List.length_append,List.length_singleton];omega
    clear h5 hs I x0;go_wp2;go_roundw
    case rel=>exact⟨k+1,v5,_,by omega,by go_num,B5,KN,FN⟩
    case measure=>simp[intOf];omega
  ·have E:q.files.take k=q.files:=tL (by omega);have aS:k=q.files.length:=by omega
   have B5:Hid (jK T w wr kb mb a b ms v1 (R++bs) (q.setFiles (q.files.map (kF a b kn)))):=by
    have:=B1.out;rw[aS,RH] at this;exact this
   have KN:Hid (bs=[]↔∀ f∈q.files,oo a b kn f):=by have:=K1.out;rw[E] at this;exact this
   clear E aS;go_wp2_with fail;refine jZ ?_;exact HQ.out _ _ ⟨rfl,rfl,rfl,rfl⟩ ⟨v1,bs,B5,KN,by have:=F1.out;omega⟩
theorem abp {p:fZ}{c2 c3:Value}
  (z:∀ (u2 u3 u4:Value)(wx:World),(u2=.pointer (some ⟨w.heap.size,0,none⟩)/\u3=.pointer (some ⟨w.heap.size+1,0,none⟩)/\u4=.pointer (some ⟨w.heap.size+2,0,none⟩)/\wx=((w.alloc (.cells #[.pointer (some ⟨kb,0,none⟩)] 110)).alloc (.cells #[.string p.nm,.string p.ver,.string p.ar,.string p.sm,.slice p.na p.needs.length p.nc,.slice p.ba p.bars.length p.bc,.slice p.ga p.gives.length p.gc,.slice p.fa p.files.length p.fc,.slice p.sa p.scripts.length p.sc] 38)).alloc (.cells #[.string ⟨#[]⟩,.string ⟨#[]⟩,.string ⟨#[]⟩,.string ⟨#[]⟩,.slice none 0 0,.slice none 0 0,.slice none 0 0,.slice none 0 0,.slice none 0 0] 38))->Q .normal ⟨#[.pointer (some ⟨kb,0,none⟩),.agg #[.string p.nm,.string p.ver,.string p.ar,.string p.sm,.slice p.na p.needs.length p.nc,.slice p.ba p.bars.length p.bc,.slice p.ga p.gives.length p.gc,.slice p.fa p.files.length p.fc,.slice p.sa p.scripts.length p.sc],u2,u3,u4,c5,c6,c7,c8,c9,cD,cE,cF,cG,cH,cJ,cK,cL,cM,cN,eq,cO,cP,cQ,cR,cS,cT,cU,cV,cW,cX,cY,cZ,da,db,dc,dd,de,df,dg,dh,di,dj,dk,dl,dm,dn,dp,dq,dr,ds,dt,du,dv,dw,dx,dy,dz,dA,dB,dC,dD,dE,dF,dG,dH,dI,dJ,dK,dL,dM,dN,dO,dP,dQ,dR,dS,dT,dU,dV,dW,dX,dY,dZ,ea,eb,ec,ed,ee,ef,eg,eh,ei,ej,ek,el,em,en,eo,ep,aa,ab,ac,ad,ae,af,ag,ah,ai,aj,ak,al,am,an,ao,ap,aq,au,av,ax,ay,az,aA,aB,aC,aD,aE,aF,aG,aH,aI,aJ,aK,aL,aM,aN,aO,aP,aQ,aR,aS,aT,aU,aV,aW,aX,aY,aZ,bb,bd,be,bf,bg,bh,bi,bj,bk,bm,bn,bo,bp,bq,br,bs,bt,bu,bv,bw,bx,bz,bA,bB,bC,bD,bE,bF,bG,bH,bI,bJ,bK,bL,bM,bN,bO,bP,bQ,bR,bS,bT,bU,bV,bW,bX,bY,bZ,ca,cb,cc,ce,cf,cg,ch,ci,cj,ck,cl,cm,cn,co,cp,cq,cr,cs,ct,cu,cv,cw,cx,cy,cz,cA,cB,cC],[]⟩ wx):
  Code.wp prog (cd [0]) Q ⟨#[.pointer (some ⟨kb,0,none⟩),.agg #[.string p.nm,.string p.ver,.string p.ar,.string p.sm,.slice p.na p.needs.length p.nc,.slice p.ba p.bars.length p.bc,.slice p.ga p.gives.length p.gc,.slice p.fa p.files.length p.fc,.slice p.sa p.scripts.length p.sc],c2,c3,c4,c5,c6,c7,c8,c9,cD,cE,cF,cG,cH,cJ,cK,cL,cM,cN,eq,cO,cP,cQ,cR,cS,cT,cU,cV,cW,cX,cY,cZ,da,db,dc,dd,de,df,dg,dh,di,dj,dk,dl,dm,dn,dp,dq,dr,ds,dt,du,dv,dw,dx,dy,dz,dA,dB,dC,dD,dE,dF,dG,dH,dI,dJ,dK,dL,dM,dN,dO,dP,dQ,dR,dS,dT,dU,dV,dW,dX,dY,dZ,ea,eb,ec,ed,ee,ef,eg,eh,ei,ej,ek,el,em,en,eo,ep,aa,ab,ac,ad,ae,af,ag,ah,ai,aj,ak,al,am,an,ao,ap,aq,au,av,ax,ay,az,aA,aB,aC,aD,aE,aF,aG,aH,aI,aJ,aK,aL,aM,aN,aO,aP,aQ,aR,aS,aT,aU,aV,aW,aX,aY,aZ,bb,bd,be,bf,bg,bh,bi,bj,bk,bm,bn,bo,bp,bq,br,bs,bt,bu,bv,bw,bx,bz,bA,bB,bC,bD,bE,bF,bG,bH,bI,bJ,bK,bL,bM,bN,bO,bP,bQ,bR,bS,bT,bU,bV,bW,bX,bY,bZ,ca,cb,cc,ce,cf,cg,ch,ci,cj,ck,cl,cm,cn,co,cp,cq,cr,cs,ct,cu,cv,cw,cx,cy,cz,cA,cB,cC],[]⟩ w:=by
 have D:=fH z;clear z
 conv=>arg 2;whnf
 go_wp2_with fail;exact D.out _ _ _ _ ⟨rfl,rfl,rfl,rfl⟩
theorem abq 
  (z:∀ (u5 eD:Value)(wx:World),(u5=.func (Fn.func 46) #[] #[.pointer (some ⟨w.heap.size,0,none⟩),.pointer (some ⟨w.heap.size+1,0,none⟩)]/\wx=W)->Q .normal ⟨#[c0,c1,.pointer (some ⟨w.heap.size,0,none⟩),.pointer (some ⟨w.heap.size+1,0,none⟩),c4,u5,c6,c7,c8,c9,cD,cE,cF,cG,cH,cJ,cK,cL,cM,cN,eD,cO,cP,cQ,cR,cS,cT,cU,cV,cW,cX,cY,cZ,da,db,dc,dd,de,df,dg,dh,di,dj,dk,dl,dm,dn,dp,dq,dr,ds,dt,du,dv,dw,dx,dy,dz,dA,dB,dC,dD,dE,dF,dG,dH,dI,dJ,dK,dL,dM,dN,dO,dP,dQ,dR,dS,dT,dU,dV,dW,dX,dY,dZ,ea,eb,ec,ed,ee,ef,eg,eh,ei,ej,ek,el,em,en,eo,ep,aa,ab,ac,ad,ae,af,ag,ah,ai,aj,ak,al,am,an,ao,ap,aq,au,av,ax,ay,az,aA,aB,aC,aD,aE,aF,aG,aH,aI,aJ,aK,aL,aM,aN,aO,aP,aQ,aR,aS,aT,aU,aV,aW,aX,aY,aZ,bb,bd,be,bf,bg,bh,bi,bj,bk,bm,bn,bo,bp,bq,br,bs,bt,bu,bv,bw,bx,bz,bA,bB,bC,bD,bE,bF,bG,bH,bI,bJ,bK,bL,bM,bN,bO,bP,bQ,bR,bS,bT,bU,bV,bW,bX,bY,bZ,ca,cb,cc,ce,cf,cg,ch,ci,cj,ck,cl,cm,cn,co,cp,cq,cr,cs,ct,cu,cv,cw,cx,cy,cz,cA,cB,cC],[]⟩ wx):
  Code.wp prog (cd [1,0]) Q ⟨#[c0,c1,.pointer (some ⟨w.heap.size,0,none⟩),.pointer (some ⟨w.heap.size+1,0,none⟩),c4,c5,c6,c7,c8,c9,cD,cE,cF,cG,cH,cJ,cK,cL,cM,cN,eq,cO,cP,cQ,cR,cS,cT,cU,cV,cW,cX,cY,cZ,da,db,dc,dd,de,df,dg,dh,di,dj,dk,dl,dm,dn,dp,dq,dr,ds,dt,du,dv,dw,dx,dy,dz,dA,dB,dC,dD,dE,dF,dG,dH,dI,dJ,dK,dL,dM,dN,dO,dP,dQ,dR,dS,dT,dU,dV,dW,dX,dY,dZ,ea,eb,ec,ed,ee,ef,eg,eh,ei,ej,ek,el,em,en,eo,ep,aa,ab,ac,ad,ae,af,ag,ah,ai,aj,ak,al,am,an,ao,ap,aq,au,av,ax,ay,az,aA,aB,aC,aD,aE,aF,aG,aH,aI,aJ,aK,aL,aM,aN,aO,aP,aQ,aR,aS,aT,aU,aV,aW,aX,aY,aZ,bb,bd,be,bf,bg,bh,bi,bj,bk,bm,bn,bo,bp,bq,br,bs,bt,bu,bv,bw,bx,bz,bA,bB,bC,bD,bE,bF,bG,bH,bI,bJ,bK,bL,bM,bN,bO,bP,bQ,bR,bS,bT,bU,bV,bW,bX,bY,bZ,ca,cb,cc,ce,cf,cg,ch,ci,cj,ck,cl,cm,cn,co,cp,cq,cr,cs,ct,cu,cv,cw,cx,cy,cz,cA,cB,cC],[]⟩ W:=by
 have D:=fH z;clear z
 conv=>arg 2;whnf
 go_wp2_with fail;exact D.out _ _ _ ⟨rfl,rfl⟩
theorem abr (F:FX w f)
  (z:∀ (g:Nat->Value)(wx:World),FX w g->wx=W->Q .normal ⟨FR g,[]⟩ wx):
  Code.wp prog (cd [1,1,0]) Q ⟨FR f,[]⟩ W:=by
 have K:=fH z;clear z;obtain⟨H,D,J,I⟩:=F;unfold FR;rw[H,D,J,I];clear H D J I
 conv=>arg 2;whnf
 go_wp2_with fail;refine jZ ?_;exact K.out _ _ ⟨rfl,rfl,rfl,rfl⟩ rfl
theorem acT {ms:List oq}{R:List iA}{q:fZ}(F:FX w f)(V:jK T w W kb mb a b ms v R q)
  (I:∀ (g:Nat->Value)(wx:World),FX w g->wx=W.setCells (w.heap.size+2) 0 q.cells->Q .normal ⟨FR g,[]⟩ wx):
  Code.wp prog (cd [1,1,1,1,1,1,1,1,1,1,1,1,1,0]) Q ⟨FR f,[]⟩ W:=by
 have K:=fH I;clear I;have z:=fH V;obtain⟨H,D⟩:∃ H,W=H:=⟨_,rfl⟩
 rw[D] at z K |-;clear V D;obtain⟨J,U,O,M⟩:=F;unfold FR;rw[J,U,O,M];clear J U O M
 conv=>arg 2;whnf
 have X:=z.pk.cell 0 _ rfl;have q1:=z.pk.cell 1 _ rfl;have q2:=z.pk.cell 2 _ rfl;have q3:=z.pk.cell 3 _ rfl;have q4:=z.pk.cell 4 _ rfl;have q5:=z.pk.cell 5 _ rfl;have q6:=z.pk.cell 6 _ rfl;have Z:=z.pk.cell 7 _ rfl;have q8:=z.pk.cell 8 _ rfl;have z0:=z.res.cell 0 _ rfl;have z1:=z.res.cell 1 _ rfl;have z2:=z.res.cell 2 _ rfl;have z3:=z.res.cell 3 _ rfl;have z4:=z.res.cell 4 _ rfl;have z5:=z.res.cell 5 _ rfl;have z6:=z.res.cell 6 _ rfl;have z7:=z.res.cell 7 _ rfl;have z8:=z.res.cell 8 _ rfl;have f0:=z.res.free 0 (by decide);have f1:=z.res.free 1 (by decide);have f2:=z.res.free 2 (by decide);have f3:=z.res.free 3 (by decide);have f4:=z.res.free 4 (by decide);have f5:=z.res.free 5 (by decide);have f6:=z.res.free 6 (by decide);have f7:=z.res.free 7 (by decide);have Y:=z.res.free 8 (by decide);go_wp2_with fail;refine jZ ?_;exact K.out _ _ ⟨rfl,rfl,rfl,rfl⟩ rfl
theorem ke {B B':Nat}{e e':TypeId}{s s' n':Nat}{xs xs':LV}(h:w.ownsRow B e s v n xs)(R:w.ownsRow B' e' s' v' n' xs')(H:e≠e'):∀ g,v.ownBlock=some g->v'.ownBlock≠some g:=by
 intro g F z;rcases h.2 with⟨rfl,_⟩ | ⟨U,cap,M,rfl,_,I,_⟩
 ·cases F
 ·rcases R.2 with⟨rfl,_⟩ | ⟨O,J,K,rfl,_,D,_⟩
  ·cases z
  ·injection F with F;injection z with z;have V:U=g:=F;have X:O=g:=z;rw[V] at I;rw[X] at D;rw[I] at D;injection D with D;injection D with _ h3 _;exact H h3
def abw (kb:Nat)(v:Value)(p:fZ)(g:Nat):Prop:=g=kb\/v.ownBlock=some g\/(p.sl 2).ownBlock=some g\/(p.sl 3).ownBlock=some g
structure Tt (w0 wr:World) (kb mb:Nat) (a b:Int) (ms:List oq) (v:Value) (R:List iA) (C O:Value) (l rs os qs:List fZ):Prop where
 bl:Bw w0 wr
 k0:w0.heap.size<=kb
 ml:mb<kb
 lt:kb<wr.heap.size
 kv:fV wr kb (WT a b (.map (some mb)) v)
 rf:wr.ownsRow (kb+1) 49 3 v R.length (R.flatMap iA.cells)
 mp:ki wr mb ms
 cp:wr.ownsRow (kb+1) 38 9 C l.length (l.flatMap fZ.cells)
 out:wr.ownsRow (kb+1) 38 9 O os.length (os.flatMap fZ.cells)
 ap:∀ g,O.ownBlock=some g->C.ownBlock≠some g
 left:∀ p∈rs,lS p wr (kb+1)
 own:∀ q∈qs,lS q wr (kb+1)
 far:rs.Pairwise Sg
 gq:∀ q∈qs,∀ p∈rs,∀ g,(q.sl 2).ownBlock=some g->(p.sl 2).ownBlock≠some g
 fq:∀ q∈qs,∀ p∈rs,∀ g,(q.sl 3).ownBlock=some g->(p.sl 3).ownBlock≠some g
theorem Tt.grow {wx:World}{ms:List oq}{R:List iA}{l rs os qs:List fZ}(h:Tt w0 wr kb mb a b ms v R C O l rs os qs)(z:Bw wr wx):
  Tt w0 wx kb mb a b ms v R C O l rs os qs:=
 ⟨h.bl.trans ⟨z.os,z.tape,z.output,z.size,fun i H=>z.block i (Nat.lt_of_lt_of_le H h.bl.size)⟩,h.k0,h.ml,Nat.lt_of_lt_of_le h.lt z.size,h.kv.below z,ge h.rf z,h.mp.below z,ge h.cp z,ge h.out z,h.ap,
  fun p D=>(h.left p D).below z,fun q F=>(h.own q F).below z,h.far,h.gq,h.fq⟩
theorem Tt.enter {ms:List oq}{R:List iA}{l rs os qs:List fZ}{p:fZ}(h:Tt w0 wr kb mb a b ms v R C O l (p::rs) os qs):CvI (abw kb v p) wr kb mb a b ms v R p:=by
 have D:=h.left p (List.mem_cons_self ..);refine⟨h.lt,h.ml,?_,.inl rfl,fun g z=>.inr (.inl z),fun g z=>.inr (.inr (.inl z)),fun g z=>.inr (.inr (.inr z)),h.kv,h.rf,h.mp,D⟩;intro g z;rcases z with rfl | z | z | z
 ·exact h.lt
 ·exact(World.ownsRow.lt h.rf g z).2
 ·exact(World.ownsRow.lt D.gives g z).2
 ·exact(World.ownsRow.lt D.files g z).2
theorem Tt.leave {ms:List oq}{R R':List iA}{l rs os qs:List fZ}{p q:fZ}(h:Tt w0 w kb mb a b ms v R C O l (p::rs) os qs)(K:CvE (abw kb v p) w w' kb mb a b ms v' R' q):
  Tt w0 w' kb mb a b ms v' R' C O l rs os (qs++[q]):=by
 have V:=h.left p (List.mem_cons_self ..);have J:=List.pairwise_cons.1 h.far
 -- a row that is no refusals',no atoms',no files'
 have other:∀ {B:Nat} {e:TypeId} {s n:Nat} {u:Value} {Z:LV},w.ownsRow B e s u n Z->kb<B->e≠49->e≠78->e≠57->w'.ownsRow B e s u n Z:=by
  intro B e s n u Z X hB h1 h2 h3;refine rk X K.kp fun g F ht=>?_;rcases ht with rfl | ht | ht | ht
  ·have:=(World.ownsRow.lt X _ F).1;omega
  ·exact ke X h.rf h1 g F ht
  ·exact ke X V.gives h2 g F ht
  ·exact ke X V.files h3 g F ht
 have pk:∀ M:fZ,lS M w (kb+1)->(∀ g,(M.sl 2).ownBlock=some g->(p.sl 2).ownBlock≠some g)->(∀ g,(M.sl 3).ownBlock=some g->(p.sl 3).ownBlock≠some g)->lS M w' (kb+1):=by
  intro M I Y aa;refine⟨other I.needs (Nat.lt_succ_self _) (by decide) (by decide) (by decide),other I.bars (Nat.lt_succ_self _) (by decide) (by decide) (by decide),?_,?_,other I.scripts (Nat.lt_succ_self _) (by decide) (by decide) (by decide)⟩
  ·refine rk I.gives K.kp fun g F ht=>?_;rcases ht with rfl | ht | ht | ht
   ·have:=(World.ownsRow.lt I.gives _ F).1;omega
   ·exact ke I.gives h.rf (by decide) g F ht
   ·exact Y g F ht
   ·exact ke I.gives V.files (by decide) g F ht
  ·refine rk I.files K.kp fun g F ht=>?_;rcases ht with rfl | ht | ht | ht
   ·have:=(World.ownsRow.lt I.files _ F).1;omega
   ·exact ke I.files h.rf (by decide) g F ht
   ·exact ke I.files V.gives (by decide) g F ht
   ·exact aa g F ht
 refine⟨?_,h.k0,h.ml,Nat.lt_of_lt_of_le h.lt K.kp.size,K.kv,K.rf,K.mp,other h.cp (Nat.lt_succ_self _) (by decide) (by decide) (by decide),other h.out (Nat.lt_succ_self _) (by decide) (by decide) (by decide),h.ap,?_,?_,J.2,?_,?_⟩
 ·refine⟨K.kp.os.trans h.bl.os,K.kp.tape.trans h.bl.tape,K.kp.output.trans h.bl.output,Nat.le_trans h.bl.size K.kp.size,fun i hi=>(K.kp.block i (Nat.lt_of_lt_of_le hi h.bl.size) (fun ht=>?_)).trans (h.bl.block i hi)⟩;have hk:=h.k0;rcases ht with rfl | ht | ht | ht
  ·omega
  ·have:=(World.ownsRow.lt h.rf _ ht).1;omega
  ·have:=(World.ownsRow.lt V.gives _ ht).1;omega
  ·have:=(World.ownsRow.lt V.files _ ht).1;omega
 ·intro U H;refine pk U (h.left U (List.mem_cons_of_mem _ H)) (fun g F D=>?_) (fun g F D=>?_)
  ·exact Nat.lt_irrefl _ ((J.1 U H).1 g g D F)
  ·exact Nat.lt_irrefl _ ((J.1 U H).2 g g D F)
 ·intro M z;rcases List.mem_append.1 z with z | z
  ·exact pk M (h.own M z) (fun g F=>h.gq M z p (List.mem_cons_self ..) g F) (fun g F=>h.fq M z p (List.mem_cons_self ..) g F)
  ·rw[List.mem_singleton.1 z];exact K.own
 ·intro M z U H g F D;rcases List.mem_append.1 z with z | z
  ·exact h.gq M z U (List.mem_cons_of_mem _ H) g F D
  ·rw[List.mem_singleton.1 z] at F;have I:=h.left U (List.mem_cons_of_mem _ H);rcases K.tg g F with rfl | ht | ht | ht
   ·have:=(World.ownsRow.lt I.gives _ D).1;omega
   ·exact ke I.gives h.rf (by decide) g D ht
   ·exact Nat.lt_irrefl _ ((J.1 U H).1 g g ht D)
   ·exact ke I.gives V.files (by decide) g D ht
 ·intro M z U H g F D;rcases List.mem_append.1 z with z | z
  ·exact h.fq M z U (List.mem_cons_of_mem _ H) g F D
  ·rw[List.mem_singleton.1 z] at F;have I:=h.left U (List.mem_cons_of_mem _ H);rcases K.tf g F with rfl | ht | ht | ht
   ·have:=(World.ownsRow.lt I.files _ D).1;omega
   ·exact ke I.files h.rf (by decide) g D ht
   ·exact ke I.files V.gives (by decide) g D ht
   ·exact Nat.lt_irrefl _ ((J.1 U H).2 g g ht D)
theorem Tt.put {w6:World}{ms:List oq}{R:List iA}{O':Value}{l rs os os' qs:List fZ}(h:Tt w0 w kb mb a b ms v R C O l rs os qs)(z:w.grownBy w6 O.ownBlock)
  (Z:w6.ownsRow (kb+1) 38 9 O' os'.length (os'.flatMap fZ.cells))(X:∀ g,O'.ownBlock=some g->O.ownBlock=some g\/w.heap.size<=g):
  Tt w0 w6 kb mb a b ms v R C O' l rs os' qs:=by
 have kept:∀ {B:Nat} {e:TypeId} {s n:Nat} {u:Value} {I:LV},w.ownsRow B e s u n I->e≠38->w6.ownsRow B e s u n I:=by
  intro B e s n u I M H;refine M.kept z ?_;cases hu:u.ownBlock with
  | none=>exact .inl rfl
  | some g=>exact .inr fun e=>ke M h.out H g hu e.symm
 have V:∀ q:fZ,lS q w (kb+1)->lS q w6 (kb+1):=fun q D=>
  ⟨kept D.needs (by decide),kept D.bars (by decide),kept D.gives (by decide),kept D.files (by decide),kept D.scripts (by decide)⟩
 have K:∀ i,i<=kb->w6.heap[i]?=w.heap[i]?:=fun i F=>z.block i (Nat.lt_of_le_of_lt F h.lt) (fun e=>by have:=(World.ownsRow.lt h.out i e.symm).1;omega);have hk:=h.k0;refine⟨⟨z.os.trans h.bl.os,z.tape.trans h.bl.tape,z.output.trans h.bl.output,Nat.le_trans h.bl.size z.size,fun i F=>(K i (by omega)).trans (h.bl.block i F)⟩,h.k0,h.ml,Nat.lt_of_lt_of_le h.lt z.size,?_,kept h.rf (by decide),h.mp.block (K mb (by have:=h.ml;omega)),?_,Z,?_,fun p Y=>V p (h.left p Y),fun q D=>V q (h.own q D),h.far,h.gq,h.fq⟩
 ·exact h.kv.but (T:=fun i=>O.ownBlock=some i) ⟨z.os,z.tape,z.output,z.size,fun i F hn=>z.block i F (fun e=>hn e.symm)⟩ (fun e=>by have:=(World.ownsRow.lt h.out _ e).1;omega)
 ·refine h.cp.kept z ?_;cases hu:C.ownBlock with
  | none=>exact .inl rfl
  | some g=>exact .inr fun e=>h.ap g e.symm hu
 ·intro g H J;rcases X g H with U | U
  ·exact h.ap g U J
  ·have:=(World.ownsRow.lt h.cp g J).2;omega
theorem OD (J:iY a)(D:iY b){v:BA}(h:(trans a b v).2=0):trans b a (gX (trans a b v).1)=(bl v,0):=by
 obtain⟨c,_,O,M,e⟩:=Fp J D h;obtain⟨F,I⟩:=uS O;have z:=ol D M;have K:=(kB D z).1;rw[iS] at K;have H:=KE D K M rfl;rw[e];unfold trans;rw[if_neg (by rintro(x | x);exact x D;exact x J),z,if_neg (by simp),iS,H];simp only;unfold vq;rw[if_pos F,I]
theorem ZE (bar:Bool)(x y:List gI):iJ bar (x++y)=iJ bar x++iJ bar y:=by unfold iJ;rw[List.filter_append]
theorem Gd {l:List gI}{d:gI}(h:d∈up fmt l):d∈l:=by
 unfold up at h;split at h
 ·exact h
 ·rcases List.mem_append.1 h with h | h
  ·exact(kV h).1
  ·exact(kV h).1
theorem CG (x y:List gI):gB (x++y)=gB x+gB y:=by unfold gB;rw[List.map_append,List.sum_append]
theorem Ge:∀ l:List gI,gB (iJ false l)+gB (iJ true l)=gB l
 | []=>rfl
 | d::r=>by
  have F:=Ge r;have e:∀ c,iJ c (d::r)=iJ c [d]++iJ c r:=fun c=>ZE c [d] r;have z:gB (d::r)=gB [d]+gB r:=CG [d] r;rw[e,e,CG,CG,z];have D:gB (iJ false [d])+gB (iJ true [d])=gB [d]:=by
   unfold iJ;cases d.bar.eq_false_or_eq_true with
   | inl h=>simp[List.filter_cons,h,gB]
   | inr h=>simp[List.filter_cons,h,gB]
  omega
theorem RO (fmt:Int)(l:List gI):gB (up fmt l)=gB l:=by
 unfold up;split
 ·rfl
 ·rw[CG,Ge]
theorem RP (F:iY a){g:fP}(h:(gz a 1 g).2=0):(gz 1 a (gz a 1 g).1).2=0:=by
 unfold gz at h;split at h
 ·cases h
 ·rename_i D;split at h
  ·rename_i z;have e:(gz a 1 g).1=⟨g.nm,0,⟨#[]⟩⟩:=by unfold gz;rw[if_neg D,if_pos z]
   rw[e];unfold gz;rw[if_neg D,if_pos rfl]
  ·rename_i z;split at h
   ·cases h
   ·rename_i ht;have e:(gz a 1 g).1=⟨g.nm,g.op,gX (trans a 1 g.ver).1⟩:=by unfold gz;rw[if_neg D,if_neg z,if_neg ht];rfl
    rw[e];unfold gz;simp only;rw[if_neg D,if_neg z,OD F (.inl rfl) (by simpa using ht),if_neg (by simp)]
theorem ZF {s:LU}(h:(ip 3 bar s).2=0):∀ d∈(ip 3 bar s).1,d.alts.length=1:=by
 unfold ip at h |-;rw[if_neg (by decide),if_neg (by decide)] at h |-;cases jL s with
 | none=>intro d z;simp at z
 | some L=>
  intro d z;simp only at z;unfold vN at z;split at z
  ·simp at z
  ·simp only[List.mem_map] at z;obtain⟨x,_,rfl⟩:=z;rfl
theorem Gf (I:iY a){ts:List (LU)}(h:jc a bar ts=0):∀ d∈iX a bar ts,qH a d=0:=by
 unfold jc at h;rw[if_neg (fun D=>D I)] at h;split at h
 ·rename_i D;exact absurd h D
 rename_i O;have M:∀ t∈ts,kI a bar t=0:=gD.1 (by simpa using O);intro d F;unfold iX Fj at F;obtain⟨t,ht,F⟩:=List.mem_flatMap.1 F;obtain⟨x,J,rfl⟩:=List.mem_map.1 F;have z:=M t ht;unfold kI at z;split at z
 ·rename_i D;exact absurd z D
 rename_i H;have H:(ip a bar t).2=0:=by simpa using H
 unfold qJ at z;rw[gD] at z;unfold qH;rw[if_neg]
 ·rw[gD];intro g R;obtain⟨y,K,rfl⟩:=List.mem_map.1 R;exact RP I (z y (List.mem_flatMap.2 ⟨x,J,K⟩))
 ·rintro⟨rfl,hl⟩;have:=ZF H x J;unfold kD at hl;rw[List.length_map] at hl;omega
theorem RQ (H:iY a){kn:List jH}{p q:fZ}(ht:qL a b p)(F:BP a b kn p q):kr b q=up b (kr a p)/\qL b a q:=by
 obtain⟨K,R,U⟩:=Fo ht.toZ;have e:kr b q=up b (kr a p):=by unfold kr;rw[F.needs,F.bars];exact U
 refine⟨e,by rw[F.needs];exact K,by rw[F.bars];exact R,?_⟩;obtain⟨_,D,O,_,_⟩:=SZ ht.toZ;have M:∀ d∈kr a p,qH a d=0:=by
  intro d z;unfold kr at z;rcases List.mem_append.1 z with z | z
  ·exact Gf H ht.needs d z
  ·exact Gf H ht.bars d z
 have I:ni (up b (kr a p))=0:=by
  unfold ni at D |-;rw[RO];split at D
  ·cases D
  ·rename_i J;rw[if_neg J,gD];intro d z;exact(O d (Gd z)).1
 rw[e];unfold wQ;rw[if_neg (fun V=>V H),if_neg (by rw[I];simp),gD];intro d z;exact M d (Gd z)
structure jH.fits (k:jH):Prop where
 path:k.path.size<=9223372036854775807
 s0:k.s0.size<=9223372036854775807
 s1:k.s1.size<=9223372036854775807
 s2:k.s2.size<=9223372036854775807
 s3:k.s3.size<=9223372036854775807
def Tw (p:Prop)(w:World)(e:Ending)(w':World):Prop:=∃ b:Bool,e=.returned (.bool b)/\(b=true->p)/\Bw w w'
theorem qR (h:Bw w w'):Tw p w (.returned (.bool false)) w':=⟨false,rfl,(fun h=>by cases h),h⟩
theorem Ww (z:p)(h:Bw w w'):Tw p w (.returned (.bool true)) w':=⟨true,rfl,fun _=>z,h⟩
theorem abB {α:Type}{p:α->Prop}{l:List α}{x:α}(h:∀ y∈l.take k,p y)(F:l[k]?=some x)(D:p x):∀ y∈l.take (k+1),p y:=by
 intro g z;rw[gC F] at z;rcases List.mem_append.1 z with z | z
 ·exact h g z
 ·rw[List.mem_singleton.1 z];exact D
theorem Gg (A:OA)(c:Nat)(l:List jH)(w:World)(V:Rd w 5 A l.length (l.flatMap jH.cells))(U:∀ k∈l,k.fits)(hl:l.length<=9223372036854775807):Calls prog 21 #[.slice A l.length c] w (Tw (l.length<=100/\∀ k∈l,k.small) w):=by
 have HR:=fH V;have HO:=fH U;clear V U;by_cases hc:100<l.length
 ·have d1:decide ((100:Int)<l.length)=true:=dT (by omega);go_in;go_wp2;go_ret;exact qR bR
 have K:Hid (l.length<=100):=by show _<=_;omega
 have d1:decide ((100:Int)<l.length)=false:=dF (by omega);clear hc;go_in;go_wp2;go_loop [3] (fun i=>∃ k:Nat,k<=l.length/\i=.int .i64 k/\Hid (∀ y∈l.take k,y.small)) (fun i=>l.length-(intOf i).toNat)
 case atStart=>exact⟨0,z0,rfl,by intro g hg;simp at hg⟩
 case round=>
  obtain⟨k,hk,rfl,X⟩:=hrel;by_cases z:k<l.length
  ·obtain⟨x,D⟩:∃ x,l[k]?=some x:=⟨_,gG z⟩
   obtain⟨b,off,R,Y⟩:=HR.elem J2 k x D;obtain⟨e0,e1,e2,e3,e4⟩:=rF Y;simp only[Nat.add_zero] at e0;have Z:=fun W=>gi (T:=23) (E:=64) (sz:=5) (c:=c) underlying23 rfl sizeOf64 R z W;obtain⟨z0,z1,z2,z3,z4⟩:=HO.out x (gM D);have HX:=fH D;clear D R Y;obtain⟨J,h0⟩:∃ J,decide ((300:Int)<x.path.size)=J:=⟨_,rfl⟩
   obtain⟨F,h1⟩:∃ F,decide ((300:Int)<x.s0.size)=F:=⟨_,rfl⟩
   obtain⟨M,h2⟩:∃ M,decide ((300:Int)<x.s1.size)=M:=⟨_,rfl⟩
   obtain⟨I,h3⟩:∃ I,decide ((300:Int)<x.s2.size)=I:=⟨_,rfl⟩
   obtain⟨O,h4⟩:∃ O,decide ((300:Int)<x.s3.size)=O:=⟨_,rfl⟩
   cases J
   rotate_left
   ·go_wp2;go_ret;exact qR bR
   go_wp2_with fail;refine wp_loop_rounds 5 ?_;rw[rounds_succ];cases F
   rotate_left
   ·go_wp2;go_ret;exact qR bR
   go_wp2_with fail;rw[rounds_succ];cases M
   rotate_left
   ·go_wp2;go_ret;exact qR bR
   go_wp2_with fail;rw[rounds_succ];cases I
   rotate_left
   ·go_wp2;go_ret;exact qR bR
   go_wp2_with fail;rw[rounds_succ];cases O
   rotate_left
   ·go_wp2;go_ret;exact qR bR
   go_wp2_with fail;rw[rounds_succ];have H:Hid (∀ y∈l.take (k+1),y.small):=abB X HX ⟨by have:=of_decide_eq_false h0;omega,by have:=of_decide_eq_false h1;omega,by have:=of_decide_eq_false h2;omega,by have:=of_decide_eq_false h3;omega,by have:=of_decide_eq_false h4;omega⟩;go_wp2;go_round
   case rel=>exact⟨k+1,by omega,by go_num,H⟩
   case measure=>simp[intOf];omega
  ·have HN:Hid (∀ y∈l,y.small):=by have:=X.out;rwa [tL (by omega)] at this
   go_wp2;go_ret;exact Ww ⟨K,HN⟩ bR
theorem Lw {a:fP}(h:a.told fmt):(bl a.nm).length<=64/\(bl a.ver).length<=64/\a.op.toNat<=5:=by
 have H:=h.op0;have F:=h.op5;refine⟨(sh h.name).2,?_,by omega⟩;by_cases e:a.op=0
 ·rw[h.none e];simp
 ·obtain⟨c,z,D⟩:=h.ver e;rw[D];unfold iR at z;simp only[Bool.and_eq_true,decide_eq_true_eq] at z;exact z.2.2
theorem Gs (k:Nat)(h:k<=5):(Mm k).length<=2/\(XM k).length<=2/\(nN k).length<=2:=by
 rcases(by omega:k=0\/k=1\/k=2\/k=3\/k=4\/k=5) with rfl | rfl | rfl | rfl | rfl | rfl<;>decide
theorem WK {a:fP}(h:a.told 1):(sY a).text.length<=200:=by
 obtain⟨D,F,z⟩:=Lw h;have H:=(Gs _ z).1;unfold iU.text sY;simp only[List.isEmpty_nil,if_true,List.append_nil];split
 ·simp;omega
 ·simp only[List.length_append,List.length_cons,List.length_nil];omega
theorem JM {a:fP}(h:a.told 2):(ij (js a)).length<=200:=by
 obtain⟨D,F,z⟩:=Lw h;have H:=(Gs _ z).2.1;unfold js;simp only[ij];split
 ·omega
 ·simp only[List.length_append,List.length_cons,List.length_nil];omega
theorem WL (no:Bool){a:fP}(h:a.told 3):(⟨no,bl a.nm,a.op.toNat,bl a.ver⟩:jP).text.length<=200:=by
 obtain⟨D,F,z⟩:=Lw h;have H:=(Gs _ z).2.2;unfold jP.text;simp only;cases no<;>simp only[List.length_append,List.length_cons,List.length_nil,if_true,if_false,Bool.false_eq_true]<;>omega
theorem Gt:∀ (l:List fP)(i:Nat),(∀ a∈l,a.told 2)->(jM kT i (l.map js)).length<=l.length*212
 | [],i,_=>by simp[jM]
 | a::r,i,h=>by
  have F:=JM (h a (by simp));have D:=Gt r (i+1) (fun x z=>h x (by simp[z]));have H:=Ss (op:=kT) (i:=i) (by decide);simp only[List.map_cons,jM,List.length_append,List.length_cons];split
  ·simp;omega
  ·simp;omega
theorem ZM {l:List gI}(h:wQ fmt l=0):iY fmt/\(∀ d∈l.map (kD 1 fmt),d.told fmt)/\gB (l.map (kD 1 fmt))<=64:=by
 unfold wQ at h;by_cases D:iY fmt
 rotate_left
 ·rw[if_pos D] at h;cases h
 rw[if_neg (fun J=>J D)] at h;by_cases z:ni l=0
 rotate_left
 ·rw[if_pos z] at h;exact absurd h z
 rw[if_neg (by simpa using z)] at h;unfold ni at z;split at z
 ·cases z
 rename_i I;refine⟨D,fun d H=>?_,by rw[qK];omega⟩;obtain⟨x,F,rfl⟩:=List.mem_map.1 H;exact(uY D (gD.1 z x F) (gD.1 h x F)).1
theorem OS (hf:iY fmt){out:List gI}(h:∀ d∈out,d.told fmt)(Z:gB out<=64)(bar:Bool):(iL fmt bar out).length<=64/\∀ t∈iL fmt bar out,t.length<=1000000:=by
 have I:out.length<=64:=Nat.le_trans (qf fun d H=>(h d H).ne) Z;have U:(iJ bar out).length<=64:=Nat.le_trans (List.length_filter_le _ _) I;have K:∀ d∈out,d.alts.length<=64:=fun d H=>Nat.le_trans (uq H) Z;unfold iL;rcases hf with rfl | rfl | rfl
 ·rw[if_pos rfl];split
  ·simp
  ·refine⟨by simp,fun t ht=>?_⟩;rw[List.mem_singleton.1 ht];unfold jQ;have R:∀ x∈((iJ bar out).map fun d=>d.alts.map sY).map (fun g=>Lib.join (g.map iU.text) [32,124,32]),x.length<=13000:=by
    intro x hx;obtain⟨g,R,rfl⟩:=List.mem_map.1 hx;obtain⟨d,H,rfl⟩:=List.mem_map.1 R;have J:=(kV H).1;have O:=pQ [32,124,32] 200 ((d.alts.map sY).map iU.text) (fun y Y=>by
     obtain⟨z,X,rfl⟩:=List.mem_map.1 Y;obtain⟨a,ha,rfl⟩:=List.mem_map.1 X;exact WK ((h d J).each a ha))
    have M:=K d J;refine Nat.le_trans O ?_;simp only[List.length_map,List.length_cons,List.length_nil];omega
   have V:=pQ [44,32] 13000 _ R;refine Nat.le_trans V ?_;simp only[List.length_map,List.length_cons,List.length_nil];omega
 ·rw[if_neg (by decide),if_pos rfl];refine⟨by rw[List.length_map];exact U,fun t ht=>?_⟩;obtain⟨d,H,rfl⟩:=List.mem_map.1 ht;have J:=(kV H).1;have D:=h d J;have M:=K d J;obtain⟨b,F⟩:=d
  match F,D,M with
  | [],D,_=>exact absurd rfl D.ne
  | [g],D,_=>exact Nat.le_trans (JM (D.each g (by simp))) (by omega)
  | g::g2::r,D,M=>
   have V:=Gt (g::g2::r) 0 D.each;show(ij (.node kT ((g::g2::r).map js))).length<=_;simp only[ij,List.length_append,List.length_cons,List.length_nil] at V M |-;omega
 ·rw[if_neg (by decide),if_neg (by decide)];split
  ·simp
  ·refine⟨by simp,fun t ht=>?_⟩;rw[List.mem_singleton.1 ht];unfold ko;have O:=pQ [32] 200 ((out.map oz).map jP.text) (fun y Y=>by
    obtain⟨z,X,rfl⟩:=List.mem_map.1 Y;obtain⟨d,H,rfl⟩:=List.mem_map.1 X;have D:=h d H;obtain⟨b,F⟩:=d
    match F,D with
    | [],D=>exact absurd rfl D.ne
    | g::r,D=>exact WL b (D.each g (by simp)))
   refine Nat.le_trans O ?_;simp only[List.length_map,List.length_cons,List.length_nil];omega
theorem OT {l:List gI}(h:wQ fmt l=0)(bar:Bool):(wD fmt bar l).length<=64/\∀ t∈wD fmt bar l,t.length<=1000000:=by
 obtain⟨z,D,F⟩:=ZM h;exact OS z D F bar
end
section
open Go.ChangeShapes Go.WideShapes Go.Deep Go.RowKit
section
variable {H : Type} {enc : TypeId × Value -> H} {w : World} {spare : Nat -> Bool}
theorem OX {cs:LV}{y:DataW H×List MemPlace}(h:DataW.trod enc prog w 0 spare true n 64 cs=some y):∃ k:jH,cs=k.cells/\k.fits:=by
 have hC:prog.cellsOf 64=5:=by kernel_rfl
 have hS:prog.cellsOf 9=1:=by kernel_rfl
 have hA:prog.cellsOf 62=4:=by kernel_rfl
 obtain⟨xs,n1,_,_,hl,J,hf⟩:=DataW.trod_struct underlying64 h;rw[hC] at hl
 match cs,hl with
 | [c0,c1,c2,c3,c4],_=>
  have M:DataW.trod enc prog w 0 spare true n1 9 (([c0,c1,c2,c3,c4].drop 0).take (prog.cellsOf 9))=xs[0]?:=hf 0 _ rfl;have Y:DataW.trod enc prog w 0 spare true n1 62 (([c0,c1,c2,c3,c4].drop 1).take (prog.cellsOf 62))=xs[1]?:=hf 1 _ rfl;have aa:xs.length=2:=J;rw[hS,gG (by omega)] at M;rw[hA,gG (by omega)] at Y;obtain⟨Z,D,_,w0⟩:=DataW.trod_string underlying9 M;have D:[c0]=[Value.string Z]:=D;injection D with D _;obtain⟨F,m,_,_,_,ab,z⟩:=DataW.trod_array underlying62 Y;have X:DataW.trod enc prog w 0 spare true m 9 (([c1,c2,c3,c4].drop (0*prog.cellsOf 9)).take (prog.cellsOf 9))=F[0]?:=z 0 (by decide);have I:DataW.trod enc prog w 0 spare true m 9 (([c1,c2,c3,c4].drop (1*prog.cellsOf 9)).take (prog.cellsOf 9))=F[1]?:=z 1 (by decide);have k2:DataW.trod enc prog w 0 spare true m 9 (([c1,c2,c3,c4].drop (2*prog.cellsOf 9)).take (prog.cellsOf 9))=F[2]?:=z 2 (by decide);have R:DataW.trod enc prog w 0 spare true m 9 (([c1,c2,c3,c4].drop (3*prog.cellsOf 9)).take (prog.cellsOf 9))=F[3]?:=z 3 (by decide);rw[hS,gG (by omega)] at X I k2 R;obtain⟨s1,z1,_,w1⟩:=DataW.trod_string underlying9 X;obtain⟨V,z2,_,w2⟩:=DataW.trod_string underlying9 I;obtain⟨s3,z3,_,w3⟩:=DataW.trod_string underlying9 k2;obtain⟨K,z4,_,w4⟩:=DataW.trod_string underlying9 R;have O:[c1]=[Value.string s1]:=z1;have y2:[c2]=[Value.string V]:=z2;have U:[c3]=[Value.string s3]:=z3;have y4:[c4]=[Value.string K]:=z4;clear z1 z2 z3 z4 X I k2 R z M Y hf h;injection O with O _;injection y2 with y2 _;injection U with U _;injection y4 with y4 _;subst D O y2 U y4;unfold maxLen at w0 w1 w2 w3 w4;exact⟨⟨Z,s1,V,s3,K⟩,rfl,⟨by show Z.size<=_;omega,by show s1.size<=_;omega,by show V.size<=_;omega,by show s3.size<=_;omega,by show K.size<=_;omega⟩⟩
theorem Sf {fuel:Nat}{d:DataW H×List MemPlace}(h:DataW.trod enc prog w 0 spare true fuel 23 [v]=some d):
  ∃ (A:OA) (c:Nat) (l:List jH),v=.slice A l.length c/\Rd w 5 A l.length (l.flatMap jH.cells)/\(∀ k∈l,k.fits)/\l.length<=9223372036854775807:=by
 rcases open_slice underlying23 h with⟨z,_⟩ | ⟨a,len,cap,m,n,D,Pl,z,_,hl,hm,U,_,hi⟩
 ·injection z with z _;exact⟨none,0,[],z,Rd.nil _ _ _,fun x M=>by simp at M,z0⟩
 ·injection z with z _;have aa:len<=m:=by rw[U];split<;>omega
  have key:∀ i,i<len->∃ x:jH,x.fits/\∀ (j:Nat)(u:Value),x.cells[j]?=some u->w.cell? ⟨a.block,a.off+(i*5+j),none⟩=some u/\a.add (i*5+j)=⟨a.block,a.off+(i*5+j),none⟩:=by
   intro i K;obtain⟨ab,hc,Y⟩:=hi i (by omega);rw[show prog.cellsOf 64=5 by kernel_rfl] at hc;obtain⟨k,rfl,hk⟩:=OX Y;obtain⟨_,ac,V⟩:=World.cells?_some hc;refine⟨k,hk,fun j u R=>?_⟩;have hj:j<5:=(gS R).1;have O:=V j hj;rw[R,Go.Deep.add_add] at O;have J:=vj O;rw[J] at O;exact⟨O,J⟩
  obtain⟨l,I,F⟩:=CJ len key;refine⟨some a,cap,l,by rw[I];exact z,⟨mw J2 l,fun hn=>?_⟩,fun x M=>?_,by rw[I];unfold maxLen at hm;omega⟩
  ·obtain⟨x0,Z⟩:∃ x,l[0]?=some x:=⟨_,gG hn⟩
   refine⟨a.block,a.off,?_,fun j u R=>?_⟩
   ·have J:=((F 0 x0 Z).2 0 _ rfl).2;simp only[Nat.zero_mul,Nat.zero_add,Addr.add,if_pos,Nat.add_zero] at J;rw[<-J]
   ·obtain⟨i,k,x,M,hk,rfl,X⟩:=Gu J2 (by decide) l j u R;exact((F i x M).2 k u X).1
  ·obtain⟨i,K,rfl⟩:=List.getElem_of_mem M;exact(F i _ (gG K)).1
end
end
end Go.Proofs.YtkmjcombhjombaaGreatDoor
