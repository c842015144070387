/- A part of the proof. -/
import Derived.Test.YtkmjcombhjombaaGreatDoorK21
import Derived.Test.YtkmjcombhjombaaGreatDoorK22
set_option maxRecDepth 100000
set_option maxHeartbeats 20000000
set_option linter.unusedVariables false
set_option linter.unusedSimpArgs false
namespace Go.Proofs.YtkmjcombhjombaaGreatDoor
variable{v:BA}{bar:Bool}{a b fmt:Int}{l:LU}
section
open Go.RowKit Go.Deep
theorem Ec {T:iZ}(h:lT T)(hcn:T.cnt<=64)(hht:T.ht<=32)(w:World)(hG:Gl w)(hO:kD w 0 none T):Calls Tryz.prog 139 #[T.val] w fun e w'=>e=.returned (.tuple #[.string (ke (jX T.pl)),.int .i64 0])/\Below w.heap.size w w':=by
 have R:=iV hG;have N:=iV hO;obtain⟨F,y⟩:∃ F,w.alloc (.cells #[.string T.op,.string T.nm,.int .i64 T.aop,.string T.ver,.slice T.ka T.kids.length T.kc] 86)=F:=⟨_,rfl⟩
 have J:Hid (Below w.heap.size w F):=by rw[<-y];exact bR.alloc lr _
 have D:Hid (jh F w.heap.size T.cells):=by rw[<-y];exact jh.new w T.cells _
 have O:=D.out.cell 0 _ rfl;have Z:=D.out.cell 1 _ rfl;have V:=D.out.cell 2 _ rfl;have M:=D.out.cell 3 _ rfl;have K:=D.out.cell 4 _ rfl;have U:=uQ T 0 h.shape hcn hht F (R.out.below J.out) (N.out.low J.out) (fun W g o=>OU h W g o hcn);have HT:Hid (∀ W,Gl W->kD W 0 none T->Calls Tryz.prog 195 #[T.val] W fun e w'=>e=.returned (.string (ke (jX T.pl)))/\Below W.heap.size W w'):=fun W g o=>Ts h W g o hcn;clear h hcn hht hG hO;obtain⟨X,Y⟩:∃ X,ke (jX T.pl)=X:=⟨_,rfl⟩
 rw[Y] at HT |-;clear Y;unfold iZ.val at *;go_in;go_wp2_with fail;clear y;refine U.mono ?_;rintro e w2 ⟨rfl,z⟩;have I:=iV (jc J.out z);have H:=iV (D.out.below z);clear z O Z V M K U;have O:=H.out.cell 0 _ rfl;have Z:=H.out.cell 1 _ rfl;have V:=H.out.cell 2 _ rfl;have M:=H.out.cell 3 _ rfl;have K:=H.out.cell 4 _ rfl;go_wp2_with fail;refine(HT.out w2 (R.out.below I.out) (N.out.low I.out)).mono ?_;rintro e w3 ⟨rfl,z⟩;have B3:=iV (jc I.out z);clear z;go_wp2;go_ret2;exact⟨rfl,B3.out⟩
theorem LV (w:World)(hG:Gl w):Calls Tryz.prog 139 #[tE.val] w fun e w'=>e=.returned (.tuple #[.string ⟨#[]⟩,.int .i64 10])/\Below w.heap.size w w':=by
 have D:=iV hG;have y:=uQ tE 10 nL.zero (by decide) (by decide) (w.alloc (.cells #[.string ⟨#[]⟩,.string ⟨#[]⟩,.int .i64 0,.string ⟨#[]⟩,.slice none 0 0] 86)) (D.out.alloc _) (DU _ _ _ _ _ _) (fun W _ _=>LD W);rw[vw] at y |-;have H:Hid (Below w.heap.size w (w.alloc (.cells #[.string ⟨#[]⟩,.string ⟨#[]⟩,.int .i64 0,.string ⟨#[]⟩,.slice none 0 0] 86))):=bR.alloc lr _;clear hG;go_in;go_wp2_with fail;refine y.mono ?_;rintro e I ⟨rfl,z⟩;have F:=iV (jc H.out z);clear z y;go_wp2;go_ret2;exact⟨rfl,F.out⟩
theorem GC (h:lJ l=none):qd l=false:=by unfold qd;rw[h];simp
theorem GD {d:oM}(h:lJ l=some d)(h0:l≠[]):qd l=decide (jX d=l):=by
 unfold qd;rw[h];simp[h0]
theorem Ed (s:BA)(w:World)(hG:Gl w)(hs:s.size<=1000000):Calls Tryz.prog 111 #[.int .i64 2,.string s] w (Dy s (qd (bl s)) w):=by
 have HG:=iV hG;clear hG;have B0:Hid (Below w.heap.size w (w.alloc (.cells #[.string ⟨#[]⟩,.int .i64 0,.int .i64 0] 132))):=bR.alloc lr _;have K0:Hid (jh (w.alloc (.cells #[.string ⟨#[]⟩,.int .i64 0,.int .i64 0] 132)) w.heap.size [.string ⟨#[]⟩,.int .i64 0,.int .i64 0]):=jh.new w _ _;go_in;go_wp2_with fail;refine(Eb s _ (HG.out.below B0.out) (by omega)).mono ?_;rintro e F ⟨T,f,a,z,rfl,U,D⟩;have B1:=iV (jc B0.out U);have K1:=iV (K0.out.below U);have ah:w.heap.size<F.heap.size:=K1.out.sz;have ag:¬ w.heap.size=F.heap.size:=by omega
 clear U;cases hp:lJ (bl s) with
 | none=>
  rw[hp] at D;obtain⟨hc,rfl⟩:=D;have EN:=iV (GC hp);have ai:(z==0)=false:=by simp[hc]
  clear hp hc;obtain⟨J,y⟩:∃ J,(F.alloc (.cells #[.string ⟨#[]⟩,.string ⟨#[]⟩,.int .i64 0,.string ⟨#[]⟩,.slice none 0 0] 86)).alloc (.cells #[.string f,.int .i64 a,.int .i64 z] 132)=J:=⟨_,rfl⟩
  have V:Hid (Below F.heap.size F J):=by rw[<-y];exact(bR.alloc lr _).alloc (by simp) _
  have K:Hid (jh J F.heap.size [.string ⟨#[]⟩,.string ⟨#[]⟩,.int .i64 0,.string ⟨#[]⟩,.slice none 0 0]):=by rw[<-y];exact(jh.new F [.string ⟨#[]⟩,.string ⟨#[]⟩,.int .i64 0,.string ⟨#[]⟩,.slice none 0 0] _).alloc _
  have O:Hid (jh J (F.heap.size+1) [.string f,.int .i64 a,.int .i64 z]):=by
   have:=jh.new (F.alloc (.cells #[.string ⟨#[]⟩,.string ⟨#[]⟩,.int .i64 0,.string ⟨#[]⟩,.slice none 0 0] 86)) [.string f,.int .i64 a,.int .i64 z] 132;rw[<-y];show jh _ _ _;simpa using this
  have H:=iV (K1.out.below V.out);have BB:=iV (jc B1.out V.out);have r0:=H.out.cell 0 _ rfl;have r1:=H.out.cell 1 _ rfl;have r2:=H.out.cell 2 _ rfl;have ae:=H.out.free 0 (by simp);have ad:=H.out.free 1 (by simp);have ac:=H.out.free 2 (by simp);have d0:=O.out.cell 0 _ rfl;have d1:=O.out.cell 1 _ rfl;have d2:=O.out.cell 2 _ rfl;have e0:=K.out.cell 0 _ rfl;have e1:=K.out.cell 1 _ rfl;have e2:=K.out.cell 2 _ rfl;have e3:=K.out.cell 3 _ rfl;have e4:=K.out.cell 4 _ rfl;have KS:=iV (((H.out.set 0 (by simp) (.string f)).set 1 (by simp) (.int .i64 a)).set 2 (by simp) (.int .i64 z));have BS:=iV (jb (j:=2) (jb (j:=1) (jb (j:=0) BB.out lr (.string f)) lr (.int .i64 a)) lr (.int .i64 z));have R:=LV _ (HG.out.below BS.out);unfold nC;rw[vw] at R |-;go_upto_region 14 with(fail)
  clear y;go_wp2_with fail;refine R.mono ?_;rintro e w4 ⟨rfl,I⟩;have c2:=(KS.out.below I).cell 2 _ rfl;have B4:=iV (jc BS.out I);clear I;go_wp2;go_ret2;exact⟨_,false,rfl,B4.out,fun _=>by rw[EN.out];simp⟩
 | some t=>
  rw[hp] at D;obtain⟨rfl,hT,Z,N,Y,aa⟩:=D;have EN:Hid (s.size≠0->(ke (jX T.pl)=s↔qd (bl s)=true)):=fun h0=>by rw[GD hp (VQ h0),<-hT,decide_eq_true_iff];exact zu
  clear hp hT;obtain⟨J,y⟩:∃ J,(F.alloc (.cells #[.string T.op,.string T.nm,.int .i64 T.aop,.string T.ver,.slice T.ka T.kids.length T.kc] 86)).alloc (.cells #[.string f,.int .i64 a,.int .i64 0] 132)=J:=⟨_,rfl⟩
  have V:Hid (Below F.heap.size F J):=by rw[<-y];exact(bR.alloc lr _).alloc (by simp) _
  have K:Hid (jh J F.heap.size T.cells):=by rw[<-y];exact(jh.new F T.cells _).alloc _
  have O:Hid (jh J (F.heap.size+1) [.string f,.int .i64 a,.int .i64 0]):=by
   have:=jh.new (F.alloc (.cells #[.string T.op,.string T.nm,.int .i64 T.aop,.string T.ver,.slice T.ka T.kids.length T.kc] 86)) [.string f,.int .i64 a,.int .i64 0] 132;rw[<-y];show jh _ _ _;simpa using this
  have H:=iV (K1.out.below V.out);have BB:=iV (jc B1.out V.out);have r0:=H.out.cell 0 _ rfl;have r1:=H.out.cell 1 _ rfl;have r2:=H.out.cell 2 _ rfl;have ae:=H.out.free 0 (by simp);have ad:=H.out.free 1 (by simp);have ac:=H.out.free 2 (by simp);have d0:=O.out.cell 0 _ rfl;have d1:=O.out.cell 1 _ rfl;have d2:=O.out.cell 2 _ rfl;have e0:=K.out.cell 0 _ rfl;have e1:=K.out.cell 1 _ rfl;have e2:=K.out.cell 2 _ rfl;have e3:=K.out.cell 3 _ rfl;have e4:=K.out.cell 4 _ rfl;have KS:=iV (((H.out.set 0 (by simp) (.string f)).set 1 (by simp) (.int .i64 a)).set 2 (by simp) (.int .i64 0));have BS:=iV (jb (j:=2) (jb (j:=1) (jb (j:=0) BB.out lr (.string f)) lr (.int .i64 a)) lr (.int .i64 0));have M:w.heap.size<(w.alloc (.cells #[.string ⟨#[]⟩,.int .i64 0,.int .i64 0] 132)).heap.size:=by simp
  have af:=iV (((((N.low V.out).kept M (jO (j:=0) (.string f))).kept M (jO (j:=1) (.int .i64 a))).kept M (jO (j:=2) (.int .i64 0))).base z0);have R:=Ec Z aa Y _ (HG.out.below BS.out) af.out;obtain⟨X,hX⟩:∃ X,ke (jX T.pl)=X:=⟨_,rfl⟩
  rw[hX] at R EN;clear Z N Y aa hX M;have ab:=iV y;clear y;unfold nC iZ.val;unfold iZ.val at R;go_upto_region 14 with(fail)
  rw[ab.out];go_wp2_with fail;refine R.mono ?_;rintro e w4 ⟨rfl,I⟩;have c2:=(KS.out.below I).cell 2 _ rfl;have B4:=iV (jc BS.out I);clear I R;go_wp2;go_ret2;exact⟨X,true,rfl,B4.out,fun h=>by have:=EN.out h;simpa using this⟩
def YL (fo no:Bool)(ev:Int)(ao so ndo bo go:Bool)(fe:BA×Int)(se:Int):BA×Int:=
 if fo=false then (⟨#[102,111,114,109,97,116]⟩,9) else if no=false then (⟨#[110,97,109,101]⟩,10) else if ev≠0 then (⟨#[118,101,114,115,105,111,110]⟩,ev) else if ao=false then (⟨#[97,114,99,104]⟩,1) else if so=false then (⟨#[115,117,109,109,97,114,121]⟩,3)
 else if ndo=false then (⟨#[110,101,101,100,115]⟩,3) else if bo=false then (⟨#[98,97,114,115]⟩,3) else if go=false then (⟨#[103,105,118,101,115]⟩,3) else if fe.2≠0 then fe else (⟨#[115,99,114,105,112,116,115]⟩,se)
theorem Wr (nm:BA)(fo no:Bool)(ev:Int)(ao so ndo bo go:Bool)(fe:BA×Int)(se:Int):
  sD nm fo no ev ao so ndo bo go fe.1 fe.2 se=if (YL fo no ev ao so ndo bo go fe se).2=0 then oU ⟨#[]⟩ ⟨#[]⟩ 0 else oU nm (YL fo no ev ao so ndo bo go fe se).1 (YL fo no ev ao so ndo bo go fe se).2:=by
 unfold sD YL;by_cases D:ev=0
 ·subst D;cases fo
  ·rfl
  cases no
  ·rfl
  cases ao
  ·rfl
  cases so
  ·rfl
  cases ndo
  ·rfl
  cases bo
  ·rfl
  cases go
  ·rfl
  by_cases y:fe.2=0
  ·by_cases z:se=0
   ·simp[y,z]
   ·simp[y,z]
  ·simp[y]
 ·cases fo
  ·rfl
  cases no
  ·rfl
  simp[D]
structure jn.small (p:jn):Prop where
 nm:p.nm.size<=1000000
 ver:p.ver.size<=1000000
 ar:p.ar.size<=1000000
 sm:p.sm.size<=1000000
 needs:p.needs.length<=1000000
 bars:p.bars.length<=1000000
 gives:p.gives.length<=1000000
 files:p.files.length<=1000000
 scripts:p.scripts.length<=1000000
 needs_:∀ s∈p.needs,s.size<=1000000
 bars_:∀ s∈p.bars,s.size<=1000000
 gives_:∀ x∈p.gives,x.nm.size<=4294967280/\x.ver.size<=4294967280
 files_:∀ x∈p.files,x.path.size<=4294967280/\x.owner.size<=4294967280/\x.group.size<=4294967280/\x.link.size<=4294967280/\x.sum.size<=4294967280
 scripts_:∀ x∈p.scripts,x.body.size<=4294967280
theorem sK {α:Type}(f:α->Nat):∀ (l:List α),(∀ x∈l,f x<=(l.map f).sum)
 | [],x,h=>by simp at h
 | a::r,x,h=>by
  simp only[List.map_cons,List.sum_cons];rcases List.mem_cons.1 h with rfl | h
  ·omega
  ·have:=sK f r x h;omega
theorem qg {α:Type}(f:α->Nat)(hf:∀ x,1<=f x):∀ (l:List α),l.length<=(l.map f).sum
 | []=>by simp
 | a::r=>by simp only[List.map_cons,List.sum_cons,List.length_cons];have:=qg f hf r;have:=hf a;omega
theorem jn.small_of {p:jn}(h:sW p<=1000000):p.small:=by
 unfold sW mz kT mY my mO at h;have H:=qg (fun s:BA=>1+s.size) (fun _=>by omega) p.needs;have D:=qg (fun s:BA=>1+s.size) (fun _=>by omega) p.bars;have I:=qg (fun x:jf=>1+x.nm.size+x.ver.size) (fun _=>by omega) p.gives;have z:=qg (fun x:jg=>1+x.path.size+x.owner.size+x.group.size+x.link.size+x.sum.size) (fun _=>by omega) p.files;have F:=qg (fun x:jy=>1+x.body.size) (fun _=>by omega) p.scripts;refine⟨by omega,by omega,by omega,by omega,by omega,by omega,by omega,by omega,by omega,fun s y=>?_,fun s y=>?_,fun s y=>?_,fun s y=>?_,fun s y=>?_⟩
 ·have:=sK (fun s:BA=>1+s.size) p.needs s y;omega
 ·have:=sK (fun s:BA=>1+s.size) p.bars s y;omega
 ·have:=sK (fun x:jf=>1+x.nm.size+x.ver.size) p.gives s y;constructor<;>omega
 ·have:=sK (fun x:jg=>1+x.path.size+x.owner.size+x.group.size+x.link.size+x.sum.size) p.files s y;refine⟨?_,?_,?_,?_,?_⟩<;>omega
 ·have:=sK (fun x:jy=>1+x.body.size) p.scripts s y;omega
def Re (fmt:Int):LU->Bool:=if fmt=1 then pX else if fmt=2 then qd else pW
theorem Rf (fmt:Int):Re fmt []=false:=by unfold Re;(repeat' split)<;>rfl
theorem sL (fmt:Int)(s:BA)(w:World)(hG:QN w)(hs:s.size<=1000000):Calls Tryz.prog 111 #[.int .i64 fmt,.string s] w (Dy s (Re fmt (bl s)) w):=by
 unfold Re;by_cases z:fmt=1
 ·subst z;exact Dz s w hG.1 hs
 ·by_cases y:fmt=2
  ·subst y;exact Ed s w hG.1 hs
  ·rw[if_neg z,if_neg y];exact DA fmt z y s w hG hs
theorem L9 {n:Int}(h:pN n=true):n=1\/n=2\/n=3:=dO h
def ny (fmt:Int)(p:jn):BA×Int:=
 YL (pN fmt) (jZ (bl p.nm)) (kf fmt p.ver) (pR fmt p.ar) (Cz (bl p.sm)) (nw fmt false (Re fmt) p.needs) (nw fmt true (Re fmt) p.bars) (oY fmt p.gives) (kR fmt p.files) (lH fmt p.scripts)
theorem JJ (fmt:Int)(p:jn)(w:World)(h:pN fmt=false):Calls Tryz.prog 34 #[.int .i64 fmt,p.val] w fun e w'=>e=.returned (ZL p.nm (ny fmt p))/\Below w.heap.size w w':=by
 have E:Hid (ZL p.nm (ny fmt p)=oU p.nm ⟨#[102,111,114,109,97,116]⟩ 9):=by show _=_;unfold ny YL;rw[if_pos h];rfl
 generalize ZL p.nm (ny fmt p)=V at *;have H:=fun W=>sZ fmt W;rw[h] at H;clear h;unfold jn.val;go_in;go_wp2_with fail;refine(H _).mono ?_;rintro e M ⟨rfl,z⟩;have D:=xN.start w p.nm p.ver p.ar p.sm _ _ _ _ _ z;clear z;have J:=iV D;have K:=D.sz;go_wp2_with fail;refine(jW _ p.nm _ _ M D.c0 rfl (by show w.heap.size<_;omega)).mono ?_;rintro e U ⟨rfl,F⟩;have I:=D.step F;have y:=iV I;obtain⟨N,sz,R,Y,c2,c3,X,c5,c6,O,c8,r0,Z,r2,f0,f1,f2⟩:=I;unfold oU;go_wp2_with fail;refine bodyPost_ret (v:=oU p.nm ⟨#[102,111,114,109,97,116]⟩ 9) (mK _ y.out rfl _ _ _) rfl ?_;exact⟨by rw[E.out],nU y.out _ _ _⟩
theorem JK (fmt:Int)(p:jn)(w:World)(hG:QN w)(hp:p.ok w)(hs:p.small):Calls Tryz.prog 34 #[.int .i64 fmt,p.val] w fun e w'=>e=.returned (ZL p.nm (ny fmt p))/\Below w.heap.size w w':=by
 cases h:pN fmt with
 | false=>exact JJ fmt p w h
 | true=>
  have I:=L9 h;have D:∀ {a b:Nat},a<=1000000->b=a->b<=9223372036854775807:=fun M K=>by omega
  have:=wI fmt p.nm p.ver p.ar p.sm p.na p.ba p.ga p.fa p.sa p.needs.length p.nc p.bars.length p.bc p.gives.length p.gc p.files.length p.fc p.scripts.length p.sc w (kf fmt p.ver) (kR fmt p.files).2 (lH fmt p.scripts) (nw fmt false (Re fmt) p.needs) (nw fmt true (Re fmt) p.bars) (oY fmt p.gives) (kR fmt p.files).1 (D hs.nm rfl) (D hs.sm rfl)
   (iV fun z y=>jT fmt p.ver z (hG.1.below y) (D hs.ver rfl))
   (iV fun z y=>tB fmt false (Re fmt) (Rf fmt) p.na p.nc p.needs z (hG.below y) (hp.needs.below y) (by have:=hs.needs;omega) (fun x H W F=>sL fmt x W F (hs.needs_ x H)))
   (iV fun z y=>tB fmt true (Re fmt) (Rf fmt) p.ba p.bc p.bars z (hG.below y) (hp.bars.below y) (by have:=hs.bars;omega) (fun x H W F=>sL fmt x W F (hs.bars_ x H)))
   (iV fun z y=>zB fmt p.ga p.gc p.gives z (hG.1.below y) (hp.gives.below y) (D hs.gives rfl) hs.gives_)
   (iV fun z y=>zC fmt I p.fa p.fc p.files z (hG.1.below y) (hp.files.below y) (D hs.files rfl) hs.files_)
   (iV fun z y=>xd fmt I p.sa p.sc p.scripts z (hp.scripts.below y) (D hs.scripts rfl) hs.scripts_)
  refine this.mono fun e w' ⟨J,y⟩=>⟨?_,y⟩
  rw[J,Wr];rfl
theorem Ma {p:jn}(h:(ny fmt p).2=0):(kR fmt p.files).2=0:=by
 unfold ny at h;generalize kR fmt p.files=fe at *;by_cases y:fe.2=0
 ·exact y
 ·unfold YL at h
  (repeat' split at h)<;>simp_all
theorem vx {l:List jn}{p:jn}(h:p∈l):sW p<=vL l:=by
 have:=sK (fun p:jn=>1+sW p) l p h;unfold vL;omega
theorem AQ (fmt:Int)(A:Option Addr)(c:Nat)(l:List jn)(w:World)(hG:QN w)(hd:tU w A l)(hl:l.length<=100000)(hwd:vL l<=10000000)(hw:∀ p∈l,sW p<=1000000):Calls Tryz.prog 17 #[.int .i64 fmt,.slice A l.length c] w fun e w'=>e=.returned (ZK (BL (ny fmt) (pN fmt) l))/\Below w.heap.size w w':=by
 have D:∀ p∈l,p.small:=fun p y=>jn.small_of (hw p y);refine Eh fmt (ny fmt) A c l w hG.1 hd hl hwd (fun p y=>⟨(D p y).files,fun x I=>?_⟩) (fun p y W H z=>JK fmt p W (hG.below H) z (D p y)) (fun p y h=>Ma h);have F:=hw p y;unfold sW my at F;have J:=sK (fun x:jg=>1+x.path.size+x.owner.size+x.group.size+x.link.size+x.sum.size) p.files x I;omega
end
section
open Go.RowKit
def lB (a:Int)(p:jn):List jA:=mh a false (p.needs.map bl)++mh a true (p.bars.map bl)
structure vg (a b:Int) (p:jn):Prop where
 needs:kZ a false (p.needs.map bl)=0
 bars:kZ a true (p.bars.map bl)=0
 toZ:za b (lB a p)=0
def qH (a b:Int)(g:jf):Prop:=jZ (bl g.nm)=true/\g.op=3/\(trans a b g.ver).2=0
def oZ (a b:Int)(kn:List kV)(f:jg):Prop:=nV b f.owner=true/\nV b f.group=true/\¬ (f.conf=true/\b=3)/\(f.kind=1->(lD a b kn f).size≠0)
structure oG (a b:Int) (kn:List kV) (p:jn):Prop where
 ver:(trans a b p.ver).2=0
 deps:vg a b p
 gives:∀ g∈p.gives,qH a b g
 files:∀ f∈p.files,oZ a b kn f
 scripts:∀ s∈p.scripts,zD b s.phase=true
def li (a b:Int)(kn:List kV)(f:jg):jg:=⟨f.path,f.kind,f.mode,f.owner,f.group,f.link,lD a b kn f,f.conf⟩
def wu (a b:Int)(s:BA):BA:=if (py a b s).2=0 then (py a b s).1 else s
structure xj (a b:Int) (kn:List kV) (p q:jn):Prop where
 nm:q.nm=p.nm
 ver:q.ver=ke (trans a b p.ver).1
 ar:q.ar=wu a b p.ar
 sm:q.sm=p.sm
 needs:q.needs.map bl=xz b false (lB a p)
 bars:q.bars.map bl=xz b true (lB a p)
 gives:q.gives=p.gives.map (sM a b)
 files:q.files=p.files.map (li a b kn)
 scripts:q.scripts=p.scripts
theorem WM {fo no:Bool}{ev:Int}{ao so ndo bo go:Bool}{fe:BA×Int}{se:Int}:
  (YL fo no ev ao so ndo bo go fe se).2=0↔fo=true/\no=true/\ev=0/\ao=true/\so=true/\ndo=true/\bo=true/\go=true/\fe.2=0/\se=0:=by
 unfold YL;constructor
 ·intro h
  (repeat' split at h)<;>simp_all
 ·rintro⟨rfl,rfl,rfl,rfl,rfl,rfl,rfl,rfl,h,rfl⟩;simp[h]
structure Ad (fmt:Int) (p:jn):Prop where
 isf:lE fmt
 name:jZ (bl p.nm)=true
 ver:kf fmt p.ver=0
 arch:pR fmt p.ar=true
 sum:Cz (bl p.sm)=true
 needs:nw fmt false (Re fmt) p.needs=true
 bars:nw fmt true (Re fmt) p.bars=true
 gives:oY fmt p.gives=true
 files:(kR fmt p.files).2=0
 scripts:lH fmt p.scripts=0
theorem yG {p:jn}:(ny fmt p).2=0↔Ad fmt p:=by
 unfold ny;rw[WM];constructor
 ·rintro⟨h0,h1,h2,h3,h4,h5,h6,h7,h8,h9⟩;exact⟨L9 h0,h1,h2,h3,h4,h5,h6,h7,h8,h9⟩
 ·rintro⟨h0,h1,h2,h3,h4,h5,h6,h7,h8,h9⟩;exact⟨dT h0,h1,h2,h3,h4,h5,h6,h7,h8,h9⟩
theorem Mp (ha:lE a)(hb:lE b)(h:(trans a b v).2=0):
  ∃ c,kf a v=0/\uw a (bl v)=some c/\ll b c=true/\(trans a b v).1=jU b c:=by
 unfold trans at h |-;rw[if_neg (by rintro(x | x);exact x ha;exact x hb)] at h |-;by_cases y:kf a v=0
 ·rw[if_neg (by simpa using y)] at h |-;cases hp:uw a (bl v) with
  | none=>rw[hp] at h;cases h
  | some c=>
   rw[hp] at h;simp only at h |-;unfold zN at h |-;by_cases z:ll b c=true
   ·rw[if_pos z];exact⟨c,y,rfl,z,rfl⟩
   ·rw[if_neg z] at h;cases h
 ·rw[if_pos y] at h;exact absurd h y
theorem AY (ha:lE a)(hb:lE b)(h:(trans a b v).2=0):kf b (ke (trans a b v).1)=0:=by
 obtain⟨c,_,_,y,e⟩:=Mp ha hb h;rw[e];exact sd hb y
theorem yH (ha:lE a)(hb:lE b)(s:BA):wu a b s=(if aw a 0=s then aw b 0 else if aw a 1=s then aw b 1 else if aw a 2=s then aw b 2 else s):=by
 have F:pN a=true:=dT ha;have H:pN b=true:=dT hb;have e:py a b s=(if aw a 0=s then (aw b 0,0) else if aw a 1=s then (aw b 1,0) else if aw a 2=s then (aw b 2,0) else (⟨#[]⟩,11)):=by
  unfold py;rw[F,H,if_neg (by simp)]
 unfold wu;rw[e];by_cases D:aw a 0=s
 ·rw[if_pos D,if_pos D];rfl
 rw[if_neg D,if_neg D];by_cases z:aw a 1=s
 ·rw[if_pos z,if_pos z];rfl
 rw[if_neg z,if_neg z];by_cases y:aw a 2=s
 ·rw[if_pos y,if_pos y];rfl
 rw[if_neg y,if_neg y];rfl
theorem PH (ha:lE a)(hb:lE b){s:BA}(h:pR a s=true):pR b (wu a b s)=true:=by
 unfold pR at h |-;rw[decide_eq_true_eq] at h |-;rw[yH ha hb];by_cases z:aw a 0=s
 ·rw[if_pos z];exact .inl rfl
 rw[if_neg z];by_cases y:aw a 1=s
 ·rw[if_pos y];exact .inr (.inl rfl)
 rw[if_neg y];by_cases D:aw a 2=s
 ·rw[if_pos D];exact .inr (.inr rfl)
 ·rcases h with h | h | h
  ·exact absurd h z
  ·exact absurd h y
  ·exact absurd h D
theorem Ul (h:jZ l=true):yu fmt l=true:=by
 unfold yu;split
 ·exact h
 ·split
  ·exact Cj h
  ·exact Ck h
theorem Mq (ha:lE a)(hb:lE b){l:List jf}(hl:oY a l=true)(h:∀ g∈l,qH a b g):oY b (l.map (sM a b))=true:=by
 unfold oY at hl |-;rw[Bool.and_eq_true,decide_eq_true_eq] at hl |-;refine⟨by rw[List.length_map];exact hl.1,?_⟩;rw[List.all_eq_true];intro g F;obtain⟨x,H,rfl⟩:=List.mem_map.1 F;obtain⟨z,J,y⟩:=h x H;unfold tG;rw[Ul (show jZ (bl (sM a b x).nm)=true from z)];have I:(sM a b x).op=3:=rfl;have D:kf b (sM a b x).ver=0:=AY ha hb y;rw[I,D];rfl
theorem Mr (hb:lE b){kn:List kV}{f:jg}(hk:f.kind=1)(hr:pG a f.sum=true)(h:(lD a b kn f).size≠0):pG b (lD a b kn f)=true:=by
 unfold lD at h |-;by_cases y:a=b
 ·subst y;rw[if_pos (.inr rfl)];exact hr
 ·rw[if_neg (by rintro(x | x);exact x hk;exact y x)] at h |-;cases e:lM a b kn f.path f.sum with
  | none=>rw[e] at h;exact absurd rfl h
  | some k=>exact(qL e).2.1
theorem xk {f:jg}:kQ fmt f=true↔(0<=f.mode/\f.mode<=4095)/\nV fmt f.owner=true/\nV fmt f.group=true/\(if f.kind=3 then decide (f.mode=511)&&rG (bl f.link)&&decide (f.link.size<=200) else decide (f.link.size=0))=true/\(if f.kind=1 then pG fmt f.sum&&(!f.conf||decide (fmt≠3)) else decide (f.sum.size=0) && !f.conf)=true:=by
 unfold kQ;simp only[Bool.and_eq_true,decide_eq_true_eq,and_assoc]
theorem PI (hb:lE b){kn:List kV}{f:jg}(h:kQ a f=true)(ht:oZ a b kn f):kQ b (li a b kn f)=true:=by
 obtain⟨F,H,J,D⟩:=ht;obtain⟨m,_,_,l,s⟩:=xk.1 h;refine xk.2 ⟨m,F,H,l,?_⟩;have e:(li a b kn f).kind=f.kind:=rfl;have K:(li a b kn f).conf=f.conf:=rfl;have I:(li a b kn f).sum=lD a b kn f:=rfl;rw[e,K,I];by_cases y:f.kind=1
 ·rw[if_pos y] at s |-;rw[Bool.and_eq_true] at s |-;refine⟨Mr hb y s.1 (D y),?_⟩;cases hc:f.conf with
  | false=>rfl
  | true=>
   have:b≠3:=fun z=>J ⟨hc,z⟩;simp[this]
 ·rw[if_neg y] at s |-;unfold lD;rw[if_pos (.inl y)];exact s
theorem PJ (hb:lE b){kn:List kV}{pre:List jg}{f:jg}(h:rb a pre f=0)(ht:oZ a b kn f):rb b (pre.map (li a b kn)) (li a b kn f)=0:=by
 unfold rb at h |-;have H:(li a b kn f).path=f.path:=rfl;have I:(li a b kn f).kind=f.kind:=rfl;have D:pC (pre.map (li a b kn)).getLast? (li a b kn f)=pC pre.getLast? f:=by
  rw[List.getLast?_map];cases pre.getLast?<;>rfl
 have z:qA (pre.map (li a b kn)) (li a b kn f)=qA pre f:=by
  unfold qA;rw[List.any_map];rfl
 rw[H,I,D,z];split at h
 ·cases h
 ·rename_i F;rw[if_neg F];split at h
  ·cases h
  ·rename_i y;rw[if_neg y];split at h
   ·cases h
   ·rename_i K;rw[if_neg K];split at h
    ·cases h
    ·rename_i J;rw[if_neg (by rw[PI hb (by simpa using J) ht];simp)];exact h
theorem yI {a b:Int}(hb:lE b){kn:List kV}:∀ (l pre:List jg),(∀ f∈l,oZ a b kn f)->lj a pre l=none->lj b (pre.map (li a b kn)) (l.map (li a b kn))=none
 | [],_,_,_=>rfl
 | f::r,pre,ht,h=>by
  unfold lj at h;rw[List.map_cons];unfold lj;split at h
  ·rename_i y;rw[if_pos (PJ hb y (ht f (by simp)))];have:=yI hb r (pre++[f]) (fun x z=>ht x (List.mem_cons_of_mem _ z)) h;rw[List.map_append] at this;exact this
  ·cases h
theorem vh {l:List jg}(h:(kR fmt l).2=0):l.length<=512/\lj fmt [] l=none:=by
 unfold kR at h;split at h
 ·cases h
 ·refine⟨by omega,?_⟩;cases e:lj fmt [] l with
  | none=>rfl
  | some x=>
   obtain⟨q,c⟩:=x;rw[e] at h;exact absurd h (filesE_codeP l [] q c e)
 where
 filesE_codeP {fmt:Int}:∀ (l pre:List jg)(q:BA)(e:Int),lj fmt pre l=some (q,e)->e≠0
 | [],_,_,_,h=>by cases h
 | f::r,pre,q,e,h=>by
  unfold lj at h;split at h
  ·exact filesE_codeP r _ q e h
  ·rename_i y;injection h with h;injection h with _ h;exact h ▸ y
theorem Ms (hb:lE b){kn:List kV}{l:List jg}(h:(kR a l).2=0)(ht:∀ f∈l,oZ a b kn f):(kR b (l.map (li a b kn))).2=0:=by
 obtain⟨z,y⟩:=vh h;have:=yI hb l [] ht y;unfold kR;rw[if_neg (by rw[List.length_map];omega)];rw[List.map_nil] at this;rw[this];rfl
theorem GH {l:List jy}(h:lH a l=0)(ht:∀ s∈l,zD b s.phase=true):lH b l=0:=by
 unfold lH at h |-;split at h
 ·cases h
 ·rename_i F;rw[if_neg F];split at h
  ·cases h
  ·rename_i D;rw[if_neg D];split at h
   ·rename_i z;rw[if_pos];rw[List.all_eq_true] at z |-;intro s y;have:=z s y;unfold U7 at this |-;rw[Bool.and_eq_true,Bool.and_eq_true] at this;rw[ht s y,this.1.2,this.2];rfl
   ·cases h
theorem aaD {L:List (List kP)}(hne:L≠[])(h:∀ g∈L,g≠[]/\∀ t∈g,t.bare)(hs:(L.map List.length).sum<=64):pX (lO L)=true:=by
 have y:=AU hne h hs;have z:lO L≠[]:=by
  intro e;have:=zV L h;rw[e] at this;exact hne (List.length_eq_zero_iff.1 (by simpa using this))
 unfold pX;rw[y];simp[z]
theorem Xq {d:oM}(h:d.flat):jX d≠[]:=by
 intro e;cases h with
 | one d h=>
  cases h with
  | mk nm op v hn _ _ _=>
   have y:=(Ir hn).1;unfold jX at e;split at e
   ·exact y e
   ·simp at e
 | some k k2 ks h hn=>unfold jX at e;simp at e
theorem aaE {d:oM}(h:d.flat):qd (jX d)=true:=by
 have y:=uY h;unfold qd;rw[y];simp[Xq h]
theorem Xr {L:List mo}(hne:L≠[])(h:∀ x∈L,x.bare)(hn:L.length<=64):pW (mf L)=true:=by
 have y:=AV h hn;have z:mf L≠[]:=by
  intro e;have:=zZ L h;rw[e] at this;exact hne (List.length_eq_zero_iff.1 (by simpa using this))
 unfold pW;rw[y];simp[z]
theorem Xs (hf:lE fmt){out:List jA}(h:∀ d∈out,d.told fmt)(hc:jt out<=64):
  (kE fmt bar out).length<=tA fmt bar/\∀ t∈kE fmt bar out,Re fmt t=true:=by
 rcases hf with rfl | rfl | rfl
 ·have D:tA 1 bar=1:=by unfold tA;cases bar<;>rfl
  rw[D];unfold kE;rw[if_pos rfl];by_cases F:jY bar out=[]
  ·rw[if_pos F];exact⟨by simp,by simp⟩
  rw[if_neg F];refine⟨by simp,fun t ht=>?_⟩;rw[List.mem_singleton.1 ht];refine aaD (by simpa using F) ?_ ?_
  ·intro g U;obtain⟨d,z,rfl⟩:=List.mem_map.1 U;have y:=h d (mi z).1;refine⟨by simpa using y.ne,fun t ht=>?_⟩;obtain⟨a,K,rfl⟩:=List.mem_map.1 ht;exact Ac (y.each a K)
  ·have:=qF bar out;have e:(((jY bar out).map (fun d=>d.alts.map tN))).map List.length=(jY bar out).map fun d=>d.alts.length:=by
    rw[List.map_map];exact List.map_congr_left fun d _=>by simp
   rw[e];unfold jt at *;omega
 ·have D:tA 2 bar=64:=by unfold tA;rfl
  rw[D];unfold kE;rw[if_neg (by decide),if_pos rfl];constructor
  ·rw[List.length_map];have J:=qF bar out;have V:=qG (l:=jY bar out) (fun d z=>(h d (mi z).1).ne);omega
  ·intro t ht;obtain⟨d,z,rfl⟩:=List.mem_map.1 ht;obtain⟨D,R⟩:=mi z;have y:=h d D;have H:=vf D;refine aaE ?_;obtain⟨X,I⟩:=d
   match I,y,H with
   | [],y,_=>exact absurd rfl y.ne
   | [g],y,_=>exact .one _ (vD (y.each g (by simp)))
   | g::g2::r,y,H=>
    have N:∀ x∈lh g::lh g2::r.map lh,x.bare:=by
     intro x O;have M:x∈(g::g2::r).map lh:=by simpa using O
     obtain⟨a,K,rfl⟩:=List.mem_map.1 M;exact vD (y.each a K)
    exact .some (lh g) (lh g2) (r.map lh) N (by simp at H |-;omega)
 ·unfold kE;rw[if_neg (by decide),if_neg (by decide)];cases bar with
  | true=>rw[if_pos (.inl rfl)];exact⟨by simp,by simp⟩
  | false=>
   have D:tA 3 false=1:=by unfold tA;rfl
   rw[D];by_cases F:out=[]
   ·rw[if_pos (.inr F)];exact⟨by simp,by simp⟩
   rw[if_neg (by simpa using F)];refine⟨by simp,fun t ht=>?_⟩;rw[List.mem_singleton.1 ht];refine Xr (by simpa using F) ?_ ?_
   ·intro x O;obtain⟨d,z,rfl⟩:=List.mem_map.1 O;have J:=(h d z).apk rfl;unfold qk
    match he:d.alts with
    | []=>rw[he] at J;simp at J
    | [g]=>exact EZ d.bar ((h d z).each g (by rw[he];simp))
    | g::g2::r=>rw[he] at J;simp at J
   ·rw[List.length_map];have:=qG (fun d z=>(h d z).ne);omega
theorem RF {l:List jA}(h:za fmt l=0):lE fmt/\pD l=0/\(∀ d∈l,vP d=0/\sj fmt d=0)/\(∀ d∈l.map (nf 1 fmt),d.told fmt)/\jt (l.map (nf 1 fmt))<=64:=by
 unfold za at h;by_cases z:lE fmt
 rotate_left
 ·rw[if_pos z] at h;cases h
 rw[if_neg (fun K=>K z)] at h;by_cases y:pD l=0
 rotate_left
 ·rw[if_pos y] at h;exact absurd h y
 rw[if_neg (by simpa using y)] at h;have F:=y;unfold pD at y;split at y
 ·cases y
 rename_i M;have I:∀ d∈l,vP d=0:=jM.1 y;have H:∀ d∈l,sj fmt d=0:=jM.1 h;refine⟨z,F,fun d D=>⟨I d D,H d D⟩,fun d D=>?_,by rw[sq];omega⟩;obtain⟨x,J,rfl⟩:=List.mem_map.1 D;exact(vE z (I x J) (H x J)).1
theorem Bb {l:List jA}{ns:List BA}(h:za b l=0)(hn:ns.map bl=xz b bar l):nw b bar (Re b) ns=true:=by
 obtain⟨D,_,_,F,z⟩:=RF h;obtain⟨I,y⟩:=Xs D (bar:=bar) F z;unfold xz at hn;unfold nw;rw[Bool.and_eq_true,decide_eq_true_eq,List.all_eq_true];refine⟨by have:=congrArg List.length hn;rw[List.length_map] at this;omega,fun x H=>y _ ?_⟩;rw[<-hn];exact List.mem_map.2 ⟨x,H,rfl⟩
theorem Qd (hb:lE b){kn:List kV}{p q:jn}(h:Ad a p)(ht:oG a b kn p)(hc:xj a b kn p q):Ad b q:=by
 have y:=h.isf;refine⟨hb,by rw[hc.nm];exact h.name,by rw[hc.ver];exact AY y hb ht.ver,by rw[hc.ar];exact PH y hb h.arch,by rw[hc.sm];exact h.sum,Bb ht.deps.toZ hc.needs,Bb ht.deps.toZ hc.bars,by rw[hc.gives];exact Mq y hb h.gives ht.gives,by rw[hc.files];exact Ms hb h.files ht.files,by rw[hc.scripts];exact GH h.scripts ht.scripts⟩
theorem Zb {kn:List kV}{p q:jn}(hq:q.files=p.files.map (li a b kn))(x:jg):Eg q (li a b kn x)=Eg p x:=by
 unfold Eg yx;rw[hq,List.find?_map];have:((fun y:jg=>decide (y.path=(li a b kn x).path)) ∘ li a b kn)=fun y=>decide (y.path=x.path):=rfl;rw[this];cases p.files.find? (fun y=>decide (y.path=x.path)) with
 | none=>rfl
 | some y=>rfl
structure ng (a b:Int) (kn:List kV) (l x:List jn):Prop where
 len:x.length=l.length
 each:∀ (i:Nat)(p q:jn),l[i]?=some p->x[i]?=some q->xj a b kn p q
theorem ng.nil (a b:Int)(kn:List kV):ng a b kn [] []:=⟨rfl,fun i p q h=>by simp at h⟩
theorem ng.snoc {kn:List kV}{l x:List jn}{p q:jn}(h:ng a b kn l x)(hc:xj a b kn p q):ng a b kn (l++[p]) (x++[q]):=by
 refine⟨by rw[List.length_append,List.length_append,h.len];rfl,fun i y z D F=>?_⟩;by_cases I:i<l.length
 ·rw[List.getElem?_append_left I] at D;rw[List.getElem?_append_left (by rw[h.len];exact I)] at F;exact h.each i y z D F
 ·rw[List.getElem?_append_right (by omega)] at D;rw[List.getElem?_append_right (by rw[h.len];omega),h.len] at F;have H:i-l.length=0:=by
   have:=(gS D).1;simp at this;omega
  rw[H] at D F;simp at D F;subst D;subst F;exact hc
theorem ng.cons_inv {kn:List kV}{p q:jn}{l x:List jn}(h:ng a b kn (p::l) (q::x)):xj a b kn p q/\ng a b kn l x:=
 ⟨h.each 0 p q rfl rfl,by have:=h.len;simpa using this,fun i y z D F=>h.each (i+1) y z (by simpa using D) (by simpa using F)⟩
theorem Xt {a b:Int}{kn:List kV}:∀ {l x:List jn},ng a b kn l x->∀ f:jg,conf x (li a b kn f)=conf l f
 | [],[],_,_=>rfl
 | [],q::x,h,_=>by have:=h.len;simp at this
 | p::l,[],h,_=>by have:=h.len;simp at this
 | p::l,q::x,h,f=>by
  obtain⟨D,z⟩:=h.cons_inv;have y:=Xt z f;unfold conf at y |-;rw[List.any_cons,List.any_cons,y,Zb D.files]
theorem ng.last {kn:List kV}{l x:List jn}(h:ng a b kn l x):(x.getLast?).map jn.nm=(l.getLast?).map jn.nm:=by
 rw[List.getLast?_eq_getElem?,List.getLast?_eq_getElem?,h.len];cases hp:l[l.length-1]? with
 | none=>
  have:=List.getElem?_eq_none_iff.1 hp;rw[List.getElem?_eq_none (by rw[h.len];exact this)]
 | some p=>
  have z:=(gS hp).1;have y:=gG (l:=x) (i:=l.length-1) (by rw[h.len];exact z);rw[y];simp only[Option.map_some];rw[(h.each _ p _ hp y).nm]
theorem aa6 {kn:List kV}{l x:List jn}{p q:jn}(h:ng a b kn l x)(hc:xj a b kn p q):LZ x q=LZ l p:=by
 have:=h.last;unfold LZ;rw[hc.nm];cases e1:x.getLast? with
 | none=>
  cases e2:l.getLast? with
  | none=>rfl
  | some y=>rw[e1,e2] at this;cases this
 | some z=>
  cases e2:l.getLast? with
  | none=>rw[e1,e2] at this;cases this
  | some y=>
   rw[e1,e2] at this;injection this with this;show decide (bl z.nm<bl p.nm)=decide (bl y.nm<bl p.nm);rw[this]
theorem MT {ans:BA×Int}{pre:List jn}{p:jn}(hc:∀ f∈p.files,True):(Kj ans pre p).2.2=0↔ans.2=0/\LZ pre p=true/\p.files.find? (conf pre)=none:=by
 unfold Kj;constructor
 ·intro h;split at h
  ·rename_i y;exact absurd h y
  ·rename_i y;split at h
   ·cases h
   ·rename_i z;refine⟨by simpa using y,by simpa using z,?_⟩;split at h
    ·cases h
    ·assumption
 ·rintro⟨y,z,h2⟩;rw[if_neg (by simpa using y),if_neg (by rw[z];simp),h2]
theorem MU {a b:Int}(hb:lE b){kn:List kV}:∀ (l x pre prx:List jn),ng a b kn pre prx->ng a b kn l x->(∀ p∈l,oG a b kn p)->(zF (ny a) pre l).2.2=0->zF (ny b) prx x=(⟨#[]⟩,⟨#[]⟩,0)/\∀ p∈l,Ad a p
 | [],[],_,_,_,_,_,_=>⟨rfl,by simp⟩
 | [],q::x,_,_,_,h,_,_=>by have:=h.len;simp at this
 | p::l,[],_,_,_,h,_,_=>by have:=h.len;simp at this
 | p::l,q::x,pre,prx,hp,h,ht,hz=>by
  obtain⟨D,J⟩:=h.cons_inv;unfold zF at hz |-;split at hz
  rotate_left
  ·rename_i O;exact absurd hz O
  rename_i R;obtain⟨N,U,M⟩:=(MT (fun _ _=>trivial)).1 R;have F:Ad a p:=yG.1 N;have I:(Kj (ny b q) prx q).2.2=0:=by
   refine(MT (fun _ _=>trivial)).2 ⟨yG.2 (Qd hb F (ht p (by simp)) D),by rw[aa6 hp D];exact U,?_⟩;rw[D.files,List.find?_map];have:(conf prx ∘ li a b kn)=conf pre:=funext fun f=>Xt hp f;rw[this,M];rfl
  rw[if_pos I];obtain⟨K,H⟩:=MU hb l x (pre++[p]) (prx++[q]) (hp.snoc D) J (fun y z=>ht y (List.mem_cons_of_mem _ z)) hz;refine⟨K,fun y z=>?_⟩;rcases List.mem_cons.1 z with rfl | z
  ·exact F
  ·exact H y z
theorem Ai (hb:lE b){kn:List kV}{l x:List jn}(h:ng a b kn l x)(ht:∀ p∈l,oG a b kn p)(hz:(BL (ny a) (pN a) l).2.2=0):
  BL (ny b) (pN b) x=(⟨#[]⟩,⟨#[]⟩,0)/\∀ p∈l,Ad a p:=by
 have z:pN b=true:=dT hb;unfold BL at hz |-;split at hz
 ·cases hz
 ·split at hz
  ·cases hz
  ·rename_i y;rw[z,if_neg (by simp),if_neg (by rw[h.len];exact y)];exact MU hb l x [] [] (.nil a b kn) h ht hz
end
end Go.Proofs.YtkmjcombhjombaaGreatDoor
