/- A part of the proof. -/
import Derived.Test.YtkmjcombhjombaaGreatDoorK24
import Derived.Test.YtkmjcombhjombaaGreatDoorK33
set_option maxRecDepth 100000
set_option maxHeartbeats 20000000
set_option linter.unusedVariables false
set_option linter.unusedSimpArgs false
namespace Go.Proofs.YtkmjcombhjombaaGreatDoor
variable{a:Int}{c k n:Nat}{A:Option Addr}{w wr:World}
section
open Go.RowKit
structure UX (w wr:World) (L:List jd) (A:Option Addr) (n c:Nat):Prop where
 len:L.length=n
 row:wr.ownsRow w.heap.size 75 2 (.slice A n c) n (L.flatMap jd.cells)
 bel:Below w.heap.size w wr
theorem UX.start (w:World):UX w w [] none 0 0:=⟨rfl,World.ownsRow_nil _ _ _ _,bR⟩
theorem UX.below {w':World}{L:List jd}(h:UX w wr L A n c)(hb:Below wr.heap.size wr w'):UX w w' L A n c:=⟨h.len,jp h.row hb,jc h.bel hb⟩
theorem UX.grow {w2:World}{L:List jd}{A1:Option Addr}{c1:Nat}{o:Obj}{d:jd}(h:UX w wr L A n c)
  (hr:w2.ownsRow w.heap.size 75 2 (.slice A1 (n+1) c1) (n+1) (L.flatMap jd.cells++d.cells))
  (hg:(wr.alloc o).grownBy w2 (Value.slice A n c).ownBlock):UX w w2 (L++[d]) A1 (n+1) c1:=by
 have y:=h.below ((Below.refl wr.heap.size wr).alloc lr o);exact⟨by simp[h.len],by rw[List.flatMap_append];simpa using hr,y.bel.grown hg y.bel.size (fun j z=>(y.row.lt j z).1)⟩
theorem XT {α:Type}{p:α->Bool}{l:List α}{x:α}(hx:l[k]?=some x)(h:p x=true):(l.take (k+1)).filter p=(l.take k).filter p++[x]:=by
 rw[jI hx,List.filter_append];simp[h]
theorem ZC {α:Type}{p:α->Bool}{l:List α}{x:α}(hx:l[k]?=some x)(h:p x=false):(l.take (k+1)).filter p=(l.take k).filter p:=by
 rw[jI hx,List.filter_append];simp[h]
def rh:Nat->List jd->List jd
 | 0,_=>[]
 | t+1,l=>rh t l++l.filter fun d=>d.bar==decide (t=1)
theorem XU (l:List jd):(rh 2 l).map jd.pl=jY false (l.map jd.pl)++jY true (l.map jd.pl):=by
 unfold rh rh rh jY;rw[List.nil_append,List.map_append,List.filter_map,List.filter_map];rfl
theorem IU {t:Nat}{l:List jd}{d:jd}(h:d∈rh t l):d∈l:=by
 induction t with
 | zero=>cases h
 | succ t ih=>
  unfold rh at h;rcases List.mem_append.1 h with h | h
  ·exact ih h
  ·exact(List.mem_filter.1 h).1
def XV (a:Int)(p:jn)(w:World)(e:Ending)(w':World):Prop:=
 ∃ (O:Option Addr) (c:Nat) (D:List jd),e=.returned (.tuple #[.slice O D.length c,.bool true])/\D.map jd.pl=jY false (lB a p)++jY true (lB a p)/\qm w' O D/\D.length<=256/\(∀ d∈D,d.alts.length<=1000000)/\Below w.heap.size w w'
theorem Fz (a:Int)(p:jn)(w:World)(hG:xC w)(hp:p.ok w)(hn:p.needs.length<=64)(hb:p.bars.length<=64)(zn:∀ s∈p.needs,s.size<=1000000)(zb:∀ s∈p.bars,s.size<=1000000)(h1:kZ a false (p.needs.map bl)=0)(h2:kZ a true (p.bars.map bl)=0):Calls Tryz.prog 10 #[.int .i64 a,p.val] w (XV a p w):=by
 obtain⟨i0,hi,av,am,ap⟩:=info_parts sr;obtain⟨W1,ad⟩:∃ W1,w.alloc (.cells #[.string p.nm,.string p.ver,.string p.ar,.string p.sm,.slice p.na p.needs.length p.nc,.slice p.ba p.bars.length p.bc,.slice p.ga p.gives.length p.gc,.slice p.fa p.files.length p.fc,.slice p.sa p.scripts.length p.sc] 38)=W1:=⟨_,rfl⟩
 have B1:Hid (Below w.heap.size w W1):=by show Below _ _ _;rw[<-ad];exact bR.alloc lr _
 have K1:Hid (jh W1 w.heap.size p.cells):=by show jh _ _ _;rw[<-ad];exact jh.new w p.cells _
 have aD:=iV (vH a false p.na p.nc p.needs W1 (hG.below B1.out) (hp.needs.below B1.out) (by omega) zn);have aB:=iV fun W (hb:Below W1.heap.size W1 W)=>vH a true p.ba p.bc p.bars W (hG.below (jc B1.out hb)) (hp.bars.below (jc B1.out hb)) (by omega) zb;have FX:=iV h1;have FY:=iV h2;have fx:=iV (yO h1 (fun s hs=>by obtain⟨z,hz,rfl⟩:=List.mem_map.1 hs;rw[iX];exact zn z hz));have fy:=iV (yO h2 (fun s hs=>by obtain⟨z,hz,rfl⟩:=List.mem_map.1 hs;rw[iX];exact zb z hz));have x4:=K1.out.cell 4 _ rfl;clear hG hp hn hb zn zb h1 h2;have D:=iV ad;clear ad;unfold jn.val;go_in;go_upto_region 1 with(fail)
 rw[D.out];clear D;go_wp2_with fail;refine aD.out.mono ?_;rintro e w2 ⟨X,xn,xc,xs,ex,rfl,ay,hx⟩;rw[FX.out,if_pos rfl] at hx;obtain⟨rfl,aL,aq⟩:=hx;have au:=iV ay;have XP:=iV aL;have XO:=iV aq.ok;have af:=aq.len;have x5:=(K1.out.below ay).cell 5 _ rfl;clear ay aL aq x4;go_wp2_with fail;refine(aB.out w2 au.out).mono ?_;rintro e J ⟨Y,yn,yc,ys,ey,rfl,an,hy⟩;rw[FY.out,if_pos rfl] at hy;obtain⟨rfl,aE,ao⟩:=hy;have B3:=iV (jc B1.out (jc au.out an));have YP:=iV aE;have YO:=iV ao.ok;have az:=iV (XO.out.below an);have ag:=ao.len;have aQ:xn<=64:=by have h:=congrArg List.length XP.out;rw[List.length_map] at h;have:=fx.out.1;omega
 have aR:yn<=64:=by have h:=congrArg List.length YP.out;rw[List.length_map] at h;have:=fy.out.1;omega
 have AL:Hid (∀ d∈xs++ys,d.alts.length<=1000000):=by
  intro d H;rcases List.mem_append.1 H with H | H
  ·have:=(fx.out.2 d.pl (by rw[<-XP.out];exact List.mem_map_of_mem H)).1;have e:d.pl.alts=d.alts:=rfl;rw[e] at this;omega
  ·have:=(fy.out.2 d.pl (by rw[<-YP.out];exact List.mem_map_of_mem H)).1;have e:d.pl.alts=d.alts:=rfl;rw[e] at this;omega
 have DP:Hid ((xs++ys).map jd.pl=lB a p):=IK XP.out YP.out;clear an aE ao x5 aD aB XO fx fy XP YP FX FY K1 au B1;have RX:=iV ((az.out.row.below ((Below.refl J.heap.size J).alloc lr (.cells #[] 75))).reads (by omega));have ai:=iV (yL xs);have aj:=iV (yL ys);have OW:Hid ((J.alloc (.cells #[] 75)).ownsRow J.heap.size 75 2 (.slice (some ⟨J.heap.size,0,none⟩) 0 0) 0 []):=World.ownsRow_lit J #[] 0 lr (by simp[maxLen]) rfl;rw[af] at RX
 go_wp2_with (
  at_builtin
  first
   | (refine je _ rfl _ _ _ rfl J.heap.size 75 i0 _ 2 32 Tryz.underlying30 hi av am ap rfl (by omega) (.slice (some ⟨J.heap.size,0,none⟩) 0 0) 0 _ rfl OW.out _ X xn xc _ rfl RX.out ai.out (by simp only[maxLen];omega) (by omega) (by simp) ?_
      intro v1 w9 y U M;rw[Nat.zero_add] at y;obtain⟨O1,d1,rfl⟩:=jk y;have B9:Hid (Below J.heap.size J w9):=((Below.refl J.heap.size J).alloc lr (.cells #[] 75)).grown U (by simp) (fun j hj=>(OW.out.lt j hj).1);have RY:=iV ((YO.out.row.below B9.out).reads (by omega));rw[ag] at RY;have O9:=iV y;rw[List.nil_append] at O9;clear y U M RX OW)
   | (refine je _ rfl _ _ _ rfl J.heap.size 75 i0 _ 2 32 Tryz.underlying30 hi av am ap rfl (by omega) (.slice O1 xn d1) xn _ rfl O9.out _ Y yn yc _ rfl RY.out aj.out (by simp only[maxLen];omega) (by omega) (by have:=B9.out.size;omega) ?_
      intro v2 F I aG aM;obtain⟨O2,d2,rfl⟩:=jk I;have aA:=iV I;have aF:=iV aG;clear I aG aM))
 have ae:Hid (Below J.heap.size J F):=B9.out.grown aF.out B9.out.size (fun j hj=>(O9.out.lt j hj).1);have DX:Hid (qm F O2 (xs++ys)):=by
  refine⟨?_,fun d H=>?_⟩
  ·rw[List.length_append,List.flatMap_append,af,ag];exact jL aA.out
  ·rcases List.mem_append.1 H with H | H
   ·exact(az.out.all d H).below ae.out
   ·exact(YO.out.all d H).below ae.out
 have BW:=iV (jc B3.out ae.out);have ah:Hid ((xs++ys).length=xn+yn):=by show _=_;rw[List.length_append,af,ag]
 obtain⟨N,hN⟩:∃ N,xn+yn=N:=⟨_,rfl⟩
 have aT:N<=128:=by omega
 rw[hN] at ah;obtain⟨Z,aJ⟩:∃ Z,xs++ys=Z:=⟨_,rfl⟩
 rw[aJ] at ah DX AL DP;rw[hN];clear aA aF RY O9 ai aj az YO B9 B3 ae hN aJ af ag aQ aR;go_wp2;go_loopw [11,12] (fun al aP wr=>∃ (t n K:Nat) (O:Option Addr),t<=2/\n<=128*t/\al=.slice O n K/\aP=.int .i64 t/\Hid (UX F wr (rh t Z) O n K)) (fun _ i _=>2-(intOf i).toNat)
 case atStart=>exact⟨0,0,0,none,z0,z0,rfl,rfl,UX.start F⟩
 case round=>
  obtain⟨t,n,K,O,ht,aC,rfl,rfl,D⟩:=hrel;by_cases aK:t<2
  ·obtain⟨V,ax⟩:∃ V,decide (t=1)=V:=⟨_,rfl⟩
   have q1:((t:Int)==1)=V:=by
    rw[<-ax,bI];simp;omega
   have aO:=iV ax;have aU:decide ((t:Int)<2)=true:=dT (by omega);have aI:=iV aK;clear ax aK;go_wp2;go_loopw [11,13] (fun al aS wr=>∃ (k m K:Nat) (O:Option Addr),k<=N/\m<=n+k/\al=.slice O m K/\aS=.int .i64 k/\Hid (UX F wr (rh t Z++(Z.take k).filter (fun d=>d.bar==V)) O m K)) (fun _ i _=>N-(intOf i).toNat)
   case atStart=>exact⟨0,n,K,O,z0,by omega,rfl,rfl,by simpa using D⟩
   case round=>
    clear D;obtain⟨k,m,K,O,hk,hm,rfl,rfl,D⟩:=hrel;by_cases aH:k<N
    ·obtain⟨x,hx⟩:∃ x,Z[k]?=some x:=⟨_,gG (by rw[ah.out];exact aH)⟩
     obtain⟨b,off,hA,he⟩:=(DX.out.row.below D.out.bel).elem pq k x hx;have e0:=he 0 _ rfl;have e1:=he 1 _ rfl;simp only[Nat.add_zero] at e0;have aW:=fun W=>jm (T:=30) (E:=75) (sz:=2) (c:=d2) Tryz.underlying30 rfl Tryz.sizeOf75 hA aH W;have HX:=iV hx;clear hx hA he;obtain⟨R,aa,ac,ak⟩:=x;simp only at e0 e1;by_cases ab:R=V
     ·have q2:(R==V)=true:=by simpa using ab
      have HT:=iV (XT (p:=fun d:jd=>d.bar==V) HX.out q2);clear ab;have HO:=iV D.out.row;have aV:=D.out.bel.size
      go_wp2_with (
       at_builtin
       refine je _ rfl _ _ _ rfl F.heap.size 75 i0 _ 2 32 Tryz.underlying30 hi av am ap rfl (by omega) (.slice O m K) m _ rfl (HO.out.alloc _) (wr.heap.size+1) (some ⟨wr.heap.size,0,none⟩) 1 1 [.bool R,.slice aa ak.length ac] rfl (tC wr _ _ _) (by simp[Value.oneCell']) (by simp only[maxLen];omega) (by omega) (by simp;omega) ?_;intro v1 w6 y U M;obtain⟨O1,d1,rfl⟩:=jk y)
      have N1:Hid (UX F w6 ((rh t Z++(Z.take k).filter (fun d=>d.bar==V))++[⟨R,aa,ac,ak⟩]) O1 (m+1) d1):=D.out.grow y U;clear y U M;go_wp2;go_roundw
      case rel=>exact⟨k+1,m+1,d1,O1,by omega,by omega,rfl,by go_num,by rw[HT.out,<-List.append_assoc];exact N1⟩
      case measure=>simp[intOf];omega
     ·have q2:(R==V)=false:=by simpa using ab
      have HT:=iV (ZC (p:=fun d:jd=>d.bar==V) HX.out q2);clear ab;go_wp2;go_roundw
      case rel=>exact⟨k+1,m,K,O,by omega,by omega,rfl,by go_num,by rw[HT.out];exact D⟩
      case measure=>simp[intOf];omega
    ·obtain rfl:k=N:=by omega
     have aN:Hid (UX F wr (rh (t+1) Z) O m K):=by
      have h:=D.out;rw[<-ah.out,List.take_length,<-aO.out] at h;exact h
     clear D;go_wp2;go_roundw
     case rel=>exact⟨t+1,m,K,O,by have:=aI.out;omega,by omega,rfl,by go_num,aN⟩
     case measure=>have:=aI.out;simp[intOf];omega
  ·obtain rfl:t=2:=by omega
   have hl:=D.out.len;have R1:=iV hl;have hn:=iV aC;clear hl aC;go_wp2;go_ret2;refine⟨O,K,rh 2 Z,by rw[R1.out];rfl,?_,⟨by rw[R1.out];exact jL D.out.row,fun d H=>(DX.out.all d (IU H)).below D.out.bel⟩,by rw[R1.out];exact hn.out,fun d H=>AL.out d (IU H),jc BW.out D.out.bel⟩;rw[XU,DP.out]
theorem qn (x:BA):rn x x=true:=by unfold rn;simp
theorem rD {α:Type}{eq:α->α->Bool}(h:∀ x,eq x x=true):∀ l:List α,xx eq l l=true
 | []=>rfl
 | a::r=>by simp only[xx,Bool.and_eq_true];exact⟨h a,rD h r⟩
theorem UZ {p q:jn}(h1:p.nm=q.nm)(h2:p.ver=q.ver)(h3:p.ar=q.ar)(h4:p.sm=q.sm)(h5:p.needs=q.needs)(h6:p.bars=q.bars)(h7:p.gives=q.gives)(h8:p.files=q.files)(h9:p.scripts=q.scripts):qx p q=true:=by
 rw[Hu (by rw[h1];exact qn _) (by rw[h2];exact qn _) (by rw[h3];exact qn _) (by rw[h4];exact qn _) (by rw[h5];exact rD qn _) (by rw[h6];exact rD qn _) (by rw[h7];exact rD (fun x=>by simp[qZ,qn]) _) (by rw[h8];exact rD (fun x=>by simp[qa,qn]) _) (by rw[h9];exact rD (fun x=>by simp[mT,qn]) _)]
def jn.depsOf (p r:jn):jn:=⟨p.nm,p.ver,p.ar,p.sm,r.na,r.nc,r.needs,r.ba,r.bc,r.bars,p.ga,p.gc,p.gives,p.fa,p.fc,p.files,p.sa,p.sc,p.scripts⟩
theorem U0 {p r:jn}(h:XR a p r)(hp:p.fits)(hr:r.few)(hz:(∀ s∈r.needs,s.size<=1000000)/\∀ s∈r.bars,s.size<=1000000):r.fits/\(p.depsOf r).fits:=by
 have H:=hr.needs;have F:=hr.bars;have D:∀ s∈r.needs,s.size<=9223372036854775807:=fun s y=>by have:=hz.1 s y;omega
 have z:∀ s∈r.bars,s.size<=9223372036854775807:=fun s y=>by have:=hz.2 s y;omega
 constructor
 ·exact⟨by rw[h.nm];exact hp.nm,by rw[h.ver];exact hp.ver,by rw[h.ar];exact hp.ar,by rw[h.sm];exact hp.sm,by omega,by omega,by rw[h.gives];exact hp.gives,by rw[h.files];exact hp.files,by rw[h.scripts];exact hp.scripts,D,z,by rw[h.gives];exact hp.gives_,by rw[h.files];exact hp.files_,by rw[h.scripts];exact hp.scripts_⟩
 ·exact⟨hp.nm,hp.ver,hp.ar,hp.sm,by show r.needs.length<=_;omega,by show r.bars.length<=_;omega,hp.gives,hp.files,hp.scripts,D,z,hp.gives_,hp.files_,hp.scripts_⟩
theorem XY {b:Int}(ib:lE b){kn:List kV}(hk:up kn){l x:List jn}(h:ng a b kn l x)(ht:∀ p∈l,oG a b kn p)(hp:∀ p∈l,Ad a p):∀ q∈x,oG b a kn q:=by
 intro q D;obtain⟨i,F⟩:=List.mem_iff_getElem?.1 D;obtain⟨p,z⟩:∃ p,l[i]?=some p:=⟨_,gG (by rw[<-h.len];exact(gS F).1)⟩
 have y:=gM z;exact UV ib hk (hp p y) (ht p y) (h.each i p q z F)
structure aa9 (a:Int) (w:World) (A O:Option Addr) (l rs:List jn):Prop where
 db:tU w A l
 out:tU w O rs
 len:rs.length=l.length
 each:∀ (i:Nat)(p r:jn),l[i]?=some p->rs[i]?=some r->XR a p r
 pr:∀ p∈l,Ad a p
 rr:∀ r∈rs,Ad a r
 ps:∀ p∈l,kZ a false (p.needs.map bl)=0/\kZ a true (p.bars.map bl)=0
 pz:∀ p∈l,(∀ s∈p.needs,s.size<=1000000)/\∀ s∈p.bars,s.size<=1000000
 rz:∀ r∈rs,(∀ s∈r.needs,s.size<=1000000)/\∀ s∈r.bars,s.size<=1000000
theorem BR (a b:Int)(A:Option Addr)(c:Nat)(l:List jn)(AK:Option Addr)(cK:Nat)(kn:List kV)(w:World)(hG:xC w)(hd:tU w A l)(hf:∀ p∈l,p.fits)(hl:l.length<=9223372036854775807)(hk:Rd w 5 AK kn.length (kn.flatMap kV.cells))(hkf:∀ k∈kn,k.fits)(hkl:kn.length<=9223372036854775807):Calls Tryz.prog 3 #[.int .i64 a,.int .i64 b,.slice A l.length c,.slice AK kn.length cK] w fun e w'=>e=.returned (.bool true)/\Below w.heap.size w w':=by
 have HG:=iV hG;have HD:=iV hd;have HK:=iV hk;have HF:=iV hf;have LI:=iV fun W F=>Bg A c l AK cK kn W (HD.out.below F) hf hl (HK.out.below F) hkf hkl;clear hG hd hf hl hk hkf hkl;go_in;go_wp2_with fail;refine(Bf w HG.out).mono ?_;rintro e w1 ⟨rfl,ag⟩;have B1:=iV ag;clear ag;go_wp2_with fail;refine(LI.out w1 B1.out).mono ?_;rintro e w2 ⟨lb,rfl,z,ab⟩;have B2:=iV (jc B1.out ab);have HP:=iV z;clear ab z LI;cases lb
 ·go_wp2;go_ret;exact⟨rfl,B2.out⟩
 have X:=iV (HP.out rfl);have aW:l.length<=40:=X.out.1.1;clear HP;have CL:=iV (UW AK cK kn w2 (HK.out.below B2.out) X.out.2.2 X.out.2.1);go_wp2_with fail;refine CL.out.mono ?_;rintro e bn ⟨cb,rfl,z,au⟩;have Y:=iV (jc B2.out au);have HP:=iV z;clear au z CL;cases cb
 ·go_wp2;go_ret;exact⟨rfl,Y.out⟩
 have CK:=iV (HP.out rfl);clear HP;have CV:=iV (pu a b A c l AK cK kn bn (HG.out.below Y.out) (HD.out.below Y.out) (by omega) (by have:=X.out.1.2;omega) (fun p z=>by have:=vx z;have:=X.out.1.2;omega) (fun p z=>XS (by have:=vx z;have:=X.out.1.2;omega)) (HK.out.below Y.out) (by have:=X.out.2.1;omega) X.out.2.2);go_wp2_with fail;refine CV.out.mono ?_;rintro e w3 ⟨hv,ae⟩;have B3:=iV (jc Y.out ae);clear ae CV;rcases hv with aY | aB
 ·obtain⟨v,R,rfl,hR,I,_⟩:=aY;obtain⟨Av,cv,rfl⟩:=jk I;have bv:(0:Int)<(R.length:Int):=by have:=List.length_pos_iff.2 hR;omega
  clear I hR;go_wp2;go_ret;exact⟨rfl,B3.out⟩
 obtain⟨O,qs,rfl,ia,ib,hz,ht,hc,I,hq⟩:=aB;obtain⟨Ao,co,rfl⟩:=jk I;obtain⟨zx,al⟩:=Ai ib hc ht hz;have aA:∀ q∈qs,Ad b q:=Co (by rw[zx]);have af:=hc.len;have aj:=XY ib CK.out hc ht al;obtain⟨aF,aZ⟩:=FG hc ht al aA aW X.out.1.2;have DX:Hid (tU w3 Ao qs):=Qu I hq;have aO:=iV (pu b a Ao co qs AK cK kn w3 (HG.out.below B3.out) DX.out (by omega) aF aZ (fun q hq=>tR (aA q hq)) (HK.out.below B3.out) (by have:=X.out.2.1;omega) X.out.2.2);have GO:Hid (∀ (e:Ending)(w':World),tQ b a kn qs w3 e w'->∃ (Ar:Option Addr)(cr:Nat)(rs:List jn),e=.returned (.tuple #[.slice Ar l.length cr,.slice none 0 0])/\aa9 a w' A Ar l rs/\Below w3.heap.size w3 w'):=by
  intro e w' hv;obtain⟨hv | hv,F⟩:=hv
  ·obtain⟨v,R,_,hR,_,hh⟩:=hv;exact absurd aj (hh ib ia (by rw[zx])).1
  ·obtain⟨O2,rs,rfl,_,_,bh,aD,ac,ah,hr⟩:=hv;obtain⟨Ar,cr,rfl⟩:=jk ah;have ak:rs.length=l.length:=ac.len.trans af;obtain⟨bd,_⟩:=Ai ia ac aD bh;have bm:∀ r∈rs,Ad a r:=Co (by rw[bd]);refine⟨Ar,cr,rs,by rw[ak],⟨HD.out.below (jc B3.out F),Qu ah hr,ak,fun i p r z hr=>?_,al,bm,fun p z=>⟨(ht p z).deps.needs,(ht p z).deps.bars⟩,fun p z=>?_,fun r hr=>?_⟩,F⟩
   ·obtain⟨q,hq⟩:∃ q,qs[i]?=some q:=⟨_,gG (by rw[af];exact(gS z).1)⟩
    have D:=gM z;exact Qt ib CK.out (al p D) (ht p D) (hc.each i p q z hq) (ac.each i q r hq hr)
   ·have h1:=vx z;have h2:=jn.small_of (p:=p) (by have:=X.out.1.2;omega);exact⟨h2.needs_,h2.bars_⟩
   ·obtain⟨i,hi⟩:=List.mem_iff_getElem?.1 hr;obtain⟨q,aM⟩:∃ q,qs[i]?=some q:=⟨_,gG (by rw[<-ac.len];exact(gS hi).1)⟩
    have aV:=gM aM;have aL:=ac.each i q r aM hi;obtain⟨_,n2⟩:=Nm (aD q aV).deps.toZ false;obtain⟨_,m2⟩:=Nm (aD q aV).deps.toZ true;rw[<-aL.needs] at n2;rw[<-aL.bars] at m2;exact⟨fun s hs=>by have:=n2 (bl s) (List.mem_map_of_mem hs);rw[iX] at this;exact this,fun s hs=>by have:=m2 (bl s) (List.mem_map_of_mem hs);rw[iX] at this;exact this⟩
 clear zx al aA hc ht hz I hq af ia ib aj aF aZ;go_wp2_with fail;refine aO.out.mono ?_;intro e V aP;obtain⟨Ar,cr,rs,rfl,aj,ai⟩:=GO.out _ _ aP;have B4:=iV (jc B3.out ai);have K:=iV aj;have aT:=iV (HG.out.below B4.out);clear aj aP ai GO aO DX B3 Y B2 B1 HG HD HK CK X;have q0:((l.length:Int) != (l.length:Int))=false:=by simp
 go_wp2;go_loopw [12] (fun i wr=>∃ k:Nat,k<=l.length/\i=.int .i64 k/\Hid (Below V.heap.size V wr)) (fun i _=>l.length-(intOf i).toNat)
 case atStart=>exact⟨0,z0,rfl,bR⟩
 case round=>
  obtain⟨k,hk,rfl,HB⟩:=hrel;by_cases ao:k<l.length
  ·obtain⟨p,z⟩:∃ p,l[k]?=some p:=⟨_,gG ao⟩
   obtain⟨r,hr⟩:∃ r,rs[k]?=some r:=⟨_,gG (by rw[K.out.len];exact ao)⟩
   have D:=gM z;have aa:=gM hr;obtain⟨b1,aK,ax,bp⟩:=K.out.db.row.elem mX k p z;obtain⟨b2,av,M,be⟩:=K.out.out.row.elem mX k r hr;have J:Hid (∀ W,Below V.heap.size V W->∀ (j:Nat)(u:Value),p.cells[j]?=some u->W.cell? ⟨b1,aK+k*9+j,none⟩=some u):=by
    intro W F;obtain⟨b2,av,M,he⟩:=(K.out.db.below F).row.elem mX k p z;rw[ax] at M;injection M with M;injection M with e1 e2 _;subst e1;subst e2;exact he
   have H:Hid (∀ W,Below V.heap.size V W->∀ (j:Nat)(u:Value),r.cells[j]?=some u->W.cell? ⟨b2,av+k*9+j,none⟩=some u):=by
    intro W F;obtain⟨b3,bu,aq,he⟩:=(K.out.out.below F).row.elem mX k r hr;rw[M] at aq;injection aq with aq;injection aq with e1 e2 _;subst e1;subst e2;exact he
   have bz:=fun W=>jm (T:=22) (E:=38) (sz:=9) (c:=c) Tryz.underlying22 rfl Tryz.sizeOf38 ax ao W;have bw:=fun W=>jm (T:=22) (E:=38) (sz:=9) (c:=cr) Tryz.underlying22 rfl Tryz.sizeOf38 M ao W;have y:=K.out.each k p r z hr;have ay:=K.out.pr p D;have an:=K.out.rr r aa;have ad:=K.out.db.all p D;have am:=K.out.out.all r aa;have D1:=iV fun W (F:Below V.heap.size V W)=>Fz a p W (aT.out.below F) (ad.below F) (pJ ay.needs) (pJ ay.bars) (K.out.pz p D).1 (K.out.pz p D).2 (K.out.ps p D).1 (K.out.ps p D).2;have D2:=iV fun W (F:Below V.heap.size V W)=>Fz a r W (aT.out.below F) (am.below F) (pJ an.needs) (pJ an.bars) (K.out.rz r aa).1 (K.out.rz r aa).2 y.needs y.bars;have SD:Hid (jY false (lB a p)++jY true (lB a p)=jY false (lB a r)++jY true (lB a r)):=by show _=_;rw[y.deps,y.deps]
   obtain⟨bb,aX⟩:=U0 y (HF.out p D) (tR an) (K.out.rz r aa);have ON:=iV fun W (F:Below V.heap.size V W)=>Yx (p.depsOf r) r W ⟨(am.below F).needs,(am.below F).bars,(ad.below F).gives,(ad.below F).files,(ad.below F).scripts⟩ (am.below F) aX bb;have EQ:=iV (UZ (p:=p.depsOf r) (q:=r) y.nm.symm y.ver.symm y.ar.symm y.sm.symm rfl rfl y.gives.symm y.files.symm y.scripts.symm);rw[EQ.out] at ON;clear EQ y ay an ad am bb aX D aa z hr ax M bp be;have x0:=J.out wr HB.out 0 _ rfl;have x1:=J.out wr HB.out 1 _ rfl;have x2:=J.out wr HB.out 2 _ rfl;have x3:=J.out wr HB.out 3 _ rfl;have x4:=J.out wr HB.out 4 _ rfl;have x5:=J.out wr HB.out 5 _ rfl;have x6:=J.out wr HB.out 6 _ rfl;have x7:=J.out wr HB.out 7 _ rfl;have x8:=J.out wr HB.out 8 _ rfl;simp only[Nat.add_zero] at x0;unfold jn.val at D1;go_wp2_with fail;refine(D1.out wr HB.out).mono ?_;rintro e v1 ⟨P1,bs,L1,rfl,aN,hd1,aQ,aI,ag⟩;have V1:=iV (jc HB.out ag);have bk:=iV aN;have bf:=iV hd1;have bg:=iV aQ;have bi:=iV aI;clear ag aN hd1 aQ aI x0 x1 x2 x3 x4 x5 x6 x7 x8 D1;have y0:=H.out v1 V1.out 0 _ rfl;have y1:=H.out v1 V1.out 1 _ rfl;have y2:=H.out v1 V1.out 2 _ rfl;have y3:=H.out v1 V1.out 3 _ rfl;have y4:=H.out v1 V1.out 4 _ rfl;have y5:=H.out v1 V1.out 5 _ rfl;have y6:=H.out v1 V1.out 6 _ rfl;have y7:=H.out v1 V1.out 7 _ rfl;have y8:=H.out v1 V1.out 8 _ rfl;simp only[Nat.add_zero] at y0;unfold jn.val at D2;go_wp2_with fail;refine(D2.out v1 V1.out).mono ?_;rintro e v2 ⟨P2,bq,L2,rfl,aS,aR,aJ,bj,ab⟩;have V2:=iV (jc V1.out ab);have br:=iV aS;have bo:=iV aR;have bx:=iV aJ;have aG:=iV (bf.out.below ab);clear ab aS aR aJ bj y0 y1 y2 y3 y4 y5 y6 y7 y8 D2;have SM:=iV (Kc P1 P2 bs bq L1 L2 v2 aG.out bo.out (by rw[bk.out,br.out,SD.out]) (by have:=bg.out;omega) bi.out);go_wp2_with fail;refine SM.out.mono ?_;rintro e U ⟨rfl,ae⟩;have Z:=iV (jc V2.out ae);clear ae SM;have x0:=J.out U Z.out 0 _ rfl;have x1:=J.out U Z.out 1 _ rfl;have x2:=J.out U Z.out 2 _ rfl;have x3:=J.out U Z.out 3 _ rfl;have x4:=J.out U Z.out 4 _ rfl;have x5:=J.out U Z.out 5 _ rfl;have x6:=J.out U Z.out 6 _ rfl;have x7:=J.out U Z.out 7 _ rfl;have x8:=J.out U Z.out 8 _ rfl;simp only[Nat.add_zero] at x0;obtain⟨W4,ap⟩:∃ W4,U.alloc (.cells #[.string p.nm,.string p.ver,.string p.ar,.string p.sm,.slice p.na p.needs.length p.nc,.slice p.ba p.bars.length p.bc,.slice p.ga p.gives.length p.gc,.slice p.fa p.files.length p.fc,.slice p.sa p.scripts.length p.sc] 38)=W4:=⟨_,rfl⟩
   have V4:Hid (Below V.heap.size V W4):=by show Below _ _ _;rw[<-ap];exact Z.out.alloc Z.out.size _
   have K4:Hid (jh W4 U.heap.size p.cells):=by show jh _ _ _;rw[<-ap];exact jh.new U p.cells _
   have aE:=iV ap;clear ap;go_upto_region 19 with(fail)
   rw[aE.out];clear aE x0 x1 x2 x3 x4 x5 x6 x7 x8;have y4:=H.out W4 V4.out 4 _ rfl;have z4:=K4.out.cell 4 _ rfl;have f4:=K4.out.free 4 (by show 4<9;decide);have K5:=iV (K4.out.set 4 (by show 4<9;decide) (.slice r.na r.needs.length r.nc));have V5:=iV (jb V4.out Z.out.size (j:=4) (.slice r.na r.needs.length r.nc));obtain⟨W5,az⟩:∃ W5,W4.setCell ⟨U.heap.size,4,none⟩ (.slice r.na r.needs.length r.nc)=W5:=⟨_,rfl⟩
   rw[az] at K5 V5;have aU:=iV az;clear az;go_upto_region 20 with(fail)
   rw[aU.out];clear aU y4 z4 f4;have y5:=H.out W5 V5.out 5 _ rfl;have z5:=K5.out.cell 5 _ rfl;have f5:=K5.out.free 5 (by show 5<9;decide);have K6:=iV (K5.out.set 5 (by show 5<9;decide) (.slice r.ba r.bars.length r.bc));have V6:=iV (jb V5.out Z.out.size (j:=5) (.slice r.ba r.bars.length r.bc));obtain⟨N,aC⟩:∃ N,W5.setCell ⟨U.heap.size,5,none⟩ (.slice r.ba r.bars.length r.bc)=N:=⟨_,rfl⟩
   rw[aC] at K6 V6;have aH:=iV aC;clear aC;go_upto_region 21 with(fail)
   rw[aH.out];clear aH y5 z5 f5;have K6:Hid (jh N U.heap.size (p.depsOf r).cells):=K6;have z0:=K6.out.cell 0 _ rfl;have z1:=K6.out.cell 1 _ rfl;have z2:=K6.out.cell 2 _ rfl;have z3:=K6.out.cell 3 _ rfl;have z4:=K6.out.cell 4 _ rfl;have z5:=K6.out.cell 5 _ rfl;have z6:=K6.out.cell 6 _ rfl;have z7:=K6.out.cell 7 _ rfl;have z8:=K6.out.cell 8 _ rfl;have y0:=H.out N V6.out 0 _ rfl;have y1:=H.out N V6.out 1 _ rfl;have y2:=H.out N V6.out 2 _ rfl;have y3:=H.out N V6.out 3 _ rfl;have y4:=H.out N V6.out 4 _ rfl;have y5:=H.out N V6.out 5 _ rfl;have y6:=H.out N V6.out 6 _ rfl;have y7:=H.out N V6.out 7 _ rfl;have y8:=H.out N V6.out 8 _ rfl;simp only[Nat.add_zero] at y0;unfold jn.val at ON;simp only[jn.depsOf] at ON z0 z1 z2 z3 z4 z5 z6 z7 z8;have Dr:Below N.heap.size N N.drew:=bR.drew;have bt:=iV (ON.out N.drew (jc V6.out Dr));go_still_tail 5,(by kernel_rfl)
   go_wp2_with fail;refine bt.out.mono ?_;rintro e v4 ⟨rfl,ai⟩;have V7:=iV (jc V6.out (jc Dr ai));clear ai;go_wp2;go_roundw
   case rel=>exact⟨k+1,by omega,by go_num,V7⟩
   case measure=>simp[intOf];omega
  ·go_wp2;go_ret;exact⟨rfl,jc B4.out HB.out⟩
end
end Go.Proofs.YtkmjcombhjombaaGreatDoor
