/- A part of the proof. -/
import Derived.Test.YtkmjcombhjombaaGreatDoorK19
set_option maxRecDepth 100000
set_option maxHeartbeats 20000000
set_option linter.unusedVariables false
set_option linter.unusedSimpArgs false
namespace Go.Proofs.YtkmjcombhjombaaGreatDoor
variable{b c h i k mb n:Nat}{A:Option Addr}{W w wr:World}
section
open Go.RowKit Go.Deep
theorem OJ {x:Obj}(h:w.heap[b]?=some x)(o:Obj):(w.alloc o).heap[b]?=some x:=by
 have y:b<w.heap.size:=(Array.getElem?_eq_some_iff.1 h).1;rw[Below.heap_alloc w o b y];exact h
theorem Ia {xs:List iZ}(h:∀ x∈xs,x.kids≠[]):lK (xs.flatMap iZ.kids)=lK xs:=by
 induction xs with
 | nil=>rfl
 | cons a r ih=>
  rw[List.flatMap_cons,mU,ih (fun x y=>h x (by simp[y])),<-nY (h a (by simp))];rfl
theorem Tk {xs:List iZ}(h:∀ x∈xs,x.kids≠[]){x:iZ}(hx:xs[i]?=some x)(j:Nat):lK ((xs.take i).flatMap iZ.kids++x.kids.take j)<=lK xs:=by
 rw[mU,Ia (fun y z=>h y (List.mem_of_mem_take z))];have H:=H7 hx;have F:=ry xs (i+1);have D:=ry x.kids j;rw[<-nY (h x (gM hx))] at D;omega
theorem Ib {xs:List iZ}{x:iZ}(hx:xs[i]?=some x):(xs.take (i+1)).flatMap iZ.kids=(xs.take i).flatMap iZ.kids++x.kids:=by
 obtain⟨y,z⟩:=gS hx;rw[tS y,z,List.flatMap_append];simp
theorem Tl {ks:List iZ}{j:Nat}{t:iZ}(ht:ks[j]?=some t):ks.take (j+1)=ks.take j++[t]:=by
 obtain⟨y,z⟩:=gS ht;rw[tS y,z]
theorem Tm:(Tryz.prog.info? 84).map (fun i=>(i.zero,i.size,i.bytes))=some (some (.slice none 0 0),1,24):=by kernel_rfl
structure U6 (w wr:World) (mb h k:Nat) (A:Option Addr) (n c:Nat) (xs:List iZ) (ms:List (iZ×Nat)):Prop where
 lev:Q1 0 wr A n c xs
 met:ow wr mb ms
 xh:∀ x∈xs,x.ht+k<=h+1
 top:∃ x∈xs,x.ht+k=h+1
 mok:∀ i,i<k->∃ p∈ms,p.1.ht+i=h
 bel:Below w.heap.size w wr
 mlo:w.heap.size<=mb
 cnt:lK xs<=64
theorem U6.few {xs:List iZ}{ms:List (iZ×Nat)}(d:U6 w wr mb h k A n c xs ms):n<=64:=by
 have:=pg xs;have:=d.cnt;have:=d.lev.len;omega
theorem U6.start {W4:World}{T:iZ}(hT:kD w 0 none T)(hS:nL T)(hc:T.cnt<=64)(tt:TypeId)
  (hW:(w.alloc (.cells T.cells.toArray tt)).alloc (.map #[] 0)=W)
  (hW4:(W.alloc (.cells T.cells.toArray 86)).alloc (.cells #[.slice (some ⟨W.heap.size,0,none⟩) 1 1] 84)=W4):
  U6 w W4 (w.heap.size+1) T.ht 0 (some ⟨W.heap.size+1,0,none⟩) 1 1 [.mk ⟨#[]⟩ ⟨#[]⟩ 0 ⟨#[]⟩ (some ⟨W.heap.size,0,none⟩) 1 [T]] []:=by
 have N:W.heap.size=w.heap.size+2:=by rw[<-hW];simp
 have J:Below w.heap.size w W:=by rw[<-hW];exact(bR.alloc lr _).alloc (by simp) _
 have F:Below W.heap.size W W4:=by rw[<-hW4];exact(bR.alloc lr _).alloc (by simp) _
 have M:ow W (w.heap.size+1) []:=by
  rw[<-hW];have:=ow.made (w.alloc (.cells T.cells.toArray tt));simpa using this
 have I:W4.heap[W.heap.size]?=some (.cells T.cells.toArray 86 (0,0)):=by rw[<-hW4];exact OJ (heap_alloc_new W _) _
 have H:W4.heap[W.heap.size+1]?=some (.cells #[.slice (some ⟨W.heap.size,0,none⟩) 1 1] 84 (0,0)):=by
  have:=heap_alloc_new (W.alloc (.cells T.cells.toArray 86)) (.cells #[.slice (some ⟨W.heap.size,0,none⟩) 1 1] 84);rw[<-hW4];simpa using this
 have D:kD W4 0 none T:=(hT.low J).low F;refine⟨⟨rfl,⟨rfl,.inr ⟨W.heap.size+1,1,_,rfl,z0,H,lr,by decide,rfl,rfl⟩⟩,fun x y=>?_,fun x y=>?_,fun x y k z=>?_⟩,M.below F,fun x y=>?_,⟨_,List.mem_singleton.2 rfl,?_⟩,fun i K=>absurd K (by omega),jc J F,by omega,?_⟩
 ·obtain rfl:=List.mem_singleton.1 y;exact .mk _ ⟨by simp[iZ.cells,iZ.kids],.inr ⟨W.heap.size,1,_,rfl,z0,I,lr,by decide,rfl,by simp[iZ.kids,iZ.cells]⟩⟩ (fun g _=>by simp) (fun k z=>by simp only[iZ.kids,List.mem_singleton] at z;subst z;exact D)
 ·obtain rfl:=List.mem_singleton.1 y;simp[iZ.kids]
 ·obtain rfl:=List.mem_singleton.1 y;simp only[iZ.kids,List.mem_singleton] at z;subst z;exact hS
 ·obtain rfl:=List.mem_singleton.1 y;simp[iZ.ht,Hz]
 ·simp[iZ.ht,Hz]
 ·simp[lK,iZ.cnt];exact hc
theorem U6.round {xs:List iZ}{ms:List (iZ×Nat)}(d:U6 w wr mb h k A n c xs ms):OI wr.heap.size (wr.alloc (.map #[] 0)) mb wr.heap.size h k A n c xs none 0 0 [] ms []:=by
 have b:Below wr.heap.size wr (wr.alloc (.map #[] 0)):=bR.alloc lr _;exact⟨d.lev.below b,fun g y=>(d.lev.row.lt g y).2,.nil _ _,d.met.below b,ow.made wr,by have:=d.met.lt;omega,d.xh,by simp,by simp,d.mok,d.top⟩
theorem U6.after {s0 hb:Nat}{xs:List iZ}{B:Option Addr}{m cB:Nat}{ys:List iZ}{ms hs:List (iZ×Nat)}(d:OI s0 wr mb hb h k A n c xs B m cB ys ms hs)(hs:rY (xs.flatMap iZ.kids) ys ms)(hm:0<m)(bel:Below w.heap.size w wr)(mlo:w.heap.size<=mb)(hc:lK ys<=64):U6 w wr mb h (k+1) B m cB ys ms/\k<ms.length/\k+1<=h:=by
 obtain⟨F,z,I,H⟩:=d.next hs hm;exact⟨⟨⟨d.new.len,jK d.new.row z0,d.new.own,d.new.ne,d.new.shape⟩,d.met,fun y D=>by have:=d.yh y D;omega,H,I,bel,mlo,hc⟩,F,z⟩
theorem ow.len {ms:List (iZ×Nat)}(h:ow w b ms)(ty:TypeId):(Builtin.len_ #[328] ty #[.map (some b)]).run Tryz.prog w=.ok (.int .i64 ms.length) w:=by
 obtain⟨z,y,F,H⟩:=h.ex;have D:z.size=ms.length:=by have:=congrArg List.length H;simpa using this
 simp[Builtin.len_,run_underlying Tryz.underlying328,MapKept.run_getObj_map F,goInt,D]
theorem uO {B:Nat}(h:Below B w W):Below B w W.drew:=⟨h.os,h.tape,h.output,h.size,h.block⟩
theorem OM (T:iZ)(w:World)(hT:kD w 0 none T)(hS:nL T)(hc:T.cnt<=64)(hh:T.ht<=1000000):Calls Tryz.prog 239 #[T.val] w fun e w'=>(∃ r:Nat,e=.returned (.int .i64 r)/\r<=T.ht)/\Below w.heap.size w w':=by
 have ba:=@run_makeMap Tryz.prog;obtain⟨i1,aZ,bf,be,aK⟩:=info_parts Tm;obtain⟨W,hW⟩:∃ W,(w.alloc (.cells T.cells.toArray 86)).alloc (.map #[] 0)=W:=⟨_,rfl⟩
 have zW:W.heap.size=w.heap.size+2:=by rw[<-hW];simp
 obtain⟨W4,am⟩:∃ W4,(W.alloc (.cells T.cells.toArray 86)).alloc (.cells #[.slice (some ⟨W.heap.size,0,none⟩) 1 1] 84)=W4:=⟨_,rfl⟩
 have D0:Hid (U6 w W4 (w.heap.size+1) T.ht 0 (some ⟨W.heap.size+1,0,none⟩) 1 1 [.mk ⟨#[]⟩ ⟨#[]⟩ 0 ⟨#[]⟩ (some ⟨W.heap.size,0,none⟩) 1 [T]] []):=U6.start hT hS hc _ hW am;obtain⟨h,aC⟩:∃ h,T.ht=h:=⟨_,rfl⟩
 rw[aC] at D0 hh |-;have an:=iV am;have HW:=iV hW;clear hT hS hc aC hW am zW;unfold iZ.val;go_in;go_upto_region 3 with(fail)
 have aG:(w.alloc (.cells #[.string T.op,.string T.nm,.int .i64 T.aop,.string T.ver,.slice T.ka T.kids.length T.kc] 86)).alloc (.map #[] 0)=W:=HW.out;rw[aG];have K0:Hid (jh W w.heap.size T.cells):=by rw[<-HW.out];exact(jh.new w T.cells _).alloc _
 have k0:=K0.out.cell 0 _ rfl;have k1:=K0.out.cell 1 _ rfl;have k2:=K0.out.cell 2 _ rfl;have k3:=K0.out.cell 3 _ rfl;have k4:=K0.out.cell 4 _ rfl;clear aG K0 HW;go_wp2_with fail;clear k0 k1 k2 k3 k4;go_loopw [3,5,6] (fun dv lv ar wr=>∃ (k d n c:Nat) (A:Option Addr) (F:List iZ) (z:List (iZ×Nat)),dv=.int .i64 d/\lv=.slice A n c/\ar=.int .i64 k/\d<=h/\k<=h/\Hid (U6 w wr (w.heap.size+1) h k A n c F z)) (fun _ _ ar _=>h-(intOf ar).toNat)
 case atStart=>have:=D0.out;rw[<-an.out] at this;exact⟨0,0,1,1,_,_,_,rfl,rfl,rfl,z0,z0,this⟩
 case round=>
  clear D0 an;obtain⟨k,d,n,c,A,F,z,rfl,rfl,rfl,Z,hk,HD⟩:=hrel;have hn:=HD.out.few;have ao:=HD.out.cnt;obtain⟨O,ag⟩:∃ O,wr.heap.size=O:=⟨_,rfl⟩
  obtain⟨H,J⟩:∃ H,wr.alloc (.map #[] 0)=H:=⟨_,rfl⟩
  have S1:Hid (OI O H (w.heap.size+1) O h k A n c F none 0 0 [] z []):=by rw[<-J,<-ag];exact HD.out.round
  have B1:Hid (Below w.heap.size w H):=by rw[<-J];exact HD.out.bel.alloc HD.out.bel.size _
  have ac:Hid (lK F<=64):=ao;have aj:Hid (w.heap.size<=O):=by rw[<-ag];exact HD.out.bel.size
  clear ao HD;go_wp2_with fail;clear J ag ba;go_loopw [3,7,25] (fun dv bv iv wr=>∃ (i d m N:Nat) (B:Option Addr) (y:List iZ) (z hs:List (iZ×Nat)),dv=.int .i64 d/\bv=.slice B m N/\iv=.int .i64 i/\d<=h/\i<=n/\Hid (OI O wr (w.heap.size+1) O h k A n c F B m N y z hs)/\Hid (rY ((F.take i).flatMap iZ.kids) y z)/\Hid (Below w.heap.size w wr)/\Hid (lK y<=lK ((F.take i).flatMap iZ.kids))) (fun _ _ iv _=>n-(intOf iv).toNat)
  case atStart=>exact⟨0,d,0,0,none,[],z,[],rfl,rfl,rfl,Z,z0,S1,rY.nil _ _,B1,lr⟩
  case round=>
   clear S1 B1;obtain⟨i,d,m,N,B,y,z,hs,rfl,rfl,rfl,Z,hi,D,HN,HB,HC⟩:=hrel;by_cases al:i<n
   ·obtain⟨x,hx⟩:∃ x,F[i]?=some x:=⟨_,gG (by rw[D.out.lev.len];exact al)⟩
    have HX:=iV hx;have I:Hid (x∈F):=gM hx;obtain⟨b,off,hA,V⟩:=(jL D.out.lev.row).one i _ (by rw[List.getElem?_map,hx];rfl) al;have af:=fun W=>jm (T:=363) (E:=84) (sz:=1) (c:=c) Tryz.underlying363 rfl Tryz.sizeOf84 hA al W;simp only[Nat.mul_one] at af;obtain⟨kl,ai⟩:∃ kl,x.kids.length=kl:=⟨_,rfl⟩
    have ah:=iV ai;have bi:kl<=64:=by
     have h1:=pg x.kids;rw[<-nY (D.out.lev.ne x I.out)] at h1;have h2:=qT I.out;have:=ac.out;omega
    unfold iZ.sl at V;rw[ai] at V;clear hx hA ai;go_wp2_with fail;clear V af;go_loopw [3,7,31] (fun dv bv jv wr=>∃ (j d m N:Nat) (B:Option Addr) (y:List iZ) (z hs:List (iZ×Nat)),dv=.int .i64 d/\bv=.slice B m N/\jv=.int .i64 j/\d<=h/\j<=kl/\Hid (OI O wr (w.heap.size+1) O h k A n c F B m N y z hs)/\Hid (rY ((F.take i).flatMap iZ.kids++x.kids.take j) y z)/\Hid (Below w.heap.size w wr)/\Hid (lK y<=lK ((F.take i).flatMap iZ.kids++x.kids.take j))) (fun _ _ jv _=>kl-(intOf jv).toNat)
    case atStart=>exact⟨0,d,m,N,B,y,z,hs,rfl,rfl,rfl,Z,z0,D,by simpa [Hid] using HN.out,HB,by simpa [Hid] using HC.out⟩
    case round=>
     clear D HN HB HC;obtain⟨j,d,m,N,B,y,z,hs,rfl,rfl,rfl,Z,hj,D,HN,HB,HC⟩:=hrel;by_cases az:j<kl
     ·obtain⟨t,ht⟩:∃ t,x.kids[j]?=some t:=⟨_,gG (by rw[ah.out];exact az)⟩
      have HT:=iV ht;have ae:Hid (t∈x.kids):=gM ht;have aL:=iV ((D.out.lev.own x I.out).kids t ae.out);have aH:=iV (D.out.lev.shape x I.out t ae.out);obtain⟨b,off,hA,V⟩:=(D.out.lev.own x I.out).rd.cell j t ht;have e0:=V 0 _ rfl;have e1:=V 1 _ rfl;have e2:=V 2 _ rfl;have e3:=V 3 _ rfl;have e4:=V 4 _ rfl;simp only[Nat.add_zero] at e0;have af:=fun W=>jm (T:=84) (E:=86) (sz:=5) (c:=x.kc) Tryz.underlying84 rfl Tryz.sizeOf86 hA az W;have aV:Hid (t.ht+k<=h):=by have h1:=VX ae.out;have h2:=D.out.xh x I.out;show _<=_;omega
      have TK:Hid (x.kids.take (j+1)=x.kids.take j++[t]):=Tl ht;clear ht hA V;by_cases tk:t.kids=[]
      ·have o0:t.op.toList=[]:=by rw[iY];exact kw _ (aH.out.leaf tk)
       have o1:t.op.toList.isEmpty=true:=by rw[o0];rfl
       have l0:t.kids.length=0:=by rw[tk];rfl
       rw[l0] at e4;have SN:Hid (rY ((F.take i).flatMap iZ.kids++x.kids.take (j+1)) y z):=by show rY _ _ _;rw[TK.out,<-List.append_assoc];exact HN.out.leaf tk
       have X:Hid (lK y<=lK ((F.take i).flatMap iZ.kids++x.kids.take (j+1))):=by have:=HC.out;show _<=_;rw[TK.out,<-List.append_assoc,mU];omega
       have SB:=iV (D.out.below ((Below.refl wr.heap.size wr).alloc lr (.cells #[.string t.op,.string t.nm,.int .i64 t.aop,.string t.ver,.slice t.ka 0 t.kc] 86)));have BB:=iV (HB.out.alloc HB.out.size (.cells #[.string t.op,.string t.nm,.int .i64 t.aop,.string t.ver,.slice t.ka 0 t.kc] 86));clear tk l0;go_wp2;go_roundw
       case rel=>exact⟨j+1,max d k,m,N,B,y,z,hs,by congr 1;omega,rfl,by go_num,by omega,by omega,SB,SN,BB,X⟩
       case measure=>simp[intOf];omega
      ·obtain⟨g,bn,hA,hg,-⟩:=uN aL.out tk;have aN:=iV hA;obtain⟨K,ad⟩:∃ K,t.kids.length=K:=⟨_,rfl⟩
       have aE:=iV ad;have aB:0<K:=by rw[<-ad];exact List.length_pos_iff.2 tk
       have bk:K<=1000000:=by
        have h1:=pg t.kids;rw[<-nY tk] at h1;have h2:=qT ae.out;rw[<-nY (D.out.lev.ne x I.out)] at h2;have h3:=qT I.out;have:=ac.out;omega
       rw[ad] at e4;have U:=fun W=>jm (T:=84) (E:=86) (sz:=5) (n:=K) (c:=t.kc) (k:=0) Tryz.underlying84 rfl Tryz.sizeOf86 hA aB W;simp only[Nat.zero_mul,Nat.add_zero] at U;have aq:∀ W:World,(Instr.indexAt 84 (.slice t.ka K t.kc) (.int .i64 0)).run Tryz.prog W=.ok (.pointer (some ⟨g,0,none⟩)) W:=U;have l1:decide ((0:Int)<(K:Int))=true:=dT (by omega);have l2:decide (0<K)=true:=dT aB;have aa:Hid (t.kids≠[]):=tk;clear tk hA hg ad U;go_upto_region 15 with(fail)
       obtain⟨H,J⟩:∃ H,wr.alloc (.cells #[.string t.op,.string t.nm,.int .i64 t.aop,.string t.ver,.slice t.ka K t.kc] 86)=H:=⟨_,rfl⟩
       have B1:Hid (Below wr.heap.size wr H):=by rw[<-J];exact bR.alloc lr _
       have K1:Hid (jh H wr.heap.size [.string t.op,.string t.nm,.int .i64 t.aop,.string t.ver,.slice t.ka K t.kc]):=by rw[<-J];exact jh.new wr [.string t.op,.string t.nm,.int .i64 t.aop,.string t.ver,.slice t.ka K t.kc] _
       rw[J];clear J e0 e1 e2 e3 e4 af l1 l2;have u4:=K1.out.cell 4 _ rfl;have ap:wr.heap.size<H.heap.size:=K1.out.sz;have aT:¬ wr.heap.size=H.heap.size:=by omega
       go_region;obtain⟨Y,ab⟩:∃ Y,(H.alloc (.cells #[.pointer (some ⟨g,0,none⟩),.int .i64 K] 366)).drew=Y:=⟨_,rfl⟩
       have B2:Hid (Below H.heap.size H Y):=by rw[<-ab];exact uO ((Below.refl H.heap.size H).alloc lr _)
       have K2:Hid (jh Y H.heap.size [.pointer (some ⟨g,0,none⟩),.int .i64 K]):=by rw[<-ab];exact(jh.new H [.pointer (some ⟨g,0,none⟩),.int .i64 K] _).drew
       have aU:=iV (K1.out.below B2.out);have BW:Hid (Below wr.heap.size wr Y):=jc B1.out B2.out;have D2:=iV (D.out.below BW.out);have O2:=iV (aL.out.low BW.out);have BB:=iV (jc HB.out BW.out);have aA:Hid (t.key=.agg #[.pointer (some ⟨g,0,none⟩),.int .i64 K]):=by show _=_;unfold iZ.key;rw[aN.out,aE.out]
       rw[ab];have aM:=iV ap;clear ab u4 ap aT aq B1 B2 K1;have v0:=K2.out.cell 0 _ rfl;have v1:=K2.out.cell 1 _ rfl;have R:=D2.out.here.look O2.out aa.out;rw[aA.out] at R;rcases R with ax | ⟨p,hp,ay,ax⟩
       ·obtain⟨w1,aQ,r1,k1,g1,z1,f1,-,-⟩:=(D2.out.here.below (w':=Y.drew) ⟨rfl,rfl,rfl,lr,fun _ _=>rfl⟩).put (O2.out.low (w':=Y.drew) ⟨rfl,rfl,rfl,lr,fun _ _=>rfl⟩) aa.out k;have M:=iV (D2.out.below (w':=Y.drew) ⟨rfl,rfl,rfl,lr,fun _ _=>rfl⟩);have aI:=iV (O2.out.low (w':=Y.drew) ⟨rfl,rfl,rfl,lr,fun _ _=>rfl⟩);have m1:ow w1 (w.heap.size+1) z:=M.out.met.tame (.map M.out.here) (fun e=>D2.out.hne (by injection e)) g1;obtain⟨w2,aF,r2,k2,g2,z2,-,f2,f3⟩:=m1.put (aI.out.tame (.map M.out.here) g1) aa.out k;rw[aA.out] at r1 r2;have bg:=iV g1;have aW:=iV k1;have bb:=iV f1;have aS:=iV g2;have bh:=iV k2;have aD:=iV f2;have aJ:=iV f3;have aY:O<wr.heap.size:=D.out.here.lt;have bd:w.heap.size+1<wr.heap.size:=D.out.met.lt;have aR:wr.heap.size<H.heap.size:=aM.out;have Kl:=iV (K2.out.drew.grownBy g1 (fun e=>by injection e with e;omega));have Kw:=iV ((aU.out.drew.grownBy g1 (fun e=>by injection e with e;omega)).grownBy g2 (fun e=>by injection e with e;omega));have q0:=Kl.out.cell 0 _ rfl;have q1:=Kl.out.cell 1 _ rfl;have NW:=iV ((M.out.new.map M.out.here g1).map m1 g2);have B3:=iV (mP (mP (uO BB.out) g1 aj.out) g2 (Nat.le_succ _));have bm:O<w2.heap.size:=by have:=Kw.out.sz;omega
        have au:m<=64:=by
         have h1:=pg y;have h2:=HC.out;have h3:=D.out.new.len;have h4:=Tk D.out.lev.ne HX.out j;have:=ac.out;omega
        have bc:w.heap.size<=w2.heap.size:=by have:=aj.out;omega
        clear g1 k1 f1 g2 k2 f2 f3 z1 z2 m1 aY bd aR;go_wp2;go_region;clear v0 v1 q0 q1 r1 r2 ax;have y4:=Kw.out.cell 4 _ rfl;go_wp2_with (at_builtin;refine je _ rfl _ _ _ rfl O 84 i1 _ 1 24 Tryz.underlying363 aZ bf be aK rfl (by omega) (.slice B m N) m _ rfl (NW.out.row.alloc _) (w2.heap.size+1) (some ⟨w2.heap.size,0,none⟩) 1 1 [.slice t.ka K t.kc] rfl (oe w2 _ _) (by simp[Value.oneCell']) (by simp only[maxLen];omega) (by omega) (by simp;omega) ?_;intro v1 w3 o1 g3 a1);obtain⟨av,c3,rfl⟩:=jk o1;have o2:w3.ownsRow O 84 1 (.slice av (m+1) c3) (m+1) (y.map iZ.sl++[t.sl]):=by rw[show t.sl=.slice t.ka K t.kc from by unfold iZ.sl;rw[aE.out]];exact o1
        have D3:=iV (M.out.grow aI.out aa.out aH.out.kids aV.out aW.out bg.out bb.out bh.out aS.out aD.out aJ.out ((Below.refl w2.heap.size w2).alloc lr _) o2 g3);have aX:Hid (Below w.heap.size w w3):=(B3.out.alloc bc _).grown g3 (by simp;omega) (fun j' aP=>by have:=(NW.out.row.lt j' aP).1;have:=aj.out;omega);have SN:Hid (rY ((F.take i).flatMap iZ.kids++x.kids.take (j+1)) (y++[t]) aF):=by show rY _ _ _;rw[TK.out,<-List.append_assoc];exact HN.out.grow aD.out aJ.out
        have X:Hid (lK (y++[t])<=lK ((F.take i).flatMap iZ.kids++x.kids.take (j+1))):=by have:=HC.out;show _<=_;rw[TK.out,<-List.append_assoc,mU,mU _ [t]];omega
        clear o1 o2 g3 a1 y4;go_wp2;go_roundw
        case rel=>exact⟨j+1,d,m+1,c3,av,y++[t],aF,aQ,rfl,rfl,by go_num,Z,by omega,D3,SN,aX,X⟩
        case measure=>simp[intOf];omega
       ·have SN:Hid (rY ((F.take i).flatMap iZ.kids++x.kids.take (j+1)) y z):=by show rY _ _ _;rw[TK.out,<-List.append_assoc];exact D2.out.hit HN.out hp ay
        have X:Hid (lK y<=lK ((F.take i).flatMap iZ.kids++x.kids.take (j+1))):=by have:=HC.out;show _<=_;rw[TK.out,<-List.append_assoc,mU];omega
        clear hp ay;go_wp2;go_roundw
        case rel=>exact⟨j+1,d,m,N,B,y,z,hs,rfl,rfl,by go_num,Z,by omega,D2,SN,BB,X⟩
        case measure=>simp[intOf];omega
     ·have SN:Hid (rY ((F.take (i+1)).flatMap iZ.kids) y z):=by have:=HN.out;rw[tL (l:=x.kids) (by rw[ah.out];omega),<-Ib HX.out] at this;exact this
      have X:Hid (lK y<=lK ((F.take (i+1)).flatMap iZ.kids)):=by have:=HC.out;rw[tL (l:=x.kids) (by rw[ah.out];omega),<-Ib HX.out] at this;exact this
      go_wp2;go_roundw
      case rel=>exact⟨i+1,d,m,N,B,y,z,hs,rfl,rfl,by go_num,Z,by omega,D,SN,HB,X⟩
      case measure=>simp[intOf];omega
   ·have aO:=D.out.lev.len;have SN:Hid (rY (F.flatMap iZ.kids) y z):=by have:=HN.out;rw[tL (by omega)] at this;exact this
    have X:Hid (lK y<=64):=by have h1:=HC.out;have h2:=ac.out;rw[tL (by omega),Ia D.out.lev.ne] at h1;show _<=_;omega
    have au:m<=64:=by have h1:=pg y;have h2:=D.out.new.len;have:=X.out;omega
    clear aO;by_cases ak:m=0
    ·have q0:((m:Int)==0)=true:=by simp[ak]
     clear ak;go_wp2;go_ret;exact⟨⟨d,rfl,Z⟩,HB.out⟩
    ·have q0:((m:Int)==0)=false:=by simp;omega
     obtain⟨o1,o2,o3⟩:=U6.after (w:=w) D.out SN.out (by omega) HB.out (Nat.le_succ _) X.out;have O1:=iV o1;have bj:=D.out.met.len;have q1:decide ((z.length:Int)<=(k:Int))=false:=dF (by omega);have q2:decide (z.length<=k)=false:=dF (by omega);clear o1 o2 ak;go_wp2;go_roundw
     case rel=>exact⟨k+1,d,m,N,B,y,z,rfl,rfl,by go_num,Z,o3,O1⟩
     case measure=>simp[intOf];omega
structure Gy (w:World) (b:Nat) (ms:List (iZ×Nat)):Prop where
 map:ow w b ms
 val:∀ p∈ms,p.2=lK p.1.kids
theorem Gy.below {w':World}{ms:List (iZ×Nat)}(h:Gy w b ms)(hb:Below w.heap.size w w'):Gy w' b ms:=⟨h.map.below hb,h.val⟩
def AtC (T:iZ):Prop:=∀ (w:World)(b:Nat)(ms:List (iZ×Nat)),Gy w b ms->kD w 0 none T->nL T->T.cnt<=64 ->
 Calls Tryz.prog 240 #[T.val,.map (some b)] w fun e w'=>e=.returned (.int .i64 T.cnt)/\w.grownBy w' (some b)/\∃ ms',Gy w' b ms'
theorem V8 (T:iZ)(IH:∀ t:iZ,t.ht<T.ht->AtC t):AtC T:=by
 intro w b V hM hO hS hc;have an:=@run_makeMap Tryz.prog;have HM:=iV hM;have HO:=iV hO;have HS:=iV hS;have HC:=iV hc;have ak:=iV IH;clear hM hO hS IH hc;obtain⟨z,K⟩:∃ z,w.alloc (.cells #[.string T.op,.string T.nm,.int .i64 T.aop,.string T.ver,.slice T.ka T.kids.length T.kc] 86)=z:=⟨_,rfl⟩
 have B1:Hid (Below w.heap.size w z):=by rw[<-K];exact bR.alloc lr _
 have K1:Hid (jh z w.heap.size T.cells):=by rw[<-K];exact jh.new w T.cells _
 by_cases H:T.kids=[]
 ·have o0:T.op.toList=[]:=by rw[iY];exact kw _ (HS.out.leaf H)
  have o1:T.op.toList.isEmpty=true:=by rw[o0];rfl
  have E:Hid (T.cnt=1):=DD H;have M1:=iV (HM.out.below B1.out);have k0:=K1.out.cell 0 _ rfl;clear H an;unfold iZ.val;go_in;go_wp2;go_ret;exact⟨jz (by rw[E.out];rfl),mS B1.out _,V,M1.out⟩
 obtain⟨g,au,hA,Z,-⟩:=uN HO.out H;have o0:(T.op.toList==([]:LU))=false:=by rw[iY,bF];intro e;exact HS.out.node H (by rw[<-iX,e];rfl)
 have o1:T.op.toList.isEmpty=false:=by rw[iY,jB];exact dF (HS.out.node H)
 have o2:¬ T.op.toList=[]:=by intro e;rw[e] at o1;simp at o1
 have ai:=iV hA;obtain⟨y,J⟩:∃ y,T.kids.length=y:=⟨_,rfl⟩
 have D:=iV J;have am:0<y:=by rw[<-J];exact List.length_pos_iff.2 H
 have CN:Hid (T.cnt=lK T.kids):=nY H;have ar:y<=64:=by have h1:=pg T.kids;have:=HC.out;have:=CN.out;omega
 have ab:∀ W:World,(Instr.indexAt 84 (.slice T.ka y T.kc) (.int .i64 0)).run Tryz.prog W=.ok (.pointer (some ⟨g,0,none⟩)) W:=by
  have N:=fun W=>jm (T:=84) (E:=86) (sz:=5) (n:=y) (c:=T.kc) (k:=0) Tryz.underlying84 rfl Tryz.sizeOf86 hA am W;simp only[Nat.zero_mul,Nat.add_zero] at N;exact N
 have aa:Hid (T.kids≠[]):=H;have l1:((y:Int)==0)=false:=by simp;omega
 have af:Hid (T.key=.agg #[.pointer (some ⟨g,0,none⟩),.int .i64 y]):=by show _=_;unfold iZ.key;rw[ai.out,D.out]
 have KV:Hid (T.val=.agg #[.string T.op,.string T.nm,.int .i64 T.aop,.string T.ver,.slice T.ka y T.kc]):=by show _=_;unfold iZ.val;rw[D.out]
 have ap:w.heap.size<z.heap.size:=K1.out.sz;have ao:¬ w.heap.size=z.heap.size:=by omega
 have u0:=K1.out.cell 0 _ rfl;have u4:=K1.out.cell 4 _ rfl;rw[J] at K u4;rw[KV.out];clear H hA Z J;go_in;go_upto_region 5 with(fail)
 clear K;go_region;obtain⟨W2,I⟩:∃ W2,(z.alloc (.cells #[.pointer (some ⟨g,0,none⟩),.int .i64 y] 366)).drew=W2:=⟨_,rfl⟩
 have B2:Hid (Below z.heap.size z W2):=by rw[<-I];exact uO ((Below.refl z.heap.size z).alloc lr _)
 have K2:Hid (jh W2 z.heap.size [.pointer (some ⟨g,0,none⟩),.int .i64 y]):=by rw[<-I];exact(jh.new z [.pointer (some ⟨g,0,none⟩),.int .i64 y] _).drew
 have BW:Hid (Below w.heap.size w W2):=jc B1.out B2.out;have KB:=iV (K1.out.below B2.out);have M2:=iV (HM.out.below BW.out);have O2:=iV (HO.out.low BW.out);have al:b<w.heap.size:=HM.out.map.lt;rw[I];clear I u0 u4 ab ap ao o0 o1 o2 l1;have v0:=K2.out.cell 0 _ rfl;have v1:=K2.out.cell 1 _ rfl;have u4:=KB.out.cell 4 _ rfl;rw[D.out] at u4;have F:=M2.out.map.look O2.out aa.out;rw[af.out] at F;rcases F with ac | ⟨p,hp,ad,ac⟩
 ·go_wp2_with fail;clear ac v0 v1 u4;go_loopw [8,36] (fun sv iv wr=>∃ (i s:Nat) (V:List (iZ×Nat)),sv=.int .i64 s/\iv=.int .i64 i/\i<=y/\s<=64/\Hid (s=lK (T.kids.take i))/\Hid (Gy wr b V)/\Hid (kD wr 0 none T)/\Hid (jh wr z.heap.size [.pointer (some ⟨g,0,none⟩),.int .i64 y])/\Hid (w.grownBy wr (some b))) (fun _ iv _=>y-(intOf iv).toNat)
  case atStart=>exact⟨0,0,V,rfl,rfl,z0,by omega,by simp[Hid,lK],M2,O2,K2,mS BW.out _⟩
  case round=>
   clear M2 O2 BW KB;obtain⟨i,s,V,rfl,rfl,hi,hs,ae,R,O,Y,HG⟩:=hrel;by_cases ag:i<y
   ·obtain⟨t,ht⟩:∃ t,T.kids[i]?=some t:=⟨_,gG (by rw[D.out];exact ag)⟩
    have U:Hid (t∈T.kids):=gM ht;obtain⟨b',off,hA,he⟩:=O.out.rd.cell i t ht;have e0:=he 0 _ rfl;have e1:=he 1 _ rfl;have e2:=he 2 _ rfl;have e3:=he 3 _ rfl;have e4:=he 4 _ rfl;simp only[Nat.add_zero] at e0;have aq:=fun W=>jm (T:=84) (E:=86) (sz:=5) (c:=T.kc) Tryz.underlying84 rfl Tryz.sizeOf86 hA ag W;have SM:Hid (s+t.cnt=lK (T.kids.take (i+1))):=by show _=_;rw[H7 ht,ae.out]
    have aj:s+t.cnt<=64:=by have h1:=SM.out;have h2:=ry T.kids (i+1);have:=HC.out;have:=CN.out;omega
    obtain⟨W3,X⟩:∃ W3,wr.alloc (.cells #[.string t.op,.string t.nm,.int .i64 t.aop,.string t.ver,.slice t.ka t.kids.length t.kc] 86)=W3:=⟨_,rfl⟩
    have B3:Hid (Below wr.heap.size wr W3):=by rw[<-X];exact bR.alloc lr _
    have M3:=iV (R.out.below B3.out);have O3:=iV (O.out.low B3.out);have hcall:=ak.out t (VX U.out) W3 b V M3.out (O3.out.kids t U.out) (HS.out.kids t U.out) (by omega);unfold iZ.val at hcall;have K3:Hid (jh W3 wr.heap.size t.cells):=by rw[<-X];exact jh.new wr t.cells _
    have a0:=K3.out.cell 0 _ rfl;have a1:=K3.out.cell 1 _ rfl;have a2:=K3.out.cell 2 _ rfl;have a3:=K3.out.cell 3 _ rfl;have a4:=K3.out.cell 4 _ rfl;clear ht hA he;go_wp2_with fail;refine hcall.mono ?_;rintro e w4 ⟨rfl,Z,M,ah⟩;have K4:=iV ((Y.out.below B3.out).grownBy Z (by simp;have:=B2.out.size;have:=al;have:=B1.out.size;omega));have O4:=iV (O3.out.tame (.map M3.out.map) Z);have M4:=iV ah;have G4:=iV (ja (uF HG.out B3.out) Z);clear X hcall Z ah a0 a1 a2 a3 a4 e0 e1 e2 e3 e4 aq;go_wp2;go_roundw
    case rel=>exact⟨i+1,s+t.cnt,M,by congr 1;omega,by go_num,by omega,aj,SM,M4,O4,K4,G4⟩
    case measure=>simp[intOf];omega
   ·have E:Hid (T.cnt=s):=by show _=_;rw[ae.out,tL (by rw[D.out];omega),CN.out]
    obtain⟨w1,M,r1,k1,g1,z1,f1,-,-⟩:=R.out.map.put O.out aa.out s;rw[af.out] at r1;have M5:Hid (Gy w1 b M):=⟨k1,fun p hp=>by
     rcases f1 p hp with⟨q,hq,rfl⟩ | ⟨h1,h2⟩
     ·exact R.out.val q hq
     ·rw[h1,h2,<-CN.out,E.out]⟩
    have G5:=iV (ja HG.out g1);have v0:=Y.out.cell 0 _ rfl;have v1:=Y.out.cell 1 _ rfl;clear k1 g1 z1 f1;go_wp2;go_ret;exact⟨jz (by rw[E.out]),G5.out,M,M5.out⟩
 ·have E:Hid (p.2=T.cnt):=by show _=_;rw[CN.out,M2.out.val p hp,ad]
  have G2:=iV (mS BW.out (some b));clear hp ad;go_wp2;go_ret;exact⟨jz (by rw[E.out]),G2.out,V,M2.out⟩
theorem OO (T:iZ):AtC T:=by
 have:∀ n:Nat,∀ T:iZ,T.ht<n->AtC T:=by
  intro n
  induction n with
  | zero=>intro T h;omega
  | succ n ih=>intro T h;exact V8 T fun t ht=>ih t (by omega)
 exact this (T.ht+1) T (by omega)
theorem DQ (nm:BA)(aop:Nat)(ver:BA)(hn:mC (bl nm)=true)(ho:aop<=5)(hv0:aop=0->ver.size=0)(hv:0<aop->kf 2 ver=0)(w:World)(hG:Gl w):Calls Tryz.prog 273 #[.agg #[.string ⟨#[]⟩,.string nm,.int .i64 aop,.string ver,.slice none 0 0]] w fun e w'=>e=.returned (.int .i64 0)/\Below w.heap.size w w':=by
 have Y:=tD hn;have H:=fun W=>vv nm W (by omega);rw[hn] at H;have V:=iV hG;have J:=iV hv0;have Z:=iV hv;clear hn hv0 hv hG;obtain⟨z,D⟩:∃ z,w.alloc (.cells #[.string ⟨#[]⟩,.string nm,.int .i64 aop,.string ver,.slice none 0 0] 86)=z:=⟨_,rfl⟩
 have N:Hid (Below w.heap.size w z):=by rw[<-D];exact bR.alloc lr _
 have F:Hid (jh z w.heap.size [.string ⟨#[]⟩,.string nm,.int .i64 aop,.string ver,.slice none 0 0]):=by rw[<-D];exact jh.new w [.string ⟨#[]⟩,.string nm,.int .i64 aop,.string ver,.slice none 0 0] _
 have k1:=F.out.cell 1 _ rfl;have k2:=F.out.cell 2 _ rfl;have k3:=F.out.cell 3 _ rfl;have k4:=F.out.cell 4 _ rfl;by_cases K:aop=0
 ·have U:ver.toList=[]:=by rw[iY,kw ver (J.out K)]
  have X:ver.toList.isEmpty=true:=by rw[U];rfl
  subst K;go_in;go_wp2_with fail;refine(H _).mono ?_;rintro e w' ⟨rfl,rfl⟩;go_wp2;go_ret;exact⟨rfl,bR.alloc lr _⟩
 ·have y:=Z.out (by omega);have q0:((aop:Int)==0)=false:=by simp;omega
  have q1:decide ((aop:Int)<0)=false:=dF (by omega);have q2:decide ((5:Int)<(aop:Int))=false:=dF (by omega);have q3:decide (5<aop)=false:=dF (by omega);have I:=DE y;have O:=jT 2 ver z (V.out.below N.out) (by omega);rw[y] at O;clear K y I;go_in;go_wp2_with fail;refine(H _).mono ?_;rintro e w' ⟨rfl,rfl⟩;go_wp2_with fail;refine O.mono ?_;rintro e w2 ⟨rfl,M⟩;have R:=iV (jc N.out M);clear M;go_wp2;go_ret;exact⟨rfl,R.out⟩
theorem BG (w:World):Calls Tryz.prog 273 #[.agg #[.string ⟨#[]⟩,.string ⟨#[]⟩,.int .i64 0,.string ⟨#[]⟩,.slice none 0 0]] w fun e w'=>e=.returned (.int .i64 10)/\Below w.heap.size w w':=by
 have y:=fun W=>vv ⟨#[]⟩ W (by decide);rw[show mC (bl ⟨#[]⟩)=false from by rfl] at y;have z:Hid (Below w.heap.size w (w.alloc (.cells #[.string ⟨#[]⟩,.string ⟨#[]⟩,.int .i64 0,.string ⟨#[]⟩,.slice none 0 0] 86))):=bR.alloc lr _;go_in;go_wp2_with fail;refine(y _).mono ?_;rintro e w' ⟨rfl,rfl⟩;go_wp2;go_ret;exact⟨rfl,z.out⟩
theorem LD (w:World):Calls Tryz.prog 241 #[.agg #[.string ⟨#[]⟩,.string ⟨#[]⟩,.int .i64 0,.string ⟨#[]⟩,.slice none 0 0]] w fun e w'=>e=.returned (.int .i64 10)/\Below w.heap.size w w':=by
 have D:Hid (Below w.heap.size w (w.alloc (.cells #[.string ⟨#[]⟩,.string ⟨#[]⟩,.int .i64 0,.string ⟨#[]⟩,.slice none 0 0] 86))):=bR.alloc lr _;go_in;go_wp2_with fail;refine(BG _).mono ?_;rintro e F ⟨rfl,y⟩;have z:=iV (jc D.out y);clear y;go_wp2;go_ret;exact⟨rfl,z.out⟩
def ChC (T:iZ):Prop:=∀ w:World,Gl w->kD w 0 none T->T.cnt<=64->Calls Tryz.prog 241 #[T.val] w fun e w'=>e=.returned (.int .i64 0)/\Below w.heap.size w w'
theorem OU {T:iZ}(h:lT T):ChC T:=by
 induction h with
 | atom nm aop ver hn ho hv0 hv=>
  intro w R _ _;have hA:=fun W hW=>DQ nm aop ver hn ho hv0 hv W hW;have HG:=iV R;clear hn ho hv0 hv R;obtain⟨y,D⟩:∃ y,w.alloc (.cells #[.string ⟨#[]⟩,.string nm,.int .i64 aop,.string ver,.slice none 0 0] 86)=y:=⟨_,rfl⟩
  have M:Hid (Below w.heap.size w y):=by rw[<-D];exact bR.alloc lr _
  have z:Hid (jh y w.heap.size [.string ⟨#[]⟩,.string nm,.int .i64 aop,.string ver,.slice none 0 0]):=by rw[<-D];exact jh.new w [.string ⟨#[]⟩,.string nm,.int .i64 aop,.string ver,.slice none 0 0] _
  have k0:=z.out.cell 0 _ rfl;have k1:=z.out.cell 1 _ rfl;have k2:=z.out.cell 2 _ rfl;have k3:=z.out.cell 3 _ rfl;have k4:=z.out.cell 4 _ rfl;show Calls Tryz.prog 241 #[.agg #[.string ⟨#[]⟩,.string nm,.int .i64 aop,.string ver,.slice none 0 0]] w _;go_in;go_wp2_with fail;refine(hA _ (HG.out.below M.out)).mono ?_;rintro e w2 ⟨rfl,O⟩;have B2:=iV (jc M.out O);clear O;go_wp2;go_ret;exact⟨rfl,B2.out⟩
 | node op ka kc kids ho hc hk ih=>
  intro w R hO aa;have HG:=iV R;have HO:=iV hO;have ab:=iV ih;have hw:=(uh ho).1;have o0:(op.toList==([]:LU))=false:=by rw[iY,bF];exact hw
  have o2:¬ op.toList=[]:=by rw[iY];exact hw
  have o1:op.toList.isEmpty=false:=by rw[List.isEmpty_eq_false_iff];exact o2
  obtain⟨F,H⟩:∃ F,kids.length=F:=⟨_,rfl⟩
  have Y:=iV H;obtain⟨y,D⟩:∃ y,w.alloc (.cells #[.string op,.string ⟨#[]⟩,.int .i64 0,.string ⟨#[]⟩,.slice ka F kc] 86)=y:=⟨_,rfl⟩
  have M:Hid (Below w.heap.size w y):=by rw[<-D];exact bR.alloc lr _
  have z:Hid (jh y w.heap.size [.string op,.string ⟨#[]⟩,.int .i64 0,.string ⟨#[]⟩,.slice ka F kc]):=by rw[<-D];exact jh.new w [.string op,.string ⟨#[]⟩,.int .i64 0,.string ⟨#[]⟩,.slice ka F kc] _
  have k0:=z.out.cell 0 _ rfl;have k1:=z.out.cell 1 _ rfl;have k2:=z.out.cell 2 _ rfl;have k3:=z.out.cell 3 _ rfl;have k4:=z.out.cell 4 _ rfl;have hK:=DI op y (HG.out.below M.out);rw[ho] at hK;have hC:=AP op F y;rw[<-H,hc,H] at hC;have O1:Hid (kD y 0 none (.mk op ⟨#[]⟩ 0 ⟨#[]⟩ ka kc kids)):=HO.out.low M.out;have Z:=iV (nY (t:=.mk op ⟨#[]⟩ 0 ⟨#[]⟩ ka kc kids) (by have:=ug hc;intro e;simp only[iZ.kids] at e;rw[e] at this;simp at this));have U:Hid (lK kids<=64):=by have h1:=Z.out;simp only[iZ.kids] at h1;show _<=_;omega
  have ad:F<=64:=by have h1:=pg kids;have:=U.out;omega
  clear ho hc hk ih R hO hw H aa Z;show Calls Tryz.prog 241 #[.agg #[.string op,.string ⟨#[]⟩,.int .i64 0,.string ⟨#[]⟩,.slice ka kids.length kc]] w _;rw[Y.out];go_in;go_wp2_with fail;refine hK.mono ?_;rintro e w' ⟨rfl,rfl⟩;go_wp2_with fail;refine hC.mono ?_;rintro e w' ⟨rfl,rfl⟩;clear hK hC;go_wp2_with fail;clear k0 k1 k2 k3 k4;go_loopw [2,29] (fun rv iv wr=>∃ i:Nat,rv=.int .i64 0/\iv=.int .i64 i/\i<=F/\Hid (Below w.heap.size w wr)) (fun _ iv _=>F-(intOf iv).toNat)
  case atStart=>exact⟨0,rfl,rfl,z0,M⟩
  case round=>
   obtain⟨i,rfl,rfl,hi,HB⟩:=hrel;by_cases X:i<F
   ·obtain⟨t,ht⟩:∃ t,kids[i]?=some t:=⟨_,gG (by rw[Y.out];exact X)⟩
    have J:Hid (t∈kids):=gM ht;have O2:=HO.out.low HB.out;obtain⟨b',off,hA,K⟩:=O2.rd.cell i t ht;have e0:=K 0 _ rfl;have e1:=K 1 _ rfl;have e2:=K 2 _ rfl;have e3:=K 3 _ rfl;have e4:=K 4 _ rfl;simp only[Nat.add_zero] at e0;have ac:=fun W=>jm (T:=84) (E:=86) (sz:=5) (n:=F) (c:=kc) (A:=ka) Tryz.underlying84 rfl Tryz.sizeOf86 hA X W;obtain⟨V,I⟩:∃ V,wr.alloc (.cells #[.string t.op,.string t.nm,.int .i64 t.aop,.string t.ver,.slice t.ka t.kids.length t.kc] 86)=V:=⟨_,rfl⟩
    have B3:Hid (Below wr.heap.size wr V):=by rw[<-I];exact bR.alloc lr _
    have N:Hid (jh V wr.heap.size t.cells):=by rw[<-I];exact jh.new wr t.cells _
    have B4:=iV (jc HB.out B3.out);have hcall:=ab.out t J.out V (HG.out.below B4.out) ((O2.low B3.out).kids t J.out) (by have h1:=qT J.out;have:=U.out;omega);unfold iZ.val at hcall;have a0:=N.out.cell 0 _ rfl;have a1:=N.out.cell 1 _ rfl;have a2:=N.out.cell 2 _ rfl;have a3:=N.out.cell 3 _ rfl;have a4:=N.out.cell 4 _ rfl;clear ht hA K O2;go_wp2_with fail;refine hcall.mono ?_;rintro e w4 ⟨rfl,O⟩;have B5:=iV (jc B4.out O);clear I hcall O e0 e1 e2 e3 e4 ac a0 a1 a2 a3 a4;go_wp2;go_roundw
    case rel=>exact⟨i+1,rfl,by go_num,by omega,B5⟩
    case measure=>simp[intOf];omega
   ·go_wp2;go_ret;exact⟨rfl,HB.out⟩
theorem uQ (T:iZ)(c:Int)(hS:nL T)(hcn:T.cnt<=64)(hht:T.ht<=32)(w:World)(hG:Gl w)(hO:kD w 0 none T)
  (hch:∀ W,Gl W->kD W 0 none T->Calls Tryz.prog 241 #[T.val] W fun e w'=>e=.returned (.int .i64 c)/\Below W.heap.size W w'):Calls Tryz.prog 194 #[T.val] w fun e w'=>e=.returned (.int .i64 c)/\Below w.heap.size w w':=by
 have ab:=@run_makeMap Tryz.prog;have HG:=iV hG;have Y:=iV hO;have aa:=iV hch;obtain⟨M,z⟩:∃ M,w.alloc (.cells #[.string T.op,.string T.nm,.int .i64 T.aop,.string T.ver,.slice T.ka T.kids.length T.kc] 86)=M:=⟨_,rfl⟩
 have B1:Hid (Below w.heap.size w M):=by rw[<-z];exact bR.alloc lr _
 have I:Hid (jh M w.heap.size T.cells):=by rw[<-z];exact jh.new w T.cells _
 have U:=I.out.cell 0 _ rfl;have X:=I.out.cell 1 _ rfl;have V:=I.out.cell 2 _ rfl;have R:=I.out.cell 3 _ rfl;have O:=I.out.cell 4 _ rfl;have hD:=OM T M (Y.out.low B1.out) hS hcn (by omega);have HA:Hid (∀ (W:World)(b:Nat)(ms:List (iZ×Nat)),Gy W b ms->kD W 0 none T->Calls Tryz.prog 240 #[T.val,.map (some b)] W fun e w'=>e=.returned (.int .i64 T.cnt)/\W.grownBy w' (some b)/\∃ N,Gy w' b N):=fun W b ms h1 h2=>OO T W b ms h1 h2 hS hcn;clear hS hG hO hch;unfold iZ.val at *;go_in;go_wp2_with fail;clear z;refine hD.mono ?_;rintro e F ⟨⟨r,rfl,hr⟩,H⟩;have B2:=iV (jc B1.out H);have D:=iV (I.out.below H);clear H U X V R O;have U:=D.out.cell 0 _ rfl;have X:=D.out.cell 1 _ rfl;have V:=D.out.cell 2 _ rfl;have R:=D.out.cell 3 _ rfl;have O:=D.out.cell 4 _ rfl;have q1:decide ((32:Int)<(r:Int))=false:=dF (by omega);have q2:decide (32<r)=false:=dF (by omega);obtain⟨K,y⟩:∃ K,F.alloc (.map #[] 0)=K:=⟨_,rfl⟩
 have M3:Hid (Gy K F.heap.size []):=by rw[<-y];exact⟨ow.made F,by simp⟩
 have B3:Hid (Below F.heap.size F K):=by rw[<-y];exact bR.alloc lr _
 have B4:=iV (jc B2.out B3.out);have hA:=HA.out K F.heap.size [] M3.out (Y.out.low B4.out);have q3:decide ((64:Int)<(T.cnt:Int))=false:=dF (by omega);have q4:decide (64<T.cnt)=false:=dF (by omega);go_wp2_with fail;refine hA.mono ?_;rintro e w4 ⟨rfl,hg,N,hm⟩;have J:=iV ((D.out.below B3.out).grownBy hg (by simp;have:=D.out.sz;omega));have Z:=iV (mP B4.out hg B2.out.size);clear y hg hm U X V R O hA;have U:=J.out.cell 0 _ rfl;have X:=J.out.cell 1 _ rfl;have V:=J.out.cell 2 _ rfl;have R:=J.out.cell 3 _ rfl;have O:=J.out.cell 4 _ rfl;go_wp2_with fail;refine(aa.out w4 (HG.out.below Z.out) (Y.out.low Z.out)).mono ?_;rintro e w5 ⟨rfl,H⟩;have B6:=iV (jc Z.out H);clear H;go_wp2;go_ret;exact⟨rfl,B6.out⟩
end
end Go.Proofs.YtkmjcombhjombaaGreatDoor
