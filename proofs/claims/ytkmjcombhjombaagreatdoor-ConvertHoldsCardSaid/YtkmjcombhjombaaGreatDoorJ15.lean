/- A part of the proof. -/
import Derived.Test.YtkmjcombhjombaaGreatDoorJ13
set_option maxRecDepth 100000
set_option maxHeartbeats 20000000
set_option linter.unusedVariables false
set_option linter.unusedSimpArgs false
namespace Go.Proofs.YtkmjcombhjombaaGreatDoor
variable{b c h i k mb n:Nat}{A:OA}{W w wr:World}
open Go.Proofs.Tryz
section
open Go.RowKit Go.Deep
theorem Qh {x:Obj}(h:w.heap[b]?=some x)(o:Obj):(w.alloc o).heap[b]?=some x:=by
 have z:b<w.heap.size:=(Array.getElem?_eq_some_iff.1 h).1;rw[Below.heap_alloc w o b z];exact h
theorem IN {xs:List fL}(h:∀ x∈xs,x.kids≠[]):jG (xs.flatMap fL.kids)=jG xs:=by
 induction xs with
 | nil=>rfl
 | cons a r ih=>
  rw[List.flatMap_cons,kU,ih (fun x z=>h x (by simp[z])),<-lW (h a (by simp))];rfl
theorem UR {xs:List fL}(h:∀ x∈xs,x.kids≠[]){x:fL}(z:xs[i]?=some x)(j:Nat):jG ((xs.take i).flatMap fL.kids++x.kids.take j)<=jG xs:=by
 rw[kU,IN (fun y D=>h y (List.mem_of_mem_take D))];have I:=IK z;have H:=pS xs (i+1);have F:=pS x.kids j;rw[<-lW (h x (gM z))] at F;omega
theorem IP {xs:List fL}{x:fL}(F:xs[i]?=some x):(xs.take (i+1)).flatMap fL.kids=(xs.take i).flatMap fL.kids++x.kids:=by
 obtain⟨D,z⟩:=gS F;rw[tS D,z,List.flatMap_append];simp
theorem US {ks:List fL}{j:Nat}{t:fL}(ht:ks[j]?=some t):ks.take (j+1)=ks.take j++[t]:=by
 obtain⟨D,z⟩:=gS ht;rw[tS D,z]
theorem UT:(prog.info? 84).map (fun i=>(i.zero,i.size,i.bytes))=some (some (.slice none 0 0),1,24):=by kernel_rfl
structure WR (w wr:World) (mb h k:Nat) (A:OA) (n c:Nat) (xs:List fL) (ms:List (fL×Nat)):Prop where
 lev:St 0 wr A n c xs
 met:mv wr mb ms
 xh:∀ x∈xs,x.ht+k<=h+1
 top:∃ x∈xs,x.ht+k=h+1
 mok:∀ i,i<k->∃ p∈ms,p.1.ht+i=h
 bel:Bw w wr
 mlo:w.heap.size<=mb
 cnt:jG xs<=64
theorem WR.few {xs:List fL}{ms:List (fL×Nat)}(d:WR w wr mb h k A n c xs ms):n<=64:=by
 have:=np xs;have:=d.cnt;have:=d.lev.len;omega
theorem WR.start {W4:World}{T:fL}(U:iD w 0 none T)(Y:lO T)(Z:T.cnt<=64)(R:TypeId)
  (H:(w.alloc (.cells T.cells.toArray R)).alloc (.map #[] 0)=W)
  (z:(W.alloc (.cells T.cells.toArray 86)).alloc (.cells #[.slice (some ⟨W.heap.size,0,none⟩) 1 1] 84)=W4):
  WR w W4 (w.heap.size+1) T.ht 0 (some ⟨W.heap.size+1,0,none⟩) 1 1 [.mk ⟨#[]⟩ ⟨#[]⟩ 0 ⟨#[]⟩ (some ⟨W.heap.size,0,none⟩) 1 [T]] []:=by
 have zW:W.heap.size=w.heap.size+2:=by rw[<-H];simp
 have O:Bw w W:=by rw[<-H];exact(bR.alloc lr _).alloc (by simp) _
 have K:Bw W W4:=by rw[<-z];exact(bR.alloc lr _).alloc (by simp) _
 have X:mv W (w.heap.size+1) []:=by
  rw[<-H];have:=mv.made (w.alloc (.cells T.cells.toArray R));simpa using this
 have M:W4.heap[W.heap.size]?=some (.cells T.cells.toArray 86 (0,0)):=by rw[<-z];exact Qh (heap_alloc_new W _) _
 have J:W4.heap[W.heap.size+1]?=some (.cells #[.slice (some ⟨W.heap.size,0,none⟩) 1 1] 84 (0,0)):=by
  have:=heap_alloc_new (W.alloc (.cells T.cells.toArray 86)) (.cells #[.slice (some ⟨W.heap.size,0,none⟩) 1 1] 84);rw[<-z];simpa using this
 have I:iD W4 0 none T:=(U.low O).low K;refine⟨⟨rfl,⟨rfl,.inr ⟨W.heap.size+1,1,_,rfl,z0,J,lr,by decide,rfl,rfl⟩⟩,fun x D=>?_,fun x D=>?_,fun x D k F=>?_⟩,X.below K,fun x D=>?_,⟨_,List.mem_singleton.2 rfl,?_⟩,fun i V=>absurd V (by omega),fM O K,by omega,?_⟩
 ·obtain rfl:=List.mem_singleton.1 D;exact .mk _ ⟨by simp[fL.cells,fL.kids],.inr ⟨W.heap.size,1,_,rfl,z0,M,lr,by decide,rfl,by simp[fL.kids,fL.cells]⟩⟩ (fun g _=>by simp) (fun k F=>by simp only[fL.kids,List.mem_singleton] at F;subst F;exact I)
 ·obtain rfl:=List.mem_singleton.1 D;simp[fL.kids]
 ·obtain rfl:=List.mem_singleton.1 D;simp only[fL.kids,List.mem_singleton] at F;subst F;exact Y
 ·obtain rfl:=List.mem_singleton.1 D;simp[fL.ht,IJ]
 ·simp[fL.ht,IJ]
 ·simp[jG,fL.cnt];exact Z
theorem WR.round {xs:List fL}{ms:List (fL×Nat)}(d:WR w wr mb h k A n c xs ms):Qg wr.heap.size (wr.alloc (.map #[] 0)) mb wr.heap.size h k A n c xs none 0 0 [] ms []:=by
 have b:Bw wr (wr.alloc (.map #[] 0)):=bR.alloc lr _;exact⟨d.lev.below b,fun g z=>(d.lev.row.lt g z).2,.nil _ _,d.met.below b,mv.made wr,by have:=d.met.lt;omega,d.xh,by simp,by simp,d.mok,d.top⟩
theorem WR.after {s0 hb:Nat}{xs:List fL}{B:OA}{m cB:Nat}{ys:List fL}{ms hs:List (fL×Nat)}(d:Qg s0 wr mb hb h k A n c xs B m cB ys ms hs)(hs:qB (xs.flatMap fL.kids) ys ms)(F:0<m)(z:Bw w wr)(D:w.heap.size<=mb)(O:jG ys<=64):WR w wr mb h (k+1) B m cB ys ms/\k<ms.length/\k+1<=h:=by
 obtain⟨K,H,M,I⟩:=d.next hs F;exact⟨⟨⟨d.new.len,gF d.new.row z0,d.new.own,d.new.ne,d.new.shape⟩,d.met,fun y J=>by have:=d.yh y J;omega,I,M,z,D,O⟩,K,H⟩
theorem mv.len {ms:List (fL×Nat)}(h:mv w b ms)(J:TypeId):(Builtin.len_ #[328] J #[.map (some b)]).run prog w=.ok (.int .i64 ms.length) w:=by
 obtain⟨H,z,I,D⟩:=h.ex;have F:H.size=ms.length:=by have:=congrArg List.length D;simpa using this
 simp[Builtin.len_,run_underlying underlying328,MapKept.run_getObj_map I,goInt,F]
theorem tZ {B:Nat}(h:Below B w W):Below B w W.drew:=⟨h.os,h.tape,h.output,h.size,h.block⟩
theorem Qi (T:fL)(w:World)(hT:iD w 0 none T)(hS:lO T)(hc:T.cnt<=64)(hh:T.ht<=1000000):Calls prog 239 #[T.val] w fun e w'=>(∃ r:Nat,e=.returned (.int .i64 r)/\r<=T.ht)/\Bw w w':=by
 have be:=@run_makeMap prog;obtain⟨i1,aT,bd,aQ,ay⟩:=info_parts UT;obtain⟨W,hW⟩:∃ W,(w.alloc (.cells T.cells.toArray 86)).alloc (.map #[] 0)=W:=⟨_,rfl⟩
 have zW:W.heap.size=w.heap.size+2:=by rw[<-hW];simp
 obtain⟨W4,aj⟩:∃ W4,(W.alloc (.cells T.cells.toArray 86)).alloc (.cells #[.slice (some ⟨W.heap.size,0,none⟩) 1 1] 84)=W4:=⟨_,rfl⟩
 have D0:Hid (WR w W4 (w.heap.size+1) T.ht 0 (some ⟨W.heap.size+1,0,none⟩) 1 1 [.mk ⟨#[]⟩ ⟨#[]⟩ 0 ⟨#[]⟩ (some ⟨W.heap.size,0,none⟩) 1 [T]] []):=WR.start hT hS hc _ hW aj;obtain⟨h,av⟩:∃ h,T.ht=h:=⟨_,rfl⟩
 rw[av] at D0 hh |-;have ao:=fH aj;have HW:=fH hW;clear hT hS hc av hW aj zW;unfold fL.val;go_in;go_upto_region 3 with(fail)
 have aA:(w.alloc (.cells #[.string T.op,.string T.nm,.int .i64 T.aop,.string T.ver,.slice T.ka T.kids.length T.kc] 86)).alloc (.map #[] 0)=W:=HW.out;rw[aA];have K0:Hid (fV W w.heap.size T.cells):=by rw[<-HW.out];exact(fV.new w T.cells _).alloc _
 obtain⟨k0,k1,k2,k3,k4⟩:=rF K0.cell;clear aA K0 HW;go_wp2_with fail;clear k0 k1 k2 k3 k4;go_loopw [3,5,6] (fun dv lv ar wr=>∃ (k d n c:Nat) (A:OA) (H:List fL) (D:List (fL×Nat)),dv=.int .i64 d/\lv=.slice A n c/\ar=.int .i64 k/\d<=h/\k<=h/\Hid (WR w wr (w.heap.size+1) h k A n c H D)) (fun _ _ ar _=>h-(intOf ar).toNat)
 case atStart=>have:=D0.out;rw[<-ao.out] at this;exact⟨0,0,1,1,_,_,_,rfl,rfl,rfl,z0,z0,this⟩
 case round=>
  clear D0 ao;obtain⟨k,d,n,c,A,H,D,rfl,rfl,rfl,hd,hk,HD⟩:=hrel;have hn:=HD.few;have aK:=HD.cnt;obtain⟨O,ah⟩:∃ O,wr.heap.size=O:=⟨_,rfl⟩
  obtain⟨I,K⟩:∃ I,wr.alloc (.map #[] 0)=I:=⟨_,rfl⟩
  have S1:Hid (Qg O I (w.heap.size+1) O h k A n c H none 0 0 [] D []):=by rw[<-K,<-ah];exact HD.round
  have B1:Hid (Bw w I):=by rw[<-K];exact HD.bel.alloc HD.bel.size _
  have ac:Hid (jG H<=64):=aK;have af:Hid (w.heap.size<=O):=by rw[<-ah];exact HD.bel.size
  clear aK HD;go_wp2_with fail;clear K ah be;go_loopw [3,7,25] (fun dv bv iv wr=>∃ (i d m U:Nat) (B:OA) (z:List fL) (D hs:List (fL×Nat)),dv=.int .i64 d/\bv=.slice B m U/\iv=.int .i64 i/\d<=h/\i<=n/\Hid (Qg O wr (w.heap.size+1) O h k A n c H B m U z D hs)/\Hid (qB ((H.take i).flatMap fL.kids) z D)/\Hid (Bw w wr)/\Hid (jG z<=jG ((H.take i).flatMap fL.kids))) (fun _ _ iv _=>n-(intOf iv).toNat)
  case atStart=>exact⟨0,d,0,0,none,[],D,[],rfl,rfl,rfl,hd,z0,S1,qB.nil _ _,B1,lr⟩
  case round=>
   clear S1 B1;obtain⟨i,d,m,U,B,z,D,hs,rfl,rfl,rfl,hd,hi,F,HN,HB,HC⟩:=hrel;by_cases ag:i<n
   ·obtain⟨x,hx⟩:∃ x,H[i]?=some x:=⟨_,gG (by rw[F.out.lev.len];exact ag)⟩
    have HX:=fH hx;have J:Hid (x∈H):=gM hx;obtain⟨b,off,hA,he⟩:=(gR F.lev.row).one i _ (by rw[List.getElem?_map,hx];rfl) ag;have Z:=fun W=>gi (T:=363) (E:=84) (sz:=1) (c:=c) underlying363 rfl sizeOf84 hA ag W;simp only[Nat.mul_one] at Z;obtain⟨kl,al⟩:∃ kl,x.kids.length=kl:=⟨_,rfl⟩
    have ak:=fH al;have bj:kl<=64:=by
     have h1:=np x.kids;rw[<-lW (F.out.lev.ne x J.out)] at h1;have h2:=pm J.out;have:=ac.out;omega
    unfold fL.sl at he;rw[al] at he;clear hx hA al;go_wp2_with fail;clear he Z;go_loopw [3,7,31] (fun dv bv jv wr=>∃ (j d m U:Nat) (B:OA) (z:List fL) (D hs:List (fL×Nat)),dv=.int .i64 d/\bv=.slice B m U/\jv=.int .i64 j/\d<=h/\j<=kl/\Hid (Qg O wr (w.heap.size+1) O h k A n c H B m U z D hs)/\Hid (qB ((H.take i).flatMap fL.kids++x.kids.take j) z D)/\Hid (Bw w wr)/\Hid (jG z<=jG ((H.take i).flatMap fL.kids++x.kids.take j))) (fun _ _ jv _=>kl-(intOf jv).toNat)
    case atStart=>exact⟨0,d,m,U,B,z,D,hs,rfl,rfl,rfl,hd,z0,F,by simpa [Hid] using HN.out,HB,by simpa [Hid] using HC.out⟩
    case round=>
     clear F HN HB HC;obtain⟨j,d,m,U,B,z,D,hs,rfl,rfl,rfl,hd,hj,F,HN,HB,HC⟩:=hrel;by_cases ax:j<kl
     ·obtain⟨t,ht⟩:∃ t,x.kids[j]?=some t:=⟨_,gG (by rw[ak.out];exact ax)⟩
      have HT:=fH ht;have ad:Hid (t∈x.kids):=gM ht;have aC:=fH ((F.lev.own x J).kids t ad);have az:=fH (F.lev.shape x J t ad);obtain⟨b,off,hA,he⟩:=(F.lev.own x J).rd.cell j t ht;obtain⟨e0,e1,e2,e3,e4⟩:=rF he;simp only[Nat.add_zero] at e0;have Z:=fun W=>gi (T:=84) (E:=86) (sz:=5) (c:=x.kc) underlying84 rfl sizeOf86 hA ax W;have aW:Hid (t.ht+k<=h):=by have h1:=XO ad.out;have h2:=F.xh x J.out;show _<=_;omega
      have TK:Hid (x.kids.take (j+1)=x.kids.take j++[t]):=US ht;clear ht hA he;by_cases tk:t.kids=[]
      ·have o0:t.op.toList=[]:=by rw[fK];exact hZ _ (az.leaf tk)
       have o1:t.op.toList.isEmpty=true:=by rw[o0];rfl
       have l0:t.kids.length=0:=by rw[tk];rfl
       rw[l0] at e4;have SN:Hid (qB ((H.take i).flatMap fL.kids++x.kids.take (j+1)) z D):=by show qB _ _ _;rw[TK.out,<-List.append_assoc];exact HN.leaf tk
       have Y:Hid (jG z<=jG ((H.take i).flatMap fL.kids++x.kids.take (j+1))):=by have:=HC.out;show _<=_;rw[TK.out,<-List.append_assoc,kU];omega
       have SB:=fH (F.below ((Below.refl wr.heap.size wr).alloc lr (.cells #[.string t.op,.string t.nm,.int .i64 t.aop,.string t.ver,.slice t.ka 0 t.kc] 86)));have BB:=fH (HB.alloc HB.size (.cells #[.string t.op,.string t.nm,.int .i64 t.aop,.string t.ver,.slice t.ka 0 t.kc] 86));clear tk l0;go_wp2;go_roundw
       case rel=>exact⟨j+1,max d k,m,U,B,z,D,hs,by congr 1;omega,rfl,by go_num,by omega,by omega,SB,SN,BB,Y⟩
       case measure=>simp[intOf];omega
      ·obtain⟨g,bk,hA,hg,-⟩:=tY aC tk;have aP:=fH hA;obtain⟨M,ae⟩:∃ M,t.kids.length=M:=⟨_,rfl⟩
       have aD:=fH ae;have aB:0<M:=by rw[<-ae];exact List.length_pos_iff.2 tk
       have bh:M<=1000000:=by
        have h1:=np t.kids;rw[<-lW tk] at h1;have h2:=pm ad.out;rw[<-lW (F.out.lev.ne x J.out)] at h2;have h3:=pm J.out;have:=ac.out;omega
       rw[ae] at e4;have V:=fun W=>gi (T:=84) (E:=86) (sz:=5) (n:=M) (c:=t.kc) (k:=0) underlying84 rfl sizeOf86 hA aB W;simp only[Nat.zero_mul,Nat.add_zero] at V;have aJ:∀ W:World,(Instr.indexAt 84 (.slice t.ka M t.kc) (.int .i64 0)).run prog W=.ok (.pointer (some ⟨g,0,none⟩)) W:=V;have l1:decide ((0:Int)<(M:Int))=true:=dT (by omega);have l2:decide (0<M)=true:=dT aB;have aa:Hid (t.kids≠[]):=tk;clear tk hA hg ae V;go_upto_region 15 with(fail)
       obtain⟨I,K⟩:∃ I,wr.alloc (.cells #[.string t.op,.string t.nm,.int .i64 t.aop,.string t.ver,.slice t.ka M t.kc] 86)=I:=⟨_,rfl⟩
       have B1:Hid (Bw wr I):=by rw[<-K];exact bR.alloc lr _
       have K1:Hid (fV I wr.heap.size [.string t.op,.string t.nm,.int .i64 t.aop,.string t.ver,.slice t.ka M t.kc]):=by rw[<-K];exact fV.new wr [.string t.op,.string t.nm,.int .i64 t.aop,.string t.ver,.slice t.ka M t.kc] _
       rw[K];clear K e0 e1 e2 e3 e4 Z l1 l2;have u4:=K1.cell 4 _ rfl;have aF:wr.heap.size<I.heap.size:=K1.sz;have bc:¬ wr.heap.size=I.heap.size:=by omega
       go_region;obtain⟨W2,ab⟩:∃ W2,(I.alloc (.cells #[.pointer (some ⟨g,0,none⟩),.int .i64 M] 366)).drew=W2:=⟨_,rfl⟩
       have B2:Hid (Bw I W2):=by rw[<-ab];exact tZ ((Below.refl I.heap.size I).alloc lr _)
       have K2:Hid (fV W2 I.heap.size [.pointer (some ⟨g,0,none⟩),.int .i64 M]):=by rw[<-ab];exact(fV.new I [.pointer (some ⟨g,0,none⟩),.int .i64 M] _).drew
       have aN:=fH (K1.below B2);have BW:Hid (Bw wr W2):=fM B1 B2.out;have D2:=fH (F.below BW);have O2:=fH (aC.low BW);have BB:=fH (fM HB BW);have au:Hid (t.key=.agg #[.pointer (some ⟨g,0,none⟩),.int .i64 M]):=by show _=_;unfold fL.key;rw[aP.out,aD.out]
       rw[ab];have aU:=fH aF;clear ab u4 aF bc aJ B1 B2 K1;have v0:=K2.cell 0 _ rfl;have v1:=K2.cell 1 _ rfl;have X:=D2.here.look O2 aa.out;rw[au.out] at X;rcases X with an | ⟨p,hp,aI,an⟩
       ·obtain⟨w1,aX,r1,k1,g1,z1,f1,-,-⟩:=(D2.here.below (w':=W2.drew) ⟨rfl,rfl,rfl,lr,fun _ _=>rfl⟩).put (O2.low (w':=W2.drew) ⟨rfl,rfl,rfl,lr,fun _ _=>rfl⟩) aa k;have R:=fH (D2.below (w':=W2.drew) ⟨rfl,rfl,rfl,lr,fun _ _=>rfl⟩);have aE:=fH (O2.low (w':=W2.drew) ⟨rfl,rfl,rfl,lr,fun _ _=>rfl⟩);have m1:mv w1 (w.heap.size+1) D:=R.met.tame (.map R.here) (fun e=>D2.hne (by injection e)) g1;obtain⟨w2,am,r2,k2,g2,z2,-,f2,f3⟩:=m1.put (aE.tame (.map R.here) g1) aa k;rw[au.out] at r1 r2;have bg:=fH g1;have aM:=fH k1;have aS:=fH f1;have aZ:=fH g2;have bb:=fH k2;have aG:=fH f2;have aH:=fH f3;have aR:O<wr.heap.size:=F.here.lt;have aY:w.heap.size+1<wr.heap.size:=F.met.lt;have aV:wr.heap.size<I.heap.size:=aU.out;have Kl:=fH (K2.drew.grownBy g1 (fun e=>by injection e with e;omega));have Kw:=fH ((aN.drew.grownBy g1 (fun e=>by injection e with e;omega)).grownBy g2 (fun e=>by injection e with e;omega));have q0:=Kl.cell 0 _ rfl;have q1:=Kl.cell 1 _ rfl;have NW:=fH ((R.new.map R.here g1).map m1 g2);have B3:=fH (kP (kP (tZ BB) g1 af) g2 (Nat.le_succ _));have bm:O<w2.heap.size:=by have:=Kw.sz;omega
        have ap:m<=64:=by
         have h1:=np z;have h2:=HC.out;have h3:=F.new.len;have h4:=UR F.lev.ne HX j;have:=ac.out;omega
        have aL:w.heap.size<=w2.heap.size:=by have:=af.out;omega
        clear g1 k1 f1 g2 k2 f2 f3 z1 z2 m1 aR aY aV;go_wp2;go_region;clear v0 v1 q0 q1 r1 r2 an;have y4:=Kw.cell 4 _ rfl;go_wp2_with (at_builtin;refine fR _ rfl _ _ _ rfl O 84 i1 _ 1 24 underlying363 aT bd aQ ay rfl (by omega) (.slice B m U) m _ rfl (NW.row.alloc _) (w2.heap.size+1) (some ⟨w2.heap.size,0,none⟩) 1 1 [.slice t.ka M t.kc] rfl (me w2 _ _) (by simp[Value.oneCell']) (by simp only[maxLen];omega) (by omega) (by simp;omega) ?_;intro v1 w3 o1 g3 a1);obtain⟨aq,c3,rfl⟩:=gg o1;have o2:w3.ownsRow O 84 1 (.slice aq (m+1) c3) (m+1) (z.map fL.sl++[t.sl]):=by rw[show t.sl=.slice t.ka M t.kc from by unfold fL.sl;rw[aD.out]];exact o1
        have D3:=fH (R.grow aE aa az.kids aW aM bg aS bb aZ aG aH ((Below.refl w2.heap.size w2).alloc lr _) o2 g3);have ba:Hid (Bw w w3):=(B3.alloc aL _).grown g3 (by simp;omega) (fun j' bf=>by have:=(NW.row.lt j' bf).1;have:=af.out;omega);have SN:Hid (qB ((H.take i).flatMap fL.kids++x.kids.take (j+1)) (z++[t]) am):=by show qB _ _ _;rw[TK.out,<-List.append_assoc];exact HN.grow aG aH.out
        have Y:Hid (jG (z++[t])<=jG ((H.take i).flatMap fL.kids++x.kids.take (j+1))):=by have:=HC.out;show _<=_;rw[TK.out,<-List.append_assoc,kU,kU _ [t]];omega
        clear o1 o2 g3 a1 y4;go_wp2;go_roundw
        case rel=>exact⟨j+1,d,m+1,c3,aq,z++[t],am,aX,rfl,rfl,by go_num,hd,by omega,D3,SN,ba,Y⟩
        case measure=>simp[intOf];omega
       ·have SN:Hid (qB ((H.take i).flatMap fL.kids++x.kids.take (j+1)) z D):=by show qB _ _ _;rw[TK.out,<-List.append_assoc];exact D2.hit HN hp aI
        have Y:Hid (jG z<=jG ((H.take i).flatMap fL.kids++x.kids.take (j+1))):=by have:=HC.out;show _<=_;rw[TK.out,<-List.append_assoc,kU];omega
        clear hp aI;go_wp2;go_roundw
        case rel=>exact⟨j+1,d,m,U,B,z,D,hs,rfl,rfl,by go_num,hd,by omega,D2,SN,BB,Y⟩
        case measure=>simp[intOf];omega
     ·have SN:Hid (qB ((H.take (i+1)).flatMap fL.kids) z D):=by have:=HN.out;rw[tL (l:=x.kids) (by rw[ak.out];omega),<-IP HX.out] at this;exact this
      have Y:Hid (jG z<=jG ((H.take (i+1)).flatMap fL.kids)):=by have:=HC.out;rw[tL (l:=x.kids) (by rw[ak.out];omega),<-IP HX.out] at this;exact this
      go_wp2;go_roundw
      case rel=>exact⟨i+1,d,m,U,B,z,D,hs,rfl,rfl,by go_num,hd,by omega,F,SN,HB,Y⟩
      case measure=>simp[intOf];omega
   ·have aO:=F.lev.len;have SN:Hid (qB (H.flatMap fL.kids) z D):=by have:=HN.out;rw[tL (by omega)] at this;exact this
    have Y:Hid (jG z<=64):=by have h1:=HC.out;have h2:=ac.out;rw[tL (by omega),IN F.out.lev.ne] at h1;show _<=_;omega
    have ap:m<=64:=by have h1:=np z;have h2:=F.new.len;have:=Y.out;omega
    clear aO;by_cases ai:m=0
    ·have q0:((m:Int)==0)=true:=by simp[ai]
     clear ai;go_wp2;go_ret;exact⟨⟨d,rfl,hd⟩,HB⟩
    ·have q0:((m:Int)==0)=false:=by simp;omega
     obtain⟨o1,o2,o3⟩:=WR.after (w:=w) F SN (by omega) HB (Nat.le_succ _) Y.out;have O1:=fH o1;have bi:=F.met.len;have q1:decide ((D.length:Int)<=(k:Int))=false:=dF (by omega);have q2:decide (D.length<=k)=false:=dF (by omega);clear o1 o2 ai;go_wp2;go_roundw
     case rel=>exact⟨k+1,d,m,U,B,z,D,rfl,rfl,by go_num,hd,o3,O1⟩
     case measure=>simp[intOf];omega
structure Hg (w:World) (b:Nat) (ms:List (fL×Nat)):Prop where
 map:mv w b ms
 val:∀ p∈ms,p.2=jG p.1.kids
theorem Hg.below {w':World}{ms:List (fL×Nat)}(h:Hg w b ms)(z:Bw w w'):Hg w' b ms:=⟨h.map.below z,h.val⟩
def AtC (T:fL):Prop:=∀ (w:World)(b:Nat)(ms:List (fL×Nat)),Hg w b ms->iD w 0 none T->lO T->T.cnt<=64 ->
 Calls prog 240 #[T.val,.map (some b)] w fun e w'=>e=.returned (.int .i64 T.cnt)/\w.grownBy w' (some b)/\∃ ms',Hg w' b ms'
theorem XR (T:fL)(IH:∀ t:fL,t.ht<T.ht->AtC t):AtC T:=by
 intro w b U hM hO hS hc;have ar:=@run_makeMap prog;have HM:=fH hM;have HO:=fH hO;have HS:=fH hS;have HC:=fH hc;have al:=fH IH;clear hM hO hS IH hc;obtain⟨D,M⟩:∃ D,w.alloc (.cells #[.string T.op,.string T.nm,.int .i64 T.aop,.string T.ver,.slice T.ka T.kids.length T.kc] 86)=D:=⟨_,rfl⟩
 have B1:Hid (Bw w D):=by rw[<-M];exact bR.alloc lr _
 have K1:Hid (fV D w.heap.size T.cells):=by rw[<-M];exact fV.new w T.cells _
 by_cases I:T.kids=[]
 ·have o0:T.op.toList=[]:=by rw[fK];exact hZ _ (HS.leaf I)
  have o1:T.op.toList.isEmpty=true:=by rw[o0];rfl
  have E:Hid (T.cnt=1):=DQ I;have M1:=fH (HM.below B1);have k0:=K1.cell 0 _ rfl;clear I ar;unfold fL.val;go_in;go_wp2;go_ret;exact⟨fT (by rw[E.out];rfl),kS B1 _,U,M1⟩
 obtain⟨g,av,hA,hg,-⟩:=tY HO I;have o0:(T.op.toList==([]:LU))=false:=by rw[fK,bF];intro e;exact HS.node I (by rw[<-fI,e];rfl)
 have o1:T.op.toList.isEmpty=false:=by rw[fK,gu];exact dF (HS.node I)
 have o2:¬ T.op.toList=[]:=by intro e;rw[e] at o1;simp at o1
 have am:=fH hA;obtain⟨z,O⟩:∃ z,T.kids.length=z:=⟨_,rfl⟩
 have H:=fH O;have aq:0<z:=by rw[<-O];exact List.length_pos_iff.2 I
 have CN:Hid (T.cnt=jG T.kids):=lW I;have au:z<=64:=by have h1:=np T.kids;have:=HC.out;have:=CN.out;omega
 have ai:∀ W:World,(Instr.indexAt 84 (.slice T.ka z T.kc) (.int .i64 0)).run prog W=.ok (.pointer (some ⟨g,0,none⟩)) W:=by
  have R:=fun W=>gi (T:=84) (E:=86) (sz:=5) (n:=z) (c:=T.kc) (k:=0) underlying84 rfl sizeOf86 hA aq W;simp only[Nat.zero_mul,Nat.add_zero] at R;exact R
 have ac:Hid (T.kids≠[]):=I;have l1:((z:Int)==0)=false:=by simp;omega
 have ag:Hid (T.key=.agg #[.pointer (some ⟨g,0,none⟩),.int .i64 z]):=by show _=_;unfold fL.key;rw[am.out,H.out]
 have KV:Hid (T.val=.agg #[.string T.op,.string T.nm,.int .i64 T.aop,.string T.ver,.slice T.ka z T.kc]):=by show _=_;unfold fL.val;rw[H.out]
 have an:w.heap.size<D.heap.size:=K1.sz;have ak:¬ w.heap.size=D.heap.size:=by omega
 have u0:=K1.cell 0 _ rfl;have u4:=K1.cell 4 _ rfl;rw[O] at M u4;rw[KV.out];clear I hA hg O;go_in;go_upto_region 5 with(fail)
 clear M;go_region;obtain⟨W2,K⟩:∃ W2,(D.alloc (.cells #[.pointer (some ⟨g,0,none⟩),.int .i64 z] 366)).drew=W2:=⟨_,rfl⟩
 have B2:Hid (Bw D W2):=by rw[<-K];exact tZ ((Below.refl D.heap.size D).alloc lr _)
 have K2:Hid (fV W2 D.heap.size [.pointer (some ⟨g,0,none⟩),.int .i64 z]):=by rw[<-K];exact(fV.new D [.pointer (some ⟨g,0,none⟩),.int .i64 z] _).drew
 have BW:Hid (Bw w W2):=fM B1 B2.out;have KB:=fH (K1.below B2);have M2:=fH (HM.below BW);have O2:=fH (HO.low BW);have ap:b<w.heap.size:=HM.map.lt;rw[K];clear K u0 u4 ai an ak o0 o1 o2 l1;have v0:=K2.cell 0 _ rfl;have v1:=K2.cell 1 _ rfl;have u4:=KB.cell 4 _ rfl;rw[H.out] at u4;have F:=M2.map.look O2 ac.out;rw[ag.out] at F;rcases F with ad | ⟨p,hp,ah,ad⟩
 ·go_wp2_with fail;clear ad v0 v1 u4;go_loopw [8,36] (fun sv iv wr=>∃ (i s:Nat) (U:List (fL×Nat)),sv=.int .i64 s/\iv=.int .i64 i/\i<=z/\s<=64/\Hid (s=jG (T.kids.take i))/\Hid (Hg wr b U)/\Hid (iD wr 0 none T)/\Hid (fV wr D.heap.size [.pointer (some ⟨g,0,none⟩),.int .i64 z])/\Hid (w.grownBy wr (some b))) (fun _ iv _=>z-(intOf iv).toNat)
  case atStart=>exact⟨0,0,U,rfl,rfl,z0,by omega,by simp[Hid,jG],M2,O2,K2,kS BW _⟩
  case round=>
   clear M2 O2 BW KB;obtain⟨i,s,U,rfl,rfl,hi,hs,ab,aa,V,X,HG⟩:=hrel;by_cases ae:i<z
   ·obtain⟨t,ht⟩:∃ t,T.kids[i]?=some t:=⟨_,gG (by rw[H.out];exact ae)⟩
    have Z:Hid (t∈T.kids):=gM ht;obtain⟨b',off,hA,he⟩:=V.rd.cell i t ht;obtain⟨e0,e1,e2,e3,e4⟩:=rF he;simp only[Nat.add_zero] at e0;have aj:=fun W=>gi (T:=84) (E:=86) (sz:=5) (c:=T.kc) underlying84 rfl sizeOf86 hA ae W;have SM:Hid (s+t.cnt=jG (T.kids.take (i+1))):=by show _=_;rw[IK ht,ab.out]
    have ao:s+t.cnt<=64:=by have h1:=SM.out;have h2:=pS T.kids (i+1);have:=HC.out;have:=CN.out;omega
    obtain⟨W3,Y⟩:∃ W3,wr.alloc (.cells #[.string t.op,.string t.nm,.int .i64 t.aop,.string t.ver,.slice t.ka t.kids.length t.kc] 86)=W3:=⟨_,rfl⟩
    have B3:Hid (Bw wr W3):=by rw[<-Y];exact bR.alloc lr _
    have M3:=fH (aa.below B3);have O3:=fH (V.low B3);have hcall:=al.out t (XO Z) W3 b U M3 (O3.kids t Z) (HS.kids t Z) (by omega);unfold fL.val at hcall;have K3:Hid (fV W3 wr.heap.size t.cells):=by rw[<-Y];exact fV.new wr t.cells _
    obtain⟨a0,a1,a2,a3,a4⟩:=rF K3.cell;clear ht hA he;go_wp2_with fail;refine hcall.mono ?_;rintro e w4 ⟨rfl,hg,J,af⟩;have K4:=fH ((X.below B3).grownBy hg (by simp;have:=B2.size;have:=ap;have:=B1.size;omega));have O4:=fH (O3.tame (.map M3.map) hg);have M4:=fH af;have G4:=fH (fN (tU HG B3) hg);clear Y hcall hg af a0 a1 a2 a3 a4 e0 e1 e2 e3 e4 aj;go_wp2;go_roundw
    case rel=>exact⟨i+1,s+t.cnt,J,by congr 1;omega,by go_num,by omega,ao,SM,M4,O4,K4,G4⟩
    case measure=>simp[intOf];omega
   ·have E:Hid (T.cnt=s):=by show _=_;rw[ab.out,tL (by rw[H.out];omega),CN.out]
    obtain⟨w1,J,r1,k1,g1,z1,f1,-,-⟩:=aa.map.put V ac s;rw[ag.out] at r1;have M5:Hid (Hg w1 b J):=⟨k1,fun p hp=>by
     rcases f1 p hp with⟨q,hq,rfl⟩ | ⟨h1,h2⟩
     ·exact aa.val q hq
     ·rw[h1,h2,<-CN.out,E.out]⟩
    have G5:=fH (fN HG g1);have v0:=X.cell 0 _ rfl;have v1:=X.cell 1 _ rfl;clear k1 g1 z1 f1;go_wp2;go_ret;exact⟨fT (by rw[E.out]),G5,J,M5⟩
 ·have E:Hid (p.2=T.cnt):=by show _=_;rw[CN.out,M2.out.val p hp,ah]
  have G2:=fH (kS BW (some b));clear hp ah;go_wp2;go_ret;exact⟨fT (by rw[E.out]),G2,U,M2⟩
theorem Qj (T:fL):AtC T:=by
 have:∀ n:Nat,∀ T:fL,T.ht<n->AtC T:=by
  intro n
  induction n with
  | zero=>intro T h;omega
  | succ n ih=>intro T h;exact XR T fun t ht=>ih t (by omega)
 exact this (T.ht+1) T (by omega)
theorem Eg (nm:BA)(aop:Nat)(ver:BA)(R:kA (bl nm)=true)(ho:aop<=5)(I:aop=0->ver.size=0)(hv:0<aop->gL 2 ver=0)(w:World)(Z:Gl w):Calls prog 273 #[.agg #[.string ⟨#[]⟩,.string nm,.int .i64 aop,.string ver,.slice none 0 0]] w fun e w'=>e=.returned (.int .i64 0)/\Bw w w':=by
 have aa:=rV R;have K:=fun W=>uO nm W (by omega);rw[R] at K;have X:=fH Z;have J:=fH I;have HV:=fH hv;obtain⟨D,z⟩:∃ D,w.alloc (.cells #[.string ⟨#[]⟩,.string nm,.int .i64 aop,.string ver,.slice none 0 0] 86)=D:=⟨_,rfl⟩
 have O:Hid (Bw w D):=by rw[<-z];exact bR.alloc lr _
 have H:Hid (fV D w.heap.size [.string ⟨#[]⟩,.string nm,.int .i64 aop,.string ver,.slice none 0 0]):=by rw[<-z];exact fV.new w [.string ⟨#[]⟩,.string nm,.int .i64 aop,.string ver,.slice none 0 0] _
 have k1:=H.cell 1 _ rfl;have k2:=H.cell 2 _ rfl;have k3:=H.cell 3 _ rfl;have k4:=H.cell 4 _ rfl;by_cases U:aop=0
 ·have he:ver.toList=[]:=by rw[fK,hZ ver (J.out U)]
  have Y:ver.toList.isEmpty=true:=by rw[he];rfl
  subst U;go_in;go_wp2_with fail;refine mb (K _) ?_;rintro w' rfl;go_wp2;go_ret;exact⟨rfl,bR.alloc lr _⟩
 ·have F:=HV.out (by omega);have q0:((aop:Int)==0)=false:=by simp;omega
  have q1:decide ((aop:Int)<0)=false:=dF (by omega);have q2:decide ((5:Int)<(aop:Int))=false:=dF (by omega);have q3:decide (5<aop)=false:=dF (by omega);have ab:=DT F;have M:=gP 2 ver D (X.below O) (by omega);rw[F] at M;go_in;go_wp2_with fail;refine mb (K _) ?_;rintro w' rfl;go_wp2_with fail;refine M.mono ?_;rintro e w2 ⟨rfl,V⟩;have B2:=fH (fM O V);go_wp2;go_ret;exact⟨rfl,B2⟩
theorem BI (w:World):Calls prog 273 #[.agg #[.string ⟨#[]⟩,.string ⟨#[]⟩,.int .i64 0,.string ⟨#[]⟩,.slice none 0 0]] w fun e w'=>e=.returned (.int .i64 10)/\Bw w w':=by
 have z:=fun W=>uO ⟨#[]⟩ W (by decide);rw[show kA (bl ⟨#[]⟩)=false from by rfl] at z;have D:Hid (Bw w (w.alloc (.cells #[.string ⟨#[]⟩,.string ⟨#[]⟩,.int .i64 0,.string ⟨#[]⟩,.slice none 0 0] 86))):=bR.alloc lr _;go_in;go_wp2_with fail;refine mb (z _) ?_;rintro w' rfl;go_wp2;go_ret;exact⟨rfl,D⟩
theorem MS (w:World):Calls prog 241 #[.agg #[.string ⟨#[]⟩,.string ⟨#[]⟩,.int .i64 0,.string ⟨#[]⟩,.slice none 0 0]] w fun e w'=>e=.returned (.int .i64 10)/\Bw w w':=by
 have D:Hid (Bw w (w.alloc (.cells #[.string ⟨#[]⟩,.string ⟨#[]⟩,.int .i64 0,.string ⟨#[]⟩,.slice none 0 0] 86))):=bR.alloc lr _;go_in;go_wp2_with fail;refine mb (BI _) ?_;rintro H F;have z:=fH (fM D F);go_wp2;go_ret;exact⟨rfl,z⟩
def ChC (T:fL):Prop:=∀ w:World,Gl w->iD w 0 none T->T.cnt<=64->Calls prog 241 #[T.val] w fun e w'=>e=.returned (.int .i64 0)/\Bw w w'
theorem Qo {T:fL}(h:jR T):ChC T:=by
 induction h with
 | atom nm aop ver hn ho hv0 hv=>
  intro w hG _ _;have hA:=fun W hW=>Eg nm aop ver hn ho hv0 hv W hW;have V:=fH hG;obtain⟨z,F⟩:∃ z,w.alloc (.cells #[.string ⟨#[]⟩,.string nm,.int .i64 aop,.string ver,.slice none 0 0] 86)=z:=⟨_,rfl⟩
  have J:Hid (Bw w z):=by rw[<-F];exact bR.alloc lr _
  have Y:Hid (fV z w.heap.size [.string ⟨#[]⟩,.string nm,.int .i64 aop,.string ver,.slice none 0 0]):=by rw[<-F];exact fV.new w [.string ⟨#[]⟩,.string nm,.int .i64 aop,.string ver,.slice none 0 0] _
  obtain⟨k0,k1,k2,k3,k4⟩:=rF Y.cell;show Calls prog 241 #[.agg #[.string ⟨#[]⟩,.string nm,.int .i64 aop,.string ver,.slice none 0 0]] w _;go_in;go_wp2_with fail;refine mb (hA _ (V.below J)) ?_;rintro w2 X;have B2:=fH (fM J X);go_wp2;go_ret;exact⟨rfl,B2⟩
 | node op ka kc kids ho hc hk ih=>
  intro w hG hO ae;have V:=fH hG;have HO:=fH hO;have aa:=fH ih;have hw:=(sQ ho).1;have o0:(op.toList==([]:LU))=false:=by rw[fK,bF];exact hw
  have o2:¬ op.toList=[]:=by rw[fK];exact hw
  have o1:op.toList.isEmpty=false:=by rw[List.isEmpty_eq_false_iff];exact o2
  obtain⟨D,H⟩:∃ D,kids.length=D:=⟨_,rfl⟩
  have U:=fH H;obtain⟨z,F⟩:∃ z,w.alloc (.cells #[.string op,.string ⟨#[]⟩,.int .i64 0,.string ⟨#[]⟩,.slice ka D kc] 86)=z:=⟨_,rfl⟩
  have J:Hid (Bw w z):=by rw[<-F];exact bR.alloc lr _
  have Y:Hid (fV z w.heap.size [.string op,.string ⟨#[]⟩,.int .i64 0,.string ⟨#[]⟩,.slice ka D kc]):=by rw[<-F];exact fV.new w [.string op,.string ⟨#[]⟩,.int .i64 0,.string ⟨#[]⟩,.slice ka D kc] _
  obtain⟨k0,k1,k2,k3,k4⟩:=rF Y.cell;have hK:=Ea op z (V.below J);rw[ho] at hK;have hC:=AD op D z;rw[<-H,hc,H] at hC;have O1:Hid (iD z 0 none (.mk op ⟨#[]⟩ 0 ⟨#[]⟩ ka kc kids)):=HO.low J.out;have ab:=fH (lW (t:=.mk op ⟨#[]⟩ 0 ⟨#[]⟩ ka kc kids) (by have:=sP hc;intro e;simp only[fL.kids] at e;rw[e] at this;simp at this));have M:Hid (jG kids<=64):=by have h1:=ab.out;simp only[fL.kids] at h1;show _<=_;omega
  have ac:D<=64:=by have h1:=np kids;have:=M.out;omega
  show Calls prog 241 #[.agg #[.string op,.string ⟨#[]⟩,.int .i64 0,.string ⟨#[]⟩,.slice ka kids.length kc]] w _;rw[U.out];go_in;go_wp2_with fail;refine hK.mono ?_;rintro e w' ⟨rfl,rfl⟩;go_wp2_with fail;refine hC.mono ?_;rintro e w' ⟨rfl,rfl⟩;go_wp2;go_loopw [2,29] (fun rv iv wr=>∃ i:Nat,rv=.int .i64 0/\iv=.int .i64 i/\i<=D/\Hid (Bw w wr)) (fun _ iv _=>D-(intOf iv).toNat)
  case atStart=>exact⟨0,rfl,rfl,z0,J⟩
  case round=>
   obtain⟨i,rfl,rfl,hi,Z⟩:=hrel;by_cases K:i<D
   ·obtain⟨t,ht⟩:∃ t,kids[i]?=some t:=⟨_,gG (by rw[U.out];exact K)⟩
    have I:Hid (t∈kids):=gM ht;have O2:=HO.low Z.out;obtain⟨b',off,hA,he⟩:=O2.rd.cell i t ht;obtain⟨e0,e1,e2,e3,e4⟩:=rF he;simp only[Nat.add_zero] at e0;have ad:=fun W=>gi (T:=84) (E:=86) (sz:=5) (n:=D) (c:=kc) (A:=ka) underlying84 rfl sizeOf86 hA K W;obtain⟨O,R⟩:∃ O,wr.alloc (.cells #[.string t.op,.string t.nm,.int .i64 t.aop,.string t.ver,.slice t.ka t.kids.length t.kc] 86)=O:=⟨_,rfl⟩
    have B3:Hid (Bw wr O):=by rw[<-R];exact bR.alloc lr _
    have K3:Hid (fV O wr.heap.size t.cells):=by rw[<-R];exact fV.new wr t.cells _
    have B4:=fH (fM Z B3);have hcall:=aa.out t I O (V.below B4) ((O2.low B3).kids t I) (by have h1:=pm I.out;have:=M.out;omega);unfold fL.val at hcall;obtain⟨a0,a1,a2,a3,a4⟩:=rF K3.cell;go_wp2_with fail;refine hcall.mono ?_;rintro e w4 ⟨rfl,X⟩;have B5:=fH (fM B4 X);go_wp2;go_roundw
    case rel=>exact⟨i+1,rfl,by go_num,by omega,B5⟩
    case measure=>simp[intOf];omega
   ·go_wp2;go_ret;exact⟨rfl,Z⟩
theorem ub (T:fL)(c:Int)(hS:lO T)(H:T.cnt<=64)(ab:T.ht<=32)(w:World)(hG:Gl w)(hO:iD w 0 none T)
  (Y:∀ W,Gl W->iD W 0 none T->Calls prog 241 #[T.val] W fun e w'=>e=.returned (.int .i64 c)/\Bw W w'):Calls prog 194 #[T.val] w fun e w'=>e=.returned (.int .i64 c)/\Bw w w':=by
 have aa:=@run_makeMap prog;have HG:=fH hG;have V:=fH hO;have R:=fH Y;obtain⟨I,D⟩:∃ I,w.alloc (.cells #[.string T.op,.string T.nm,.int .i64 T.aop,.string T.ver,.slice T.ka T.kids.length T.kc] 86)=I:=⟨_,rfl⟩
 have B1:Hid (Bw w I):=by rw[<-D];exact bR.alloc lr _
 have K1:Hid (fV I w.heap.size T.cells):=by rw[<-D];exact fV.new w T.cells _
 obtain⟨k0,Z,k2,k3,k4⟩:=rF K1.cell;have hD:=Qi T I (V.low B1) hS H (by omega);have HA:Hid (∀ (W:World)(b:Nat)(O:List (fL×Nat)),Hg W b O->iD W 0 none T->Calls prog 240 #[T.val,.map (some b)] W fun e w'=>e=.returned (.int .i64 T.cnt)/\W.grownBy w' (some b)/\∃ F,Hg w' b F):=fun W b O h1 h2=>Qj T W b O h1 h2 hS H;unfold fL.val at *;go_in;go_wp2_with fail;refine hD.mono ?_;rintro e z ⟨⟨r,rfl,hr⟩,M⟩;have B2:=fH (fM B1 M);have U:=fH (K1.below M);obtain⟨k0,Z,k2,k3,k4⟩:=rF U.cell;have q1:decide ((32:Int)<(r:Int))=false:=dF (by omega);have q2:decide (32<r)=false:=dF (by omega);obtain⟨J,K⟩:∃ J,z.alloc (.map #[] 0)=J:=⟨_,rfl⟩
 have M3:Hid (Hg J z.heap.size []):=by rw[<-K];exact⟨mv.made z,by simp⟩
 have B3:Hid (Bw z J):=by rw[<-K];exact bR.alloc lr _
 have B4:=fH (fM B2 B3);have hA:=HA.out J z.heap.size [] M3 (V.low B4);have q3:decide ((64:Int)<(T.cnt:Int))=false:=dF (by omega);have q4:decide (64<T.cnt)=false:=dF (by omega);go_wp2_with fail;refine hA.mono ?_;rintro e w4 ⟨rfl,hg,F,hm⟩;have K4:=fH ((U.below B3).grownBy hg (by simp;have:=U.sz;omega));have X:=fH (kP B4 hg B2.size);obtain⟨k0,Z,k2,k3,k4⟩:=rF K4.cell;go_wp2_with fail;refine mb (R w4 (HG.below X) (V.low X)) ?_;rintro w5 M;have B6:=fH (fM X M);go_wp2;go_ret;exact⟨rfl,B6⟩
end
end Go.Proofs.YtkmjcombhjombaaGreatDoor
