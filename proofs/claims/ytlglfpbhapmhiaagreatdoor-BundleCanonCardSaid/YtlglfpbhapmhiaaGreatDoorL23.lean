/- A part of the proof. -/
import Derived.Test.YtlglfpbhapmhiaaGreatDoorL21
set_option maxRecDepth 100000
set_option maxHeartbeats 20000000
set_option linter.unusedVariables false
set_option linter.unusedSimpArgs false
namespace Go.Proofs.YtlglfpbhapmhiaaGreatDoor
variable{b c h i k mb n:Nat}{A:OA}{W w wr:World}
section
open Go.RowKit Go.Deep
theorem Fq {x:Obj}(h:w.heap[b]?=some x)(o:Obj):(w.alloc o).heap[b]?=some x:=by
 have hl:b<w.heap.size:=(Array.getElem?_eq_some_iff.1 h).1;rw[Below.heap_alloc w o b hl];exact h
theorem yA {xs:List an}(h:∀ x∈xs,x.kids≠[]):cZ (xs.flatMap an.kids)=cZ xs:=by
 induction xs with
 | nil=>rfl
 | cons a r ih=>
  rw[List.flatMap_cons,dX,ih (fun x hx=>h x (by simp[hx])),<-gu (h a (by simp))];rfl
theorem Jy {xs:List an}(h:∀ x∈xs,x.kids≠[]){x:an}(hx:xs[i]?=some x)(j:Nat):cZ ((xs.take i).flatMap an.kids++x.kids.take j)<=cZ xs:=by
 rw[dX,yA (fun y hy=>h y (List.mem_of_mem_take hy))];have h1:=yw hx;have h2:=jI xs (i+1);have h3:=jI x.kids j;rw[<-gu (h x (gM hx))] at h3;omega
theorem yB {xs:List an}{x:an}(hx:xs[i]?=some x):(xs.take (i+1)).flatMap an.kids=(xs.take i).flatMap an.kids++x.kids:=by
 obtain⟨hk,hg⟩:=gS hx;rw[tS hk,hg,List.flatMap_append];simp
theorem Jz {ks:List an}{j:Nat}{t:an}(ht:ks[j]?=some t):ks.take (j+1)=ks.take j++[t]:=by
 obtain⟨hk,hg⟩:=gS ht;rw[tS hk,hg]
theorem JA:(Tryz.prog.info? 168).map (fun i=>(i.zero,i.size,i.bytes))=some (some (.slice none 0 0),1,24):=by kernel_rfl
structure Lb (w wr:World) (mb h k:Nat) (A:OA) (n c:Nat) (xs:List an) (ms:List (an×Nat)):Prop where
 lev:Hi 0 wr A n c xs
 met:fC wr mb ms
 xh:∀ x∈xs,x.ht+k<=h+1
 top:∃ x∈xs,x.ht+k=h+1
 mok:∀ i,i<k->∃ p∈ms,p.1.ht+i=h
 bel:Below w.heap.size w wr
 mlo:w.heap.size<=mb
 cnt:cZ xs<=64
theorem Lb.few {xs:List an}{ms:List (an×Nat)}(d:Lb w wr mb h k A n c xs ms):n<=64:=by
 have:=ij xs;have:=d.cnt;have:=d.lev.len;omega
theorem Lb.start {W4:World}{T:an}(hT:bT w 0 none T)(hS:eM T)(hc:T.cnt<=64)(tt:TypeId)
  (hW:(w.alloc (.cells T.cells.toArray tt)).alloc (.map #[] 0)=W)
  (hW4:(W.alloc (.cells T.cells.toArray 170)).alloc (.cells #[.slice (some ⟨W.heap.size,0,none⟩) 1 1] 168)=W4):
  Lb w W4 (w.heap.size+1) T.ht 0 (some ⟨W.heap.size+1,0,none⟩) 1 1 [.mk ⟨#[]⟩ ⟨#[]⟩ 0 ⟨#[]⟩ (some ⟨W.heap.size,0,none⟩) 1 [T]] []:=by
 have zW:W.heap.size=w.heap.size+2:=by rw[<-hW];simp
 have b1:Below w.heap.size w W:=by rw[<-hW];exact(bR.alloc lr _).alloc (by simp) _
 have b4:Below W.heap.size W W4:=by rw[<-hW4];exact(bR.alloc lr _).alloc (by simp) _
 have hm:fC W (w.heap.size+1) []:=by
  rw[<-hW];have:=fC.made (w.alloc (.cells T.cells.toArray tt));simpa using this
 have hc1:W4.heap[W.heap.size]?=some (.cells T.cells.toArray 170 (0,0)):=by rw[<-hW4];exact Fq (heap_alloc_new W _) _
 have hc2:W4.heap[W.heap.size+1]?=some (.cells #[.slice (some ⟨W.heap.size,0,none⟩) 1 1] 168 (0,0)):=by
  have:=heap_alloc_new (W.alloc (.cells T.cells.toArray 170)) (.cells #[.slice (some ⟨W.heap.size,0,none⟩) 1 1] 168);rw[<-hW4];simpa using this
 have ht4:bT W4 0 none T:=(hT.low b1).low b4;refine⟨⟨rfl,⟨rfl,.inr ⟨W.heap.size+1,1,_,rfl,z0,hc2,lr,by decide,rfl,rfl⟩⟩,fun x hx=>?_,fun x hx=>?_,fun x hx k hk=>?_⟩,hm.below b4,fun x hx=>?_,⟨_,List.mem_singleton.2 rfl,?_⟩,fun i hi=>absurd hi (by omega),aq b1 b4,by omega,?_⟩
 ·obtain rfl:=List.mem_singleton.1 hx;exact .mk _ ⟨by simp[an.cells,an.kids],.inr ⟨W.heap.size,1,_,rfl,z0,hc1,lr,by decide,rfl,by simp[an.kids,an.cells]⟩⟩ (fun g _=>by simp) (fun k hk=>by simp only[an.kids,List.mem_singleton] at hk;subst hk;exact ht4)
 ·obtain rfl:=List.mem_singleton.1 hx;simp[an.kids]
 ·obtain rfl:=List.mem_singleton.1 hx;simp only[an.kids,List.mem_singleton] at hk;subst hk;exact hS
 ·obtain rfl:=List.mem_singleton.1 hx;simp[an.ht,Cc]
 ·simp[an.ht,Cc]
 ·simp[cZ,an.cnt];exact hc
theorem Lb.round {xs:List an}{ms:List (an×Nat)}(d:Lb w wr mb h k A n c xs ms):Fp wr.heap.size (wr.alloc (.map #[] 0)) mb wr.heap.size h k A n c xs none 0 0 [] ms []:=by
 have b:Below wr.heap.size wr (wr.alloc (.map #[] 0)):=bR.alloc lr _;exact⟨d.lev.below b,fun g hg=>(d.lev.row.lt g hg).2,.nil _ _,d.met.below b,fC.made wr,by have:=d.met.lt;omega,d.xh,by simp,by simp,d.mok,d.top⟩
theorem Lb.after {s0 hb:Nat}{xs:List an}{B:OA}{m cB:Nat}{ys:List an}{ms hs:List (an×Nat)}(d:Fp s0 wr mb hb h k A n c xs B m cB ys ms hs)(hs:kx (xs.flatMap an.kids) ys ms)(hm:0<m)(bel:Below w.heap.size w wr)(mlo:w.heap.size<=mb)(hc:cZ ys<=64):Lb w wr mb h (k+1) B m cB ys ms/\k<ms.length/\k+1<=h:=by
 obtain⟨h1,h2,h3,h4⟩:=d.next hs hm;exact⟨⟨⟨d.new.len,aY d.new.row z0,d.new.own,d.new.ne,d.new.shape⟩,d.met,fun y hy=>by have:=d.yh y hy;omega,h4,h3,bel,mlo,hc⟩,h1,h2⟩
theorem fC.len {ms:List (an×Nat)}(h:fC w b ms)(ty:TypeId):(Builtin.len_ #[262] ty #[.map (some b)]).run Tryz.prog w=.ok (.int .i64 ms.length) w:=by
 obtain⟨es,clock,hb,hm⟩:=h.ex;have e3:es.size=ms.length:=by have:=congrArg List.length hm;simpa using this
 simp[Builtin.len_,run_underlying Tryz.underlying262,MapKept.run_getObj_map hb,goInt,e3]
theorem mZ {B:Nat}(h:Below B w W):Below B w W.drew:=⟨h.os,h.tape,h.output,h.size,h.block⟩
theorem Fr (T:an)(w:World)(hT:bT w 0 none T)(hS:eM T)(hc:T.cnt<=64)(hh:T.ht<=1000000):Calls Tryz.prog 214 #[T.val] w fun e w'=>(∃ r:Nat,e=.returned (.int .i64 r)/\r<=T.ht)/\Below w.heap.size w w':=by
 have hmm:=@run_makeMap Tryz.prog;obtain⟨i1,hi1,hw0,hw1,hw2'⟩:=info_parts JA;obtain⟨W,hW⟩:∃ W,(w.alloc (.cells T.cells.toArray 170)).alloc (.map #[] 0)=W:=⟨_,rfl⟩
 have zW:W.heap.size=w.heap.size+2:=by rw[<-hW];simp
 obtain⟨W4,hW4⟩:∃ W4,(W.alloc (.cells T.cells.toArray 170)).alloc (.cells #[.slice (some ⟨W.heap.size,0,none⟩) 1 1] 168)=W4:=⟨_,rfl⟩
 have D0:Hid (Lb w W4 (w.heap.size+1) T.ht 0 (some ⟨W.heap.size+1,0,none⟩) 1 1 [.mk ⟨#[]⟩ ⟨#[]⟩ 0 ⟨#[]⟩ (some ⟨W.heap.size,0,none⟩) 1 [T]] []):=Lb.start hT hS hc _ hW hW4;obtain⟨h,hh'⟩:∃ h,T.ht=h:=⟨_,rfl⟩
 rw[hh'] at D0 hh |-;have HW4:=ae hW4;have HW:=ae hW;clear hT hS hc hh' hW hW4 zW;unfold an.val;go_in;go_upto_region 3 with(fail)
 have hW':(w.alloc (.cells #[.string T.op,.string T.nm,.int .i64 T.aop,.string T.ver,.slice T.ka T.kids.length T.kc] 170)).alloc (.map #[] 0)=W:=HW.out;rw[hW'];have K0:Hid (ax W w.heap.size T.cells):=by rw[<-HW.out];exact(ax.new w T.cells _).alloc _
 have k0:=K0.out.cell 0 _ rfl;have k1:=K0.out.cell 1 _ rfl;have k2:=K0.out.cell 2 _ rfl;have k3:=K0.out.cell 3 _ rfl;have k4:=K0.out.cell 4 _ rfl;clear hW' K0 HW;go_wp2_with fail;clear k0 k1 k2 k3 k4;go_loopw [3,5,6] (fun dv lv ar wr=>∃ (k d n c:Nat) (A:OA) (xs:List an) (ms:List (an×Nat)),dv=.int .i64 d/\lv=.slice A n c/\ar=.int .i64 k/\d<=h/\k<=h/\Hid (Lb w wr (w.heap.size+1) h k A n c xs ms)) (fun _ _ ar _=>h-(intOf ar).toNat)
 case atStart=>have:=D0.out;rw[<-HW4.out] at this;exact⟨0,0,1,1,_,_,_,rfl,rfl,rfl,z0,z0,this⟩
 case round=>
  clear D0 HW4;obtain⟨k,d,n,c,A,xs,ms,rfl,rfl,rfl,hd,hk,HD⟩:=hrel;have hn:=HD.out.few;have hxc:=HD.out.cnt;obtain⟨s0,hs0⟩:∃ s0,wr.heap.size=s0:=⟨_,rfl⟩
  obtain⟨W1,hW1⟩:∃ W1,wr.alloc (.map #[] 0)=W1:=⟨_,rfl⟩
  have S1:Hid (Fp s0 W1 (w.heap.size+1) s0 h k A n c xs none 0 0 [] ms []):=by rw[<-hW1,<-hs0];exact HD.out.round
  have B1:Hid (Below w.heap.size w W1):=by rw[<-hW1];exact HD.out.bel.alloc HD.out.bel.size _
  have HXC:Hid (cZ xs<=64):=hxc;have HS0:Hid (w.heap.size<=s0):=by rw[<-hs0];exact HD.out.bel.size
  clear hxc HD;go_wp2_with fail;clear hW1 hs0 hmm;go_loopw [3,7,25] (fun dv bv iv wr=>∃ (i d m cB:Nat) (B:OA) (ys:List an) (ms hs:List (an×Nat)),dv=.int .i64 d/\bv=.slice B m cB/\iv=.int .i64 i/\d<=h/\i<=n/\Hid (Fp s0 wr (w.heap.size+1) s0 h k A n c xs B m cB ys ms hs)/\Hid (kx ((xs.take i).flatMap an.kids) ys ms)/\Hid (Below w.heap.size w wr)/\Hid (cZ ys<=cZ ((xs.take i).flatMap an.kids))) (fun _ _ iv _=>n-(intOf iv).toNat)
  case atStart=>exact⟨0,d,0,0,none,[],ms,[],rfl,rfl,rfl,hd,z0,S1,kx.nil _ _,B1,lr⟩
  case round=>
   clear S1 B1;obtain⟨i,d,m,cB,B,ys,ms,hs,rfl,rfl,rfl,hd,hi,HS,HN,HB,HC⟩:=hrel;by_cases hlt:i<n
   ·obtain⟨x,hx⟩:∃ x,xs[i]?=some x:=⟨_,gG (by rw[HS.out.lev.len];exact hlt)⟩
    have HX:=ae hx;have hxm:Hid (x∈xs):=gM hx;obtain⟨b,off,hA,he⟩:=(bD HS.out.lev.row).one i _ (by rw[List.getElem?_map,hx];rfl) hlt;have hix:=fun W=>aB (T:=285) (E:=168) (sz:=1) (c:=c) Tryz.underlying285 rfl Tryz.sizeOf168 hA hlt W;simp only[Nat.mul_one] at hix;obtain⟨kl,hkl⟩:∃ kl,x.kids.length=kl:=⟨_,rfl⟩
    have HKL:=ae hkl;have hk64:kl<=64:=by
     have h1:=ij x.kids;rw[<-gu (HS.out.lev.ne x hxm.out)] at h1;have h2:=kq hxm.out;have:=HXC.out;omega
    unfold an.sl at he;rw[hkl] at he;clear hx hA hkl;go_wp2_with fail;clear he hix;go_loopw [3,7,31] (fun dv bv jv wr=>∃ (j d m cB:Nat) (B:OA) (ys:List an) (ms hs:List (an×Nat)),dv=.int .i64 d/\bv=.slice B m cB/\jv=.int .i64 j/\d<=h/\j<=kl/\Hid (Fp s0 wr (w.heap.size+1) s0 h k A n c xs B m cB ys ms hs)/\Hid (kx ((xs.take i).flatMap an.kids++x.kids.take j) ys ms)/\Hid (Below w.heap.size w wr)/\Hid (cZ ys<=cZ ((xs.take i).flatMap an.kids++x.kids.take j))) (fun _ _ jv _=>kl-(intOf jv).toNat)
    case atStart=>exact⟨0,d,m,cB,B,ys,ms,hs,rfl,rfl,rfl,hd,z0,HS,by simpa [Hid] using HN.out,HB,by simpa [Hid] using HC.out⟩
    case round=>
     clear HS HN HB HC;obtain⟨j,d,m,cB,B,ys,ms,hs,rfl,rfl,rfl,hd,hj,HS,HN,HB,HC⟩:=hrel;by_cases hlj:j<kl
     ·obtain⟨t,ht⟩:∃ t,x.kids[j]?=some t:=⟨_,gG (by rw[HKL.out];exact hlj)⟩
      have HT:=ae ht;have htm:Hid (t∈x.kids):=gM ht;have HOW:=ae ((HS.out.lev.own x hxm.out).kids t htm.out);have HSH:=ae (HS.out.lev.shape x hxm.out t htm.out);obtain⟨b,off,hA,he⟩:=(HS.out.lev.own x hxm.out).rd.cell j t ht;have e0:=he 0 _ rfl;have e1:=he 1 _ rfl;have e2:=he 2 _ rfl;have e3:=he 3 _ rfl;have e4:=he 4 _ rfl;simp only[Nat.add_zero] at e0;have hix:=fun W=>aB (T:=168) (E:=170) (sz:=5) (c:=x.kc) Tryz.underlying168 rfl Tryz.sizeOf170 hA hlj W;have HHT:Hid (t.ht+k<=h):=by have h1:=Mr htm.out;have h2:=HS.out.xh x hxm.out;show _<=_;omega
      have TK:Hid (x.kids.take (j+1)=x.kids.take j++[t]):=Jz ht;clear ht hA he;by_cases tk:t.kids=[]
      ·have o0:t.op.toList=[]:=by rw[aj];exact bX _ (HSH.out.leaf tk)
       have o1:t.op.toList.isEmpty=true:=by rw[o0];rfl
       have l0:t.kids.length=0:=by rw[tk];rfl
       rw[l0] at e4;have SN:Hid (kx ((xs.take i).flatMap an.kids++x.kids.take (j+1)) ys ms):=by show kx _ _ _;rw[TK.out,<-List.append_assoc];exact HN.out.leaf tk
       have CN:Hid (cZ ys<=cZ ((xs.take i).flatMap an.kids++x.kids.take (j+1))):=by have:=HC.out;show _<=_;rw[TK.out,<-List.append_assoc,dX];omega
       have SB:=ae (HS.out.below ((Below.refl wr.heap.size wr).alloc lr (.cells #[.string t.op,.string t.nm,.int .i64 t.aop,.string t.ver,.slice t.ka 0 t.kc] 170)));have BB:=ae (HB.out.alloc HB.out.size (.cells #[.string t.op,.string t.nm,.int .i64 t.aop,.string t.ver,.slice t.ka 0 t.kc] 170));clear tk l0;go_wp2;go_roundw
       case rel=>exact⟨j+1,max d k,m,cB,B,ys,ms,hs,by congr 1;omega,rfl,by go_num,by omega,by omega,SB,SN,BB,CN⟩
       case measure=>simp[intOf];omega
      ·obtain⟨g,cur,hA,hg,-⟩:=mY HOW.out tk;have HKA:=ae hA;obtain⟨tl,htl⟩:∃ tl,t.kids.length=tl:=⟨_,rfl⟩
       have HTL:=ae htl;have htp:0<tl:=by rw[<-htl];exact List.length_pos_iff.2 tk
       have ht64:tl<=1000000:=by
        have h1:=ij t.kids;rw[<-gu tk] at h1;have h2:=kq htm.out;rw[<-gu (HS.out.lev.ne x hxm.out)] at h2;have h3:=kq hxm.out;have:=HXC.out;omega
       rw[htl] at e4;have hix2:=fun W=>aB (T:=168) (E:=170) (sz:=5) (n:=tl) (c:=t.kc) (k:=0) Tryz.underlying168 rfl Tryz.sizeOf170 hA htp W;simp only[Nat.zero_mul,Nat.add_zero] at hix2;have hix3:∀ W:World,(Instr.indexAt 168 (.slice t.ka tl t.kc) (.int .i64 0)).run Tryz.prog W=.ok (.pointer (some ⟨g,0,none⟩)) W:=hix2;have l1:decide ((0:Int)<(tl:Int))=true:=dT (by omega);have l2:decide (0<tl)=true:=dT htp;have HTK:Hid (t.kids≠[]):=tk;clear tk hA hg htl hix2;go_upto_region 15 with(fail)
       obtain⟨W1,hW1⟩:∃ W1,wr.alloc (.cells #[.string t.op,.string t.nm,.int .i64 t.aop,.string t.ver,.slice t.ka tl t.kc] 170)=W1:=⟨_,rfl⟩
       have B1:Hid (Below wr.heap.size wr W1):=by rw[<-hW1];exact bR.alloc lr _
       have K1:Hid (ax W1 wr.heap.size [.string t.op,.string t.nm,.int .i64 t.aop,.string t.ver,.slice t.ka tl t.kc]):=by rw[<-hW1];exact ax.new wr [.string t.op,.string t.nm,.int .i64 t.aop,.string t.ver,.slice t.ka tl t.kc] _
       rw[hW1];clear hW1 e0 e1 e2 e3 e4 hix l1 l2;have u4:=K1.out.cell 4 _ rfl;have hz1:wr.heap.size<W1.heap.size:=K1.out.sz;have hz2:¬ wr.heap.size=W1.heap.size:=by omega
       go_region;obtain⟨W2,hW2⟩:∃ W2,(W1.alloc (.cells #[.pointer (some ⟨g,0,none⟩),.int .i64 tl] 288)).drew=W2:=⟨_,rfl⟩
       have B2:Hid (Below W1.heap.size W1 W2):=by rw[<-hW2];exact mZ ((Below.refl W1.heap.size W1).alloc lr _)
       have K2:Hid (ax W2 W1.heap.size [.pointer (some ⟨g,0,none⟩),.int .i64 tl]):=by rw[<-hW2];exact(ax.new W1 [.pointer (some ⟨g,0,none⟩),.int .i64 tl] _).drew
       have K1':=ae (K1.out.below B2.out);have BW:Hid (Below wr.heap.size wr W2):=aq B1.out B2.out;have D2:=ae (HS.out.below BW.out);have O2:=ae (HOW.out.low BW.out);have BB:=ae (aq HB.out BW.out);have KEY:Hid (t.key=.agg #[.pointer (some ⟨g,0,none⟩),.int .i64 tl]):=by show _=_;unfold an.key;rw[HKA.out,HTL.out]
       rw[hW2];have HLT:=ae hz1;clear hW2 u4 hz1 hz2 hix3 B1 B2 K1;have v0:=K2.out.cell 0 _ rfl;have v1:=K2.out.cell 1 _ rfl;have hlook:=D2.out.here.look O2.out HTK.out;rw[KEY.out] at hlook;rcases hlook with hlk | ⟨p,hp,hpk,hlk⟩
       ·obtain⟨w1,hs',r1,k1,g1,z1,f1,-,-⟩:=(D2.out.here.below (w':=W2.drew) ⟨rfl,rfl,rfl,lr,fun _ _=>rfl⟩).put (O2.out.low (w':=W2.drew) ⟨rfl,rfl,rfl,lr,fun _ _=>rfl⟩) HTK.out k;have D2d:=ae (D2.out.below (w':=W2.drew) ⟨rfl,rfl,rfl,lr,fun _ _=>rfl⟩);have O2d:=ae (O2.out.low (w':=W2.drew) ⟨rfl,rfl,rfl,lr,fun _ _=>rfl⟩);have m1:fC w1 (w.heap.size+1) ms:=D2d.out.met.tame (.map D2d.out.here) (fun e=>D2.out.hne (by injection e)) g1;obtain⟨w2,ms',r2,k2,g2,z2,-,f2,f3⟩:=m1.put (O2d.out.tame (.map D2d.out.here) g1) HTK.out k;rw[KEY.out] at r1 r2;have HG1:=ae g1;have HK1:=ae k1;have HF1:=ae f1;have HG2:=ae g2;have HK2:=ae k2;have HF2:=ae f2;have HF3:=ae f3;have hl1:s0<wr.heap.size:=HS.out.here.lt;have hl2:w.heap.size+1<wr.heap.size:=HS.out.met.lt;have hl3:wr.heap.size<W1.heap.size:=HLT.out;have Kl:=ae (K2.out.drew.grownBy g1 (fun e=>by injection e with e;omega));have Kw:=ae ((K1'.out.drew.grownBy g1 (fun e=>by injection e with e;omega)).grownBy g2 (fun e=>by injection e with e;omega));have q0:=Kl.out.cell 0 _ rfl;have q1:=Kl.out.cell 1 _ rfl;have NW:=ae ((D2d.out.new.map D2d.out.here g1).map m1 g2);have B3:=ae (dU (dU (mZ BB.out) g1 HS0.out) g2 (Nat.le_succ _));have hz3:s0<w2.heap.size:=by have:=Kw.out.sz;omega
        have hm64:m<=64:=by
         have h1:=ij ys;have h2:=HC.out;have h3:=HS.out.new.len;have h4:=Jy HS.out.lev.ne HX.out j;have:=HXC.out;omega
        have hw2:w.heap.size<=w2.heap.size:=by have:=HS0.out;omega
        clear g1 k1 f1 g2 k2 f2 f3 z1 z2 m1 hl1 hl2 hl3;go_wp2;go_region;clear v0 v1 q0 q1 r1 r2 hlk;have y4:=Kw.out.cell 4 _ rfl;go_wp2_with (at_builtin;refine au _ rfl _ _ _ rfl s0 168 i1 _ 1 24 Tryz.underlying285 hi1 hw0 hw1 hw2' rfl (by omega) (.slice B m cB) m _ rfl (NW.out.row.alloc _) (w2.heap.size+1) (some ⟨w2.heap.size,0,none⟩) 1 1 [.slice t.ka tl t.kc] rfl (gK w2 _ _) (by simp[Value.oneCell']) (by simp only[maxLen];omega) (by omega) (by simp;omega) ?_;intro v1 w3 o1 g3 a1);obtain⟨B3',c3,rfl⟩:=aN o1;have o2:w3.ownsRow s0 168 1 (.slice B3' (m+1) c3) (m+1) (ys.map an.sl++[t.sl]):=by rw[show t.sl=.slice t.ka tl t.kc from by unfold an.sl;rw[HTL.out]];exact o1
        have D3:=ae (D2d.out.grow O2d.out HTK.out HSH.out.kids HHT.out HK1.out HG1.out HF1.out HK2.out HG2.out HF2.out HF3.out ((Below.refl w2.heap.size w2).alloc lr _) o2 g3);have BB3:Hid (Below w.heap.size w w3):=(B3.out.alloc hw2 _).grown g3 (by simp;omega) (fun j' hj'=>by have:=(NW.out.row.lt j' hj').1;have:=HS0.out;omega);have SN:Hid (kx ((xs.take i).flatMap an.kids++x.kids.take (j+1)) (ys++[t]) ms'):=by show kx _ _ _;rw[TK.out,<-List.append_assoc];exact HN.out.grow HF2.out HF3.out
        have CN:Hid (cZ (ys++[t])<=cZ ((xs.take i).flatMap an.kids++x.kids.take (j+1))):=by have:=HC.out;show _<=_;rw[TK.out,<-List.append_assoc,dX,dX _ [t]];omega
        clear o1 o2 g3 a1 y4;go_wp2;go_roundw
        case rel=>exact⟨j+1,d,m+1,c3,B3',ys++[t],ms',hs',rfl,rfl,by go_num,hd,by omega,D3,SN,BB3,CN⟩
        case measure=>simp[intOf];omega
       ·have SN:Hid (kx ((xs.take i).flatMap an.kids++x.kids.take (j+1)) ys ms):=by show kx _ _ _;rw[TK.out,<-List.append_assoc];exact D2.out.hit HN.out hp hpk
        have CN:Hid (cZ ys<=cZ ((xs.take i).flatMap an.kids++x.kids.take (j+1))):=by have:=HC.out;show _<=_;rw[TK.out,<-List.append_assoc,dX];omega
        clear hp hpk;go_wp2;go_roundw
        case rel=>exact⟨j+1,d,m,cB,B,ys,ms,hs,rfl,rfl,by go_num,hd,by omega,D2,SN,BB,CN⟩
        case measure=>simp[intOf];omega
     ·have SN:Hid (kx ((xs.take (i+1)).flatMap an.kids) ys ms):=by have:=HN.out;rw[tL (l:=x.kids) (by rw[HKL.out];omega),<-yB HX.out] at this;exact this
      have CN:Hid (cZ ys<=cZ ((xs.take (i+1)).flatMap an.kids)):=by have:=HC.out;rw[tL (l:=x.kids) (by rw[HKL.out];omega),<-yB HX.out] at this;exact this
      go_wp2;go_roundw
      case rel=>exact⟨i+1,d,m,cB,B,ys,ms,hs,rfl,rfl,by go_num,hd,by omega,HS,SN,HB,CN⟩
      case measure=>simp[intOf];omega
   ·have hln:=HS.out.lev.len;have SN:Hid (kx (xs.flatMap an.kids) ys ms):=by have:=HN.out;rw[tL (by omega)] at this;exact this
    have CN:Hid (cZ ys<=64):=by have h1:=HC.out;have h2:=HXC.out;rw[tL (by omega),yA HS.out.lev.ne] at h1;show _<=_;omega
    have hm64:m<=64:=by have h1:=ij ys;have h2:=HS.out.new.len;have:=CN.out;omega
    clear hln;by_cases hm0:m=0
    ·have q0:((m:Int)==0)=true:=by simp[hm0]
     clear hm0;go_wp2;go_ret;exact⟨⟨d,rfl,hd⟩,HB.out⟩
    ·have q0:((m:Int)==0)=false:=by simp;omega
     obtain⟨o1,o2,o3⟩:=Lb.after (w:=w) HS.out SN.out (by omega) HB.out (Nat.le_succ _) CN.out;have O1:=ae o1;have hlen:=HS.out.met.len;have q1:decide ((ms.length:Int)<=(k:Int))=false:=dF (by omega);have q2:decide (ms.length<=k)=false:=dF (by omega);clear o1 o2 hm0;go_wp2;go_roundw
     case rel=>exact⟨k+1,d,m,cB,B,ys,ms,rfl,rfl,by go_num,hd,o3,O1⟩
     case measure=>simp[intOf];omega
end
end Go.Proofs.YtlglfpbhapmhiaaGreatDoor
