/- A part of the proof of a law on dependencies in three formats. No condition. -/
import Derived.Test.YtkjdbpjglobbjaaGreatDoorE27
import Derived.Test.YtkjdbpjglobbjaaGreatDoorE34
import Derived.Test.YtkjdbpjglobbjaaGreatDoorE43
set_option maxRecDepth 100000
set_option maxHeartbeats 20000000
set_option linter.unusedVariables false
set_option linter.unusedSimpArgs false
namespace Go.Proofs.YtkjdbpjglobbjaaGreatDoor
section
open Go.RowKit Go.Deep
theorem JC {w:World}{b:Nat}{x:Obj}(h:w.heap[b]?=some x)(o:Obj):(w.alloc o).heap[b]?=some x:=by
 have hl:b<w.heap.size:=(Array.getElem?_eq_some_iff.1 h).1
 rw[Below.heap_alloc w o b hl];exact h
theorem BH {xs:List aj}(h:∀ x∈xs,x.kids≠[]):dE (xs.flatMap aj.kids)=dE xs:=by
 induction xs with
 | nil=>rfl
 | cons a r ih=>
  rw[List.flatMap_cons,eL,ih (fun x hx=>h x (by simp[hx])),←fM (h a (by simp))];rfl
theorem MZ {xs:List aj}(h:∀ x∈xs,x.kids≠[]){i:Nat}{x:aj}(hx:xs[i]?=some x)(j:Nat):dE ((xs.take i).flatMap aj.kids++x.kids.take j)≤dE xs:=by
 rw[eL,BH (fun y hy=>h y (List.mem_of_mem_take hy))]
 have h1:=Bz hx
 have h2:=kf xs (i+1)
 have h3:=kf x.kids j
 rw[←fM (h x (gM hx))] at h3
 omega
theorem BI {xs:List aj}{i:Nat}{x:aj}(hx:xs[i]?=some x):(xs.take (i+1)).flatMap aj.kids=(xs.take i).flatMap aj.kids++x.kids:=by
 obtain⟨hk,hg⟩:=gS hx
 rw[tS hk,hg,List.flatMap_append];simp
theorem M6 {ks:List aj}{j:Nat}{t:aj}(ht:ks[j]?=some t):ks.take (j+1)=ks.take j++[t]:=by
 obtain⟨hk,hg⟩:=gS ht
 rw[tS hk,hg]
theorem M7:(Tryz.prog.info? 68).map (fun i=>(i.zero,i.size,i.bytes))=some (some (.slice none 0 0),1,24):=by kernel_rfl
structure N4 (w wr:World) (mb h k:Nat) (A:Option Addr) (n c:Nat) (xs:List aj) (ms:List (aj×Nat)):Prop where
 lev:Kx 0 wr A n c xs
 met:fY wr mb ms
 xh:∀ x∈xs,x.ht+k≤h+1
 top:∃ x∈xs,x.ht+k=h+1
 mok:∀ i,i<k→∃ p∈ms,p.1.ht+i=h
 bel:Below w.heap.size w wr
 mlo:w.heap.size≤mb
 cnt:dE xs≤64
theorem N4.few {w wr:World}{mb h k:Nat}{A:Option Addr}{n c:Nat}{xs:List aj}{ms:List (aj×Nat)}(d:N4 w wr mb h k A n c xs ms):n≤64:=by
 have:=hZ xs;have:=d.cnt;have:=d.lev.len;omega
theorem N4.start {w W W4:World}{T:aj}(hT:ce w 0 none T)(hS:gT T)(hc:T.cnt≤64)(tt:TypeId)
  (hW:(w.alloc (.cells T.cells.toArray tt)).alloc (.map #[] 0)=W)
  (hW4:(W.alloc (.cells T.cells.toArray 70)).alloc (.cells #[.slice (some ⟨W.heap.size,0,none⟩) 1 1] 68)=W4):
  N4 w W4 (w.heap.size+1) T.ht 0 (some ⟨W.heap.size+1,0,none⟩) 1 1 [.mk ⟨#[]⟩ ⟨#[]⟩ 0 ⟨#[]⟩ (some ⟨W.heap.size,0,none⟩) 1 [T]] []:=by
 have zW:W.heap.size=w.heap.size+2:=by rw[←hW];simp
 have b1:Below w.heap.size w W:=by rw[←hW];exact(bR.alloc lr _).alloc (by simp) _
 have b4:Below W.heap.size W W4:=by rw[←hW4];exact(bR.alloc lr _).alloc (by simp) _
 have hm:fY W (w.heap.size+1) []:=by
  rw[←hW]
  have:=fY.made (w.alloc (.cells T.cells.toArray tt))
  simpa using this
 have hc1:W4.heap[W.heap.size]?=some (.cells T.cells.toArray 70 (0,0)):=by rw[←hW4];exact JC (heap_alloc_new W _) _
 have hc2:W4.heap[W.heap.size+1]?=some (.cells #[.slice (some ⟨W.heap.size,0,none⟩) 1 1] 68 (0,0)):=by
  have:=heap_alloc_new (W.alloc (.cells T.cells.toArray 70)) (.cells #[.slice (some ⟨W.heap.size,0,none⟩) 1 1] 68)
  rw[←hW4];simpa using this
 have ht4:ce W4 0 none T:=(hT.low b1).low b4
 refine⟨⟨rfl,⟨rfl,.inr ⟨W.heap.size+1,1,_,rfl,z0,hc2,lr,by decide,rfl,rfl⟩⟩,fun x hx=>?_,fun x hx=>?_,fun x hx k hk=>?_⟩,hm.below b4,fun x hx=>?_,⟨_,List.mem_singleton.2 rfl,?_⟩,fun i hi=>absurd hi (by omega),ah b1 b4,by omega,?_⟩
 ·obtain rfl:=List.mem_singleton.1 hx
  exact .mk _ ⟨by simp[aj.cells,aj.kids],.inr ⟨W.heap.size,1,_,rfl,z0,hc1,lr,by decide,rfl,by simp[aj.kids,aj.cells]⟩⟩ (fun g _=>by simp) (fun k hk=>by simp only[aj.kids,List.mem_singleton] at hk;subst hk;exact ht4)
 ·obtain rfl:=List.mem_singleton.1 hx;simp[aj.kids]
 ·obtain rfl:=List.mem_singleton.1 hx;simp only[aj.kids,List.mem_singleton] at hk;subst hk;exact hS
 ·obtain rfl:=List.mem_singleton.1 hx;simp[aj.ht,By]
 ·simp[aj.ht,By]
 ·simp[dE,aj.cnt];exact hc
theorem N4.round {w wr:World}{mb h k:Nat}{A:Option Addr}{n c:Nat}{xs:List aj}{ms:List (aj×Nat)}(d:N4 w wr mb h k A n c xs ms):JB wr.heap.size (wr.alloc (.map #[] 0)) mb wr.heap.size h k A n c xs none 0 0 [] ms []:=by
 have b:Below wr.heap.size wr (wr.alloc (.map #[] 0)):=bR.alloc lr _
 exact⟨d.lev.below b,fun g hg=>(d.lev.row.lt g hg).2,.nil _ _,d.met.below b,fY.made wr,by have:=d.met.lt;omega,d.xh,by simp,by simp,d.mok,d.top⟩
theorem N4.after {w wr:World}{s0 mb hb h k:Nat}{A:Option Addr}{n c:Nat}{xs:List aj}{B:Option Addr}{m cB:Nat}{ys:List aj}{ms hs:List (aj×Nat)}(d:JB s0 wr mb hb h k A n c xs B m cB ys ms hs)(hs:kR (xs.flatMap aj.kids) ys ms)(hm:0<m)(bel:Below w.heap.size w wr)(mlo:w.heap.size≤mb)(hc:dE ys≤64):N4 w wr mb h (k+1) B m cB ys ms∧k<ms.length∧k+1≤h:=by
 obtain⟨h1,h2,h3,h4⟩:=d.next hs hm
 exact⟨⟨⟨d.new.len,cN d.new.row z0,d.new.own,d.new.ne,d.new.shape⟩,d.met,fun y hy=>by have:=d.yh y hy;omega,h4,h3,bel,mlo,hc⟩,h1,h2⟩
theorem fY.len {w:World}{b:Nat}{ms:List (aj×Nat)}(h:fY w b ms)(ty:TypeId):(Builtin.len_ #[179] ty #[.map (some b)]).run Tryz.prog w=.ok (.int .i64 ms.length) w:=by
 obtain⟨es,clock,hb,hm⟩:=h.ex
 have e3:es.size=ms.length:=by have:=congrArg List.length hm;simpa using this
 simp[Builtin.len_,run_underlying Tryz.underlying179,MapKept.run_getObj_map hb,goInt,e3]
theorem nR {B:Nat}{w W:World}(h:Below B w W):Below B w W.drew:=⟨h.os,h.tape,h.output,h.size,h.block⟩
theorem JD (T:aj)(w:World)(hT:ce w 0 none T)(hS:gT T)(hc:T.cnt≤64)(hh:T.ht≤1000000):
  Calls Tryz.prog 104 #[T.val] w fun e w'=>(∃ r:Nat,e=.returned (.int .i64 r)∧r≤T.ht)∧Below w.heap.size w w':=by
 have hmm:=@run_makeMap Tryz.prog
 obtain⟨i1,hi1,hw0,hw1,hw2'⟩:=info_parts M7
 obtain⟨W,hW⟩:∃ W,(w.alloc (.cells T.cells.toArray 70)).alloc (.map #[] 0)=W:=⟨_,rfl⟩
 have zW:W.heap.size=w.heap.size+2:=by rw[←hW];simp
 obtain⟨W4,hW4⟩:∃ W4,(W.alloc (.cells T.cells.toArray 70)).alloc (.cells #[.slice (some ⟨W.heap.size,0,none⟩) 1 1] 68)=W4:=⟨_,rfl⟩
 have D0:Hid (N4 w W4 (w.heap.size+1) T.ht 0 (some ⟨W.heap.size+1,0,none⟩) 1 1 [.mk ⟨#[]⟩ ⟨#[]⟩ 0 ⟨#[]⟩ (some ⟨W.heap.size,0,none⟩) 1 [T]] []):=N4.start hT hS hc _ hW hW4
 obtain⟨h,hh'⟩:∃ h,T.ht=h:=⟨_,rfl⟩
 rw[hh'] at D0 hh ⊢
 have HW4:=ae hW4
 have HW:=ae hW
 clear hT hS hc hh' hW hW4 zW
 unfold aj.val
 go_enter Tryz.func104,Tryz.ntmps104
 go_upto_region 3 with(fail)
 have hW':(w.alloc (.cells #[.string T.op,.string T.nm,.int .i64 T.aop,.string T.ver,.slice T.ka T.kids.length T.kc] 70)).alloc (.map #[] 0)=W:=HW.out
 rw[hW']
 have K0:Hid (aF W w.heap.size T.cells):=by rw[←HW.out];exact(aF.new w T.cells _).alloc _
 have k0:=K0.out.cell 0 _ rfl
 have k1:=K0.out.cell 1 _ rfl
 have k2:=K0.out.cell 2 _ rfl
 have k3:=K0.out.cell 3 _ rfl
 have k4:=K0.out.cell 4 _ rfl
 clear hW' K0 HW
 go_wp2_with fail
 clear k0 k1 k2 k3 k4
 go_loopw [3,5,6] (fun dv lv ar wr=>∃ (k d n c:Nat) (A:Option Addr) (xs:List aj) (ms:List (aj×Nat)),dv=.int .i64 d∧lv=.slice A n c∧ar=.int .i64 k∧d≤h∧k≤h∧Hid (N4 w wr (w.heap.size+1) h k A n c xs ms)) (fun _ _ ar _=>h-(intOf ar).toNat)
 case atStart=>have:=D0.out;rw[←HW4.out] at this;exact⟨0,0,1,1,_,_,_,rfl,rfl,rfl,z0,z0,this⟩
 case round=>
  clear D0 HW4
  obtain⟨k,d,n,c,A,xs,ms,rfl,rfl,rfl,hd,hk,HD⟩:=hrel
  have hn:=HD.out.few
  have hxc:=HD.out.cnt
  obtain⟨s0,hs0⟩:∃ s0,wr.heap.size=s0:=⟨_,rfl⟩
  obtain⟨W1,hW1⟩:∃ W1,wr.alloc (.map #[] 0)=W1:=⟨_,rfl⟩
  have S1:Hid (JB s0 W1 (w.heap.size+1) s0 h k A n c xs none 0 0 [] ms []):=by rw[←hW1,←hs0];exact HD.out.round
  have B1:Hid (Below w.heap.size w W1):=by rw[←hW1];exact HD.out.bel.alloc HD.out.bel.size _
  have HXC:Hid (dE xs≤64):=hxc
  have HS0:Hid (w.heap.size≤s0):=by rw[←hs0];exact HD.out.bel.size
  clear hxc HD
  go_wp2_with fail
  clear hW1 hs0 hmm
  go_loopw [3,7,25] (fun dv bv iv wr=>∃ (i d m cB:Nat) (B:Option Addr) (ys:List aj) (ms hs:List (aj×Nat)),dv=.int .i64 d∧bv=.slice B m cB∧iv=.int .i64 i∧d≤h∧i≤n∧Hid (JB s0 wr (w.heap.size+1) s0 h k A n c xs B m cB ys ms hs)∧Hid (kR ((xs.take i).flatMap aj.kids) ys ms)∧Hid (Below w.heap.size w wr)∧Hid (dE ys≤dE ((xs.take i).flatMap aj.kids))) (fun _ _ iv _=>n-(intOf iv).toNat)
  case atStart=>exact⟨0,d,0,0,none,[],ms,[],rfl,rfl,rfl,hd,z0,S1,kR.nil _ _,B1,lr⟩
  case round=>
   clear S1 B1
   obtain⟨i,d,m,cB,B,ys,ms,hs,rfl,rfl,rfl,hd,hi,HS,HN,HB,HC⟩:=hrel
   by_cases hlt:i<n
   ·obtain⟨x,hx⟩:∃ x,xs[i]?=some x:=⟨_,gG (by rw[HS.out.lev.len];exact hlt)⟩
    have HX:=ae hx
    have hxm:Hid (x∈xs):=gM hx
    obtain⟨b,off,hA,he⟩:=(bA HS.out.lev.row).one i _ (by rw[List.getElem?_map,hx];rfl) hlt
    have hix:=fun W=>aH (T:=211) (E:=68) (sz:=1) (c:=c) Tryz.underlying211 rfl Tryz.sizeOf68 hA hlt W
    simp only[Nat.mul_one] at hix
    obtain⟨kl,hkl⟩:∃ kl,x.kids.length=kl:=⟨_,rfl⟩
    have HKL:=ae hkl
    have hk64:kl≤64:=by
     have h1:=hZ x.kids;rw[←fM (HS.out.lev.ne x hxm.out)] at h1
     have h2:=jE hxm.out;have:=HXC.out;omega
    unfold aj.sl at he
    rw[hkl] at he
    clear hx hA hkl
    go_wp2_with fail
    clear he hix
    go_loopw [3,7,31] (fun dv bv jv wr=>∃ (j d m cB:Nat) (B:Option Addr) (ys:List aj) (ms hs:List (aj×Nat)),dv=.int .i64 d∧bv=.slice B m cB∧jv=.int .i64 j∧d≤h∧j≤kl∧Hid (JB s0 wr (w.heap.size+1) s0 h k A n c xs B m cB ys ms hs)∧Hid (kR ((xs.take i).flatMap aj.kids++x.kids.take j) ys ms)∧Hid (Below w.heap.size w wr)∧Hid (dE ys≤dE ((xs.take i).flatMap aj.kids++x.kids.take j))) (fun _ _ jv _=>kl-(intOf jv).toNat)
    case atStart=>exact⟨0,d,m,cB,B,ys,ms,hs,rfl,rfl,rfl,hd,z0,HS,by simpa [Hid] using HN.out,HB,by simpa [Hid] using HC.out⟩
    case round=>
     clear HS HN HB HC
     obtain⟨j,d,m,cB,B,ys,ms,hs,rfl,rfl,rfl,hd,hj,HS,HN,HB,HC⟩:=hrel
     by_cases hlj:j<kl
     ·obtain⟨t,ht⟩:∃ t,x.kids[j]?=some t:=⟨_,gG (by rw[HKL.out];exact hlj)⟩
      have HT:=ae ht
      have htm:Hid (t∈x.kids):=gM ht
      have HOW:=ae ((HS.out.lev.own x hxm.out).kids t htm.out)
      have HSH:=ae (HS.out.lev.shape x hxm.out t htm.out)
      obtain⟨b,off,hA,he⟩:=(HS.out.lev.own x hxm.out).rd.cell j t ht
      have e0:=he 0 _ rfl
      have e1:=he 1 _ rfl
      have e2:=he 2 _ rfl
      have e3:=he 3 _ rfl
      have e4:=he 4 _ rfl
      simp only[Nat.add_zero] at e0
      have hix:=fun W=>aH (T:=68) (E:=70) (sz:=5) (c:=x.kc) Tryz.underlying68 rfl Tryz.sizeOf70 hA hlj W
      have HHT:Hid (t.ht+k≤h):=by have h1:=Pv htm.out;have h2:=HS.out.xh x hxm.out;show _≤_;omega
      have TK:Hid (x.kids.take (j+1)=x.kids.take j++[t]):=M6 ht
      clear ht hA he
      by_cases tk:t.kids=[]
      ·have o0:t.op.toList=[]:=by rw[ai];exact bj _ (HSH.out.leaf tk)
       have o1:t.op.toList.isEmpty=true:=by rw[o0];rfl
       have l0:t.kids.length=0:=by rw[tk];rfl
       rw[l0] at e4
       have SN:Hid (kR ((xs.take i).flatMap aj.kids++x.kids.take (j+1)) ys ms):=by show kR _ _ _;rw[TK.out,←List.append_assoc];exact HN.out.leaf tk
       have CN:Hid (dE ys≤dE ((xs.take i).flatMap aj.kids++x.kids.take (j+1))):=by have:=HC.out;show _≤_;rw[TK.out,←List.append_assoc,eL];omega
       have SB:=ae (HS.out.below ((Below.refl wr.heap.size wr).alloc lr (.cells #[.string t.op,.string t.nm,.int .i64 t.aop,.string t.ver,.slice t.ka 0 t.kc] 70)))
       have BB:=ae (HB.out.alloc HB.out.size (.cells #[.string t.op,.string t.nm,.int .i64 t.aop,.string t.ver,.slice t.ka 0 t.kc] 70))
       clear tk l0
       go_wp2_with fail
       go_roundw
       case rel=>exact⟨j+1,max d k,m,cB,B,ys,ms,hs,by congr 1;omega,rfl,by go_num,by omega,by omega,SB,SN,BB,CN⟩
       case measure=>simp[intOf];omega
      ·obtain⟨g,cur,hA,hg,-⟩:=nO HOW.out tk
       have HKA:=ae hA
       obtain⟨tl,htl⟩:∃ tl,t.kids.length=tl:=⟨_,rfl⟩
       have HTL:=ae htl
       have htp:0<tl:=by rw[←htl];exact List.length_pos_iff.2 tk
       have ht64:tl≤1000000:=by
        have h1:=hZ t.kids;rw[←fM tk] at h1
        have h2:=jE htm.out;rw[←fM (HS.out.lev.ne x hxm.out)] at h2
        have h3:=jE hxm.out;have:=HXC.out;omega
       rw[htl] at e4
       have hix2:=fun W=>aH (T:=68) (E:=70) (sz:=5) (n:=tl) (c:=t.kc) (k:=0) Tryz.underlying68 rfl Tryz.sizeOf70 hA htp W
       simp only[Nat.zero_mul,Nat.add_zero] at hix2
       have hix3:∀ W:World,(Instr.indexAt 68 (.slice t.ka tl t.kc) (.int .i64 0)).run Tryz.prog W=.ok (.pointer (some ⟨g,0,none⟩)) W:=hix2
       have l1:decide ((0:Int)<(tl:Int))=true:=dT (by omega)
       have l2:decide (0<tl)=true:=dT htp
       have HTK:Hid (t.kids≠[]):=tk
       clear tk hA hg htl hix2
       go_upto_region 15 with(fail)
       obtain⟨W1,hW1⟩:∃ W1,wr.alloc (.cells #[.string t.op,.string t.nm,.int .i64 t.aop,.string t.ver,.slice t.ka tl t.kc] 70)=W1:=⟨_,rfl⟩
       have B1:Hid (Below wr.heap.size wr W1):=by rw[←hW1];exact bR.alloc lr _
       have K1:Hid (aF W1 wr.heap.size [.string t.op,.string t.nm,.int .i64 t.aop,.string t.ver,.slice t.ka tl t.kc]):=by rw[←hW1];exact aF.new wr [.string t.op,.string t.nm,.int .i64 t.aop,.string t.ver,.slice t.ka tl t.kc] _
       rw[hW1]
       clear hW1 e0 e1 e2 e3 e4 hix l1 l2
       have u4:=K1.out.cell 4 _ rfl
       have hz1:wr.heap.size<W1.heap.size:=K1.out.sz
       have hz2:¬ wr.heap.size=W1.heap.size:=by omega
       go_region
       obtain⟨W2,hW2⟩:∃ W2,(W1.alloc (.cells #[.pointer (some ⟨g,0,none⟩),.int .i64 tl] 214)).drew=W2:=⟨_,rfl⟩
       have B2:Hid (Below W1.heap.size W1 W2):=by rw[←hW2];exact nR ((Below.refl W1.heap.size W1).alloc lr _)
       have K2:Hid (aF W2 W1.heap.size [.pointer (some ⟨g,0,none⟩),.int .i64 tl]):=by rw[←hW2];exact(aF.new W1 [.pointer (some ⟨g,0,none⟩),.int .i64 tl] _).drew
       have K1':=ae (K1.out.below B2.out)
       have BW:Hid (Below wr.heap.size wr W2):=ah B1.out B2.out
       have D2:=ae (HS.out.below BW.out)
       have O2:=ae (HOW.out.low BW.out)
       have BB:=ae (ah HB.out BW.out)
       have KEY:Hid (t.key=.agg #[.pointer (some ⟨g,0,none⟩),.int .i64 tl]):=by show _=_;unfold aj.key;rw[HKA.out,HTL.out]
       rw[hW2]
       have HLT:=ae hz1
       clear hW2 u4 hz1 hz2 hix3 B1 B2 K1
       have v0:=K2.out.cell 0 _ rfl
       have v1:=K2.out.cell 1 _ rfl
       have hlook:=D2.out.here.look O2.out HTK.out
       rw[KEY.out] at hlook
       rcases hlook with hlk | ⟨p,hp,hpk,hlk⟩
       ·obtain⟨w1,hs',r1,k1,g1,z1,f1,-,-⟩:=(D2.out.here.below (w':=W2.drew) ⟨rfl,rfl,rfl,lr,fun _ _=>rfl⟩).put (O2.out.low (w':=W2.drew) ⟨rfl,rfl,rfl,lr,fun _ _=>rfl⟩) HTK.out k
        have D2d:=ae (D2.out.below (w':=W2.drew) ⟨rfl,rfl,rfl,lr,fun _ _=>rfl⟩)
        have O2d:=ae (O2.out.low (w':=W2.drew) ⟨rfl,rfl,rfl,lr,fun _ _=>rfl⟩)
        have m1:fY w1 (w.heap.size+1) ms:=D2d.out.met.tame (.map D2d.out.here) (fun e=>D2.out.hne (by injection e)) g1
        obtain⟨w2,ms',r2,k2,g2,z2,-,f2,f3⟩:=m1.put (O2d.out.tame (.map D2d.out.here) g1) HTK.out k
        rw[KEY.out] at r1 r2
        have HG1:=ae g1;have HK1:=ae k1;have HF1:=ae f1
        have HG2:=ae g2;have HK2:=ae k2;have HF2:=ae f2;have HF3:=ae f3
        have hl1:s0<wr.heap.size:=HS.out.here.lt
        have hl2:w.heap.size+1<wr.heap.size:=HS.out.met.lt
        have hl3:wr.heap.size<W1.heap.size:=HLT.out
        have Kl:=ae (K2.out.drew.grownBy g1 (fun e=>by injection e with e;omega))
        have Kw:=ae ((K1'.out.drew.grownBy g1 (fun e=>by injection e with e;omega)).grownBy g2 (fun e=>by injection e with e;omega))
        have q0:=Kl.out.cell 0 _ rfl
        have q1:=Kl.out.cell 1 _ rfl
        have NW:=ae ((D2d.out.new.map D2d.out.here g1).map m1 g2)
        have B3:=ae (gd (gd (nR BB.out) g1 HS0.out) g2 (Nat.le_succ _))
        have hz3:s0<w2.heap.size:=by have:=Kw.out.sz;omega
        have hm64:m≤64:=by
         have h1:=hZ ys;have h2:=HC.out;have h3:=HS.out.new.len
         have h4:=MZ HS.out.lev.ne HX.out j;have:=HXC.out;omega
        have hw2:w.heap.size≤w2.heap.size:=by have:=HS0.out;omega
        clear g1 k1 f1 g2 k2 f2 f3 z1 z2 m1 hl1 hl2 hl3
        go_wp2_with fail
        go_region
        clear v0 v1 q0 q1 r1 r2 hlk
        have y4:=Kw.out.cell 4 _ rfl
        go_wp2_with (at_builtin;refine ak _ rfl _ _ _ rfl s0 68 i1 _ 1 24 Tryz.underlying211 hi1 hw0 hw1 hw2' rfl (by omega) (.slice B m cB) m _ rfl (NW.out.row.alloc _) (w2.heap.size+1) (some ⟨w2.heap.size,0,none⟩) 1 1 [.slice t.ka tl t.kc] rfl (fQ w2 _ _) (by simp[Value.oneCell']) (by simp only[maxLen];omega) (by omega) (by simp;omega) ?_;intro v1 w3 o1 g3 a1)
        obtain⟨B3',c3,rfl⟩:=aG o1
        have o2:w3.ownsRow s0 68 1 (.slice B3' (m+1) c3) (m+1) (ys.map aj.sl++[t.sl]):=by rw[show t.sl=.slice t.ka tl t.kc from by unfold aj.sl;rw[HTL.out]];exact o1
        have D3:=ae (D2d.out.grow O2d.out HTK.out HSH.out.kids HHT.out HK1.out HG1.out HF1.out HK2.out HG2.out HF2.out HF3.out ((Below.refl w2.heap.size w2).alloc lr _) o2 g3)
        have BB3:Hid (Below w.heap.size w w3):=(B3.out.alloc hw2 _).grown g3 (by simp;omega) (fun j' hj'=>by have:=(NW.out.row.lt j' hj').1;have:=HS0.out;omega)
        have SN:Hid (kR ((xs.take i).flatMap aj.kids++x.kids.take (j+1)) (ys++[t]) ms'):=by show kR _ _ _;rw[TK.out,←List.append_assoc];exact HN.out.grow HF2.out HF3.out
        have CN:Hid (dE (ys++[t])≤dE ((xs.take i).flatMap aj.kids++x.kids.take (j+1))):=by have:=HC.out;show _≤_;rw[TK.out,←List.append_assoc,eL,eL _ [t]];omega
        clear o1 o2 g3 a1 y4
        go_wp2_with fail
        go_roundw
        case rel=>exact⟨j+1,d,m+1,c3,B3',ys++[t],ms',hs',rfl,rfl,by go_num,hd,by omega,D3,SN,BB3,CN⟩
        case measure=>simp[intOf];omega
       ·have SN:Hid (kR ((xs.take i).flatMap aj.kids++x.kids.take (j+1)) ys ms):=by show kR _ _ _;rw[TK.out,←List.append_assoc];exact D2.out.hit HN.out hp hpk
        have CN:Hid (dE ys≤dE ((xs.take i).flatMap aj.kids++x.kids.take (j+1))):=by have:=HC.out;show _≤_;rw[TK.out,←List.append_assoc,eL];omega
        clear hp hpk
        go_wp2_with fail
        go_roundw
        case rel=>exact⟨j+1,d,m,cB,B,ys,ms,hs,rfl,rfl,by go_num,hd,by omega,D2,SN,BB,CN⟩
        case measure=>simp[intOf];omega
     ·have SN:Hid (kR ((xs.take (i+1)).flatMap aj.kids) ys ms):=by have:=HN.out;rw[tL (l:=x.kids) (by rw[HKL.out];omega),←BI HX.out] at this;exact this
      have CN:Hid (dE ys≤dE ((xs.take (i+1)).flatMap aj.kids)):=by have:=HC.out;rw[tL (l:=x.kids) (by rw[HKL.out];omega),←BI HX.out] at this;exact this
      go_wp2_with fail
      go_roundw
      case rel=>exact⟨i+1,d,m,cB,B,ys,ms,hs,rfl,rfl,by go_num,hd,by omega,HS,SN,HB,CN⟩
      case measure=>simp[intOf];omega
   ·have hln:=HS.out.lev.len
    have SN:Hid (kR (xs.flatMap aj.kids) ys ms):=by have:=HN.out;rw[tL (by omega)] at this;exact this
    have CN:Hid (dE ys≤64):=by have h1:=HC.out;have h2:=HXC.out;rw[tL (by omega),BH HS.out.lev.ne] at h1;show _≤_;omega
    have hm64:m≤64:=by have h1:=hZ ys;have h2:=HS.out.new.len;have:=CN.out;omega
    clear hln
    by_cases hm0:m=0
    ·have q0:((m:Int)==0)=true:=by simp[hm0]
     clear hm0
     go_wp2_with fail
     go_ret
     exact⟨⟨d,rfl,hd⟩,HB.out⟩
    ·have q0:((m:Int)==0)=false:=by simp;omega
     obtain⟨o1,o2,o3⟩:=N4.after (w:=w) HS.out SN.out (by omega) HB.out (Nat.le_succ _) CN.out
     have O1:=ae o1
     have hlen:=HS.out.met.len
     have q1:decide ((ms.length:Int)≤(k:Int))=false:=dF (by omega)
     have q2:decide (ms.length≤k)=false:=dF (by omega)
     clear o1 o2 hm0
     go_wp2_with fail
     go_roundw
     case rel=>exact⟨k+1,d,m,cB,B,ys,ms,rfl,rfl,by go_num,hd,o3,O1⟩
     case measure=>simp[intOf];omega
structure zY (w:World) (b:Nat) (ms:List (aj×Nat)):Prop where
 map:fY w b ms
 val:∀ p∈ms,p.2=dE p.1.kids
theorem zY.below {w w':World}{b:Nat}{ms:List (aj×Nat)}(h:zY w b ms)(hb:Below w.heap.size w w'):zY w' b ms:=⟨h.map.below hb,h.val⟩
def UN (T:aj):Prop:=∀ (w:World)(b:Nat)(ms:List (aj×Nat)),zY w b ms→ce w 0 none T→gT T→T.cnt≤64 →
 Calls Tryz.prog 105 #[T.val,.map (some b)] w fun e w'=>e=.returned (.int .i64 T.cnt)∧w.grownBy w' (some b)∧∃ ms',zY w' b ms'
theorem PU (T:aj)(IH:∀ t:aj,t.ht<T.ht→UN t):UN T:=by
 intro w b ms hM hO hS hc
 have hmm:=@run_makeMap Tryz.prog
 have HM:=ae hM
 have HO:=ae hO
 have HS:=ae hS
 have HC:=ae hc
 have HIH:=ae IH
 clear hM hO hS IH hc
 obtain⟨W1,hW1⟩:∃ W1,w.alloc (.cells #[.string T.op,.string T.nm,.int .i64 T.aop,.string T.ver,.slice T.ka T.kids.length T.kc] 70)=W1:=⟨_,rfl⟩
 have B1:Hid (Below w.heap.size w W1):=by rw[←hW1];exact bR.alloc lr _
 have K1:Hid (aF W1 w.heap.size T.cells):=by rw[←hW1];exact aF.new w T.cells _
 by_cases tk:T.kids=[]
 ·have o0:T.op.toList=[]:=by rw[ai];exact bj _ (HS.out.leaf tk)
  have o1:T.op.toList.isEmpty=true:=by rw[o0];rfl
  have E:Hid (T.cnt=1):=xS tk
  have M1:=ae (HM.out.below B1.out)
  have k0:=K1.out.cell 0 _ rfl
  clear tk hmm
  unfold aj.val
  go_enter Tryz.func105,Tryz.ntmps105
  go_wp2_with fail
  go_ret
  exact⟨az (by rw[E.out];rfl),eK B1.out _,ms,M1.out⟩
 obtain⟨g,cur,hA,hg,-⟩:=nO HO.out tk
 have o0:(T.op.toList==([]:LU))=false:=by rw[ai,bF];intro e;exact HS.out.node tk (by rw[←af,e];rfl)
 have o1:T.op.toList.isEmpty=false:=by rw[ai,aL];exact dF (HS.out.node tk)
 have o2:¬ T.op.toList=[]:=by intro e;rw[e] at o1;simp at o1
 have HKA:=ae hA
 obtain⟨tl,htl⟩:∃ tl,T.kids.length=tl:=⟨_,rfl⟩
 have HTL:=ae htl
 have htp:0<tl:=by rw[←htl];exact List.length_pos_iff.2 tk
 have CN:Hid (T.cnt=dE T.kids):=fM tk
 have ht64:tl≤64:=by have h1:=hZ T.kids;have:=HC.out;have:=CN.out;omega
 have hix3:∀ W:World,(Instr.indexAt 68 (.slice T.ka tl T.kc) (.int .i64 0)).run Tryz.prog W=.ok (.pointer (some ⟨g,0,none⟩)) W:=by
  have hix2:=fun W=>aH (T:=68) (E:=70) (sz:=5) (n:=tl) (c:=T.kc) (k:=0) Tryz.underlying68 rfl Tryz.sizeOf70 hA htp W
  simp only[Nat.zero_mul,Nat.add_zero] at hix2
  exact hix2
 have HTK:Hid (T.kids≠[]):=tk
 have l1:((tl:Int)==0)=false:=by simp;omega
 have KEY:Hid (T.key=.agg #[.pointer (some ⟨g,0,none⟩),.int .i64 tl]):=by show _=_;unfold aj.key;rw[HKA.out,HTL.out]
 have KV:Hid (T.val=.agg #[.string T.op,.string T.nm,.int .i64 T.aop,.string T.ver,.slice T.ka tl T.kc]):=by show _=_;unfold aj.val;rw[HTL.out]
 have hw1:w.heap.size<W1.heap.size:=K1.out.sz
 have hne:¬ w.heap.size=W1.heap.size:=by omega
 have u0:=K1.out.cell 0 _ rfl
 have u4:=K1.out.cell 4 _ rfl
 rw[htl] at hW1 u4
 rw[KV.out]
 clear tk hA hg htl
 go_enter Tryz.func105,Tryz.ntmps105
 go_upto_region 5 with(fail)
 clear hW1
 go_region
 obtain⟨W2,hW2⟩:∃ W2,(W1.alloc (.cells #[.pointer (some ⟨g,0,none⟩),.int .i64 tl] 214)).drew=W2:=⟨_,rfl⟩
 have B2:Hid (Below W1.heap.size W1 W2):=by rw[←hW2];exact nR ((Below.refl W1.heap.size W1).alloc lr _)
 have K2:Hid (aF W2 W1.heap.size [.pointer (some ⟨g,0,none⟩),.int .i64 tl]):=by rw[←hW2];exact(aF.new W1 [.pointer (some ⟨g,0,none⟩),.int .i64 tl] _).drew
 have BW:Hid (Below w.heap.size w W2):=ah B1.out B2.out
 have KB:=ae (K1.out.below B2.out)
 have M2:=ae (HM.out.below BW.out)
 have O2:=ae (HO.out.low BW.out)
 have hbw:b<w.heap.size:=HM.out.map.lt
 rw[hW2]
 clear hW2 u0 u4 hix3 hw1 hne o0 o1 o2 l1
 have v0:=K2.out.cell 0 _ rfl
 have v1:=K2.out.cell 1 _ rfl
 have u4:=KB.out.cell 4 _ rfl
 rw[HTL.out] at u4
 have hlook:=M2.out.map.look O2.out HTK.out
 rw[KEY.out] at hlook
 rcases hlook with hlk | ⟨p,hp,hpk,hlk⟩
 ·go_wp2_with fail
  clear hlk v0 v1 u4
  go_loopw [8,36] (fun sv iv wr=>∃ (i s:Nat) (ms:List (aj×Nat)),sv=.int .i64 s∧iv=.int .i64 i∧i≤tl∧s≤64∧Hid (s=dE (T.kids.take i))∧Hid (zY wr b ms)∧Hid (ce wr 0 none T)∧Hid (aF wr W1.heap.size [.pointer (some ⟨g,0,none⟩),.int .i64 tl])∧Hid (w.grownBy wr (some b))) (fun _ iv _=>tl-(intOf iv).toNat)
  case atStart=>exact⟨0,0,ms,rfl,rfl,z0,by omega,by simp[Hid,dE],M2,O2,K2,eK BW.out _⟩
  case round=>
   clear M2 O2 BW KB
   obtain⟨i,s,ms,rfl,rfl,hi,hs,HSM,HM2,HO2,HK2,HG⟩:=hrel
   by_cases hlt:i<tl
   ·obtain⟨t,ht⟩:∃ t,T.kids[i]?=some t:=⟨_,gG (by rw[HTL.out];exact hlt)⟩
    have htm:Hid (t∈T.kids):=gM ht
    obtain⟨b',off,hA,he⟩:=HO2.out.rd.cell i t ht
    have e0:=he 0 _ rfl
    have e1:=he 1 _ rfl
    have e2:=he 2 _ rfl
    have e3:=he 3 _ rfl
    have e4:=he 4 _ rfl
    simp only[Nat.add_zero] at e0
    have hix:=fun W=>aH (T:=68) (E:=70) (sz:=5) (c:=T.kc) Tryz.underlying68 rfl Tryz.sizeOf70 hA hlt W
    have SM:Hid (s+t.cnt=dE (T.kids.take (i+1))):=by show _=_;rw[Bz ht,HSM.out]
    have hs2:s+t.cnt≤64:=by have h1:=SM.out;have h2:=kf T.kids (i+1);have:=HC.out;have:=CN.out;omega
    obtain⟨W3,hW3⟩:∃ W3,wr.alloc (.cells #[.string t.op,.string t.nm,.int .i64 t.aop,.string t.ver,.slice t.ka t.kids.length t.kc] 70)=W3:=⟨_,rfl⟩
    have B3:Hid (Below wr.heap.size wr W3):=by rw[←hW3];exact bR.alloc lr _
    have M3:=ae (HM2.out.below B3.out)
    have O3:=ae (HO2.out.low B3.out)
    have hcall:=HIH.out t (Pv htm.out) W3 b ms M3.out (O3.out.kids t htm.out) (HS.out.kids t htm.out) (by omega)
    unfold aj.val at hcall
    have K3:Hid (aF W3 wr.heap.size t.cells):=by rw[←hW3];exact aF.new wr t.cells _
    have a0:=K3.out.cell 0 _ rfl
    have a1:=K3.out.cell 1 _ rfl
    have a2:=K3.out.cell 2 _ rfl
    have a3:=K3.out.cell 3 _ rfl
    have a4:=K3.out.cell 4 _ rfl
    clear ht hA he
    go_wp2_with fail
    refine hcall.mono ?_;rintro e w4 ⟨rfl,hg,ms',hm'⟩
    have K4:=ae ((HK2.out.below B3.out).grownBy hg (by simp;have:=B2.out.size;have:=hbw;have:=B1.out.size;omega))
    have O4:=ae (O3.out.tame (.map M3.out.map) hg)
    have M4:=ae hm'
    have G4:=ae (ap (nC HG.out B3.out) hg)
    clear hW3 hcall hg hm' a0 a1 a2 a3 a4 e0 e1 e2 e3 e4 hix
    go_wp2_with fail
    go_roundw
    case rel=>exact⟨i+1,s+t.cnt,ms',by congr 1;omega,by go_num,by omega,hs2,SM,M4,O4,K4,G4⟩
    case measure=>simp[intOf];omega
   ·have E:Hid (T.cnt=s):=by show _=_;rw[HSM.out,tL (by rw[HTL.out];omega),CN.out]
    obtain⟨w1,ms',r1,k1,g1,z1,f1,-,-⟩:=HM2.out.map.put HO2.out HTK.out s
    rw[KEY.out] at r1
    have M5:Hid (zY w1 b ms'):=⟨k1,fun p hp=>by
     rcases f1 p hp with⟨q,hq,rfl⟩ | ⟨h1,h2⟩
     ·exact HM2.out.val q hq
     ·rw[h1,h2,←CN.out,E.out]⟩
    have G5:=ae (ap HG.out g1)
    have v0:=HK2.out.cell 0 _ rfl
    have v1:=HK2.out.cell 1 _ rfl
    clear k1 g1 z1 f1
    go_wp2_with fail
    go_ret
    exact⟨az (by rw[E.out]),G5.out,ms',M5.out⟩
 ·have E:Hid (p.2=T.cnt):=by show _=_;rw[CN.out,M2.out.val p hp,hpk]
  have G2:=ae (eK BW.out (some b))
  clear hp hpk
  go_wp2_with fail
  go_ret
  exact⟨az (by rw[E.out]),G2.out,ms,M2.out⟩
theorem JE (T:aj):UN T:=by
 have:∀ n:Nat,∀ T:aj,T.ht<n→UN T:=by
  intro n
  induction n with
  | zero=>intro T h;omega
  | succ n ih=>intro T h;exact PU T fun t ht=>ih t (by omega)
 exact this (T.ht+1) T (by omega)
theorem yz (nm:BA)(aop:Nat)(ver:BA)(hn:fm (bl nm)=true)(ho:aop≤5)(hv0:aop=0→ver.size=0)(hv:0<aop→aV 2 ver=0)(w:World)(hG:Gl w):
  Calls Tryz.prog 144 #[.agg #[.string ⟨#[]⟩,.string nm,.int .i64 aop,.string ver,.slice none 0 0]] w fun e w'=>e=.returned (.int .i64 0)∧Below w.heap.size w w':=by
 have hnz:=mi hn
 have hN:=fun W=>BE nm W (by omega)
 rw[hn] at hN
 have HG:=ae hG
 have HV0:=ae hv0
 have HV:=ae hv
 clear hn hv0 hv hG
 obtain⟨W1,hW1⟩:∃ W1,w.alloc (.cells #[.string ⟨#[]⟩,.string nm,.int .i64 aop,.string ver,.slice none 0 0] 70)=W1:=⟨_,rfl⟩
 have B1:Hid (Below w.heap.size w W1):=by rw[←hW1];exact bR.alloc lr _
 have K1:Hid (aF W1 w.heap.size [.string ⟨#[]⟩,.string nm,.int .i64 aop,.string ver,.slice none 0 0]):=by rw[←hW1];exact aF.new w [.string ⟨#[]⟩,.string nm,.int .i64 aop,.string ver,.slice none 0 0] _
 have k1:=K1.out.cell 1 _ rfl
 have k2:=K1.out.cell 2 _ rfl
 have k3:=K1.out.cell 3 _ rfl
 have k4:=K1.out.cell 4 _ rfl
 by_cases a0:aop=0
 ·have he:ver.toList=[]:=by rw[ai,bj ver (HV0.out a0)]
  have he2:ver.toList.isEmpty=true:=by rw[he];rfl
  subst a0
  go_enter Tryz.func144,Tryz.ntmps144
  go_wp2_with fail
  refine(hN _).mono ?_;rintro e w' ⟨rfl,rfl⟩
  go_wp2_with fail
  go_ret
  exact⟨rfl,bR.alloc lr _⟩
 ·have hvv:=HV.out (by omega)
  have q0:((aop:Int)==0)=false:=by simp;omega
  have q1:decide ((aop:Int)<0)=false:=dF (by omega)
  have q2:decide ((5:Int)<(aop:Int))=false:=dF (by omega)
  have q3:decide (5<aop)=false:=dF (by omega)
  have hvz:=xU hvv
  have hC:=bh 2 ver W1 (HG.out.below B1.out) (by omega)
  rw[hvv] at hC
  clear a0 hvv hvz
  go_enter Tryz.func144,Tryz.ntmps144
  go_wp2_with fail
  refine(hN _).mono ?_;rintro e w' ⟨rfl,rfl⟩
  go_wp2_with fail
  refine hC.mono ?_;rintro e w2 ⟨rfl,hb⟩
  have B2:=ae (ah B1.out hb)
  clear hb
  go_wp2_with fail
  go_ret
  exact⟨rfl,B2.out⟩
def UY (T:aj):Prop:=∀ w:World,Gl w→ce w 0 none T→T.cnt≤64→Calls Tryz.prog 106 #[T.val] w fun e w'=>e=.returned (.int .i64 0)∧Below w.heap.size w w'
theorem JF {T:aj}(h:dH T):UY T:=by
 induction h with
 | atom nm aop ver hn ho hv0 hv=>
  intro w hG _ _
  have hA:=fun W hW=>yz nm aop ver hn ho hv0 hv W hW
  have HG:=ae hG
  clear hn ho hv0 hv hG
  obtain⟨W1,hW1⟩:∃ W1,w.alloc (.cells #[.string ⟨#[]⟩,.string nm,.int .i64 aop,.string ver,.slice none 0 0] 70)=W1:=⟨_,rfl⟩
  have B1:Hid (Below w.heap.size w W1):=by rw[←hW1];exact bR.alloc lr _
  have K1:Hid (aF W1 w.heap.size [.string ⟨#[]⟩,.string nm,.int .i64 aop,.string ver,.slice none 0 0]):=by rw[←hW1];exact aF.new w [.string ⟨#[]⟩,.string nm,.int .i64 aop,.string ver,.slice none 0 0] _
  have k0:=K1.out.cell 0 _ rfl
  have k1:=K1.out.cell 1 _ rfl
  have k2:=K1.out.cell 2 _ rfl
  have k3:=K1.out.cell 3 _ rfl
  have k4:=K1.out.cell 4 _ rfl
  show Calls Tryz.prog 106 #[.agg #[.string ⟨#[]⟩,.string nm,.int .i64 aop,.string ver,.slice none 0 0]] w _
  go_enter Tryz.func106,Tryz.ntmps106
  go_wp2_with fail
  refine(hA _ (HG.out.below B1.out)).mono ?_;rintro e w2 ⟨rfl,hb⟩
  have B2:=ae (ah B1.out hb)
  clear hb
  go_wp2_with fail
  go_ret
  exact⟨rfl,B2.out⟩
 | node op ka kc kids ho hc hk ih=>
  intro w hG hO hcn
  have HG:=ae hG
  have HO:=ae hO
  have HIH:=ae ih
  have hw:=(kg ho).1
  have o0:(op.toList==([]:LU))=false:=by rw[ai,bF];exact hw
  have o2:¬ op.toList=[]:=by rw[ai];exact hw
  have o1:op.toList.isEmpty=false:=by rw[List.isEmpty_eq_false_iff];exact o2
  obtain⟨tl,htl⟩:∃ tl,kids.length=tl:=⟨_,rfl⟩
  have HTL:=ae htl
  obtain⟨W1,hW1⟩:∃ W1,w.alloc (.cells #[.string op,.string ⟨#[]⟩,.int .i64 0,.string ⟨#[]⟩,.slice ka tl kc] 70)=W1:=⟨_,rfl⟩
  have B1:Hid (Below w.heap.size w W1):=by rw[←hW1];exact bR.alloc lr _
  have K1:Hid (aF W1 w.heap.size [.string op,.string ⟨#[]⟩,.int .i64 0,.string ⟨#[]⟩,.slice ka tl kc]):=by rw[←hW1];exact aF.new w [.string op,.string ⟨#[]⟩,.int .i64 0,.string ⟨#[]⟩,.slice ka tl kc] _
  have k0:=K1.out.cell 0 _ rfl
  have k1:=K1.out.cell 1 _ rfl
  have k2:=K1.out.cell 2 _ rfl
  have k3:=K1.out.cell 3 _ rfl
  have k4:=K1.out.cell 4 _ rfl
  have hK:=xW op W1 (HG.out.below B1.out)
  rw[ho] at hK
  have hC:=uu op tl W1
  rw[←htl,hc,htl] at hC
  have O1:Hid (ce W1 0 none (.mk op ⟨#[]⟩ 0 ⟨#[]⟩ ka kc kids)):=HO.out.low B1.out
  have CNE:=ae (fM (t:=.mk op ⟨#[]⟩ 0 ⟨#[]⟩ ka kc kids) (by have:=mM hc;intro e;simp only[aj.kids] at e;rw[e] at this;simp at this))
  have HCN:Hid (dE kids≤64):=by have h1:=CNE.out;simp only[aj.kids] at h1;show _≤_;omega
  have htl9:tl≤64:=by have h1:=hZ kids;have:=HCN.out;omega
  clear ho hc hk ih hG hO hw htl hcn CNE
  show Calls Tryz.prog 106 #[.agg #[.string op,.string ⟨#[]⟩,.int .i64 0,.string ⟨#[]⟩,.slice ka kids.length kc]] w _
  rw[HTL.out]
  go_enter Tryz.func106,Tryz.ntmps106
  go_wp2_with fail
  refine hK.mono ?_;rintro e w' ⟨rfl,rfl⟩
  go_wp2_with fail
  refine hC.mono ?_;rintro e w' ⟨rfl,rfl⟩
  clear hK hC
  go_wp2_with fail
  clear k0 k1 k2 k3 k4
  go_loopw [2,29] (fun rv iv wr=>∃ i:Nat,rv=.int .i64 0∧iv=.int .i64 i∧i≤tl∧Hid (Below w.heap.size w wr)) (fun _ iv _=>tl-(intOf iv).toNat)
  case atStart=>exact⟨0,rfl,rfl,z0,B1⟩
  case round=>
   obtain⟨i,rfl,rfl,hi,HB⟩:=hrel
   by_cases hlt:i<tl
   ·obtain⟨t,ht⟩:∃ t,kids[i]?=some t:=⟨_,gG (by rw[HTL.out];exact hlt)⟩
    have htm:Hid (t∈kids):=gM ht
    have O2:=HO.out.low HB.out
    obtain⟨b',off,hA,he⟩:=O2.rd.cell i t ht
    have e0:=he 0 _ rfl
    have e1:=he 1 _ rfl
    have e2:=he 2 _ rfl
    have e3:=he 3 _ rfl
    have e4:=he 4 _ rfl
    simp only[Nat.add_zero] at e0
    have hix:=fun W=>aH (T:=68) (E:=70) (sz:=5) (n:=tl) (c:=kc) (A:=ka) Tryz.underlying68 rfl Tryz.sizeOf70 hA hlt W
    obtain⟨W3,hW3⟩:∃ W3,wr.alloc (.cells #[.string t.op,.string t.nm,.int .i64 t.aop,.string t.ver,.slice t.ka t.kids.length t.kc] 70)=W3:=⟨_,rfl⟩
    have B3:Hid (Below wr.heap.size wr W3):=by rw[←hW3];exact bR.alloc lr _
    have K3:Hid (aF W3 wr.heap.size t.cells):=by rw[←hW3];exact aF.new wr t.cells _
    have B4:=ae (ah HB.out B3.out)
    have hcall:=HIH.out t htm.out W3 (HG.out.below B4.out) ((O2.low B3.out).kids t htm.out) (by have h1:=jE htm.out;have:=HCN.out;omega)
    unfold aj.val at hcall
    have a0:=K3.out.cell 0 _ rfl
    have a1:=K3.out.cell 1 _ rfl
    have a2:=K3.out.cell 2 _ rfl
    have a3:=K3.out.cell 3 _ rfl
    have a4:=K3.out.cell 4 _ rfl
    clear ht hA he O2
    go_wp2_with fail
    refine hcall.mono ?_;rintro e w4 ⟨rfl,hb⟩
    have B5:=ae (ah B4.out hb)
    clear hW3 hcall hb e0 e1 e2 e3 e4 hix a0 a1 a2 a3 a4
    go_wp2_with fail
    go_roundw
    case rel=>exact⟨i+1,rfl,by go_num,by omega,B5⟩
    case measure=>simp[intOf];omega
   ·go_wp2_with fail
    go_ret
    exact⟨rfl,HB.out⟩
theorem yA (T:aj)(c:Int)(hS:gT T)(hcn:T.cnt≤64)(hht:T.ht≤32)(w:World)(hG:Gl w)(hO:ce w 0 none T)
  (hch:∀ W,Gl W→ce W 0 none T→Calls Tryz.prog 106 #[T.val] W fun e w'=>e=.returned (.int .i64 c)∧Below W.heap.size W w'):
  Calls Tryz.prog 64 #[T.val] w fun e w'=>e=.returned (.int .i64 c)∧Below w.heap.size w w':=by
 have hmm:=@run_makeMap Tryz.prog
 have HG:=ae hG
 have HO:=ae hO
 have HCH:=ae hch
 obtain⟨W1,hW1⟩:∃ W1,w.alloc (.cells #[.string T.op,.string T.nm,.int .i64 T.aop,.string T.ver,.slice T.ka T.kids.length T.kc] 70)=W1:=⟨_,rfl⟩
 have B1:Hid (Below w.heap.size w W1):=by rw[←hW1];exact bR.alloc lr _
 have K1:Hid (aF W1 w.heap.size T.cells):=by rw[←hW1];exact aF.new w T.cells _
 have k0:=K1.out.cell 0 _ rfl
 have k1:=K1.out.cell 1 _ rfl
 have k2:=K1.out.cell 2 _ rfl
 have k3:=K1.out.cell 3 _ rfl
 have k4:=K1.out.cell 4 _ rfl
 have hD:=JD T W1 (HO.out.low B1.out) hS hcn (by omega)
 have HA:Hid (∀ (W:World)(b:Nat)(ms:List (aj×Nat)),zY W b ms→ce W 0 none T→Calls Tryz.prog 105 #[T.val,.map (some b)] W fun e w'=>e=.returned (.int .i64 T.cnt)∧W.grownBy w' (some b)∧∃ ms',zY w' b ms'):=fun W b ms h1 h2=>JE T W b ms h1 h2 hS hcn
 clear hS hG hO hch
 unfold aj.val at *
 go_enter Tryz.func64,Tryz.ntmps64
 go_wp2_with fail
 clear hW1
 refine hD.mono ?_;rintro e w2 ⟨⟨r,rfl,hr⟩,hb⟩
 have B2:=ae (ah B1.out hb)
 have K2:=ae (K1.out.below hb)
 clear hb k0 k1 k2 k3 k4
 have k0:=K2.out.cell 0 _ rfl
 have k1:=K2.out.cell 1 _ rfl
 have k2:=K2.out.cell 2 _ rfl
 have k3:=K2.out.cell 3 _ rfl
 have k4:=K2.out.cell 4 _ rfl
 have q1:decide ((32:Int)<(r:Int))=false:=dF (by omega)
 have q2:decide (32<r)=false:=dF (by omega)
 obtain⟨W3,hW3⟩:∃ W3,w2.alloc (.map #[] 0)=W3:=⟨_,rfl⟩
 have M3:Hid (zY W3 w2.heap.size []):=by rw[←hW3];exact⟨fY.made w2,by simp⟩
 have B3:Hid (Below w2.heap.size w2 W3):=by rw[←hW3];exact bR.alloc lr _
 have B4:=ae (ah B2.out B3.out)
 have hA:=HA.out W3 w2.heap.size [] M3.out (HO.out.low B4.out)
 have q3:decide ((64:Int)<(T.cnt:Int))=false:=dF (by omega)
 have q4:decide (64<T.cnt)=false:=dF (by omega)
 go_wp2_with fail
 refine hA.mono ?_;rintro e w4 ⟨rfl,hg,ms',hm⟩
 have K4:=ae ((K2.out.below B3.out).grownBy hg (by simp;have:=K2.out.sz;omega))
 have B5:=ae (gd B4.out hg B2.out.size)
 clear hW3 hg hm k0 k1 k2 k3 k4 hA
 have k0:=K4.out.cell 0 _ rfl
 have k1:=K4.out.cell 1 _ rfl
 have k2:=K4.out.cell 2 _ rfl
 have k3:=K4.out.cell 3 _ rfl
 have k4:=K4.out.cell 4 _ rfl
 go_wp2_with fail
 refine(HCH.out w4 (HG.out.below B5.out) (HO.out.low B5.out)).mono ?_;rintro e w5 ⟨rfl,hb⟩
 have B6:=ae (ah B5.out hb)
 clear hb
 go_wp2_with fail
 go_ret
 exact⟨rfl,B6.out⟩
theorem JG {T:aj}(h:dH T)(hcn:T.cnt≤64)(hht:T.ht≤32)(w:World)(hG:Gl w)(hO:ce w 0 none T):
  Calls Tryz.prog 40 #[T.val] w fun e w'=>e=.returned (.tuple #[.string (bz (bP T.pl)),.int .i64 0])∧Below w.heap.size w w':=by
 have HG:=ae hG
 have HO:=ae hO
 obtain⟨W1,hW1⟩:∃ W1,w.alloc (.cells #[.string T.op,.string T.nm,.int .i64 T.aop,.string T.ver,.slice T.ka T.kids.length T.kc] 70)=W1:=⟨_,rfl⟩
 have B1:Hid (Below w.heap.size w W1):=by rw[←hW1];exact bR.alloc lr _
 have K1:Hid (aF W1 w.heap.size T.cells):=by rw[←hW1];exact aF.new w T.cells _
 have k0:=K1.out.cell 0 _ rfl
 have k1:=K1.out.cell 1 _ rfl
 have k2:=K1.out.cell 2 _ rfl
 have k3:=K1.out.cell 3 _ rfl
 have k4:=K1.out.cell 4 _ rfl
 have hC:=yA T 0 h.shape hcn hht W1 (HG.out.below B1.out) (HO.out.low B1.out) (fun W g o=>JF h W g o hcn)
 have HT:Hid (∀ W,Gl W→ce W 0 none T→Calls Tryz.prog 65 #[T.val] W fun e w'=>e=.returned (.string (bz (bP T.pl)))∧Below W.heap.size W w'):=fun W g o=>M9 h W g o hcn
 clear h hcn hht hG hO
 obtain⟨X,hX⟩:∃ X,bz (bP T.pl)=X:=⟨_,rfl⟩
 rw[hX] at HT ⊢
 clear hX
 unfold aj.val at *
 go_enter Tryz.func40,Tryz.ntmps40
 go_wp2_with fail
 clear hW1
 refine hC.mono ?_;rintro e w2 ⟨rfl,hb⟩
 have B2:=ae (ah B1.out hb)
 have K2:=ae (K1.out.below hb)
 clear hb k0 k1 k2 k3 k4 hC
 have k0:=K2.out.cell 0 _ rfl
 have k1:=K2.out.cell 1 _ rfl
 have k2:=K2.out.cell 2 _ rfl
 have k3:=K2.out.cell 3 _ rfl
 have k4:=K2.out.cell 4 _ rfl
 go_wp2_with fail
 refine(HT.out w2 (HG.out.below B2.out) (HO.out.low B2.out)).mono ?_;rintro e w3 ⟨rfl,hb⟩
 have B3:=ae (ah B2.out hb)
 clear hb
 go_wp2_with fail
 go_ret2
 exact⟨rfl,B3.out⟩
end
end Go.Proofs.YtkjdbpjglobbjaaGreatDoor
