/- A part of the proof. -/
import Derived.Test.YtaohgmcbpafdeaaGreatDoorA31
import Derived.Test.YtaohgmcbpafdeaaGreatDoorA32
set_option maxRecDepth 100000
set_option maxHeartbeats 20000000
set_option linter.unusedVariables false
set_option linter.unusedSimpArgs false
namespace Go.Proofs.YtaohgmcbpafdeaaGreatDoor
section
open Go.RowKit Go.Deep
theorem Oz (s p:BA)(w:World):Calls Tryz.prog 222 #[.string s,.string p] w fun e w'=>e=.returned (.string (bC (Lib.trimPrefix (bl s) (bl p))))∧w=w':=
 (Tryz.strings_TrimPrefix s p w).mono fun _ _ ⟨he,hw⟩=>⟨he,hw.symm⟩
structure cA.okT (t:cA):Prop where
 nm:dy (bl t.nm)=true
 qual:t.qual.size=0∨cU (bl t.qual)=true
 archs:∀ x∈t.archs,cU (bU (bl x))=true
 op:t.op≤5
 ver0:t.op=0→t.ver.size=0
 ver:0<t.op→cG 1 t.ver=0
 nmz:t.nm.size≤64
 qualz:t.qual.size≤32
 verz:t.ver.size≤64
 archz:∀ x∈t.archs,x.size≤33
 few:t.archs.length≤1000000
theorem cA.okT_of {t:cA}(h:t.pl.good):t.okT:=by
 have p:=h.parts
 have z:=h.sizes
 refine⟨p.nm,?_,fun x hx=>p.archs (bl x) (List.mem_map.2 ⟨x,hx,rfl⟩),h.op,fun h0=>?_,fun h0=>?_,?_,?_,?_,fun x hx=>?_,?_⟩
 ·rcases p.qual with h0 | h0
  ·left;rw[←ag];exact List.length_eq_zero_iff.2 h0
  ·exact .inr h0
 ·rw[←ag];exact List.length_eq_zero_iff.2 (h.ver h0)
 ·have:=p.ver h0;rwa [show bC t.pl.ver=t.ver from mA _] at this
 ·rw[←ag];exact z.nm
 ·rw[←ag];exact z.qual
 ·rw[←ag];exact z.ver
 ·rw[←ag];exact z.archs (bl x) (List.mem_map.2 ⟨x,hx,rfl⟩)
 ·have:=h.few;simpa [cA.pl] using this
theorem Cs (t:cA)(h:t.okT)(w:World)(hG:Gl w)(hr:Rd w 1 t.aa t.archs.length (az t.archs)):
  Calls Tryz.prog 190 #[t.val] w fun e w'=>e=.returned (.int .i64 0)∧Below w.heap.size w w':=by
 unfold cA.val
 obtain⟨h1,h2,h3,h4,h5,h6,h7,h8,h9,h10,h11⟩:=h
 have HG:=ae hG;have HR:=ae hr
 have hN:=fun W=>lM t.nm W (by omega)
 rw[h1] at hN
 have HA:=ae h3
 have HZ:=ae h10
 have H5:=ae h5
 have H6:=ae h6
 clear hG hr h1 h3 h10 h5 h6
 obtain⟨nm,op,ver,qual,aa,ac,archs⟩:=t
 simp only at *
 obtain⟨W1,hW1⟩:∃ W1,w.alloc (.cells #[.string nm,.int .i64 op,.string ver,.string qual,.slice aa archs.length ac] 220)=W1:=⟨_,rfl⟩
 have K1:Hid (ax W1 w.heap.size [.string nm,.int .i64 op,.string ver,.string qual,.slice aa archs.length ac]):=by rw[←hW1];exact ax.new w _ _
 have B1:Hid (Below w.heap.size w W1):=by rw[←hW1];exact bR.alloc lr _
 obtain⟨c0,c1,c2,c3,c4,f0,f1,f2,f3,f4⟩:=K1.out.five
 clear f0 f1 f2 f3 f4
 go_enter Tryz.func190,Tryz.ntmps190
 go_upto_region 1 with(fail)
 clear hW1
 go_cut [20] (fun v wx=>v=.bool false∧W1=wx)
 case first=>
  by_cases q0:qual.size=0
  ·have he:qual.toList=[]:=by rw[ah,bG qual q0]
   have he2:qual.toList.isEmpty=true:=by rw[he];rfl
   go_wp2_with fail
   refine(hN _).mono ?_;rintro e w' ⟨rfl,rfl⟩
   go_wp2_with fail
   go_meet
   exact⟨rfl,rfl⟩
  ·have he2:qual.toList.isEmpty=false:=by rw[ah,aT];exact dF q0
   have he:¬ qual.toList=[]:=by intro h;rw[h] at he2;simp at he2
   have hW:=fun W=>pk qual W (by omega)
   rw[h2.resolve_left q0] at hW
   go_wp2_with fail
   refine(hN _).mono ?_;rintro e w' ⟨rfl,rfl⟩
   go_wp2_with fail
   refine(hW _).mono ?_;rintro e w' ⟨rfl,rfl⟩
   go_wp2_with fail
   go_meet
   exact⟨rfl,rfl⟩
 case rest=>
 obtain⟨rfl,rfl⟩:=hcut
 clear h2 hN
 go_wp2_with fail
 go_loop [24] (fun i=>∃ k:Nat,k≤archs.length∧i=.int .i64 k) (fun i=>archs.length-(intOf i).toNat)
 case atStart=>exact⟨0,z0,rfl⟩
 case round=>
  obtain⟨k,hk,rfl⟩:=hrel
  by_cases hlt:k<archs.length
  ·obtain⟨x,hx⟩:∃ x,archs[k]?=some x:=⟨_,gG hlt⟩
   obtain⟨b,off,hA,he⟩:=(HR.out.below B1.out).str k x hx
   have hix:=fun W=>aI (T:=26) (E:=9) (sz:=1) (c:=ac) Tryz.underlying26 rfl Tryz.sizeOf9 hA hlt W
   simp only[Nat.mul_one] at hix
   have hT:=fun W=>Oz x ⟨#[33]⟩ W
   rw[show bl ⟨#[33]⟩=[33] from rfl,vM] at hT
   have hxz:=HZ.out x (gM hx)
   have hW:=fun W=>pk (bC (bU (bl x))) W (by rw[bS];have:=vT (bl x);rw[ag] at this;omega)
   rw[eh,HA.out x (gM hx)] at hW
   clear hx hA
   go_wp2_with fail
   refine(hT _).mono ?_;rintro e w' ⟨rfl,rfl⟩
   go_wp2_with fail
   refine(hW _).mono ?_;rintro e w' ⟨rfl,rfl⟩
   go_wp2_with fail
   go_round
   case rel=>exact⟨k+1,by omega,by go_num⟩
   case measure=>simp[intOf];omega
  ·by_cases o0:op=0
   ·have hv:=H5.out o0
    have he:ver.toList=[]:=by rw[ah,bG ver hv]
    have he2:ver.toList.isEmpty=true:=by rw[he];rfl
    subst o0
    clear hv
    go_wp2_with fail
    go_ret
    exact⟨rfl,B1.out⟩
   ·have hv:=H6.out (by omega)
    have o1:decide ((op:Int)<0)=false:=dF (by omega)
    have o2:decide ((5:Int)<(op:Int))=false:=dF (by omega)
    have o3:((op:Int)==0)=false:=by simp;omega
    have hC:=fun W hW=>aQ 1 ver W hW (by omega)
    rw[hv] at hC
    clear hv o0
    go_wp2_with fail
    refine(hC _ (HG.out.below B1.out)).mono ?_;rintro e w1 ⟨rfl,hb1⟩
    have B2:Hid (Below w.heap.size w w1):=aq B1.out hb1
    clear hb1
    go_wp2_with fail
    go_ret
    exact⟨rfl,B2.out⟩
theorem xz {gs:List bj}{k:Nat}{g:bj}(h:gs[k]?=some g):(gs.map bj.sl)[k]?=some (.slice g.ga g.ts.length g.gc):=by rw[List.getElem?_map,h];rfl
theorem Rd.one {w:World}{A:OA}{n:Nat}{xs:LV}(h:Rd w 1 A n xs)(i:Nat)(v:Value)(hi:xs[i]?=some v)(hn:i<n):
  ∃ b off,A=some ⟨b,off,none⟩∧w.cell? ⟨b,off+i,none⟩=some v:=by
 obtain⟨b,off,e,hc⟩:=h.2 (by omega)
 exact⟨b,off,e,hc i _ hi⟩
def sV (l:List bj):Nat:=(l.map fun g=>g.ts.length).sum
theorem vV (l:List bj)(k:Nat)(g:bj)(h:l[k]?=some g):sV (l.take (k+1))=sV (l.take k)+g.ts.length:=by
 obtain⟨hk,hg⟩:=gS h
 unfold sV;rw[tS hk,hg];simp
theorem LH (l:List bj)(k:Nat):sV (l.take k)≤sV l:=by
 conv=>rhs;rw[←List.take_append_drop k l]
 unfold sV;rw[List.map_append,List.sum_append];omega
structure xA (gs:List bj):Prop where
 few:gs.length≤64
 sum:sV gs≤64
 ne:∀ g∈gs,0<g.ts.length
 len:∀ g∈gs,g.ts.length≤64
 ok:∀ g∈gs,∀ t∈g.ts,t.okT
theorem xA.of {gs:List bj}(h:ko (gs.map bj.pl)):xA gs:=by
 have e:((gs.map bj.pl).map List.length).sum=sV gs:=by unfold sV;rw[List.map_map];congr 1;apply List.map_congr_left;intro g _;simp[bj.pl]
 have hs:=h.sum
 rw[e] at hs
 refine⟨by have:=h.few;simpa using this,hs,fun g hg=>?_,fun g hg=>?_,fun g hg t ht=>?_⟩
 ·have:=h.ne g.pl (List.mem_map.2 ⟨g,hg,rfl⟩)
  rcases Nat.eq_zero_or_pos g.ts.length with h0 | h0
  ·exact absurd (by unfold bj.pl;rw[List.length_eq_zero_iff.1 h0];rfl) this
  ·exact h0
 ·have:=Nm (L:=gs.map bj.pl) (g:=g.pl) (List.mem_map.2 ⟨g,hg,rfl⟩)
  rw[e] at this;unfold bj.pl at this;rw[List.length_map] at this;omega
 ·exact cA.okT_of (h.good g.pl (List.mem_map.2 ⟨g,hg,rfl⟩) t.pl (List.mem_map.2 ⟨t,ht,rfl⟩))
theorem Ct (A:OA)(c:Nat)(gs:List bj)(hW:xA gs)(w:World)(hG:Gl w)(hr:ov w A gs):
  Calls Tryz.prog 156 #[.slice A gs.length c] w fun e w'=>e=.returned (.int .i64 0)∧Below w.heap.size w w':=by
 have HG:=ae hG;have HR:=ae hr;have HW:=ae hW
 have hfew:=hW.few
 clear hG hr hW
 go_enter Tryz.func156,Tryz.ntmps156
 go_wp2_with fail
 go_loop [3,15] (fun n i=>∃ k m:Nat,k≤gs.length∧m≤64∧n=.int .i64 m∧i=.int .i64 k∧Hid (m=sV (gs.take k))) (fun _ i=>gs.length-(intOf i).toNat)
 case atStart=>exact⟨0,0,z0,by omega,rfl,rfl,rfl⟩
 case round=>
  obtain⟨k,m,hk,hm,rfl,rfl,HM⟩:=hrel
  by_cases hlt:k<gs.length
  ·obtain⟨g,hg⟩:∃ g,gs[k]?=some g:=⟨_,gG hlt⟩
   obtain⟨b,off,hA,he⟩:=HR.out.row.one k _ (xz hg) hlt
   have hix:=fun W=>aI (T:=173) (E:=218) (sz:=1) (c:=c) Tryz.underlying173 rfl Tryz.sizeOf218 hA hlt W
   simp only[Nat.mul_one] at hix
   have hgl:=HW.out.len g (gM hg)
   have hm2:m+g.ts.length≤64:=by have h1:=HM.out;have h2:=vV gs k g hg;have h3:=LH gs (k+1);have h4:=HW.out.sum;omega
   have HM2:Hid (m+g.ts.length=sV (gs.take (k+1))):=by have h1:=HM.out;have h2:=vV gs k g hg;show _=_;omega
   clear hg hA
   generalize g.ts.length=gl at *
   go_wp2_with fail
   go_round
   case rel=>exact⟨k+1,m+gl,by omega,hm2,by go_num,by go_num,HM2⟩
   case measure=>simp[intOf];omega
  ·have hm3:decide ((64:Int)<(m:Int))=false:=dF (by omega)
   clear HM
   go_wp2_with fail
   go_loop [2,28] (fun s2 i=>∃ k:Nat,k≤gs.length∧s2=.int .i64 0∧i=.int .i64 k) (fun _ i=>gs.length-(intOf i).toNat)
   case atStart=>exact⟨0,z0,rfl,rfl⟩
   case round=>
    obtain⟨j,hj,rfl,rfl⟩:=hrel
    by_cases hlt2:j<gs.length
    ·obtain⟨g,hg⟩:∃ g,gs[j]?=some g:=⟨_,gG hlt2⟩
     obtain⟨b,off,hA,he⟩:=HR.out.row.one j _ (xz hg) hlt2
     have hix:=fun W=>aI (T:=173) (E:=218) (sz:=1) (c:=c) Tryz.underlying173 rfl Tryz.sizeOf218 hA hlt2 W
     simp only[Nat.mul_one] at hix
     have hgl:=HW.out.len g (gM hg)
     have hgp:=HW.out.ne g (gM hg)
     clear hg hA
     generalize g.ts.length=gl at *
     have hg0:((gl:Int)==0)=false:=by simp;omega
     go_wp2_with fail
     go_round
     case rel=>exact⟨j+1,by omega,rfl,by go_num⟩
     case measure=>simp[intOf];omega
    ·go_wp2_with fail
     go_loopw [2,38] (fun s2 i wr=>∃ k:Nat,k≤gs.length∧s2=.int .i64 0∧i=.int .i64 k∧Hid (Below w.heap.size w wr)) (fun _ i _=>gs.length-(intOf i).toNat)
     case atStart=>exact⟨0,z0,rfl,rfl,bR⟩
     case round=>
      obtain⟨i,hi,rfl,rfl,HB⟩:=hrel
      by_cases hlt3:i<gs.length
      ·obtain⟨g,hg⟩:∃ g,gs[i]?=some g:=⟨_,gG hlt3⟩
       have HR1:=ae (HR.out.below HB.out)
       obtain⟨b,off,hA,he⟩:=HR1.out.row.one i _ (xz hg) hlt3
       have hix:=fun W=>aI (T:=173) (E:=218) (sz:=1) (c:=c) Tryz.underlying173 rfl Tryz.sizeOf218 hA hlt3 W
       simp only[Nat.mul_one] at hix
       have hgl:=HW.out.len g (gM hg)
       have HRG:=ae (HR.out.grp g (gM hg))
       have HRA:=ae (HR.out.archs g (gM hg))
       have HTK:=ae (HW.out.ok g (gM hg))
       obtain⟨gl,hgle⟩:∃ gl,g.ts.length=gl:=⟨_,rfl⟩
       rw[hgle] at he hgl
       have HGL:=ae hgle
       clear hg hA hgle HR1
       go_wp2_with fail
       obtain⟨wo,rfl⟩:∃ wo:World,wo=wr:=⟨_,rfl⟩
       go_loopw [2,44] (fun s2 q wr=>∃ k:Nat,k≤gl∧s2=.int .i64 0∧q=.int .i64 k∧Hid (Below w.heap.size w wr)) (fun _ q _=>gl-(intOf q).toNat)
       case atStart=>exact⟨0,z0,rfl,rfl,HB⟩
       case round=>
        obtain⟨q,hq,rfl,rfl,HB1⟩:=hrel
        by_cases hlt4:q<gl
        ·have HL4:Hid (q<g.ts.length):=by have:=HGL.out;show _<_;omega
         obtain⟨t,ht⟩:∃ t,g.ts[q]?=some t:=⟨_,gG HL4.out⟩
         obtain⟨b2,off2,hA2,he2⟩:=(HRG.out.below HB1.out).elem DW q t ht
         have e0:=he2 0 _ rfl
         have e1:=he2 1 _ rfl
         have e2:=he2 2 _ rfl
         have e3:=he2 3 _ rfl
         have e4:=he2 4 _ rfl
         simp only[Nat.add_zero] at e0
         have hix2:=fun W=>aI (T:=218) (E:=220) (sz:=5) (n:=gl) (c:=g.gc) Tryz.underlying218 rfl Tryz.sizeOf220 hA2 hlt4 W
         have TK:=ae (HTK.out t (gM ht))
         have TA:=ae (HRA.out t (gM ht))
         have B2:=ae (HB1.out.alloc HB1.out.size (.cells #[.string t.nm,.int .i64 t.op,.string t.ver,.string t.qual,.slice t.aa t.archs.length t.ac] 220))
         clear ht he2 hA2 he hix
         go_wp2_with fail
         refine(Cs t TK.out _ (HG.out.below B2.out) (TA.out.below B2.out)).mono ?_;rintro e w2 ⟨rfl,hb2⟩
         have B3:Hid (Below w.heap.size w w2):=aq B2.out hb2
         clear hb2 e0 e1 e2 e3 e4 hix2
         go_wp2_with fail
         go_roundw
         case rel=>exact⟨q+1,by omega,rfl,by go_num,B3⟩
         case measure=>simp[intOf];omega
        ·go_wp2_with fail
         go_roundw
         case rel=>exact⟨i+1,by omega,rfl,by go_num,HB1⟩
         case measure=>simp[intOf];omega
      ·go_wp2_with fail
       go_ret
       exact⟨rfl,HB.out⟩
theorem Cy {w:World}{b:Nat}{x:Obj}(h:w.heap[b]?=some x)(o:Obj):(w.alloc o).heap[b]?=some x:=by
 have hl:b<w.heap.size:=(Array.getElem?_eq_some_iff.1 h).1
 rw[Below.heap_alloc w o b hl];exact h
theorem wg {xs:List aj}(h:∀ x∈xs,x.kids≠[]):cE (xs.flatMap aj.kids)=cE xs:=by
 induction xs with
 | nil=>rfl
 | cons a r ih=>
  rw[List.flatMap_cons,dm,ih (fun x hx=>h x (by simp[hx])),←eZ (h a (by simp))];rfl
theorem Gq {xs:List aj}(h:∀ x∈xs,x.kids≠[]){i:Nat}{x:aj}(hx:xs[i]?=some x)(j:Nat):cE ((xs.take i).flatMap aj.kids++x.kids.take j)≤cE xs:=by
 rw[dm,wg (fun y hy=>h y (List.mem_of_mem_take hy))]
 have h1:=vY hx
 have h2:=iu xs (i+1)
 have h3:=iu x.kids j
 rw[←eZ (h x (gM hx))] at h3
 omega
theorem wh {xs:List aj}{i:Nat}{x:aj}(hx:xs[i]?=some x):(xs.take (i+1)).flatMap aj.kids=(xs.take i).flatMap aj.kids++x.kids:=by
 obtain⟨hk,hg⟩:=gS hx
 rw[tS hk,hg,List.flatMap_append];simp
theorem Gr {ks:List aj}{j:Nat}{t:aj}(ht:ks[j]?=some t):ks.take (j+1)=ks.take j++[t]:=by
 obtain⟨hk,hg⟩:=gS ht
 rw[tS hk,hg]
theorem Gs:(Tryz.prog.info? 177).map (fun i=>(i.zero,i.size,i.bytes))=some (some (.slice none 0 0),1,24):=by kernel_rfl
structure Ic (w wr:World) (mb h k:Nat) (A:OA) (n c:Nat) (xs:List aj) (ms:List (aj×Nat)):Prop where
 lev:Ee 0 wr A n c xs
 met:er wr mb ms
 xh:∀ x∈xs,x.ht+k≤h+1
 top:∃ x∈xs,x.ht+k=h+1
 mok:∀ i,i<k→∃ p∈ms,p.1.ht+i=h
 bel:Below w.heap.size w wr
 mlo:w.heap.size≤mb
 cnt:cE xs≤64
theorem Ic.few {w wr:World}{mb h k:Nat}{A:OA}{n c:Nat}{xs:List aj}{ms:List (aj×Nat)}(d:Ic w wr mb h k A n c xs ms):n≤64:=by
 have:=fR xs;have:=d.cnt;have:=d.lev.len;omega
theorem Ic.start {w W W4:World}{T:aj}(hT:bB w 0 none T)(hS:dL T)(hc:T.cnt≤64)(tt:TypeId)
  (hW:(w.alloc (.cells T.cells.toArray tt)).alloc (.map #[] 0)=W)
  (hW4:(W.alloc (.cells T.cells.toArray 179)).alloc (.cells #[.slice (some ⟨W.heap.size,0,none⟩) 1 1] 177)=W4):
  Ic w W4 (w.heap.size+1) T.ht 0 (some ⟨W.heap.size+1,0,none⟩) 1 1 [.mk ⟨#[]⟩ ⟨#[]⟩ 0 ⟨#[]⟩ (some ⟨W.heap.size,0,none⟩) 1 [T]] []:=by
 have zW:W.heap.size=w.heap.size+2:=by rw[←hW];simp
 have b1:Below w.heap.size w W:=by rw[←hW];exact(bR.alloc lr _).alloc (by simp) _
 have b4:Below W.heap.size W W4:=by rw[←hW4];exact(bR.alloc lr _).alloc (by simp) _
 have hm:er W (w.heap.size+1) []:=by
  rw[←hW]
  have:=er.made (w.alloc (.cells T.cells.toArray tt))
  simpa using this
 have hc1:W4.heap[W.heap.size]?=some (.cells T.cells.toArray 179 (0,0)):=by rw[←hW4];exact Cy (heap_alloc_new W _) _
 have hc2:W4.heap[W.heap.size+1]?=some (.cells #[.slice (some ⟨W.heap.size,0,none⟩) 1 1] 177 (0,0)):=by
  have:=heap_alloc_new (W.alloc (.cells T.cells.toArray 179)) (.cells #[.slice (some ⟨W.heap.size,0,none⟩) 1 1] 177)
  rw[←hW4];simpa using this
 have ht4:bB W4 0 none T:=(hT.low b1).low b4
 refine⟨⟨rfl,⟨rfl,.inr ⟨W.heap.size+1,1,_,rfl,z0,hc2,lr,by decide,rfl,rfl⟩⟩,fun x hx=>?_,fun x hx=>?_,fun x hx k hk=>?_⟩,hm.below b4,fun x hx=>?_,⟨_,List.mem_singleton.2 rfl,?_⟩,fun i hi=>absurd hi (by omega),aq b1 b4,by omega,?_⟩
 ·obtain rfl:=List.mem_singleton.1 hx
  exact .mk _ ⟨by simp[aj.cells,aj.kids],.inr ⟨W.heap.size,1,_,rfl,z0,hc1,lr,by decide,rfl,by simp[aj.kids,aj.cells]⟩⟩ (fun g _=>by simp) (fun k hk=>by simp only[aj.kids,List.mem_singleton] at hk;subst hk;exact ht4)
 ·obtain rfl:=List.mem_singleton.1 hx;simp[aj.kids]
 ·obtain rfl:=List.mem_singleton.1 hx;simp only[aj.kids,List.mem_singleton] at hk;subst hk;exact hS
 ·obtain rfl:=List.mem_singleton.1 hx;simp[aj.ht,zC]
 ·simp[aj.ht,zC]
 ·simp[cE,aj.cnt];exact hc
theorem Ic.round {w wr:World}{mb h k:Nat}{A:OA}{n c:Nat}{xs:List aj}{ms:List (aj×Nat)}(d:Ic w wr mb h k A n c xs ms):Cx wr.heap.size (wr.alloc (.map #[] 0)) mb wr.heap.size h k A n c xs none 0 0 [] ms []:=by
 have b:Below wr.heap.size wr (wr.alloc (.map #[] 0)):=bR.alloc lr _
 exact⟨d.lev.below b,fun g hg=>(d.lev.row.lt g hg).2,.nil _ _,d.met.below b,er.made wr,by have:=d.met.lt;omega,d.xh,by simp,by simp,d.mok,d.top⟩
theorem Ic.after {w wr:World}{s0 mb hb h k:Nat}{A:OA}{n c:Nat}{xs:List aj}{B:OA}{m cB:Nat}{ys:List aj}{ms hs:List (aj×Nat)}(d:Cx s0 wr mb hb h k A n c xs B m cB ys ms hs)(hs:ja (xs.flatMap aj.kids) ys ms)(hm:0<m)(bel:Below w.heap.size w wr)(mlo:w.heap.size≤mb)(hc:cE ys≤64):Ic w wr mb h (k+1) B m cB ys ms∧k<ms.length∧k+1≤h:=by
 obtain⟨h1,h2,h3,h4⟩:=d.next hs hm
 exact⟨⟨⟨d.new.len,dV d.new.row z0,d.new.own,d.new.ne,d.new.shape⟩,d.met,fun y hy=>by have:=d.yh y hy;omega,h4,h3,bel,mlo,hc⟩,h1,h2⟩
theorem er.len {w:World}{b:Nat}{ms:List (aj×Nat)}(h:er w b ms)(ty:TypeId):(Builtin.len_ #[272] ty #[.map (some b)]).run Tryz.prog w=.ok (.int .i64 ms.length) w:=by
 obtain⟨es,clock,hb,hm⟩:=h.ex
 have e3:es.size=ms.length:=by have:=congrArg List.length hm;simpa using this
 simp[Builtin.len_,run_underlying Tryz.underlying272,MapKept.run_getObj_map hb,goInt,e3]
theorem lu {B:Nat}{w W:World}(h:Below B w W):Below B w W.drew:=⟨h.os,h.tape,h.output,h.size,h.block⟩
theorem Cz (T:aj)(w:World)(hT:bB w 0 none T)(hS:dL T)(hc:T.cnt≤64)(hh:T.ht≤1000000):
  Calls Tryz.prog 198 #[T.val] w fun e w'=>(∃ r:Nat,e=.returned (.int .i64 r)∧r≤T.ht)∧Below w.heap.size w w':=by
 have hmm:=@run_makeMap Tryz.prog
 obtain⟨i1,hi1,hw0,hw1,hw2'⟩:=info_parts Gs
 obtain⟨W,hW⟩:∃ W,(w.alloc (.cells T.cells.toArray 179)).alloc (.map #[] 0)=W:=⟨_,rfl⟩
 have zW:W.heap.size=w.heap.size+2:=by rw[←hW];simp
 obtain⟨W4,hW4⟩:∃ W4,(W.alloc (.cells T.cells.toArray 179)).alloc (.cells #[.slice (some ⟨W.heap.size,0,none⟩) 1 1] 177)=W4:=⟨_,rfl⟩
 have D0:Hid (Ic w W4 (w.heap.size+1) T.ht 0 (some ⟨W.heap.size+1,0,none⟩) 1 1 [.mk ⟨#[]⟩ ⟨#[]⟩ 0 ⟨#[]⟩ (some ⟨W.heap.size,0,none⟩) 1 [T]] []):=Ic.start hT hS hc _ hW hW4
 obtain⟨h,hh'⟩:∃ h,T.ht=h:=⟨_,rfl⟩
 rw[hh'] at D0 hh ⊢
 have HW4:=ae hW4
 have HW:=ae hW
 clear hT hS hc hh' hW hW4 zW
 unfold aj.val
 go_enter Tryz.func198,Tryz.ntmps198
 go_upto_region 3 with(fail)
 have hW':(w.alloc (.cells #[.string T.op,.string T.nm,.int .i64 T.aop,.string T.ver,.slice T.ka T.kids.length T.kc] 179)).alloc (.map #[] 0)=W:=HW.out
 rw[hW']
 have K0:Hid (ax W w.heap.size T.cells):=by rw[←HW.out];exact(ax.new w T.cells _).alloc _
 have k0:=K0.out.cell 0 _ rfl
 have k1:=K0.out.cell 1 _ rfl
 have k2:=K0.out.cell 2 _ rfl
 have k3:=K0.out.cell 3 _ rfl
 have k4:=K0.out.cell 4 _ rfl
 clear hW' K0 HW
 go_wp2_with fail
 clear k0 k1 k2 k3 k4
 go_loopw [3,5,6] (fun dv lv ar wr=>∃ (k d n c:Nat) (A:OA) (xs:List aj) (ms:List (aj×Nat)),dv=.int .i64 d∧lv=.slice A n c∧ar=.int .i64 k∧d≤h∧k≤h∧Hid (Ic w wr (w.heap.size+1) h k A n c xs ms)) (fun _ _ ar _=>h-(intOf ar).toNat)
 case atStart=>have:=D0.out;rw[←HW4.out] at this;exact⟨0,0,1,1,_,_,_,rfl,rfl,rfl,z0,z0,this⟩
 case round=>
  clear D0 HW4
  obtain⟨k,d,n,c,A,xs,ms,rfl,rfl,rfl,hd,hk,HD⟩:=hrel
  have hn:=HD.out.few
  have hxc:=HD.out.cnt
  obtain⟨s0,hs0⟩:∃ s0,wr.heap.size=s0:=⟨_,rfl⟩
  obtain⟨W1,hW1⟩:∃ W1,wr.alloc (.map #[] 0)=W1:=⟨_,rfl⟩
  have S1:Hid (Cx s0 W1 (w.heap.size+1) s0 h k A n c xs none 0 0 [] ms []):=by rw[←hW1,←hs0];exact HD.out.round
  have B1:Hid (Below w.heap.size w W1):=by rw[←hW1];exact HD.out.bel.alloc HD.out.bel.size _
  have HXC:Hid (cE xs≤64):=hxc
  have HS0:Hid (w.heap.size≤s0):=by rw[←hs0];exact HD.out.bel.size
  clear hxc HD
  go_wp2_with fail
  clear hW1 hs0 hmm
  go_loopw [3,7,25] (fun dv bv iv wr=>∃ (i d m cB:Nat) (B:OA) (ys:List aj) (ms hs:List (aj×Nat)),dv=.int .i64 d∧bv=.slice B m cB∧iv=.int .i64 i∧d≤h∧i≤n∧Hid (Cx s0 wr (w.heap.size+1) s0 h k A n c xs B m cB ys ms hs)∧Hid (ja ((xs.take i).flatMap aj.kids) ys ms)∧Hid (Below w.heap.size w wr)∧Hid (cE ys≤cE ((xs.take i).flatMap aj.kids))) (fun _ _ iv _=>n-(intOf iv).toNat)
  case atStart=>exact⟨0,d,0,0,none,[],ms,[],rfl,rfl,rfl,hd,z0,S1,ja.nil _ _,B1,lr⟩
  case round=>
   clear S1 B1
   obtain⟨i,d,m,cB,B,ys,ms,hs,rfl,rfl,rfl,hd,hi,HS,HN,HB,HC⟩:=hrel
   by_cases hlt:i<n
   ·obtain⟨x,hx⟩:∃ x,xs[i]?=some x:=⟨_,gG (by rw[HS.out.lev.len];exact hlt)⟩
    have HX:=ae hx
    have hxm:Hid (x∈xs):=gM hx
    obtain⟨b,off,hA,he⟩:=(cH HS.out.lev.row).one i _ (by rw[List.getElem?_map,hx];rfl) hlt
    have hix:=fun W=>aI (T:=296) (E:=177) (sz:=1) (c:=c) Tryz.underlying296 rfl Tryz.sizeOf177 hA hlt W
    simp only[Nat.mul_one] at hix
    obtain⟨kl,hkl⟩:∃ kl,x.kids.length=kl:=⟨_,rfl⟩
    have HKL:=ae hkl
    have hk64:kl≤64:=by
     have h1:=fR x.kids;rw[←eZ (HS.out.lev.ne x hxm.out)] at h1
     have h2:=iX hxm.out;have:=HXC.out;omega
    unfold aj.sl at he
    rw[hkl] at he
    clear hx hA hkl
    go_wp2_with fail
    clear he hix
    go_loopw [3,7,31] (fun dv bv jv wr=>∃ (j d m cB:Nat) (B:OA) (ys:List aj) (ms hs:List (aj×Nat)),dv=.int .i64 d∧bv=.slice B m cB∧jv=.int .i64 j∧d≤h∧j≤kl∧Hid (Cx s0 wr (w.heap.size+1) s0 h k A n c xs B m cB ys ms hs)∧Hid (ja ((xs.take i).flatMap aj.kids++x.kids.take j) ys ms)∧Hid (Below w.heap.size w wr)∧Hid (cE ys≤cE ((xs.take i).flatMap aj.kids++x.kids.take j))) (fun _ _ jv _=>kl-(intOf jv).toNat)
    case atStart=>exact⟨0,d,m,cB,B,ys,ms,hs,rfl,rfl,rfl,hd,z0,HS,by simpa [Hid] using HN.out,HB,by simpa [Hid] using HC.out⟩
    case round=>
     clear HS HN HB HC
     obtain⟨j,d,m,cB,B,ys,ms,hs,rfl,rfl,rfl,hd,hj,HS,HN,HB,HC⟩:=hrel
     by_cases hlj:j<kl
     ·obtain⟨t,ht⟩:∃ t,x.kids[j]?=some t:=⟨_,gG (by rw[HKL.out];exact hlj)⟩
      have HT:=ae ht
      have htm:Hid (t∈x.kids):=gM ht
      have HOW:=ae ((HS.out.lev.own x hxm.out).kids t htm.out)
      have HSH:=ae (HS.out.lev.shape x hxm.out t htm.out)
      obtain⟨b,off,hA,he⟩:=(HS.out.lev.own x hxm.out).rd.cell j t ht
      have e0:=he 0 _ rfl
      have e1:=he 1 _ rfl
      have e2:=he 2 _ rfl
      have e3:=he 3 _ rfl
      have e4:=he 4 _ rfl
      simp only[Nat.add_zero] at e0
      have hix:=fun W=>aI (T:=177) (E:=179) (sz:=5) (c:=x.kc) Tryz.underlying177 rfl Tryz.sizeOf179 hA hlj W
      have HHT:Hid (t.ht+k≤h):=by have h1:=Jr htm.out;have h2:=HS.out.xh x hxm.out;show _≤_;omega
      have TK:Hid (x.kids.take (j+1)=x.kids.take j++[t]):=Gr ht
      clear ht hA he
      by_cases tk:t.kids=[]
      ·have o0:t.op.toList=[]:=by rw[ah];exact bG _ (HSH.out.leaf tk)
       have o1:t.op.toList.isEmpty=true:=by rw[o0];rfl
       have l0:t.kids.length=0:=by rw[tk];rfl
       rw[l0] at e4
       have SN:Hid (ja ((xs.take i).flatMap aj.kids++x.kids.take (j+1)) ys ms):=by show ja _ _ _;rw[TK.out,←List.append_assoc];exact HN.out.leaf tk
       have CN:Hid (cE ys≤cE ((xs.take i).flatMap aj.kids++x.kids.take (j+1))):=by have:=HC.out;show _≤_;rw[TK.out,←List.append_assoc,dm];omega
       have SB:=ae (HS.out.below ((Below.refl wr.heap.size wr).alloc lr (.cells #[.string t.op,.string t.nm,.int .i64 t.aop,.string t.ver,.slice t.ka 0 t.kc] 179)))
       have BB:=ae (HB.out.alloc HB.out.size (.cells #[.string t.op,.string t.nm,.int .i64 t.aop,.string t.ver,.slice t.ka 0 t.kc] 179))
       clear tk l0
       go_wp2_with fail
       go_roundw
       case rel=>exact⟨j+1,max d k,m,cB,B,ys,ms,hs,by congr 1;omega,rfl,by go_num,by omega,by omega,SB,SN,BB,CN⟩
       case measure=>simp[intOf];omega
      ·obtain⟨g,cur,hA,hg,-⟩:=lq HOW.out tk
       have HKA:=ae hA
       obtain⟨tl,htl⟩:∃ tl,t.kids.length=tl:=⟨_,rfl⟩
       have HTL:=ae htl
       have htp:0<tl:=by rw[←htl];exact List.length_pos_iff.2 tk
       have ht64:tl≤1000000:=by
        have h1:=fR t.kids;rw[←eZ tk] at h1
        have h2:=iX htm.out;rw[←eZ (HS.out.lev.ne x hxm.out)] at h2
        have h3:=iX hxm.out;have:=HXC.out;omega
       rw[htl] at e4
       have hix2:=fun W=>aI (T:=177) (E:=179) (sz:=5) (n:=tl) (c:=t.kc) (k:=0) Tryz.underlying177 rfl Tryz.sizeOf179 hA htp W
       simp only[Nat.zero_mul,Nat.add_zero] at hix2
       have hix3:∀ W:World,(Instr.indexAt 177 (.slice t.ka tl t.kc) (.int .i64 0)).run Tryz.prog W=.ok (.pointer (some ⟨g,0,none⟩)) W:=hix2
       have l1:decide ((0:Int)<(tl:Int))=true:=dT (by omega)
       have l2:decide (0<tl)=true:=dT htp
       have HTK:Hid (t.kids≠[]):=tk
       clear tk hA hg htl hix2
       go_upto_region 15 with(fail)
       obtain⟨W1,hW1⟩:∃ W1,wr.alloc (.cells #[.string t.op,.string t.nm,.int .i64 t.aop,.string t.ver,.slice t.ka tl t.kc] 179)=W1:=⟨_,rfl⟩
       have B1:Hid (Below wr.heap.size wr W1):=by rw[←hW1];exact bR.alloc lr _
       have K1:Hid (ax W1 wr.heap.size [.string t.op,.string t.nm,.int .i64 t.aop,.string t.ver,.slice t.ka tl t.kc]):=by rw[←hW1];exact ax.new wr [.string t.op,.string t.nm,.int .i64 t.aop,.string t.ver,.slice t.ka tl t.kc] _
       rw[hW1]
       clear hW1 e0 e1 e2 e3 e4 hix l1 l2
       have u4:=K1.out.cell 4 _ rfl
       have hz1:wr.heap.size<W1.heap.size:=K1.out.sz
       have hz2:¬ wr.heap.size=W1.heap.size:=by omega
       go_region
       obtain⟨W2,hW2⟩:∃ W2,(W1.alloc (.cells #[.pointer (some ⟨g,0,none⟩),.int .i64 tl] 299)).drew=W2:=⟨_,rfl⟩
       have B2:Hid (Below W1.heap.size W1 W2):=by rw[←hW2];exact lu ((Below.refl W1.heap.size W1).alloc lr _)
       have K2:Hid (ax W2 W1.heap.size [.pointer (some ⟨g,0,none⟩),.int .i64 tl]):=by rw[←hW2];exact(ax.new W1 [.pointer (some ⟨g,0,none⟩),.int .i64 tl] _).drew
       have K1':=ae (K1.out.below B2.out)
       have BW:Hid (Below wr.heap.size wr W2):=aq B1.out B2.out
       have D2:=ae (HS.out.below BW.out)
       have O2:=ae (HOW.out.low BW.out)
       have BB:=ae (aq HB.out BW.out)
       have KEY:Hid (t.key=.agg #[.pointer (some ⟨g,0,none⟩),.int .i64 tl]):=by show _=_;unfold aj.key;rw[HKA.out,HTL.out]
       rw[hW2]
       have HLT:=ae hz1
       clear hW2 u4 hz1 hz2 hix3 B1 B2 K1
       have v0:=K2.out.cell 0 _ rfl
       have v1:=K2.out.cell 1 _ rfl
       have hlook:=D2.out.here.look O2.out HTK.out
       rw[KEY.out] at hlook
       rcases hlook with hlk | ⟨p,hp,hpk,hlk⟩
       ·obtain⟨w1,hs',r1,k1,g1,z1,f1,-,-⟩:=(D2.out.here.below (w':=W2.drew) ⟨rfl,rfl,rfl,lr,fun _ _=>rfl⟩).put (O2.out.low (w':=W2.drew) ⟨rfl,rfl,rfl,lr,fun _ _=>rfl⟩) HTK.out k
        have D2d:=ae (D2.out.below (w':=W2.drew) ⟨rfl,rfl,rfl,lr,fun _ _=>rfl⟩)
        have O2d:=ae (O2.out.low (w':=W2.drew) ⟨rfl,rfl,rfl,lr,fun _ _=>rfl⟩)
        have m1:er w1 (w.heap.size+1) ms:=D2d.out.met.tame (.map D2d.out.here) (fun e=>D2.out.hne (by injection e)) g1
        obtain⟨w2,ms',r2,k2,g2,z2,-,f2,f3⟩:=m1.put (O2d.out.tame (.map D2d.out.here) g1) HTK.out k
        rw[KEY.out] at r1 r2
        have HG1:=ae g1;have HK1:=ae k1;have HF1:=ae f1
        have HG2:=ae g2;have HK2:=ae k2;have HF2:=ae f2;have HF3:=ae f3
        have hl1:s0<wr.heap.size:=HS.out.here.lt
        have hl2:w.heap.size+1<wr.heap.size:=HS.out.met.lt
        have hl3:wr.heap.size<W1.heap.size:=HLT.out
        have Kl:=ae (K2.out.drew.grownBy g1 (fun e=>by injection e with e;omega))
        have Kw:=ae ((K1'.out.drew.grownBy g1 (fun e=>by injection e with e;omega)).grownBy g2 (fun e=>by injection e with e;omega))
        have q0:=Kl.out.cell 0 _ rfl
        have q1:=Kl.out.cell 1 _ rfl
        have NW:=ae ((D2d.out.new.map D2d.out.here g1).map m1 g2)
        have B3:=ae (eD (eD (lu BB.out) g1 HS0.out) g2 (Nat.le_succ _))
        have hz3:s0<w2.heap.size:=by have:=Kw.out.sz;omega
        have hm64:m≤64:=by
         have h1:=fR ys;have h2:=HC.out;have h3:=HS.out.new.len
         have h4:=Gq HS.out.lev.ne HX.out j;have:=HXC.out;omega
        have hw2:w.heap.size≤w2.heap.size:=by have:=HS0.out;omega
        clear g1 k1 f1 g2 k2 f2 f3 z1 z2 m1 hl1 hl2 hl3
        go_wp2_with fail
        go_region
        clear v0 v1 q0 q1 r1 r2 hlk
        have y4:=Kw.out.cell 4 _ rfl
        go_wp2_with (at_builtin;refine aD _ rfl _ _ _ rfl s0 177 i1 _ 1 24 Tryz.underlying296 hi1 hw0 hw1 hw2' rfl (by omega) (.slice B m cB) m _ rfl (NW.out.row.alloc _) (w2.heap.size+1) (some ⟨w2.heap.size,0,none⟩) 1 1 [.slice t.ka tl t.kc] rfl (fv w2 _ _) (by simp[Value.oneCell']) (by simp only[maxLen];omega) (by omega) (by simp;omega) ?_;intro v1 w3 o1 g3 a1)
        obtain⟨B3',c3,rfl⟩:=aP o1
        have o2:w3.ownsRow s0 177 1 (.slice B3' (m+1) c3) (m+1) (ys.map aj.sl++[t.sl]):=by rw[show t.sl=.slice t.ka tl t.kc from by unfold aj.sl;rw[HTL.out]];exact o1
        have D3:=ae (D2d.out.grow O2d.out HTK.out HSH.out.kids HHT.out HK1.out HG1.out HF1.out HK2.out HG2.out HF2.out HF3.out ((Below.refl w2.heap.size w2).alloc lr _) o2 g3)
        have BB3:Hid (Below w.heap.size w w3):=(B3.out.alloc hw2 _).grown g3 (by simp;omega) (fun j' hj'=>by have:=(NW.out.row.lt j' hj').1;have:=HS0.out;omega)
        have SN:Hid (ja ((xs.take i).flatMap aj.kids++x.kids.take (j+1)) (ys++[t]) ms'):=by show ja _ _ _;rw[TK.out,←List.append_assoc];exact HN.out.grow HF2.out HF3.out
        have CN:Hid (cE (ys++[t])≤cE ((xs.take i).flatMap aj.kids++x.kids.take (j+1))):=by have:=HC.out;show _≤_;rw[TK.out,←List.append_assoc,dm,dm _ [t]];omega
        clear o1 o2 g3 a1 y4
        go_wp2_with fail
        go_roundw
        case rel=>exact⟨j+1,d,m+1,c3,B3',ys++[t],ms',hs',rfl,rfl,by go_num,hd,by omega,D3,SN,BB3,CN⟩
        case measure=>simp[intOf];omega
       ·have SN:Hid (ja ((xs.take i).flatMap aj.kids++x.kids.take (j+1)) ys ms):=by show ja _ _ _;rw[TK.out,←List.append_assoc];exact D2.out.hit HN.out hp hpk
        have CN:Hid (cE ys≤cE ((xs.take i).flatMap aj.kids++x.kids.take (j+1))):=by have:=HC.out;show _≤_;rw[TK.out,←List.append_assoc,dm];omega
        clear hp hpk
        go_wp2_with fail
        go_roundw
        case rel=>exact⟨j+1,d,m,cB,B,ys,ms,hs,rfl,rfl,by go_num,hd,by omega,D2,SN,BB,CN⟩
        case measure=>simp[intOf];omega
     ·have SN:Hid (ja ((xs.take (i+1)).flatMap aj.kids) ys ms):=by have:=HN.out;rw[tL (l:=x.kids) (by rw[HKL.out];omega),←wh HX.out] at this;exact this
      have CN:Hid (cE ys≤cE ((xs.take (i+1)).flatMap aj.kids)):=by have:=HC.out;rw[tL (l:=x.kids) (by rw[HKL.out];omega),←wh HX.out] at this;exact this
      go_wp2_with fail
      go_roundw
      case rel=>exact⟨i+1,d,m,cB,B,ys,ms,hs,rfl,rfl,by go_num,hd,by omega,HS,SN,HB,CN⟩
      case measure=>simp[intOf];omega
   ·have hln:=HS.out.lev.len
    have SN:Hid (ja (xs.flatMap aj.kids) ys ms):=by have:=HN.out;rw[tL (by omega)] at this;exact this
    have CN:Hid (cE ys≤64):=by have h1:=HC.out;have h2:=HXC.out;rw[tL (by omega),wg HS.out.lev.ne] at h1;show _≤_;omega
    have hm64:m≤64:=by have h1:=fR ys;have h2:=HS.out.new.len;have:=CN.out;omega
    clear hln
    by_cases hm0:m=0
    ·have q0:((m:Int)==0)=true:=by simp[hm0]
     clear hm0
     go_wp2_with fail
     go_ret
     exact⟨⟨d,rfl,hd⟩,HB.out⟩
    ·have q0:((m:Int)==0)=false:=by simp;omega
     obtain⟨o1,o2,o3⟩:=Ic.after (w:=w) HS.out SN.out (by omega) HB.out (Nat.le_succ _) CN.out
     have O1:=ae o1
     have hlen:=HS.out.met.len
     have q1:decide ((ms.length:Int)≤(k:Int))=false:=dF (by omega)
     have q2:decide (ms.length≤k)=false:=dF (by omega)
     clear o1 o2 hm0
     go_wp2_with fail
     go_roundw
     case rel=>exact⟨k+1,d,m,cB,B,ys,ms,rfl,rfl,by go_num,hd,o3,O1⟩
     case measure=>simp[intOf];omega
structure uY (w:World) (b:Nat) (ms:List (aj×Nat)):Prop where
 map:er w b ms
 val:∀ p∈ms,p.2=cE p.1.kids
theorem uY.below {w w':World}{b:Nat}{ms:List (aj×Nat)}(h:uY w b ms)(hb:Below w.heap.size w w'):uY w' b ms:=⟨h.map.below hb,h.val⟩
def O8 (T:aj):Prop:=∀ (w:World)(b:Nat)(ms:List (aj×Nat)),uY w b ms→bB w 0 none T→dL T→T.cnt≤64 →
 Calls Tryz.prog 199 #[T.val,.map (some b)] w fun e w'=>e=.returned (.int .i64 T.cnt)∧w.grownBy w' (some b)∧∃ ms',uY w' b ms'
theorem Ju (T:aj)(IH:∀ t:aj,t.ht<T.ht→O8 t):O8 T:=by
 intro w b ms hM hO hS hc
 have hmm:=@run_makeMap Tryz.prog
 have HM:=ae hM
 have HO:=ae hO
 have HS:=ae hS
 have HC:=ae hc
 have HIH:=ae IH
 clear hM hO hS IH hc
 obtain⟨W1,hW1⟩:∃ W1,w.alloc (.cells #[.string T.op,.string T.nm,.int .i64 T.aop,.string T.ver,.slice T.ka T.kids.length T.kc] 179)=W1:=⟨_,rfl⟩
 have B1:Hid (Below w.heap.size w W1):=by rw[←hW1];exact bR.alloc lr _
 have K1:Hid (ax W1 w.heap.size T.cells):=by rw[←hW1];exact ax.new w T.cells _
 by_cases tk:T.kids=[]
 ·have o0:T.op.toList=[]:=by rw[ah];exact bG _ (HS.out.leaf tk)
  have o1:T.op.toList.isEmpty=true:=by rw[o0];rfl
  have E:Hid (T.cnt=1):=Jq tk
  have M1:=ae (HM.out.below B1.out)
  have k0:=K1.out.cell 0 _ rfl
  clear tk hmm
  unfold aj.val
  go_enter Tryz.func199,Tryz.ntmps199
  go_wp2_with fail
  go_ret
  exact⟨ap (by rw[E.out];rfl),dj B1.out _,ms,M1.out⟩
 obtain⟨g,cur,hA,hg,-⟩:=lq HO.out tk
 have o0:(T.op.toList==([]:LU))=false:=by rw[ah,bF];intro e;exact HS.out.node tk (by rw[←ag,e];rfl)
 have o1:T.op.toList.isEmpty=false:=by rw[ah,aT];exact dF (HS.out.node tk)
 have o2:¬ T.op.toList=[]:=by intro e;rw[e] at o1;simp at o1
 have HKA:=ae hA
 obtain⟨tl,htl⟩:∃ tl,T.kids.length=tl:=⟨_,rfl⟩
 have HTL:=ae htl
 have htp:0<tl:=by rw[←htl];exact List.length_pos_iff.2 tk
 have CN:Hid (T.cnt=cE T.kids):=eZ tk
 have ht64:tl≤64:=by have h1:=fR T.kids;have:=HC.out;have:=CN.out;omega
 have hix3:∀ W:World,(Instr.indexAt 177 (.slice T.ka tl T.kc) (.int .i64 0)).run Tryz.prog W=.ok (.pointer (some ⟨g,0,none⟩)) W:=by
  have hix2:=fun W=>aI (T:=177) (E:=179) (sz:=5) (n:=tl) (c:=T.kc) (k:=0) Tryz.underlying177 rfl Tryz.sizeOf179 hA htp W
  simp only[Nat.zero_mul,Nat.add_zero] at hix2
  exact hix2
 have HTK:Hid (T.kids≠[]):=tk
 have l1:((tl:Int)==0)=false:=by simp;omega
 have KEY:Hid (T.key=.agg #[.pointer (some ⟨g,0,none⟩),.int .i64 tl]):=by show _=_;unfold aj.key;rw[HKA.out,HTL.out]
 have KV:Hid (T.val=.agg #[.string T.op,.string T.nm,.int .i64 T.aop,.string T.ver,.slice T.ka tl T.kc]):=by show _=_;unfold aj.val;rw[HTL.out]
 have hw1:w.heap.size<W1.heap.size:=K1.out.sz
 have hne:¬ w.heap.size=W1.heap.size:=by omega
 have u0:=K1.out.cell 0 _ rfl
 have u4:=K1.out.cell 4 _ rfl
 rw[htl] at hW1 u4
 rw[KV.out]
 clear tk hA hg htl
 go_enter Tryz.func199,Tryz.ntmps199
 go_upto_region 5 with(fail)
 clear hW1
 go_region
 obtain⟨W2,hW2⟩:∃ W2,(W1.alloc (.cells #[.pointer (some ⟨g,0,none⟩),.int .i64 tl] 299)).drew=W2:=⟨_,rfl⟩
 have B2:Hid (Below W1.heap.size W1 W2):=by rw[←hW2];exact lu ((Below.refl W1.heap.size W1).alloc lr _)
 have K2:Hid (ax W2 W1.heap.size [.pointer (some ⟨g,0,none⟩),.int .i64 tl]):=by rw[←hW2];exact(ax.new W1 [.pointer (some ⟨g,0,none⟩),.int .i64 tl] _).drew
 have BW:Hid (Below w.heap.size w W2):=aq B1.out B2.out
 have KB:=ae (K1.out.below B2.out)
 have M2:=ae (HM.out.below BW.out)
 have O2:=ae (HO.out.low BW.out)
 have hbw:b<w.heap.size:=HM.out.map.lt
 rw[hW2]
 clear hW2 u0 u4 hix3 hw1 hne o0 o1 o2 l1
 have v0:=K2.out.cell 0 _ rfl
 have v1:=K2.out.cell 1 _ rfl
 have u4:=KB.out.cell 4 _ rfl
 rw[HTL.out] at u4
 have hlook:=M2.out.map.look O2.out HTK.out
 rw[KEY.out] at hlook
 rcases hlook with hlk | ⟨p,hp,hpk,hlk⟩
 ·go_wp2_with fail
  clear hlk v0 v1 u4
  go_loopw [8,36] (fun sv iv wr=>∃ (i s:Nat) (ms:List (aj×Nat)),sv=.int .i64 s∧iv=.int .i64 i∧i≤tl∧s≤64∧Hid (s=cE (T.kids.take i))∧Hid (uY wr b ms)∧Hid (bB wr 0 none T)∧Hid (ax wr W1.heap.size [.pointer (some ⟨g,0,none⟩),.int .i64 tl])∧Hid (w.grownBy wr (some b))) (fun _ iv _=>tl-(intOf iv).toNat)
  case atStart=>exact⟨0,0,ms,rfl,rfl,z0,by omega,by simp[Hid,cE],M2,O2,K2,dj BW.out _⟩
  case round=>
   clear M2 O2 BW KB
   obtain⟨i,s,ms,rfl,rfl,hi,hs,HSM,HM2,HO2,HK2,HG⟩:=hrel
   by_cases hlt:i<tl
   ·obtain⟨t,ht⟩:∃ t,T.kids[i]?=some t:=⟨_,gG (by rw[HTL.out];exact hlt)⟩
    have htm:Hid (t∈T.kids):=gM ht
    obtain⟨b',off,hA,he⟩:=HO2.out.rd.cell i t ht
    have e0:=he 0 _ rfl
    have e1:=he 1 _ rfl
    have e2:=he 2 _ rfl
    have e3:=he 3 _ rfl
    have e4:=he 4 _ rfl
    simp only[Nat.add_zero] at e0
    have hix:=fun W=>aI (T:=177) (E:=179) (sz:=5) (c:=T.kc) Tryz.underlying177 rfl Tryz.sizeOf179 hA hlt W
    have SM:Hid (s+t.cnt=cE (T.kids.take (i+1))):=by show _=_;rw[vY ht,HSM.out]
    have hs2:s+t.cnt≤64:=by have h1:=SM.out;have h2:=iu T.kids (i+1);have:=HC.out;have:=CN.out;omega
    obtain⟨W3,hW3⟩:∃ W3,wr.alloc (.cells #[.string t.op,.string t.nm,.int .i64 t.aop,.string t.ver,.slice t.ka t.kids.length t.kc] 179)=W3:=⟨_,rfl⟩
    have B3:Hid (Below wr.heap.size wr W3):=by rw[←hW3];exact bR.alloc lr _
    have M3:=ae (HM2.out.below B3.out)
    have O3:=ae (HO2.out.low B3.out)
    have hcall:=HIH.out t (Jr htm.out) W3 b ms M3.out (O3.out.kids t htm.out) (HS.out.kids t htm.out) (by omega)
    unfold aj.val at hcall
    have K3:Hid (ax W3 wr.heap.size t.cells):=by rw[←hW3];exact ax.new wr t.cells _
    have a0:=K3.out.cell 0 _ rfl
    have a1:=K3.out.cell 1 _ rfl
    have a2:=K3.out.cell 2 _ rfl
    have a3:=K3.out.cell 3 _ rfl
    have a4:=K3.out.cell 4 _ rfl
    clear ht hA he
    go_wp2_with fail
    refine hcall.mono ?_;rintro e w4 ⟨rfl,hg,ms',hm'⟩
    have K4:=ae ((HK2.out.below B3.out).grownBy hg (by simp;have:=B2.out.size;have:=hbw;have:=B1.out.size;omega))
    have O4:=ae (O3.out.tame (.map M3.out.map) hg)
    have M4:=ae hm'
    have G4:=ae (ai (li HG.out B3.out) hg)
    clear hW3 hcall hg hm' a0 a1 a2 a3 a4 e0 e1 e2 e3 e4 hix
    go_wp2_with fail
    go_roundw
    case rel=>exact⟨i+1,s+t.cnt,ms',by congr 1;omega,by go_num,by omega,hs2,SM,M4,O4,K4,G4⟩
    case measure=>simp[intOf];omega
   ·have E:Hid (T.cnt=s):=by show _=_;rw[HSM.out,tL (by rw[HTL.out];omega),CN.out]
    obtain⟨w1,ms',r1,k1,g1,z1,f1,-,-⟩:=HM2.out.map.put HO2.out HTK.out s
    rw[KEY.out] at r1
    have M5:Hid (uY w1 b ms'):=⟨k1,fun p hp=>by
     rcases f1 p hp with⟨q,hq,rfl⟩ | ⟨h1,h2⟩
     ·exact HM2.out.val q hq
     ·rw[h1,h2,←CN.out,E.out]⟩
    have G5:=ae (ai HG.out g1)
    have v0:=HK2.out.cell 0 _ rfl
    have v1:=HK2.out.cell 1 _ rfl
    clear k1 g1 z1 f1
    go_wp2_with fail
    go_ret
    exact⟨ap (by rw[E.out]),G5.out,ms',M5.out⟩
 ·have E:Hid (p.2=T.cnt):=by show _=_;rw[CN.out,M2.out.val p hp,hpk]
  have G2:=ae (dj BW.out (some b))
  clear hp hpk
  go_wp2_with fail
  go_ret
  exact⟨ap (by rw[E.out]),G2.out,ms,M2.out⟩
theorem CC (T:aj):O8 T:=by
 have:∀ n:Nat,∀ T:aj,T.ht<n→O8 T:=by
  intro n
  induction n with
  | zero=>intro T h;omega
  | succ n ih=>intro T h;exact Ju T fun t ht=>ih t (by omega)
 exact this (T.ht+1) T (by omega)
theorem tE (nm:BA)(aop:Nat)(ver:BA)(hn:dq (bl nm)=true)(ho:aop≤5)(hv0:aop=0→ver.size=0)(hv:0<aop→cG 2 ver=0)(w:World)(hG:Gl w):
  Calls Tryz.prog 228 #[.agg #[.string ⟨#[]⟩,.string nm,.int .i64 aop,.string ver,.slice none 0 0]] w fun e w'=>e=.returned (.int .i64 0)∧Below w.heap.size w w':=by
 have hnz:=lT hn
 have hN:=fun W=>lW nm W (by omega)
 rw[hn] at hN
 have HG:=ae hG
 have HV0:=ae hv0
 have HV:=ae hv
 clear hn hv0 hv hG
 obtain⟨W1,hW1⟩:∃ W1,w.alloc (.cells #[.string ⟨#[]⟩,.string nm,.int .i64 aop,.string ver,.slice none 0 0] 179)=W1:=⟨_,rfl⟩
 have B1:Hid (Below w.heap.size w W1):=by rw[←hW1];exact bR.alloc lr _
 have K1:Hid (ax W1 w.heap.size [.string ⟨#[]⟩,.string nm,.int .i64 aop,.string ver,.slice none 0 0]):=by rw[←hW1];exact ax.new w [.string ⟨#[]⟩,.string nm,.int .i64 aop,.string ver,.slice none 0 0] _
 have k1:=K1.out.cell 1 _ rfl
 have k2:=K1.out.cell 2 _ rfl
 have k3:=K1.out.cell 3 _ rfl
 have k4:=K1.out.cell 4 _ rfl
 by_cases a0:aop=0
 ·have he:ver.toList=[]:=by rw[ah,bG ver (HV0.out a0)]
  have he2:ver.toList.isEmpty=true:=by rw[he];rfl
  subst a0
  go_enter Tryz.func228,Tryz.ntmps228
  go_wp2_with fail
  refine(hN _).mono ?_;rintro e w' ⟨rfl,rfl⟩
  go_wp2_with fail
  go_ret
  exact⟨rfl,bR.alloc lr _⟩
 ·have hvv:=HV.out (by omega)
  have q0:((aop:Int)==0)=false:=by simp;omega
  have q1:decide ((aop:Int)<0)=false:=dF (by omega)
  have q2:decide ((5:Int)<(aop:Int))=false:=dF (by omega)
  have q3:decide (5<aop)=false:=dF (by omega)
  have hvz:=tj hvv
  have hC:=aQ 2 ver W1 (HG.out.below B1.out) (by omega)
  rw[hvv] at hC
  clear a0 hvv hvz
  go_enter Tryz.func228,Tryz.ntmps228
  go_wp2_with fail
  refine(hN _).mono ?_;rintro e w' ⟨rfl,rfl⟩
  go_wp2_with fail
  refine hC.mono ?_;rintro e w2 ⟨rfl,hb⟩
  have B2:=ae (aq B1.out hb)
  clear hb
  go_wp2_with fail
  go_ret
  exact⟨rfl,B2.out⟩
theorem qK (w:World):
  Calls Tryz.prog 228 #[.agg #[.string ⟨#[]⟩,.string ⟨#[]⟩,.int .i64 0,.string ⟨#[]⟩,.slice none 0 0]] w fun e w'=>e=.returned (.int .i64 10)∧Below w.heap.size w w':=by
 have hN:=fun W=>lW ⟨#[]⟩ W (by decide)
 rw[show dq (bl ⟨#[]⟩)=false from by rfl] at hN
 have B1:Hid (Below w.heap.size w (w.alloc (.cells #[.string ⟨#[]⟩,.string ⟨#[]⟩,.int .i64 0,.string ⟨#[]⟩,.slice none 0 0] 179))):=bR.alloc lr _
 go_enter Tryz.func228,Tryz.ntmps228
 go_wp2_with fail
 refine(hN _).mono ?_;rintro e w' ⟨rfl,rfl⟩
 go_wp2_with fail
 go_ret
 exact⟨rfl,B1.out⟩
theorem zN (w:World):
  Calls Tryz.prog 200 #[.agg #[.string ⟨#[]⟩,.string ⟨#[]⟩,.int .i64 0,.string ⟨#[]⟩,.slice none 0 0]] w fun e w'=>e=.returned (.int .i64 10)∧Below w.heap.size w w':=by
 have B1:Hid (Below w.heap.size w (w.alloc (.cells #[.string ⟨#[]⟩,.string ⟨#[]⟩,.int .i64 0,.string ⟨#[]⟩,.slice none 0 0] 179))):=bR.alloc lr _
 go_enter Tryz.func200,Tryz.ntmps200
 go_wp2_with fail
 refine(qK _).mono ?_;rintro e w2 ⟨rfl,hb⟩
 have B2:=ae (aq B1.out hb)
 clear hb
 go_wp2_with fail
 go_ret
 exact⟨rfl,B2.out⟩
def Pp (T:aj):Prop:=∀ w:World,Gl w→bB w 0 none T→T.cnt≤64→Calls Tryz.prog 200 #[T.val] w fun e w'=>e=.returned (.int .i64 0)∧Below w.heap.size w w'
theorem CJ {T:aj}(h:fy T):Pp T:=by
 induction h with
 | atom nm aop ver hn ho hv0 hv=>
  intro w hG _ _
  have hA:=fun W hW=>tE nm aop ver hn ho hv0 hv W hW
  have HG:=ae hG
  clear hn ho hv0 hv hG
  obtain⟨W1,hW1⟩:∃ W1,w.alloc (.cells #[.string ⟨#[]⟩,.string nm,.int .i64 aop,.string ver,.slice none 0 0] 179)=W1:=⟨_,rfl⟩
  have B1:Hid (Below w.heap.size w W1):=by rw[←hW1];exact bR.alloc lr _
  have K1:Hid (ax W1 w.heap.size [.string ⟨#[]⟩,.string nm,.int .i64 aop,.string ver,.slice none 0 0]):=by rw[←hW1];exact ax.new w [.string ⟨#[]⟩,.string nm,.int .i64 aop,.string ver,.slice none 0 0] _
  have k0:=K1.out.cell 0 _ rfl
  have k1:=K1.out.cell 1 _ rfl
  have k2:=K1.out.cell 2 _ rfl
  have k3:=K1.out.cell 3 _ rfl
  have k4:=K1.out.cell 4 _ rfl
  show Calls Tryz.prog 200 #[.agg #[.string ⟨#[]⟩,.string nm,.int .i64 aop,.string ver,.slice none 0 0]] w _
  go_enter Tryz.func200,Tryz.ntmps200
  go_wp2_with fail
  refine(hA _ (HG.out.below B1.out)).mono ?_;rintro e w2 ⟨rfl,hb⟩
  have B2:=ae (aq B1.out hb)
  clear hb
  go_wp2_with fail
  go_ret
  exact⟨rfl,B2.out⟩
 | node op ka kc kids ho hc hk ih=>
  intro w hG hO hcn
  have HG:=ae hG
  have HO:=ae hO
  have HIH:=ae ih
  have hw:=(kq ho).1
  have o0:(op.toList==([]:LU))=false:=by rw[ah,bF];exact hw
  have o2:¬ op.toList=[]:=by rw[ah];exact hw
  have o1:op.toList.isEmpty=false:=by rw[List.isEmpty_eq_false_iff];exact o2
  obtain⟨tl,htl⟩:∃ tl,kids.length=tl:=⟨_,rfl⟩
  have HTL:=ae htl
  obtain⟨W1,hW1⟩:∃ W1,w.alloc (.cells #[.string op,.string ⟨#[]⟩,.int .i64 0,.string ⟨#[]⟩,.slice ka tl kc] 179)=W1:=⟨_,rfl⟩
  have B1:Hid (Below w.heap.size w W1):=by rw[←hW1];exact bR.alloc lr _
  have K1:Hid (ax W1 w.heap.size [.string op,.string ⟨#[]⟩,.int .i64 0,.string ⟨#[]⟩,.slice ka tl kc]):=by rw[←hW1];exact ax.new w [.string op,.string ⟨#[]⟩,.int .i64 0,.string ⟨#[]⟩,.slice ka tl kc] _
  have k0:=K1.out.cell 0 _ rfl
  have k1:=K1.out.cell 1 _ rfl
  have k2:=K1.out.cell 2 _ rfl
  have k3:=K1.out.cell 3 _ rfl
  have k4:=K1.out.cell 4 _ rfl
  have hK:=tv op W1 (HG.out.below B1.out)
  rw[ho] at hK
  have hC:=qf op tl W1
  rw[←htl,hc,htl] at hC
  have O1:Hid (bB W1 0 none (.mk op ⟨#[]⟩ 0 ⟨#[]⟩ ka kc kids)):=HO.out.low B1.out
  have CNE:=ae (eZ (t:=.mk op ⟨#[]⟩ 0 ⟨#[]⟩ ka kc kids) (by have:=kp hc;intro e;simp only[aj.kids] at e;rw[e] at this;simp at this))
  have HCN:Hid (cE kids≤64):=by have h1:=CNE.out;simp only[aj.kids] at h1;show _≤_;omega
  have htl9:tl≤64:=by have h1:=fR kids;have:=HCN.out;omega
  clear ho hc hk ih hG hO hw htl hcn CNE
  show Calls Tryz.prog 200 #[.agg #[.string op,.string ⟨#[]⟩,.int .i64 0,.string ⟨#[]⟩,.slice ka kids.length kc]] w _
  rw[HTL.out]
  go_enter Tryz.func200,Tryz.ntmps200
  go_wp2_with fail
  refine hK.mono ?_;rintro e w' ⟨rfl,rfl⟩
  go_wp2_with fail
  refine hC.mono ?_;rintro e w' ⟨rfl,rfl⟩
  clear hK hC
  go_wp2_with fail
  clear k0 k1 k2 k3 k4
  go_loopw [2,29] (fun rv iv wr=>∃ i:Nat,rv=.int .i64 0∧iv=.int .i64 i∧i≤tl∧Hid (Below w.heap.size w wr)) (fun _ iv _=>tl-(intOf iv).toNat)
  case atStart=>exact⟨0,rfl,rfl,z0,B1⟩
  case round=>
   obtain⟨i,rfl,rfl,hi,HB⟩:=hrel
   by_cases hlt:i<tl
   ·obtain⟨t,ht⟩:∃ t,kids[i]?=some t:=⟨_,gG (by rw[HTL.out];exact hlt)⟩
    have htm:Hid (t∈kids):=gM ht
    have O2:=HO.out.low HB.out
    obtain⟨b',off,hA,he⟩:=O2.rd.cell i t ht
    have e0:=he 0 _ rfl
    have e1:=he 1 _ rfl
    have e2:=he 2 _ rfl
    have e3:=he 3 _ rfl
    have e4:=he 4 _ rfl
    simp only[Nat.add_zero] at e0
    have hix:=fun W=>aI (T:=177) (E:=179) (sz:=5) (n:=tl) (c:=kc) (A:=ka) Tryz.underlying177 rfl Tryz.sizeOf179 hA hlt W
    obtain⟨W3,hW3⟩:∃ W3,wr.alloc (.cells #[.string t.op,.string t.nm,.int .i64 t.aop,.string t.ver,.slice t.ka t.kids.length t.kc] 179)=W3:=⟨_,rfl⟩
    have B3:Hid (Below wr.heap.size wr W3):=by rw[←hW3];exact bR.alloc lr _
    have K3:Hid (ax W3 wr.heap.size t.cells):=by rw[←hW3];exact ax.new wr t.cells _
    have B4:=ae (aq HB.out B3.out)
    have hcall:=HIH.out t htm.out W3 (HG.out.below B4.out) ((O2.low B3.out).kids t htm.out) (by have h1:=iX htm.out;have:=HCN.out;omega)
    unfold aj.val at hcall
    have a0:=K3.out.cell 0 _ rfl
    have a1:=K3.out.cell 1 _ rfl
    have a2:=K3.out.cell 2 _ rfl
    have a3:=K3.out.cell 3 _ rfl
    have a4:=K3.out.cell 4 _ rfl
    clear ht hA he O2
    go_wp2_with fail
    refine hcall.mono ?_;rintro e w4 ⟨rfl,hb⟩
    have B5:=ae (aq B4.out hb)
    clear hW3 hcall hb e0 e1 e2 e3 e4 hix a0 a1 a2 a3 a4
    go_wp2_with fail
    go_roundw
    case rel=>exact⟨i+1,rfl,by go_num,by omega,B5⟩
    case measure=>simp[intOf];omega
   ·go_wp2_with fail
    go_ret
    exact⟨rfl,HB.out⟩
theorem ly (T:aj)(c:Int)(hS:dL T)(hcn:T.cnt≤64)(hht:T.ht≤32)(w:World)(hG:Gl w)(hO:bB w 0 none T)
  (hch:∀ W,Gl W→bB W 0 none T→Calls Tryz.prog 200 #[T.val] W fun e w'=>e=.returned (.int .i64 c)∧Below W.heap.size W w'):
  Calls Tryz.prog 162 #[T.val] w fun e w'=>e=.returned (.int .i64 c)∧Below w.heap.size w w':=by
 have hmm:=@run_makeMap Tryz.prog
 have HG:=ae hG
 have HO:=ae hO
 have HCH:=ae hch
 obtain⟨W1,hW1⟩:∃ W1,w.alloc (.cells #[.string T.op,.string T.nm,.int .i64 T.aop,.string T.ver,.slice T.ka T.kids.length T.kc] 179)=W1:=⟨_,rfl⟩
 have B1:Hid (Below w.heap.size w W1):=by rw[←hW1];exact bR.alloc lr _
 have K1:Hid (ax W1 w.heap.size T.cells):=by rw[←hW1];exact ax.new w T.cells _
 have k0:=K1.out.cell 0 _ rfl
 have k1:=K1.out.cell 1 _ rfl
 have k2:=K1.out.cell 2 _ rfl
 have k3:=K1.out.cell 3 _ rfl
 have k4:=K1.out.cell 4 _ rfl
 have hD:=Cz T W1 (HO.out.low B1.out) hS hcn (by omega)
 have HA:Hid (∀ (W:World)(b:Nat)(ms:List (aj×Nat)),uY W b ms→bB W 0 none T→Calls Tryz.prog 199 #[T.val,.map (some b)] W fun e w'=>e=.returned (.int .i64 T.cnt)∧W.grownBy w' (some b)∧∃ ms',uY w' b ms'):=fun W b ms h1 h2=>CC T W b ms h1 h2 hS hcn
 clear hS hG hO hch
 unfold aj.val at *
 go_enter Tryz.func162,Tryz.ntmps162
 go_wp2_with fail
 clear hW1
 refine hD.mono ?_;rintro e w2 ⟨⟨r,rfl,hr⟩,hb⟩
 have B2:=ae (aq B1.out hb)
 have K2:=ae (K1.out.below hb)
 clear hb k0 k1 k2 k3 k4
 have k0:=K2.out.cell 0 _ rfl
 have k1:=K2.out.cell 1 _ rfl
 have k2:=K2.out.cell 2 _ rfl
 have k3:=K2.out.cell 3 _ rfl
 have k4:=K2.out.cell 4 _ rfl
 have q1:decide ((32:Int)<(r:Int))=false:=dF (by omega)
 have q2:decide (32<r)=false:=dF (by omega)
 obtain⟨W3,hW3⟩:∃ W3,w2.alloc (.map #[] 0)=W3:=⟨_,rfl⟩
 have M3:Hid (uY W3 w2.heap.size []):=by rw[←hW3];exact⟨er.made w2,by simp⟩
 have B3:Hid (Below w2.heap.size w2 W3):=by rw[←hW3];exact bR.alloc lr _
 have B4:=ae (aq B2.out B3.out)
 have hA:=HA.out W3 w2.heap.size [] M3.out (HO.out.low B4.out)
 have q3:decide ((64:Int)<(T.cnt:Int))=false:=dF (by omega)
 have q4:decide (64<T.cnt)=false:=dF (by omega)
 go_wp2_with fail
 refine hA.mono ?_;rintro e w4 ⟨rfl,hg,ms',hm⟩
 have K4:=ae ((K2.out.below B3.out).grownBy hg (by simp;have:=K2.out.sz;omega))
 have B5:=ae (eD B4.out hg B2.out.size)
 clear hW3 hg hm k0 k1 k2 k3 k4 hA
 have k0:=K4.out.cell 0 _ rfl
 have k1:=K4.out.cell 1 _ rfl
 have k2:=K4.out.cell 2 _ rfl
 have k3:=K4.out.cell 3 _ rfl
 have k4:=K4.out.cell 4 _ rfl
 go_wp2_with fail
 refine(HCH.out w4 (HG.out.below B5.out) (HO.out.low B5.out)).mono ?_;rintro e w5 ⟨rfl,hb⟩
 have B6:=ae (aq B5.out hb)
 clear hb
 go_wp2_with fail
 go_ret
 exact⟨rfl,B6.out⟩
end
end Go.Proofs.YtaohgmcbpafdeaaGreatDoor
