/- A part of the proof. -/
import Derived.Test.YtlglfpbhapmhiaaGreatDoorL19
import Derived.Test.YtlglfpbhapmhiaaGreatDoorL20
set_option maxRecDepth 100000
set_option maxHeartbeats 20000000
set_option linter.unusedVariables false
set_option linter.unusedSimpArgs false
namespace Go.Proofs.YtlglfpbhapmhiaaGreatDoor
section
open Go.RowKit Go.Deep
theorem Sj (s p:BA)(w:World):Calls Tryz.prog 236 #[.string s,.string p] w fun e w'=>e=.returned (.string (bU (Lib.trimPrefix (bl s) (bl p))))/\w=w':=
 (Tryz.strings_TrimPrefix s p w).mono fun _ _ ⟨he,hw⟩=>⟨he,hw.symm⟩
structure cU.okT (t:cU):Prop where
 nm:fg (bl t.nm)=true
 qual:t.qual.size=0\/dI (bl t.qual)=true
 archs:∀ x∈t.archs,dI (cE (bl x))=true
 op:t.op<=5
 ver0:t.op=0->t.ver.size=0
 ver:0<t.op->dm 1 t.ver=0
 nmz:t.nm.size<=64
 qualz:t.qual.size<=32
 verz:t.ver.size<=64
 archz:∀ x∈t.archs,x.size<=33
 few:t.archs.length<=1000000
theorem cU.okT_of {t:cU}(h:t.pl.good):t.okT:=by
 have p:=h.parts;have z:=h.sizes;refine⟨p.nm,?_,fun x hx=>p.archs (bl x) (List.mem_map.2 ⟨x,hx,rfl⟩),h.op,fun h0=>?_,fun h0=>?_,?_,?_,?_,fun x hx=>?_,?_⟩
 ·rcases p.qual with h0 | h0
  ·left;rw[<-ah];exact List.length_eq_zero_iff.2 h0
  ·exact .inr h0
 ·rw[<-ah];exact List.length_eq_zero_iff.2 (h.ver h0)
 ·have:=p.ver h0;rwa [show bU t.pl.ver=t.ver from oz _] at this
 ·rw[<-ah];exact z.nm
 ·rw[<-ah];exact z.qual
 ·rw[<-ah];exact z.ver
 ·rw[<-ah];exact z.archs (bl x) (List.mem_map.2 ⟨x,hx,rfl⟩)
 ·have:=h.few;simpa [cU.pl] using this
theorem Fj (t:cU)(h:t.okT)(w:World)(hG:Gl w)(hr:Rd w 1 t.aa t.archs.length (ay t.archs)):Calls Tryz.prog 206 #[t.val] w fun e w'=>e=.returned (.int .i64 0)/\Below w.heap.size w w':=by
 unfold cU.val;obtain⟨h1,h2,h3,h4,h5,h6,h7,h8,h9,h10,h11⟩:=h;have HG:=ae hG;have HR:=ae hr;have hN:=fun W=>nG t.nm W (by omega);rw[h1] at hN;have HA:=ae h3;have HZ:=ae h10;have H5:=ae h5;have H6:=ae h6;clear hG hr h1 h3 h10 h5 h6;obtain⟨nm,op,ver,qual,aa,ac,archs⟩:=t;simp only at *;obtain⟨W1,hW1⟩:∃ W1,w.alloc (.cells #[.string nm,.int .i64 op,.string ver,.string qual,.slice aa archs.length ac] 211)=W1:=⟨_,rfl⟩
 have K1:Hid (ax W1 w.heap.size [.string nm,.int .i64 op,.string ver,.string qual,.slice aa archs.length ac]):=by rw[<-hW1];exact ax.new w _ _
 have B1:Hid (Below w.heap.size w W1):=by rw[<-hW1];exact bR.alloc lr _
 obtain⟨c0,c1,c2,c3,c4,f0,f1,f2,f3,f4⟩:=K1.out.five;clear f0 f1 f2 f3 f4;go_in;go_upto_region 1 with(fail)
 clear hW1;go_cut [20] (fun v wx=>v=.bool false/\W1=wx)
 case first=>
  by_cases q0:qual.size=0
  ·have he:qual.toList=[]:=by rw[aj,bX qual q0]
   have he2:qual.toList.isEmpty=true:=by rw[he];rfl
   go_wp2_with fail;refine(hN _).mono ?_;rintro e w' ⟨rfl,rfl⟩;go_wp2;go_meet;exact⟨rfl,rfl⟩
  ·have he2:qual.toList.isEmpty=false:=by rw[aj,bj];exact dF q0
   have he:¬ qual.toList=[]:=by intro h;rw[h] at he2;simp at he2
   have hW:=fun W=>qT qual W (by omega);rw[h2.resolve_left q0] at hW;go_wp2_with fail;refine(hN _).mono ?_;rintro e w' ⟨rfl,rfl⟩;go_wp2_with fail;refine(hW _).mono ?_;rintro e w' ⟨rfl,rfl⟩;go_wp2;go_meet;exact⟨rfl,rfl⟩
 case rest=>
 obtain⟨rfl,rfl⟩:=hcut;clear h2 hN;go_wp2;go_loop [24] (fun i=>∃ k:Nat,k<=archs.length/\i=.int .i64 k) (fun i=>archs.length-(intOf i).toNat)
 case atStart=>exact⟨0,z0,rfl⟩
 case round=>
  obtain⟨k,hk,rfl⟩:=hrel;by_cases hlt:k<archs.length
  ·obtain⟨x,hx⟩:∃ x,archs[k]?=some x:=⟨_,gG hlt⟩
   obtain⟨b,off,hA,he⟩:=(HR.out.below B1.out).str k x hx;have hix:=fun W=>aB (T:=22) (E:=9) (sz:=1) (c:=ac) Tryz.underlying22 rfl Tryz.sizeOf9 hA hlt W;simp only[Nat.mul_one] at hix;have hT:=fun W=>Sj x ⟨#[33]⟩ W;rw[show bl ⟨#[33]⟩=[33] from rfl,yj] at hT;have hxz:=HZ.out x (gM hx);have hW:=fun W=>qT (bU (cE (bl x))) W (by rw[cA];have:=yq (bl x);rw[ah] at this;omega);rw[fA,HA.out x (gM hx)] at hW;clear hx hA;go_wp2_with fail;refine(hT _).mono ?_;rintro e w' ⟨rfl,rfl⟩;go_wp2_with fail;refine(hW _).mono ?_;rintro e w' ⟨rfl,rfl⟩;go_wp2;go_round
   case rel=>exact⟨k+1,by omega,by go_num⟩
   case measure=>simp[intOf];omega
  ·by_cases o0:op=0
   ·have hv:=H5.out o0;have he:ver.toList=[]:=by rw[aj,bX ver hv]
    have he2:ver.toList.isEmpty=true:=by rw[he];rfl
    subst o0;clear hv;go_wp2;go_ret;exact⟨rfl,B1.out⟩
   ·have hv:=H6.out (by omega);have o1:decide ((op:Int)<0)=false:=dF (by omega);have o2:decide ((5:Int)<(op:Int))=false:=dF (by omega);have o3:((op:Int)==0)=false:=by simp;omega
    have hC:=fun W hW=>aZ 1 ver W hW (by omega);rw[hv] at hC;clear hv o0;go_wp2_with fail;refine(hC _ (HG.out.below B1.out)).mono ?_;rintro e w1 ⟨rfl,hb1⟩;have B2:Hid (Below w.heap.size w w1):=aq B1.out hb1;clear hb1;go_wp2;go_ret;exact⟨rfl,B2.out⟩
theorem zR {gs:List bM}{k:Nat}{g:bM}(h:gs[k]?=some g):(gs.map bM.sl)[k]?=some (.slice g.ga g.ts.length g.gc):=by rw[List.getElem?_map,h];rfl
theorem Rd.one {w:World}{A:OA}{n:Nat}{xs:LV}(h:Rd w 1 A n xs)(i:Nat)(v:Value)(hi:xs[i]?=some v)(hn:i<n):
  ∃ b off,A=some ⟨b,off,none⟩/\w.cell? ⟨b,off+i,none⟩=some v:=by
 obtain⟨b,off,e,hc⟩:=h.2 (by omega);exact⟨b,off,e,hc i _ hi⟩
def uR (l:List bM):Nat:=(l.map fun g=>g.ts.length).sum
theorem yt (l:List bM)(k:Nat)(g:bM)(h:l[k]?=some g):uR (l.take (k+1))=uR (l.take k)+g.ts.length:=by
 obtain⟨hk,hg⟩:=gS h;unfold uR;rw[tS hk,hg];simp
theorem OX (l:List bM)(k:Nat):uR (l.take k)<=uR l:=by
 conv=>rhs;rw[<-List.take_append_drop k l]
 unfold uR;rw[List.map_append,List.sum_append];omega
structure zS (gs:List bM):Prop where
 few:gs.length<=64
 sum:uR gs<=64
 ne:∀ g∈gs,0<g.ts.length
 len:∀ g∈gs,g.ts.length<=64
 ok:∀ g∈gs,∀ t∈g.ts,t.okT
theorem zS.of {gs:List bM}(h:mi (gs.map bM.pl)):zS gs:=by
 have e:((gs.map bM.pl).map List.length).sum=uR gs:=by unfold uR;rw[List.map_map];congr 1;apply List.map_congr_left;intro g _;simp[bM.pl]
 have hs:=h.sum;rw[e] at hs;refine⟨by have:=h.few;simpa using this,hs,fun g hg=>?_,fun g hg=>?_,fun g hg t ht=>?_⟩
 ·have:=h.ne g.pl (List.mem_map.2 ⟨g,hg,rfl⟩);rcases Nat.eq_zero_or_pos g.ts.length with h0 | h0
  ·exact absurd (by unfold bM.pl;rw[List.length_eq_zero_iff.1 h0];rfl) this
  ·exact h0
 ·have:=QY (L:=gs.map bM.pl) (g:=g.pl) (List.mem_map.2 ⟨g,hg,rfl⟩);rw[e] at this;unfold bM.pl at this;rw[List.length_map] at this;omega
 ·exact cU.okT_of (h.good g.pl (List.mem_map.2 ⟨g,hg,rfl⟩) t.pl (List.mem_map.2 ⟨t,ht,rfl⟩))
theorem Fk (A:OA)(c:Nat)(gs:List bM)(hW:zS gs)(w:World)(hG:Gl w)(hr:pX w A gs):Calls Tryz.prog 172 #[.slice A gs.length c] w fun e w'=>e=.returned (.int .i64 0)/\Below w.heap.size w w':=by
 have HG:=ae hG;have HR:=ae hr;have HW:=ae hW;have hfew:=hW.few;clear hG hr hW;go_in;go_wp2;go_loop [3,15] (fun n i=>∃ k m:Nat,k<=gs.length/\m<=64/\n=.int .i64 m/\i=.int .i64 k/\Hid (m=uR (gs.take k))) (fun _ i=>gs.length-(intOf i).toNat)
 case atStart=>exact⟨0,0,z0,by omega,rfl,rfl,rfl⟩
 case round=>
  obtain⟨k,m,hk,hm,rfl,rfl,HM⟩:=hrel;by_cases hlt:k<gs.length
  ·obtain⟨g,hg⟩:∃ g,gs[k]?=some g:=⟨_,gG hlt⟩
   obtain⟨b,off,hA,he⟩:=HR.out.row.one k _ (zR hg) hlt;have hix:=fun W=>aB (T:=164) (E:=209) (sz:=1) (c:=c) Tryz.underlying164 rfl Tryz.sizeOf209 hA hlt W;simp only[Nat.mul_one] at hix;have hgl:=HW.out.len g (gM hg);have hm2:m+g.ts.length<=64:=by have h1:=HM.out;have h2:=yt gs k g hg;have h3:=OX gs (k+1);have h4:=HW.out.sum;omega
   have HM2:Hid (m+g.ts.length=uR (gs.take (k+1))):=by have h1:=HM.out;have h2:=yt gs k g hg;show _=_;omega
   clear hg hA;generalize g.ts.length=gl at *;go_wp2;go_round
   case rel=>exact⟨k+1,m+gl,by omega,hm2,by go_num,by go_num,HM2⟩
   case measure=>simp[intOf];omega
  ·have hm3:decide ((64:Int)<(m:Int))=false:=dF (by omega);clear HM;go_wp2;go_loop [2,28] (fun s2 i=>∃ k:Nat,k<=gs.length/\s2=.int .i64 0/\i=.int .i64 k) (fun _ i=>gs.length-(intOf i).toNat)
   case atStart=>exact⟨0,z0,rfl,rfl⟩
   case round=>
    obtain⟨j,hj,rfl,rfl⟩:=hrel;by_cases hlt2:j<gs.length
    ·obtain⟨g,hg⟩:∃ g,gs[j]?=some g:=⟨_,gG hlt2⟩
     obtain⟨b,off,hA,he⟩:=HR.out.row.one j _ (zR hg) hlt2;have hix:=fun W=>aB (T:=164) (E:=209) (sz:=1) (c:=c) Tryz.underlying164 rfl Tryz.sizeOf209 hA hlt2 W;simp only[Nat.mul_one] at hix;have hgl:=HW.out.len g (gM hg);have hgp:=HW.out.ne g (gM hg);clear hg hA;generalize g.ts.length=gl at *;have hg0:((gl:Int)==0)=false:=by simp;omega
     go_wp2;go_round
     case rel=>exact⟨j+1,by omega,rfl,by go_num⟩
     case measure=>simp[intOf];omega
    ·go_wp2;go_loopw [2,38] (fun s2 i wr=>∃ k:Nat,k<=gs.length/\s2=.int .i64 0/\i=.int .i64 k/\Hid (Below w.heap.size w wr)) (fun _ i _=>gs.length-(intOf i).toNat)
     case atStart=>exact⟨0,z0,rfl,rfl,bR⟩
     case round=>
      obtain⟨i,hi,rfl,rfl,HB⟩:=hrel;by_cases hlt3:i<gs.length
      ·obtain⟨g,hg⟩:∃ g,gs[i]?=some g:=⟨_,gG hlt3⟩
       have HR1:=ae (HR.out.below HB.out);obtain⟨b,off,hA,he⟩:=HR1.out.row.one i _ (zR hg) hlt3;have hix:=fun W=>aB (T:=164) (E:=209) (sz:=1) (c:=c) Tryz.underlying164 rfl Tryz.sizeOf209 hA hlt3 W;simp only[Nat.mul_one] at hix;have hgl:=HW.out.len g (gM hg);have HRG:=ae (HR.out.grp g (gM hg));have HRA:=ae (HR.out.archs g (gM hg));have HTK:=ae (HW.out.ok g (gM hg));obtain⟨gl,hgle⟩:∃ gl,g.ts.length=gl:=⟨_,rfl⟩
       rw[hgle] at he hgl;have HGL:=ae hgle;clear hg hA hgle HR1;go_wp2_with fail;obtain⟨wo,rfl⟩:∃ wo:World,wo=wr:=⟨_,rfl⟩
       go_loopw [2,44] (fun s2 q wr=>∃ k:Nat,k<=gl/\s2=.int .i64 0/\q=.int .i64 k/\Hid (Below w.heap.size w wr)) (fun _ q _=>gl-(intOf q).toNat)
       case atStart=>exact⟨0,z0,rfl,rfl,HB⟩
       case round=>
        obtain⟨q,hq,rfl,rfl,HB1⟩:=hrel;by_cases hlt4:q<gl
        ·have HL4:Hid (q<g.ts.length):=by have:=HGL.out;show _<_;omega
         obtain⟨t,ht⟩:∃ t,g.ts[q]?=some t:=⟨_,gG HL4.out⟩
         obtain⟨b2,off2,hA2,he2⟩:=(HRG.out.below HB1.out).elem G9 q t ht;have e0:=he2 0 _ rfl;have e1:=he2 1 _ rfl;have e2:=he2 2 _ rfl;have e3:=he2 3 _ rfl;have e4:=he2 4 _ rfl;simp only[Nat.add_zero] at e0;have hix2:=fun W=>aB (T:=209) (E:=211) (sz:=5) (n:=gl) (c:=g.gc) Tryz.underlying209 rfl Tryz.sizeOf211 hA2 hlt4 W;have TK:=ae (HTK.out t (gM ht));have TA:=ae (HRA.out t (gM ht));have B2:=ae (HB1.out.alloc HB1.out.size (.cells #[.string t.nm,.int .i64 t.op,.string t.ver,.string t.qual,.slice t.aa t.archs.length t.ac] 211));clear ht he2 hA2 he hix;go_wp2_with fail;refine(Fj t TK.out _ (HG.out.below B2.out) (TA.out.below B2.out)).mono ?_;rintro e w2 ⟨rfl,hb2⟩;have B3:Hid (Below w.heap.size w w2):=aq B2.out hb2;clear hb2 e0 e1 e2 e3 e4 hix2;go_wp2;go_roundw
         case rel=>exact⟨q+1,by omega,rfl,by go_num,B3⟩
         case measure=>simp[intOf];omega
        ·go_wp2;go_roundw
         case rel=>exact⟨i+1,by omega,rfl,by go_num,HB1⟩
         case measure=>simp[intOf];omega
      ·go_wp2;go_ret;exact⟨rfl,HB.out⟩
end
end Go.Proofs.YtlglfpbhapmhiaaGreatDoor
