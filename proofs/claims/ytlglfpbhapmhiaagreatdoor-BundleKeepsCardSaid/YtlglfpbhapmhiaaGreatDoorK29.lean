/- A part of the proof. -/
import Derived.Test.YtlglfpbhapmhiaaGreatDoorK26
import Derived.Test.YtlglfpbhapmhiaaGreatDoorK28
set_option maxRecDepth 100000
set_option maxHeartbeats 20000000
set_option linter.unusedVariables false
set_option linter.unusedSimpArgs false
namespace Go.Proofs.YtlglfpbhapmhiaaGreatDoor
section
open Go.RowKit Go.Deep
theorem My (s p:BA)(w:World):Calls Tryz.prog 236 #[.string s,.string p] w fun e w'=>e=.returned (.string (bG (Lib.trimPrefix (bl s) (bl p))))∧w=w':=
 (Tryz.strings_TrimPrefix s p w).mono fun _ _ ⟨he,hw⟩=>⟨he,hw.symm⟩
structure cy.okT (t:cy):Prop where
 nm:dX (bl t.nm)=true
 qual:t.qual.size=0∨cQ (bl t.qual)=true
 archs:∀ x∈t.archs,cQ (bW (bl x))=true
 op:t.op≤5
 ver0:t.op=0→t.ver.size=0
 ver:0<t.op→cJ 1 t.ver=0
 nmz:t.nm.size≤64
 qualz:t.qual.size≤32
 verz:t.ver.size≤64
 archz:∀ x∈t.archs,x.size≤33
 few:t.archs.length≤1000000
theorem cy.okT_of {t:cy}(h:t.pl.good):t.okT:=by
 have p:=h.parts
 have z:=h.sizes
 refine⟨p.nm,?_,fun x hx=>p.archs (bl x) (List.mem_map.2 ⟨x,hx,rfl⟩),h.op,fun h0=>?_,fun h0=>?_,?_,?_,?_,fun x hx=>?_,?_⟩
 ·rcases p.qual with h0 | h0
  ·left;rw[←ah];exact List.length_eq_zero_iff.2 h0
  ·exact .inr h0
 ·rw[←ah];exact List.length_eq_zero_iff.2 (h.ver h0)
 ·have:=p.ver h0;rwa [show bG t.pl.ver=t.ver from mo _] at this
 ·rw[←ah];exact z.nm
 ·rw[←ah];exact z.qual
 ·rw[←ah];exact z.ver
 ·rw[←ah];exact z.archs (bl x) (List.mem_map.2 ⟨x,hx,rfl⟩)
 ·have:=h.few;simpa [cy.pl] using this
theorem AR (t:cy)(h:t.okT)(w:World)(hG:Gl w)(hr:Rd w 1 t.aa t.archs.length (az t.archs)):
  Calls Tryz.prog 206 #[t.val] w fun e w'=>e=.returned (.int .i64 0)∧Below w.heap.size w w':=by
 unfold cy.val
 obtain⟨h1,h2,h3,h4,h5,h6,h7,h8,h9,h10,h11⟩:=h
 have HG:=ae hG;have HR:=ae hr
 have hN:=fun W=>lD t.nm W (by omega)
 rw[h1] at hN
 have HA:=ae h3
 have HZ:=ae h10
 have H5:=ae h5
 have H6:=ae h6
 clear hG hr h1 h3 h10 h5 h6
 obtain⟨nm,op,ver,qual,aa,ac,archs⟩:=t
 simp only at *
 obtain⟨W1,hW1⟩:∃ W1,w.alloc (.cells #[.string nm,.int .i64 op,.string ver,.string qual,.slice aa archs.length ac] 211)=W1:=⟨_,rfl⟩
 have K1:Hid (av W1 w.heap.size [.string nm,.int .i64 op,.string ver,.string qual,.slice aa archs.length ac]):=by rw[←hW1];exact av.new w _ _
 have B1:Hid (Below w.heap.size w W1):=by rw[←hW1];exact bR.alloc lr _
 obtain⟨c0,c1,c2,c3,c4,f0,f1,f2,f3,f4⟩:=K1.out.five
 clear f0 f1 f2 f3 f4
 go_enter Tryz.func206,Tryz.ntmps206
 go_upto_region 1 with(fail)
 clear hW1
 go_cut [20] (fun v wx=>v=.bool false∧W1=wx)
 case first=>
  by_cases q0:qual.size=0
  ·have he:qual.toList=[]:=by rw[ai,bL qual q0]
   have he2:qual.toList.isEmpty=true:=by rw[he];rfl
   go_wp2_with fail
   refine(hN _).mono ?_;rintro e w' ⟨rfl,rfl⟩
   go_wp2_with fail
   go_meet
   exact⟨rfl,rfl⟩
  ·have he2:qual.toList.isEmpty=false:=by rw[ai,aY];exact dF q0
   have he:¬ qual.toList=[]:=by intro h;rw[h] at he2;simp at he2
   have hW:=fun W=>oN qual W (by omega)
   rw[h2.resolve_left q0] at hW
   go_wp2_with fail
   refine(hN _).mono ?_;rintro e w' ⟨rfl,rfl⟩
   go_wp2_with fail
   refine(hW _).mono ?_;rintro e w' ⟨rfl,rfl⟩
   go_wp2_with fail
   go_meet
   exact⟨rfl,rfl⟩
 case rest=>
 obtain⟨rfl,rfl⟩:=hcut
 clear h2 hN
 go_wp2_with fail
 go_loop [24] (fun i=>∃ k:Nat,k≤archs.length∧i=.int .i64 k) (fun i=>archs.length-(intOf i).toNat)
 case atStart=>exact⟨0,z0,rfl⟩
 case round=>
  obtain⟨k,hk,rfl⟩:=hrel
  by_cases hlt:k<archs.length
  ·obtain⟨x,hx⟩:∃ x,archs[k]?=some x:=⟨_,gG hlt⟩
   obtain⟨b,off,hA,he⟩:=(HR.out.below B1.out).str k x hx
   have hix:=fun W=>aH (T:=22) (E:=9) (sz:=1) (c:=ac) Tryz.underlying22 rfl Tryz.sizeOf9 hA hlt W
   simp only[Nat.mul_one] at hix
   have hT:=fun W=>My x ⟨#[33]⟩ W
   rw[show bl ⟨#[33]⟩=[33] from rfl,uO] at hT
   have hxz:=HZ.out x (gM hx)
   have hW:=fun W=>oN (bG (bW (bl x))) W (by rw[bV];have:=uW (bl x);rw[ah] at this;omega)
   rw[et,HA.out x (gM hx)] at hW
   clear hx hA
   go_wp2_with fail
   refine(hT _).mono ?_;rintro e w' ⟨rfl,rfl⟩
   go_wp2_with fail
   refine(hW _).mono ?_;rintro e w' ⟨rfl,rfl⟩
   go_wp2_with fail
   go_round
   case rel=>exact⟨k+1,by omega,by go_num⟩
   case measure=>simp[intOf];omega
  ·by_cases o0:op=0
   ·have hv:=H5.out o0
    have he:ver.toList=[]:=by rw[ai,bL ver hv]
    have he2:ver.toList.isEmpty=true:=by rw[he];rfl
    subst o0
    clear hv
    go_wp2_with fail
    go_ret
    exact⟨rfl,B1.out⟩
   ·have hv:=H6.out (by omega)
    have o1:decide ((op:Int)<0)=false:=dF (by omega)
    have o2:decide ((5:Int)<(op:Int))=false:=dF (by omega)
    have o3:((op:Int)==0)=false:=by simp;omega
    have hC:=fun W hW=>aU 1 ver W hW (by omega)
    rw[hv] at hC
    clear hv o0
    go_wp2_with fail
    refine(hC _ (HG.out.below B1.out)).mono ?_;rintro e w1 ⟨rfl,hb1⟩
    have B2:Hid (Below w.heap.size w w1):=ap B1.out hb1
    clear hb1
    go_wp2_with fail
    go_ret
    exact⟨rfl,B2.out⟩
theorem ww {gs:List bA}{k:Nat}{g:bA}(h:gs[k]?=some g):(gs.map bA.sl)[k]?=some (.slice g.ga g.ts.length g.gc):=by rw[List.getElem?_map,h];rfl
theorem Rd.one {w:World}{A:OA}{n:Nat}{xs:LV}(h:Rd w 1 A n xs)(i:Nat)(v:Value)(hi:xs[i]?=some v)(hn:i<n):
  ∃ b off,A=some ⟨b,off,none⟩∧w.cell? ⟨b,off+i,none⟩=some v:=by
 obtain⟨b,off,e,hc⟩:=h.2 (by omega)
 exact⟨b,off,e,hc i _ hi⟩
def rS (l:List bA):Nat:=(l.map fun g=>g.ts.length).sum
theorem uY (l:List bA)(k:Nat)(g:bA)(h:l[k]?=some g):rS (l.take (k+1))=rS (l.take k)+g.ts.length:=by
 obtain⟨hk,hg⟩:=gS h
 unfold rS;rw[tS hk,hg];simp
theorem JH (l:List bA)(k:Nat):rS (l.take k)≤rS l:=by
 conv=>rhs;rw[←List.take_append_drop k l]
 unfold rS;rw[List.map_append,List.sum_append];omega
structure wy (gs:List bA):Prop where
 few:gs.length≤64
 sum:rS gs≤64
 ne:∀ g∈gs,0<g.ts.length
 len:∀ g∈gs,g.ts.length≤64
 ok:∀ g∈gs,∀ t∈g.ts,t.okT
theorem wy.of {gs:List bA}(h:ko (gs.map bA.pl)):wy gs:=by
 have e:((gs.map bA.pl).map List.length).sum=rS gs:=by unfold rS;rw[List.map_map];congr 1;apply List.map_congr_left;intro g _;simp[bA.pl]
 have hs:=h.sum
 rw[e] at hs
 refine⟨by have:=h.few;simpa using this,hs,fun g hg=>?_,fun g hg=>?_,fun g hg t ht=>?_⟩
 ·have:=h.ne g.pl (List.mem_map.2 ⟨g,hg,rfl⟩)
  rcases Nat.eq_zero_or_pos g.ts.length with h0 | h0
  ·exact absurd (by unfold bA.pl;rw[List.length_eq_zero_iff.1 h0];rfl) this
  ·exact h0
 ·have:=Lw (L:=gs.map bA.pl) (g:=g.pl) (List.mem_map.2 ⟨g,hg,rfl⟩)
  rw[e] at this;unfold bA.pl at this;rw[List.length_map] at this;omega
 ·exact cy.okT_of (h.good g.pl (List.mem_map.2 ⟨g,hg,rfl⟩) t.pl (List.mem_map.2 ⟨t,ht,rfl⟩))
theorem AS (A:OA)(c:Nat)(gs:List bA)(hW:wy gs)(w:World)(hG:Gl w)(hr:nT w A gs):
  Calls Tryz.prog 172 #[.slice A gs.length c] w fun e w'=>e=.returned (.int .i64 0)∧Below w.heap.size w w':=by
 have HG:=ae hG;have HR:=ae hr;have HW:=ae hW
 have hfew:=hW.few
 clear hG hr hW
 go_enter Tryz.func172,Tryz.ntmps172
 go_wp2_with fail
 go_loop [3,15] (fun n i=>∃ k m:Nat,k≤gs.length∧m≤64∧n=.int .i64 m∧i=.int .i64 k∧Hid (m=rS (gs.take k))) (fun _ i=>gs.length-(intOf i).toNat)
 case atStart=>exact⟨0,0,z0,by omega,rfl,rfl,rfl⟩
 case round=>
  obtain⟨k,m,hk,hm,rfl,rfl,HM⟩:=hrel
  by_cases hlt:k<gs.length
  ·obtain⟨g,hg⟩:∃ g,gs[k]?=some g:=⟨_,gG hlt⟩
   obtain⟨b,off,hA,he⟩:=HR.out.row.one k _ (ww hg) hlt
   have hix:=fun W=>aH (T:=164) (E:=209) (sz:=1) (c:=c) Tryz.underlying164 rfl Tryz.sizeOf209 hA hlt W
   simp only[Nat.mul_one] at hix
   have hgl:=HW.out.len g (gM hg)
   have hm2:m+g.ts.length≤64:=by have h1:=HM.out;have h2:=uY gs k g hg;have h3:=JH gs (k+1);have h4:=HW.out.sum;omega
   have HM2:Hid (m+g.ts.length=rS (gs.take (k+1))):=by have h1:=HM.out;have h2:=uY gs k g hg;show _=_;omega
   clear hg hA
   generalize g.ts.length=gl at *
   go_wp2_with fail
   go_round
   case rel=>exact⟨k+1,m+gl,by omega,hm2,by go_num,by go_num,HM2⟩
   case measure=>simp[intOf];omega
  ·have hm3:decide ((64:Int)<(m:Int))=false:=dF (by omega)
   clear HM
   go_wp2_with fail
   go_loop [2,28] (fun s2 i=>∃ k:Nat,k≤gs.length∧s2=.int .i64 0∧i=.int .i64 k) (fun _ i=>gs.length-(intOf i).toNat)
   case atStart=>exact⟨0,z0,rfl,rfl⟩
   case round=>
    obtain⟨j,hj,rfl,rfl⟩:=hrel
    by_cases hlt2:j<gs.length
    ·obtain⟨g,hg⟩:∃ g,gs[j]?=some g:=⟨_,gG hlt2⟩
     obtain⟨b,off,hA,he⟩:=HR.out.row.one j _ (ww hg) hlt2
     have hix:=fun W=>aH (T:=164) (E:=209) (sz:=1) (c:=c) Tryz.underlying164 rfl Tryz.sizeOf209 hA hlt2 W
     simp only[Nat.mul_one] at hix
     have hgl:=HW.out.len g (gM hg)
     have hgp:=HW.out.ne g (gM hg)
     clear hg hA
     generalize g.ts.length=gl at *
     have hg0:((gl:Int)==0)=false:=by simp;omega
     go_wp2_with fail
     go_round
     case rel=>exact⟨j+1,by omega,rfl,by go_num⟩
     case measure=>simp[intOf];omega
    ·go_wp2_with fail
     go_loopw [2,38] (fun s2 i wr=>∃ k:Nat,k≤gs.length∧s2=.int .i64 0∧i=.int .i64 k∧Hid (Below w.heap.size w wr)) (fun _ i _=>gs.length-(intOf i).toNat)
     case atStart=>exact⟨0,z0,rfl,rfl,bR⟩
     case round=>
      obtain⟨i,hi,rfl,rfl,HB⟩:=hrel
      by_cases hlt3:i<gs.length
      ·obtain⟨g,hg⟩:∃ g,gs[i]?=some g:=⟨_,gG hlt3⟩
       have HR1:=ae (HR.out.below HB.out)
       obtain⟨b,off,hA,he⟩:=HR1.out.row.one i _ (ww hg) hlt3
       have hix:=fun W=>aH (T:=164) (E:=209) (sz:=1) (c:=c) Tryz.underlying164 rfl Tryz.sizeOf209 hA hlt3 W
       simp only[Nat.mul_one] at hix
       have hgl:=HW.out.len g (gM hg)
       have HRG:=ae (HR.out.grp g (gM hg))
       have HRA:=ae (HR.out.archs g (gM hg))
       have HTK:=ae (HW.out.ok g (gM hg))
       obtain⟨gl,hgle⟩:∃ gl,g.ts.length=gl:=⟨_,rfl⟩
       rw[hgle] at he hgl
       have HGL:=ae hgle
       clear hg hA hgle HR1
       go_wp2_with fail
       obtain⟨wo,rfl⟩:∃ wo:World,wo=wr:=⟨_,rfl⟩
       go_loopw [2,44] (fun s2 q wr=>∃ k:Nat,k≤gl∧s2=.int .i64 0∧q=.int .i64 k∧Hid (Below w.heap.size w wr)) (fun _ q _=>gl-(intOf q).toNat)
       case atStart=>exact⟨0,z0,rfl,rfl,HB⟩
       case round=>
        obtain⟨q,hq,rfl,rfl,HB1⟩:=hrel
        by_cases hlt4:q<gl
        ·have HL4:Hid (q<g.ts.length):=by have:=HGL.out;show _<_;omega
         obtain⟨t,ht⟩:∃ t,g.ts[q]?=some t:=⟨_,gG HL4.out⟩
         obtain⟨b2,off2,hA2,he2⟩:=(HRG.out.below HB1.out).elem Cn q t ht
         have e0:=he2 0 _ rfl
         have e1:=he2 1 _ rfl
         have e2:=he2 2 _ rfl
         have e3:=he2 3 _ rfl
         have e4:=he2 4 _ rfl
         simp only[Nat.add_zero] at e0
         have hix2:=fun W=>aH (T:=209) (E:=211) (sz:=5) (n:=gl) (c:=g.gc) Tryz.underlying209 rfl Tryz.sizeOf211 hA2 hlt4 W
         have TK:=ae (HTK.out t (gM ht))
         have TA:=ae (HRA.out t (gM ht))
         have B2:=ae (HB1.out.alloc HB1.out.size (.cells #[.string t.nm,.int .i64 t.op,.string t.ver,.string t.qual,.slice t.aa t.archs.length t.ac] 211))
         clear ht he2 hA2 he hix
         go_wp2_with fail
         refine(AR t TK.out _ (HG.out.below B2.out) (TA.out.below B2.out)).mono ?_;rintro e w2 ⟨rfl,hb2⟩
         have B3:Hid (Below w.heap.size w w2):=ap B2.out hb2
         clear hb2 e0 e1 e2 e3 e4 hix2
         go_wp2_with fail
         go_roundw
         case rel=>exact⟨q+1,by omega,rfl,by go_num,B3⟩
         case measure=>simp[intOf];omega
        ·go_wp2_with fail
         go_roundw
         case rel=>exact⟨i+1,by omega,rfl,by go_num,HB1⟩
         case measure=>simp[intOf];omega
      ·go_wp2_with fail
       go_ret
       exact⟨rfl,HB.out⟩
theorem He (k:Nat)(hk:k<6):bl (xy k)=Mw k:=by
 rcases(by omega:k=0∨k=1∨k=2∨k=3∨k=4∨k=5) with rfl | rfl | rfl | rfl | rfl | rfl<;>rfl
theorem Cr (k:Nat):(Mw k).length≤2:=by unfold Mw;split<;>simp
def mv (q:LU):LU:=if q.isEmpty then [] else 58::q
def tY (op:Nat)(v:LU):LU:=if op=0 then [] else [32,40]++Mw op++[32]++v++[41]
def rT (a:List (LU)):LU:=if a.isEmpty then [] else [32,91]++Lib.join a [32]++[93]
theorem rU (t:dn):t.text=t.name++mv t.qual++tY t.op t.ver++rT t.archs:=rfl
theorem yy (op:Nat)(v:LU):(tY op v).length≤v.length+6:=by
 have:=Cr op;unfold tY;split<;>simp;omega
theorem Ee (a:List (LU))(h:∀ x∈a,x.length≤33)(hn:a.length≤1000000):(rT a).length≤34000003:=by
 have:=lG [32] 33 a h
 unfold rT;split
 ·simp
 ·simp at this ⊢;omega
theorem Ef (t:cy)(h:t.okT)(w:World)(hG:Gl w)(hr:Rd w 1 t.aa t.archs.length (az t.archs))(hac:t.archs.length≤t.ac):
  Calls Tryz.prog 173 #[t.val] w fun e w'=>e=.returned (.string (bG t.pl.text))∧Below w.heap.size w w':=by
 rw[rU]
 unfold cy.val cy.pl
 obtain⟨h1,h2,h3,h4,h5,h6,h7,h8,h9,h10,h11⟩:=h
 have HG:=ae hG;have HR:=ae hr
 have HZ:=ae h10
 have HQ:=ae h2
 clear hG hr h1 h2 h3 h10 h5 h6
 obtain⟨nm,op,ver,qual,aa,ac,archs⟩:=t
 simp only at *
 have JL:Hid ((Lib.join (archs.map bl) [32]).length≤34000000):=by
  have:=lG [32] 33 (archs.map bl) (fun x hx=>by obtain⟨y,hy,rfl⟩:=List.mem_map.1 hx;rw[ah];exact HZ.out y hy)
  rw[List.length_map] at this;show _≤_;simp at this;omega
 have HJ:=ae (fun (W:World) (hb:Below w.heap.size w W)=>nV aa ac archs ⟨#[32]⟩ W (HR.out.below hb) hac (by omega) (by have:=JL.out;rw[show bl ⟨#[32]⟩=[32] from rfl];omega))
 obtain⟨W1,hW1⟩:∃ W1,w.alloc (.cells #[.string nm,.int .i64 op,.string ver,.string qual,.slice aa archs.length ac] 211)=W1:=⟨_,rfl⟩
 have K1:Hid (av W1 w.heap.size [.string nm,.int .i64 op,.string ver,.string qual,.slice aa archs.length ac]):=by rw[←hW1];exact av.new w _ _
 have B1:Hid (Below w.heap.size w W1):=by rw[←hW1];exact bR.alloc lr _
 obtain⟨al,hal⟩:∃ al,archs.length=al:=⟨_,rfl⟩
 rw[hal] at K1 HJ hW1 h11
 rw[hal]
 have HAL:=ae hal
 clear hal hac
 obtain⟨c0,c1,c2,c3,c4,f0,f1,f2,f3,f4⟩:=K1.out.five
 clear f0 f1 f2 f3 f4
 go_enter Tryz.func173,Tryz.ntmps173
 obtain⟨bq,hbq⟩:∃ bq,qual.toList.isEmpty=bq:=⟨_,rfl⟩
 have HBQ:Hid (decide (qual.size=0)=bq):=by show _=_;rw[←aY,←ai];exact hbq
 go_upto_if 9 with(fail)
 clear hW1 hbq
 go_cut [3] (fun v wx=>∃ S:BA,v=.string S∧S.size≤100∧W1=wx∧Hid (bl S=bl nm++mv (bl qual)))
 case first=>
  cases bq with
  | true=>
   have E:Hid (bl nm=bl nm++mv (bl qual)):=by show _=_;rw[bL qual (dO HBQ.out)];simp[mv]
   go_wp2_with fail
   go_meet
   exact⟨nm,rfl,by omega,rfl,E⟩
  | false=>
   have E:Hid (bl (nm++(⟨#[58]⟩++qual))=bl nm++mv (bl qual)):=by
    show _=_;rw[cq,cq];unfold mv;rw[aY,HBQ.out];rfl
   have hz:(nm++(⟨#[58]⟩++qual)).size≤100:=by rw[←ah,cq,cq];simp[ah];have:(⟨#[58]⟩:BA).size=1:=rfl;omega
   have HZ2:=ae hz
   clear hz
   go_wp2_with fail
   go_meet
   exact⟨_,rfl,HZ2.out,rfl,E⟩
 case rest=>
 obtain⟨S,rfl,hS,rfl,ES⟩:=hcut
 have hsg:=(HG.out.below B1.out).dsg op (by omega)
 have hsz:(xy op).size≤2:=by rw[←ah,He op (by omega)];exact Cr _
 go_upto_if 18 with(fail)
 go_cut [3] (fun v wx=>∃ S2:BA,v=.string S2∧S2.size≤200∧Hid (Below w.heap.size w wx)∧Hid (av wx w.heap.size [.string nm,.int .i64 op,.string ver,.string qual,.slice aa al ac])∧Hid (bl S2=bl S++tY op (bl ver)))
 case first=>
  by_cases o0:op=0
  ·have E:Hid (bl S=bl S++tY op (bl ver)):=by show _=_;simp[tY,o0]
   have o1:((op:Int) != 0)=false:=by simp[o0]
   clear o0
   go_wp2_with fail
   go_meet
   exact⟨S,rfl,by omega,B1,K1,E⟩
  ·have o1:((op:Int) != 0)=true:=by simp[o0]
   have E:Hid (bl (S++(⟨#[32,40]⟩++xy op++⟨#[32]⟩++ver++⟨#[41]⟩))=bl S++tY op (bl ver)):=by
    show _=_;simp only[cq];unfold tY;rw[if_neg o0,He op (by omega)];rfl
   have hz:Hid ((S++(⟨#[32,40]⟩++xy op++⟨#[32]⟩++ver++⟨#[41]⟩)).size≤200):=by
    show _≤_;rw[←ah,E.out,List.length_append,ah];have:=yy op (bl ver);rw[ah] at this;omega
   have o2:(op:Int)<6:=by omega
   have o3:(0:Int)≤(op:Int):=by omega
   clear o0
   go_wp2_with fail
   go_quiet (fail)
   go_wp2_with fail
   go_meet
   exact⟨_,rfl,hz.out,aq B1.out _,K1.out.drewN _,E⟩
 case rest=>
 obtain⟨S2,rfl,hS2,B2,K2,E2⟩:=hcut
 clear K1 B1 c0 c1 c2 c3 c4 hsg hsz
 have c4:=K2.out.five.c4
 by_cases a0:al=0
 ·have E:Hid (bl S2=bl nm++mv (bl qual)++tY op (bl ver)++rT (archs.map bl)):=by
   have hl:=HAL.out
   rw[a0] at hl
   show _=_;rw[E2.out,ES.out,List.length_eq_zero_iff.1 hl];simp[rT]
  have a1:decide ((0:Int)<(al:Int))=false:=dF (by omega)
  have a2:decide (0<al)=false:=dF (by omega)
  clear a0
  go_wp2_with fail
  go_ret
  exact⟨by rw[←uF E.out];rfl,B2.out⟩
 ·have a1:decide ((0:Int)<(al:Int))=true:=dT (by omega)
  have a2:decide (0<al)=true:=dT (by omega)
  obtain⟨J,hJ⟩:∃ J,bG (Lib.join (archs.map bl) (bl ⟨#[32]⟩))=J:=⟨_,rfl⟩
  have hJz:J.size≤34000000:=by rw[←hJ,bV];exact JL.out
  have E:Hid (bl (S2++(⟨#[32,91]⟩++J++⟨#[93]⟩))=bl nm++mv (bl qual)++tY op (bl ver)++rT (archs.map bl)):=by
   have hl:=HAL.out
   show _=_
   simp only[cq]
   rw[E2.out,ES.out,←hJ,et];unfold rT
   rw[if_neg (by rw[List.isEmpty_iff,List.map_eq_nil_iff];intro e;rw[e] at hl;simp at hl;omega)];rfl
  have HJ2:=ae (HJ.out _ B2.out)
  rw[hJ] at HJ2
  clear a0 hJ
  go_wp2_with fail
  refine HJ2.out.mono ?_;rintro e w2 ⟨rfl,hb2⟩
  have B3:Hid (Below w.heap.size w w2):=ap B2.out hb2
  clear hb2
  go_wp2_with fail
  go_ret
  exact⟨by rw[←uF E.out];rfl,B3.out⟩
def nZ (g:List dn):LU:=Lib.join (g.map dn.text) [32,124,32]
theorem JI {t:cy}(h:t.okT):t.pl.text.length≤35000000:=by
 rw[rU]
 have h1:=yy t.op (bl t.ver)
 have h2:=Ee (t.archs.map bl) (fun x hx=>by obtain⟨y,hy,rfl⟩:=List.mem_map.1 hx;rw[ah];exact h.archz y hy) (by simpa using h.few)
 have h3:(mv (bl t.qual)).length≤33:=by have:=h.qualz;rw[←ah] at this;unfold mv;split<;>simp;omega
 have h4:=h.nmz;have h5:=h.verz
 rw[←ah] at h4 h5
 simp only[List.length_append,cy.pl];omega
theorem rV (A:OA)(c:Nat)(gs:List bA)(hW:wy gs)(w:World)(hG:Gl w)(hr:nT w A gs)(hcp:AM gs):
  Calls Tryz.prog 124 #[.slice A gs.length c] w fun e w'=>e=.returned (.tuple #[.string (bG (uK (gs.map bA.pl))),.int .i64 0])∧Below w.heap.size w w':=by
 obtain⟨i0,hi0,hz0,hz1,hz2⟩:=info_parts kK
 have HG:=ae hG;have HR:=ae hr;have HW:=ae hW;have HCP:=ae hcp
 have hfew:=hW.few
 have GL:Hid (∀ g∈gs,(nZ g.pl).length≤3000000000):=by
  intro g hg
  have h1:=lG [32,124,32] 35000000 (g.pl.map dn.text) (fun x hx=>by
   obtain⟨y,hy,rfl⟩:=List.mem_map.1 hx
   obtain⟨t,ht,rfl⟩:=List.mem_map.1 hy
   exact JI (hW.ok g hg t ht))
  have h2:=hW.len g hg
  unfold nZ bA.pl at *
  simp only[List.length_map,List.length_cons,List.length_nil] at h1 ⊢
  have:g.ts.length*(35000000+(0+1+1+1))≤64*35000003:=Nat.mul_le_mul h2 (by omega)
  omega
 clear hG hr hW hcp
 go_enter Tryz.func124,Tryz.ntmps124
 go_wp2_with fail
 refine(AS A c gs HW.out w HG.out HR.out).mono ?_;rintro e w0 ⟨rfl,hb0⟩
 have HB0:=ae hb0;clear hb0
 go_wp2_with fail
 go_loopw [5,18] (fun l i wr=>∃ (k:Nat) (xs:List BA) (B:OA) (cc:Nat),k≤gs.length∧l=.slice B k cc∧i=.int .i64 k∧Hid (mM w0 wr xs B k cc)∧Hid (xs.map bl=(gs.take k).map (fun g=>nZ g.pl))) (fun _ i _=>gs.length-(intOf i).toNat)
 case atStart=>exact⟨0,[],none,0,z0,rfl,rfl,mM.nil w0,rfl⟩
 case round=>
  obtain⟨k,xs,B,cc,hk,rfl,rfl,HS,HT⟩:=hrel
  by_cases hlt:k<gs.length
  ·obtain⟨g,hg⟩:∃ g,gs[k]?=some g:=⟨_,gG hlt⟩
   have HRW:=ae (HR.out.below (ap HB0.out HS.out.bel))
   obtain⟨b,off,hA,he⟩:=HRW.out.row.one k _ (ww hg) hlt
   have hix:=fun W=>aH (T:=164) (E:=209) (sz:=1) (c:=c) Tryz.underlying164 rfl Tryz.sizeOf209 hA hlt W
   simp only[Nat.mul_one] at hix
   have hmem:=gM hg
   have hgl:=HW.out.len g hmem
   have HRG:=ae (HRW.out.grp g hmem)
   have HRA:=ae (HRW.out.archs g hmem)
   have HTK:=ae (HW.out.ok g hmem)
   have HTC:=ae (HCP.out g hmem)
   have TK:Hid ((gs.take (k+1)).map (fun g=>nZ g.pl)=(gs.take k).map (fun g=>nZ g.pl)++[nZ g.pl]):=by
    show _=_;obtain⟨hk',hf'⟩:=gS hg;rw[tS hk',hf'];simp
   have HGG:=ae (GL.out g hmem)
   obtain⟨gl,hgle⟩:∃ gl,g.ts.length=gl:=⟨_,rfl⟩
   rw[hgle] at he hgl
   have HGL:=ae hgle
   clear hg hA hgle HRW hmem
   go_wp2_with fail
   clear he hix
   obtain⟨wo,rfl⟩:∃ wo:World,wo=wr:=⟨_,rfl⟩
   go_loopw [8,24] (fun l q wr=>∃ (j:Nat) (ys:List BA) (C:OA) (dc:Nat),j≤gl∧l=.slice C j dc∧q=.int .i64 j∧Hid (mM wo wr ys C j dc)∧Hid (ys.map bl=(g.ts.take j).map (fun t=>t.pl.text))) (fun _ q _=>gl-(intOf q).toNat)
   case atStart=>exact⟨0,[],none,0,z0,rfl,rfl,mM.nil wo,rfl⟩
   case round=>
    obtain⟨j,ys,C,dc,hj,rfl,rfl,HI,HY⟩:=hrel
    by_cases hlt4:j<gl
    ·have HL4:Hid (j<g.ts.length):=by have:=HGL.out;show _<_;omega
     obtain⟨t,ht⟩:∃ t,g.ts[j]?=some t:=⟨_,gG HL4.out⟩
     obtain⟨b2,off2,hA2,he2⟩:=(HRG.out.below HI.out.bel).elem Cn j t ht
     have e0:=he2 0 _ rfl
     have e1:=he2 1 _ rfl
     have e2:=he2 2 _ rfl
     have e3:=he2 3 _ rfl
     have e4:=he2 4 _ rfl
     simp only[Nat.add_zero] at e0
     have hix2:=fun W=>aH (T:=209) (E:=211) (sz:=5) (n:=gl) (c:=g.gc) Tryz.underlying209 rfl Tryz.sizeOf211 hA2 hlt4 W
     have TTK:=ae (HTK.out t (gM ht))
     have TTA:=ae (HRA.out t (gM ht))
     have TTC:=ae (HTC.out t (gM ht))
     have TY:Hid ((g.ts.take (j+1)).map (fun t=>t.pl.text)=(g.ts.take j).map (fun t=>t.pl.text)++[t.pl.text]):=by
      show _=_;obtain⟨hk',hf'⟩:=gS ht;rw[tS hk',hf'];simp
     have BA:Hid (Below wo.heap.size wo (wr.alloc (.cells #[.string t.nm,.int .i64 t.op,.string t.ver,.string t.qual,.slice t.aa t.archs.length t.ac] 211))):=HI.out.bel.alloc HI.out.bel.size _
     have BW:Hid (Below w.heap.size w wo):=ap HB0.out HS.out.bel
     clear ht he2 hA2
     go_wp2_with fail
     refine(Ef t TTK.out _ (HG.out.below (ap BW.out BA.out)) (TTA.out.below BA.out) TTC.out).mono ?_;rintro e w2 ⟨rfl,hb2⟩
     obtain⟨X,hX⟩:∃ X,bG t.pl.text=X:=⟨_,rfl⟩
     rw[hX]
     have HX:Hid (bl X=t.pl.text):=by show _=_;rw[←hX,et]
     have S2:=ae ((HI.out.below (bR.alloc lr (.cells #[.string t.nm,.int .i64 t.op,.string t.ver,.string t.qual,.slice t.aa t.archs.length t.ac] 211))).below hb2)
     clear hb2 e0 e1 e2 e3 e4 hix2 hX
     go_wp2_with (at_builtin;refine au _ rfl _ _ _ rfl wo.heap.size 9 i0 _ 1 16 Tryz.underlying22 hi0 hz0 hz1 hz2 rfl (by omega) (.slice C j dc) j _ rfl (S2.out.row.alloc _) (w2.heap.size+1) (some ⟨w2.heap.size,0,none⟩) 1 1 [.string X] rfl (fB w2 _ _) (by simp[Value.oneCell']) (by simp only[maxLen];omega) (by omega) (by simp;have:=S2.out.bel.size;omega) ?_;intro v1 w3 o1 g1 a1)
     obtain⟨A1,c1,rfl⟩:=aL o1
     have R1:=ae (S2.out.grow (x:=X) o1 g1)
     clear o1 g1 a1
     go_wp2_with fail
     go_roundw
     case rel=>exact⟨j+1,ys++[X],A1,c1,by omega,rfl,by go_num,R1,by show _=_;rw[TY.out,List.map_append,HY.out];simp[HX.out]⟩
     case measure=>simp[intOf];omega
    ·have EY:Hid (ys.map bl=g.pl.map dn.text):=by
      show _=_;rw[HY.out,tL (by rw[HGL.out];omega)];unfold bA.pl;simp
     have hln:=HI.out.len
     have hcap:=kY HI.out.row
     obtain⟨X,hX⟩:∃ X,bG (Lib.join (ys.map bl) (bl ⟨#[32,124,32]⟩))=X:=⟨_,rfl⟩
     have HX:Hid (bl X=nZ g.pl):=by show _=_;rw[←hX,et,EY.out];rfl
     have HJ:=ae (fun (_:Unit)=>nV C dc ys ⟨#[32,124,32]⟩ wr (by rw[hln];exact cP HI.out.row) (by omega) (by omega) (by rw[EY.out];have:=HGG.out;unfold nZ at this;rw[show bl ⟨#[32,124,32]⟩=[32,124,32] from rfl];omega))
     rw[hln,hX] at HJ
     have SO:=ae (HS.out.below HI.out.bel)
     clear hcap hln hX
     go_wp2_with fail
     refine(HJ.out ()).mono ?_;rintro e w2 ⟨rfl,hb2⟩
     have S2:=ae (SO.out.below hb2)
     clear hb2
     go_wp2_with (at_builtin;refine au _ rfl _ _ _ rfl w0.heap.size 9 i0 _ 1 16 Tryz.underlying22 hi0 hz0 hz1 hz2 rfl (by omega) (.slice B k cc) k _ rfl (S2.out.row.alloc _) (w2.heap.size+1) (some ⟨w2.heap.size,0,none⟩) 1 1 [.string X] rfl (fB w2 _ _) (by simp[Value.oneCell']) (by simp only[maxLen];omega) (by omega) (by simp;have:=S2.out.bel.size;omega) ?_;intro v1 w3 o1 g1 a1)
     obtain⟨A1,c1,rfl⟩:=aL o1
     have R1:=ae (S2.out.grow (x:=X) o1 g1)
     clear o1 g1 a1
     go_wp2_with fail
     go_roundw
     case rel=>exact⟨k+1,xs++[X],A1,c1,by omega,rfl,by go_num,R1,by show _=_;rw[TK.out,List.map_append,HT.out];simp[HX.out]⟩
     case measure=>simp[intOf];omega
  ·have EX:Hid (xs.map bl=(gs.map bA.pl).map nZ):=by
    show _=_;rw[HT.out,tL (by omega)];simp
   have hln:=HS.out.len
   have hcap:=kY HS.out.row
   have JL:Hid ((Lib.join (xs.map bl) (bl ⟨#[44,32]⟩)).length≤140737488355328):=by
    have h1:=lG (bl ⟨#[44,32]⟩) 3000000000 (xs.map bl) (fun y hy=>by
     rw[EX.out] at hy
     obtain⟨z,hz,rfl⟩:=List.mem_map.1 hy
     obtain⟨g,hg,rfl⟩:=List.mem_map.1 hz
     exact GL.out g hg)
    have h2:(bl ⟨#[44,32]⟩:LU).length=2:=rfl
    rw[h2,List.length_map,hln] at h1
    show _≤_;omega
   have HJ:=ae (fun (_:Unit)=>nV B cc xs ⟨#[44,32]⟩ wr (by rw[hln];exact cP HS.out.row) (by omega) (by omega) JL.out)
   rw[hln] at HJ
   clear hcap JL hln
   go_wp2_with fail
   refine(HJ.out ()).mono ?_;rintro e w2 ⟨rfl,hb2⟩
   have ET:Hid (bG (Lib.join (xs.map bl) (bl ⟨#[44,32]⟩))=bG (uK (gs.map bA.pl))):=by show _=_;rw[EX.out];rfl
   have B2:Hid (Below w.heap.size w w2):=ap (ap HB0.out HS.out.bel) hb2
   clear hb2
   go_wp2_with fail
   go_ret2
   exact⟨by rw[←ET.out];rfl,B2.out⟩
def rW (s:BA)(ok:Bool)(w:World)(e:Ending)(w':World):Prop:=
 ∃ (out:BA) (b:Bool),e=.returned (.tuple #[.string out,.bool b])∧Below w.heap.size w w'∧(s.size≠0→(b=true∧out=s↔ok=true))
theorem tZ {l:LU}(h:gw l=none):iQ l=false:=by unfold iQ;rw[h];simp
theorem ua {l:LU}{L:List (List dn)}(h:gw l=some L)(h0:l≠[]):iQ l=decide (uK L=l):=by
 unfold iQ;rw[h];simp[h0]
theorem ub {l:LU}(h:gu l=none):iP l=false:=by unfold iP;rw[h];simp
theorem uc {l:LU}{L:List fH}(h:gu l=some L)(h0:l≠[]):iP l=decide (uG L=l):=by
 unfold iP;rw[h];simp[h0]
theorem oR {l:LU}{s:BA}:bG l=s↔l=bl s:=by
 constructor
 ·intro h;rw[←h,et]
 ·intro h;rw[h,mo]
theorem Hf {s:BA}(h:s.size≠0):bl s≠[]:=by intro e;apply h;rw[←ah,e];rfl
theorem wy.nil:wy []:=wy.of ko.nil
theorem nT.nil (w:World):nT w none []:=⟨Rd.nil _ _ _,by simp,by simp⟩
theorem rX (s:BA)(w:World)(hG:Gl w)(hs:s.size≤1000000):
  Calls Tryz.prog 84 #[.int .i64 1,.string s] w (rW s (iQ (bl s)) w):=by
 have HG:=ae hG;clear hG
 have B0:Hid (Below w.heap.size w (w.alloc (.cells #[.string ⟨#[]⟩,.int .i64 0,.int .i64 0] 163))):=bR.alloc lr _
 have K0:Hid (av (w.alloc (.cells #[.string ⟨#[]⟩,.int .i64 0,.int .i64 0] 163)) w.heap.size [.string ⟨#[]⟩,.int .i64 0,.int .i64 0]):=av.new w _ _
 go_enter Tryz.func84,Tryz.ntmps84
 go_wp2_with fail
 refine(AP s _ (HG.out.below B0.out) (by omega)).mono ?_;rintro e w1 ⟨A,n,c,f,a,code,rfl,hb1,hpost⟩
 have B1:=ae (ap B0.out hb1)
 have K1:=ae (K0.out.below hb1)
 have r0:=K1.out.cell 0 _ rfl
 have r1:=K1.out.cell 1 _ rfl
 have r2:=K1.out.cell 2 _ rfl
 have fr0:=K1.out.free 0 (by simp)
 have fr1:=K1.out.free 1 (by simp)
 have fr2:=K1.out.free 2 (by simp)
 have hlt1:w.heap.size<w1.heap.size:=K1.out.sz
 have hne1:¬ w.heap.size=w1.heap.size:=by omega
 have KS:=ae (((K1.out.set 0 (by simp) (.string f)).set 1 (by simp) (.int .i64 a)).set 2 (by simp) (.int .i64 code))
 have K3:=ae (KS.out.alloc (.cells #[.string f,.int .i64 a,.int .i64 code] 163))
 have BS:=ae (ag (j:=2) (ag (j:=1) (ag (j:=0) B1.out lr (.string f)) lr (.int .i64 a)) lr (.int .i64 code))
 have B3:=ae (BS.out.alloc BS.out.size (.cells #[.string f,.int .i64 a,.int .i64 code] 163))
 cases hp:gw (bl s) with
 | none=>
  rw[hp] at hpost
  obtain⟨hc,rfl,rfl⟩:=hpost
  have EN:=ae (tZ hp)
  have hc1:(code==0)=false:=by simp[hc]
  clear hp hc hb1
  unfold ed
  go_wp2_with fail
  refine(rV none c [] wy.nil _ (HG.out.below B3.out) (nT.nil _) (fun _ h=>by simp at h)).mono ?_;rintro e w4 ⟨rfl,hb4⟩
  have d2:=(K3.out.below hb4).cell 2 _ rfl
  have B4:=ae (ap B3.out hb4)
  clear hb4
  go_wp2_with fail
  go_ret2
  exact⟨_,false,rfl,B4.out,fun _=>by rw[EN.out];simp⟩
 | some L=>
  rw[hp] at hpost
  obtain⟨rfl,gs,hgs,hok⟩:=hpost
  have hgood:=AQ hp (by rw[ah];exact hs)
  rw[←hgs] at hgood
  have HW:=ae (wy.of hgood)
  have EN:Hid (s.size≠0→(bG (uK (gs.map bA.pl))=s↔iQ (bl s)=true)):=fun h0=>by rw[ua hp (Hf h0),hgs,decide_eq_true_iff];exact oR
  have hlo:w.heap.size<(w.alloc (.cells #[.string ⟨#[]⟩,.int .i64 0,.int .i64 0] 163)).heap.size:=by simp
  have HOK:=ae ((((hok.kept hlo (aR (j:=0) (.string f))).kept hlo (aR (j:=1) (.int .i64 a))).kept hlo (aR (j:=2) (.int .i64 0))).below (bR.alloc lr (.cells #[.string f,.int .i64 a,.int .i64 0] 163)))
  obtain rfl:=hok.len
  have hP:=rV A c gs HW.out _ (HG.out.below B3.out) HOK.out.ok HOK.out.cap
  obtain⟨X,hX⟩:∃ X,bG (uK (gs.map bA.pl))=X:=⟨_,rfl⟩
  rw[hX] at hP EN
  clear hp hgs hok hgood hb1 hX hlo
  unfold ed
  go_wp2_with fail
  refine hP.mono ?_;rintro e w4 ⟨rfl,hb4⟩
  have d2:=(K3.out.below hb4).cell 2 _ rfl
  have B4:=ae (ap B3.out hb4)
  clear hb4 hP
  go_wp2_with fail
  go_ret2
  exact⟨X,true,rfl,B4.out,fun h=>by have:=EN.out h;simpa using this⟩
theorem rY (fmt:Int)(h1:fmt≠1)(h2:fmt≠2)(s:BA)(w:World)(hG:wn w)(hs:s.size≤1000000):
  Calls Tryz.prog 84 #[.int .i64 fmt,.string s] w (rW s (iP (bl s)) w):=by
 have HG:=ae hG;clear hG
 have q1:(fmt==1)=false:=by simp[h1]
 have q2:(fmt==2)=false:=by simp[h2]
 clear h1 h2
 have B0:Hid (Below w.heap.size w (w.alloc (.cells #[.string ⟨#[]⟩,.int .i64 0,.int .i64 0] 163))):=bR.alloc lr _
 have K0:Hid (av (w.alloc (.cells #[.string ⟨#[]⟩,.int .i64 0,.int .i64 0] 163)) w.heap.size [.string ⟨#[]⟩,.int .i64 0,.int .i64 0]):=av.new w _ _
 go_enter Tryz.func84,Tryz.ntmps84
 go_wp2_with fail
 refine(Az s _ (HG.out.below B0.out) (by omega)).mono ?_;rintro e w1 ⟨A,n,c,f,a,code,rfl,hb1,hpost⟩
 have B1:=ae (ap B0.out hb1)
 have K1:=ae (K0.out.below hb1)
 have r0:=K1.out.cell 0 _ rfl
 have r1:=K1.out.cell 1 _ rfl
 have r2:=K1.out.cell 2 _ rfl
 have fr0:=K1.out.free 0 (by simp)
 have fr1:=K1.out.free 1 (by simp)
 have fr2:=K1.out.free 2 (by simp)
 have hlt1:w.heap.size<w1.heap.size:=K1.out.sz
 have hne1:¬ w.heap.size=w1.heap.size:=by omega
 have KS:=ae (((K1.out.set 0 (by simp) (.string f)).set 1 (by simp) (.int .i64 a)).set 2 (by simp) (.int .i64 code))
 have K3:=ae (KS.out.alloc (.cells #[.string f,.int .i64 a,.int .i64 code] 163))
 have BS:=ae (ag (j:=2) (ag (j:=1) (ag (j:=0) B1.out lr (.string f)) lr (.int .i64 a)) lr (.int .i64 code))
 have B3:=ae (BS.out.alloc BS.out.size (.cells #[.string f,.int .i64 a,.int .i64 code] 163))
 cases hp:gu (bl s) with
 | none=>
  rw[hp] at hpost
  obtain⟨hc,rfl,rfl⟩:=hpost
  have EN:=ae (ub hp)
  have hc1:(code==0)=false:=by simp[hc]
  clear hp hc hb1
  unfold ed
  go_wp2_with fail
  refine(rM none c [] (by simp) (by simp) _ (HG.out.1.below B3.out) (Rd.nil _ _ _)).mono ?_;rintro e w4 ⟨rfl,hb4⟩
  have d2:=(K3.out.below hb4).cell 2 _ rfl
  have B4:=ae (ap B3.out hb4)
  clear hb4
  go_wp2_with fail
  go_ret2
  exact⟨_,false,rfl,B4.out,fun _=>by rw[EN.out];simp⟩
 | some L=>
  rw[hp] at hpost
  obtain⟨rfl,rfl,hok⟩:=hpost
  obtain⟨hright,hl64⟩:=pz _ _ _ _ (by omega) hp
  have EN:Hid (s.size≠0→(bG (uG L)=s↔iP (bl s)=true)):=fun h0=>by rw[uc hp (Hf h0),decide_eq_true_iff];exact oR
  have hlo:w.heap.size<(w.alloc (.cells #[.string ⟨#[]⟩,.int .i64 0,.int .i64 0] 163)).heap.size:=by simp
  have HOK:=ae (aD (aJ (aJ (aJ hok hlo (aR (j:=0) (.string f))) hlo (aR (j:=1) (.int .i64 a))) hlo (aR (j:=2) (.int .i64 0))) (bR.alloc lr (.cells #[.string f,.int .i64 a,.int .i64 0] 163)))
  have hP:=rM A c L hright (by omega) _ (HG.out.1.below B3.out) (cP HOK.out)
  obtain⟨X,hX⟩:∃ X,bG (uG L)=X:=⟨_,rfl⟩
  rw[hX] at hP EN
  clear hp hok hright hb1 hX hlo
  unfold ed
  go_wp2_with fail
  refine hP.mono ?_;rintro e w4 ⟨rfl,hb4⟩
  have d2:=(K3.out.below hb4).cell 2 _ rfl
  have B4:=ae (ap B3.out hb4)
  clear hb4 hP
  go_wp2_with fail
  go_ret2
  exact⟨X,true,rfl,B4.out,fun h=>by have:=EN.out h;simpa using this⟩
def uZ (fmt:Int)(bars:Bool):Nat:=if fmt=2 then 64 else if fmt=3∧bars=true then 0 else 1
def eR (fmt:Int)(bars:Bool)(f:LU→Bool)(l:List BA):Bool:=decide (l.length≤uZ fmt bars)&&l.all (fun x=>f (bl x))
theorem Hg (fmt:Int)(bars:Bool):uZ fmt bars≤64:=by          unfold uZ;repeat' split
                                                            all_goals omega
theorem Hh {f:LU→Bool}{l:List BA}{k:Nat}{x:BA}(h:l[k]?=some x)(h0:(l.take k).all (fun x=>f (bl x))=true)(hx:f (bl x)=true):(l.take (k+1)).all (fun x=>f (bl x))=true:=by
 obtain⟨hi,he⟩:=gS h
 rw[tS hi,he,List.all_append,h0];simp[hx]
theorem Hi {f:LU→Bool}{l:List BA}{k:Nat}{x:BA}(h:l[k]?=some x)(hx:f (bl x)=false):l.all (fun x=>f (bl x))=false:=by
 cases ha:l.all (fun x=>f (bl x)) with
 | false=>rfl
 | true=>
  rw[List.all_eq_true] at ha
  have:=ha x (gM h)
  rw[hx] at this;cases this
theorem jQ (fmt:Int)(bars:Bool)(f:LU→Bool)(hf:f []=false)(A:OA)(c:Nat)(l:List BA)(w:World)(hG:wn w)(hr:Rd w 1 A l.length (az l))(hn:l.length≤4294967280)
  (hC:∀ x∈l,∀ W,wn W→Calls Tryz.prog 84 #[.int .i64 fmt,.string x] W (rW x (f (bl x)) W)):
  Calls Tryz.prog 47 #[.int .i64 fmt,.slice A l.length c,.bool bars] w fun e w'=>e=.returned (.bool (eR fmt bars f l))∧Below w.heap.size w w':=by
 have HG:=ae hG;have HR:=ae hr;have HC:=ae hC;have HF:=ae hf
 clear hG hr hC hf
 obtain⟨b2,hb2⟩:∃ b2,(fmt==2)=b2:=⟨_,rfl⟩
 obtain⟨b3,hb3⟩:∃ b3,(fmt==3)=b3:=⟨_,rfl⟩
 have HM:Hid (uZ fmt bars=if b2 then 64 else if b3&&bars then 0 else 1):=by
  show _=_;unfold uZ;rw[←hb2,←hb3];simp
 have hm64:=Hg fmt bars
 obtain⟨m,hm⟩:∃ m,uZ fmt bars=m:=⟨_,rfl⟩
 rw[hm] at hm64 HM
 have HMM:=ae hm
 clear hm
 go_enter Tryz.func47,Tryz.ntmps47
 go_upto_block 0 with(fail)
 go_cut [7] (fun v wx=>v=.int .i64 m∧w=wx)
 case first=>
  cases b2 with
  | true=>
   have E:Hid (m=64):=HM.out
   go_wp2_with fail
   go_meet
   exact⟨by rw[E.out];rfl,rfl⟩
  | false=>
   cases b3 with
   | true=>
    cases bars with
    | true=>
     have E:Hid (m=0):=HM.out
     go_wp2_with fail
     go_meet
     exact⟨by rw[E.out];rfl,rfl⟩
    | false=>
     have E:Hid (m=1):=HM.out
     go_wp2_with fail
     go_meet
     exact⟨by rw[E.out];rfl,rfl⟩
   | false=>
    have E:Hid (m=1):=HM.out
    go_wp2_with fail
    go_meet
    exact⟨by rw[E.out];rfl,rfl⟩
 case rest=>
 obtain⟨rfl,rfl⟩:=hcut
 clear hb2 hb3 HM
 by_cases hlm:m<l.length
 ·have E:Hid (eR fmt bars f l=false):=by show _=_;unfold eR;rw[HMM.out,dF];rfl
  have d1:decide ((m:Int)<(l.length:Int))=true:=dT (by omega)
  have d2:decide (m<l.length)=true:=dT hlm
  go_wp2_with fail
  go_ret
  exact⟨af E.out.symm,bR⟩
 ·have E0:Hid (eR fmt bars f l=l.all (fun x=>f (bl x))):=by show _=_;unfold eR;rw[HMM.out,dT];rfl
  have d1:decide ((m:Int)<(l.length:Int))=false:=dF (by omega)
  have d2:decide (m<l.length)=false:=dF hlm
  go_wp2_with fail
  clear d1 d2
  go_loopw [6,27] (fun s6 i wr=>∃ k:Nat,s6=.bool false∧i=.int .i64 k∧k≤l.length∧Hid (Below w.heap.size w wr)∧Hid ((l.take k).all (fun x=>f (bl x))=true)) (fun _ i _=>l.length-(intOf i).toNat)
  case atStart=>exact⟨0,rfl,rfl,z0,bR,rfl⟩
  case round=>
   obtain⟨k,rfl,rfl,hk,HB,HA0⟩:=hrel
   by_cases hlt:k<l.length
   ·obtain⟨x,hx⟩:∃ x,l[k]?=some x:=⟨_,gG hlt⟩
    obtain⟨b,off,hA,he⟩:=(HR.out.below HB.out).str k x hx
    have hix:=fun W=>aH (T:=22) (E:=9) (sz:=1) (c:=c) Tryz.underlying22 rfl Tryz.sizeOf9 hA hlt W
    simp only[Nat.mul_one] at hix
    have hW:=HC.out x (gM hx)
    have NY:Hid (f (bl x)=true→(l.take (k+1)).all (fun x=>f (bl x))=true):=fun h=>Hh hx HA0.out h
    have NN:Hid (f (bl x)=false→eR fmt bars f l=false):=fun h=>by rw[E0.out];exact Hi hx h
    clear hx hA
    go_wp2_with fail
    refine(hW _ (HG.out.below HB.out)).mono ?_;rintro e w2 ⟨out,ok,rfl,hb2,hiff⟩
    have B2:=ae (ap HB.out hb2)
    clear hb2
    by_cases x0:x.size=0
    ·have he1:x.toList=[]:=by rw[ai,bL x x0]
     have he2:x.toList.isEmpty=true:=by rw[he1];rfl
     have E:Hid (eR fmt bars f l=false):=NN.out (by rw[bL x x0];exact HF.out)
     clear hiff
     go_wp2_with fail
     go_ret
     exact⟨af E.out.symm,B2.out⟩
    have he2:x.toList.isEmpty=false:=by rw[ai,aY];exact dF x0
    have he1:¬ x.toList=[]:=by intro h;rw[h] at he2;simp at he2
    have hif:=hiff x0
    cases ok with
    | false=>
     have E:Hid (eR fmt bars f l=false):=NN.out (by cases hv:f (bl x) with
      | false=>rfl
      | true=>have:=hif.2 hv;cases this.1)
     clear hiff hif
     go_wp2_with fail
     go_ret
     exact⟨af E.out.symm,B2.out⟩
    | true=>
     by_cases ho:out=x
     ·have HN:=ae (NY.out (hif.1 ⟨rfl,ho⟩))
      subst ho
      clear hiff hif
      go_wp2_with fail
      go_roundw
      case rel=>exact⟨k+1,rfl,by go_num,by omega,B2,HN⟩
      case measure=>simp[intOf];omega
     ·have E:Hid (eR fmt bars f l=false):=NN.out (by cases hv:f (bl x) with
       | false=>rfl
       | true=>exact absurd (hif.2 hv).2 ho)
      have hne:(out.toList != x.toList)=true:=by rw[bne,fi,dF ho];rfl
      have hne2:(out.toList==x.toList)=false:=by rw[fi,dF ho]
      clear hiff hif ho
      go_wp2_with fail
      go_ret
      exact⟨af E.out.symm,B2.out⟩
   ·have E:Hid (eR fmt bars f l=true):=by show _=_;rw[E0.out];have:=HA0.out;rw[tL (by omega)] at this;exact this
    go_wp2_with fail
    go_ret
    exact⟨af E.out.symm,HB.out⟩
theorem AX {w:World}{b:Nat}{x:Obj}(h:w.heap[b]?=some x)(o:Obj):(w.alloc o).heap[b]?=some x:=by
 have hl:b<w.heap.size:=(Array.getElem?_eq_some_iff.1 h).1
 rw[Below.heap_alloc w o b hl];exact h
theorem vg {xs:List ak}(h:∀ x∈xs,x.kids≠[]):cE (xs.flatMap ak.kids)=cE xs:=by
 induction xs with
 | nil=>rfl
 | cons a r ih=>
  rw[List.flatMap_cons,de,ih (fun x hx=>h x (by simp[hx])),←eW (h a (by simp))];rfl
theorem Ep {xs:List ak}(h:∀ x∈xs,x.kids≠[]){i:Nat}{x:ak}(hx:xs[i]?=some x)(j:Nat):cE ((xs.take i).flatMap ak.kids++x.kids.take j)≤cE xs:=by
 rw[de,vg (fun y hy=>h y (List.mem_of_mem_take hy))]
 have h1:=vc hx
 have h2:=iy xs (i+1)
 have h3:=iy x.kids j
 rw[←eW (h x (gM hx))] at h3
 omega
theorem vh {xs:List ak}{i:Nat}{x:ak}(hx:xs[i]?=some x):(xs.take (i+1)).flatMap ak.kids=(xs.take i).flatMap ak.kids++x.kids:=by
 obtain⟨hk,hg⟩:=gS hx
 rw[tS hk,hg,List.flatMap_append];simp
theorem Er {ks:List ak}{j:Nat}{t:ak}(ht:ks[j]?=some t):ks.take (j+1)=ks.take j++[t]:=by
 obtain⟨hk,hg⟩:=gS ht
 rw[tS hk,hg]
theorem Es:(Tryz.prog.info? 168).map (fun i=>(i.zero,i.size,i.bytes))=some (some (.slice none 0 0),1,24):=by kernel_rfl
structure FT (w wr:World) (mb h k:Nat) (A:OA) (n c:Nat) (xs:List ak) (ms:List (ak×Nat)):Prop where
 lev:Cw 0 wr A n c xs
 met:eu wr mb ms
 xh:∀ x∈xs,x.ht+k≤h+1
 top:∃ x∈xs,x.ht+k=h+1
 mok:∀ i,i<k→∃ p∈ms,p.1.ht+i=h
 bel:Below w.heap.size w wr
 mlo:w.heap.size≤mb
 cnt:cE xs≤64
theorem FT.few {w wr:World}{mb h k:Nat}{A:OA}{n c:Nat}{xs:List ak}{ms:List (ak×Nat)}(d:FT w wr mb h k A n c xs ms):n≤64:=by
 have:=fX xs;have:=d.cnt;have:=d.lev.len;omega
theorem FT.start {w W W4:World}{T:ak}(hT:bE w 0 none T)(hS:dI T)(hc:T.cnt≤64)(tt:TypeId)
  (hW:(w.alloc (.cells T.cells.toArray tt)).alloc (.map #[] 0)=W)
  (hW4:(W.alloc (.cells T.cells.toArray 170)).alloc (.cells #[.slice (some ⟨W.heap.size,0,none⟩) 1 1] 168)=W4):
  FT w W4 (w.heap.size+1) T.ht 0 (some ⟨W.heap.size+1,0,none⟩) 1 1 [.mk ⟨#[]⟩ ⟨#[]⟩ 0 ⟨#[]⟩ (some ⟨W.heap.size,0,none⟩) 1 [T]] []:=by
 have zW:W.heap.size=w.heap.size+2:=by rw[←hW];simp
 have b1:Below w.heap.size w W:=by rw[←hW];exact(bR.alloc lr _).alloc (by simp) _
 have b4:Below W.heap.size W W4:=by rw[←hW4];exact(bR.alloc lr _).alloc (by simp) _
 have hm:eu W (w.heap.size+1) []:=by
  rw[←hW]
  have:=eu.made (w.alloc (.cells T.cells.toArray tt))
  simpa using this
 have hc1:W4.heap[W.heap.size]?=some (.cells T.cells.toArray 170 (0,0)):=by rw[←hW4];exact AX (heap_alloc_new W _) _
 have hc2:W4.heap[W.heap.size+1]?=some (.cells #[.slice (some ⟨W.heap.size,0,none⟩) 1 1] 168 (0,0)):=by
  have:=heap_alloc_new (W.alloc (.cells T.cells.toArray 170)) (.cells #[.slice (some ⟨W.heap.size,0,none⟩) 1 1] 168)
  rw[←hW4];simpa using this
 have ht4:bE W4 0 none T:=(hT.low b1).low b4
 refine⟨⟨rfl,⟨rfl,.inr ⟨W.heap.size+1,1,_,rfl,z0,hc2,lr,by decide,rfl,rfl⟩⟩,fun x hx=>?_,fun x hx=>?_,fun x hx k hk=>?_⟩,hm.below b4,fun x hx=>?_,⟨_,List.mem_singleton.2 rfl,?_⟩,fun i hi=>absurd hi (by omega),ap b1 b4,by omega,?_⟩
 ·obtain rfl:=List.mem_singleton.1 hx
  exact .mk _ ⟨by simp[ak.cells,ak.kids],.inr ⟨W.heap.size,1,_,rfl,z0,hc1,lr,by decide,rfl,by simp[ak.kids,ak.cells]⟩⟩ (fun g _=>by simp) (fun k hk=>by simp only[ak.kids,List.mem_singleton] at hk;subst hk;exact ht4)
 ·obtain rfl:=List.mem_singleton.1 hx;simp[ak.kids]
 ·obtain rfl:=List.mem_singleton.1 hx;simp only[ak.kids,List.mem_singleton] at hk;subst hk;exact hS
 ·obtain rfl:=List.mem_singleton.1 hx;simp[ak.ht,yA]
 ·simp[ak.ht,yA]
 ·simp[cE,ak.cnt];exact hc
theorem FT.round {w wr:World}{mb h k:Nat}{A:OA}{n c:Nat}{xs:List ak}{ms:List (ak×Nat)}(d:FT w wr mb h k A n c xs ms):AW wr.heap.size (wr.alloc (.map #[] 0)) mb wr.heap.size h k A n c xs none 0 0 [] ms []:=by
 have b:Below wr.heap.size wr (wr.alloc (.map #[] 0)):=bR.alloc lr _
 exact⟨d.lev.below b,fun g hg=>(d.lev.row.lt g hg).2,.nil _ _,d.met.below b,eu.made wr,by have:=d.met.lt;omega,d.xh,by simp,by simp,d.mok,d.top⟩
theorem FT.after {w wr:World}{s0 mb hb h k:Nat}{A:OA}{n c:Nat}{xs:List ak}{B:OA}{m cB:Nat}{ys:List ak}{ms hs:List (ak×Nat)}(d:AW s0 wr mb hb h k A n c xs B m cB ys ms hs)(hs:iZ (xs.flatMap ak.kids) ys ms)(hm:0<m)(bel:Below w.heap.size w wr)(mlo:w.heap.size≤mb)(hc:cE ys≤64):FT w wr mb h (k+1) B m cB ys ms∧k<ms.length∧k+1≤h:=by
 obtain⟨h1,h2,h3,h4⟩:=d.next hs hm
 exact⟨⟨⟨d.new.len,aN d.new.row z0,d.new.own,d.new.ne,d.new.shape⟩,d.met,fun y hy=>by have:=d.yh y hy;omega,h4,h3,bel,mlo,hc⟩,h1,h2⟩
theorem eu.len {w:World}{b:Nat}{ms:List (ak×Nat)}(h:eu w b ms)(ty:TypeId):(Builtin.len_ #[262] ty #[.map (some b)]).run Tryz.prog w=.ok (.int .i64 ms.length) w:=by
 obtain⟨es,clock,hb,hm⟩:=h.ex
 have e3:es.size=ms.length:=by have:=congrArg List.length hm;simpa using this
 simp[Builtin.len_,run_underlying Tryz.underlying262,MapKept.run_getObj_map hb,goInt,e3]
theorem lh {B:Nat}{w W:World}(h:Below B w W):Below B w W.drew:=⟨h.os,h.tape,h.output,h.size,h.block⟩
theorem AY (T:ak)(w:World)(hT:bE w 0 none T)(hS:dI T)(hc:T.cnt≤64)(hh:T.ht≤1000000):
  Calls Tryz.prog 214 #[T.val] w fun e w'=>(∃ r:Nat,e=.returned (.int .i64 r)∧r≤T.ht)∧Below w.heap.size w w':=by
 have hmm:=@run_makeMap Tryz.prog
 obtain⟨i1,hi1,hw0,hw1,hw2'⟩:=info_parts Es
 obtain⟨W,hW⟩:∃ W,(w.alloc (.cells T.cells.toArray 170)).alloc (.map #[] 0)=W:=⟨_,rfl⟩
 have zW:W.heap.size=w.heap.size+2:=by rw[←hW];simp
 obtain⟨W4,hW4⟩:∃ W4,(W.alloc (.cells T.cells.toArray 170)).alloc (.cells #[.slice (some ⟨W.heap.size,0,none⟩) 1 1] 168)=W4:=⟨_,rfl⟩
 have D0:Hid (FT w W4 (w.heap.size+1) T.ht 0 (some ⟨W.heap.size+1,0,none⟩) 1 1 [.mk ⟨#[]⟩ ⟨#[]⟩ 0 ⟨#[]⟩ (some ⟨W.heap.size,0,none⟩) 1 [T]] []):=FT.start hT hS hc _ hW hW4
 obtain⟨h,hh'⟩:∃ h,T.ht=h:=⟨_,rfl⟩
 rw[hh'] at D0 hh ⊢
 have HW4:=ae hW4
 have HW:=ae hW
 clear hT hS hc hh' hW hW4 zW
 unfold ak.val
 go_enter Tryz.func214,Tryz.ntmps214
 go_upto_region 3 with(fail)
 have hW':(w.alloc (.cells #[.string T.op,.string T.nm,.int .i64 T.aop,.string T.ver,.slice T.ka T.kids.length T.kc] 170)).alloc (.map #[] 0)=W:=HW.out
 rw[hW']
 have K0:Hid (av W w.heap.size T.cells):=by rw[←HW.out];exact(av.new w T.cells _).alloc _
 have k0:=K0.out.cell 0 _ rfl
 have k1:=K0.out.cell 1 _ rfl
 have k2:=K0.out.cell 2 _ rfl
 have k3:=K0.out.cell 3 _ rfl
 have k4:=K0.out.cell 4 _ rfl
 clear hW' K0 HW
 go_wp2_with fail
 clear k0 k1 k2 k3 k4
 go_loopw [3,5,6] (fun dv lv ar wr=>∃ (k d n c:Nat) (A:OA) (xs:List ak) (ms:List (ak×Nat)),dv=.int .i64 d∧lv=.slice A n c∧ar=.int .i64 k∧d≤h∧k≤h∧Hid (FT w wr (w.heap.size+1) h k A n c xs ms)) (fun _ _ ar _=>h-(intOf ar).toNat)
 case atStart=>have:=D0.out;rw[←HW4.out] at this;exact⟨0,0,1,1,_,_,_,rfl,rfl,rfl,z0,z0,this⟩
 case round=>
  clear D0 HW4
  obtain⟨k,d,n,c,A,xs,ms,rfl,rfl,rfl,hd,hk,HD⟩:=hrel
  have hn:=HD.out.few
  have hxc:=HD.out.cnt
  obtain⟨s0,hs0⟩:∃ s0,wr.heap.size=s0:=⟨_,rfl⟩
  obtain⟨W1,hW1⟩:∃ W1,wr.alloc (.map #[] 0)=W1:=⟨_,rfl⟩
  have S1:Hid (AW s0 W1 (w.heap.size+1) s0 h k A n c xs none 0 0 [] ms []):=by rw[←hW1,←hs0];exact HD.out.round
  have B1:Hid (Below w.heap.size w W1):=by rw[←hW1];exact HD.out.bel.alloc HD.out.bel.size _
  have HXC:Hid (cE xs≤64):=hxc
  have HS0:Hid (w.heap.size≤s0):=by rw[←hs0];exact HD.out.bel.size
  clear hxc HD
  go_wp2_with fail
  clear hW1 hs0 hmm
  go_loopw [3,7,25] (fun dv bv iv wr=>∃ (i d m cB:Nat) (B:OA) (ys:List ak) (ms hs:List (ak×Nat)),dv=.int .i64 d∧bv=.slice B m cB∧iv=.int .i64 i∧d≤h∧i≤n∧Hid (AW s0 wr (w.heap.size+1) s0 h k A n c xs B m cB ys ms hs)∧Hid (iZ ((xs.take i).flatMap ak.kids) ys ms)∧Hid (Below w.heap.size w wr)∧Hid (cE ys≤cE ((xs.take i).flatMap ak.kids))) (fun _ _ iv _=>n-(intOf iv).toNat)
  case atStart=>exact⟨0,d,0,0,none,[],ms,[],rfl,rfl,rfl,hd,z0,S1,iZ.nil _ _,B1,lr⟩
  case round=>
   clear S1 B1
   obtain⟨i,d,m,cB,B,ys,ms,hs,rfl,rfl,rfl,hd,hi,HS,HN,HB,HC⟩:=hrel
   by_cases hlt:i<n
   ·obtain⟨x,hx⟩:∃ x,xs[i]?=some x:=⟨_,gG (by rw[HS.out.lev.len];exact hlt)⟩
    have HX:=ae hx
    have hxm:Hid (x∈xs):=gM hx
    obtain⟨b,off,hA,he⟩:=(cP HS.out.lev.row).one i _ (by rw[List.getElem?_map,hx];rfl) hlt
    have hix:=fun W=>aH (T:=285) (E:=168) (sz:=1) (c:=c) Tryz.underlying285 rfl Tryz.sizeOf168 hA hlt W
    simp only[Nat.mul_one] at hix
    obtain⟨kl,hkl⟩:∃ kl,x.kids.length=kl:=⟨_,rfl⟩
    have HKL:=ae hkl
    have hk64:kl≤64:=by
     have h1:=fX x.kids;rw[←eW (HS.out.lev.ne x hxm.out)] at h1
     have h2:=iW hxm.out;have:=HXC.out;omega
    unfold ak.sl at he
    rw[hkl] at he
    clear hx hA hkl
    go_wp2_with fail
    clear he hix
    go_loopw [3,7,31] (fun dv bv jv wr=>∃ (j d m cB:Nat) (B:OA) (ys:List ak) (ms hs:List (ak×Nat)),dv=.int .i64 d∧bv=.slice B m cB∧jv=.int .i64 j∧d≤h∧j≤kl∧Hid (AW s0 wr (w.heap.size+1) s0 h k A n c xs B m cB ys ms hs)∧Hid (iZ ((xs.take i).flatMap ak.kids++x.kids.take j) ys ms)∧Hid (Below w.heap.size w wr)∧Hid (cE ys≤cE ((xs.take i).flatMap ak.kids++x.kids.take j))) (fun _ _ jv _=>kl-(intOf jv).toNat)
    case atStart=>exact⟨0,d,m,cB,B,ys,ms,hs,rfl,rfl,rfl,hd,z0,HS,by simpa [Hid] using HN.out,HB,by simpa [Hid] using HC.out⟩
    case round=>
     clear HS HN HB HC
     obtain⟨j,d,m,cB,B,ys,ms,hs,rfl,rfl,rfl,hd,hj,HS,HN,HB,HC⟩:=hrel
     by_cases hlj:j<kl
     ·obtain⟨t,ht⟩:∃ t,x.kids[j]?=some t:=⟨_,gG (by rw[HKL.out];exact hlj)⟩
      have HT:=ae ht
      have htm:Hid (t∈x.kids):=gM ht
      have HOW:=ae ((HS.out.lev.own x hxm.out).kids t htm.out)
      have HSH:=ae (HS.out.lev.shape x hxm.out t htm.out)
      obtain⟨b,off,hA,he⟩:=(HS.out.lev.own x hxm.out).rd.cell j t ht
      have e0:=he 0 _ rfl
      have e1:=he 1 _ rfl
      have e2:=he 2 _ rfl
      have e3:=he 3 _ rfl
      have e4:=he 4 _ rfl
      simp only[Nat.add_zero] at e0
      have hix:=fun W=>aH (T:=168) (E:=170) (sz:=5) (c:=x.kc) Tryz.underlying168 rfl Tryz.sizeOf170 hA hlj W
      have HHT:Hid (t.ht+k≤h):=by have h1:=Hl htm.out;have h2:=HS.out.xh x hxm.out;show _≤_;omega
      have TK:Hid (x.kids.take (j+1)=x.kids.take j++[t]):=Er ht
      clear ht hA he
      by_cases tk:t.kids=[]
      ·have o0:t.op.toList=[]:=by rw[ai];exact bL _ (HSH.out.leaf tk)
       have o1:t.op.toList.isEmpty=true:=by rw[o0];rfl
       have l0:t.kids.length=0:=by rw[tk];rfl
       rw[l0] at e4
       have SN:Hid (iZ ((xs.take i).flatMap ak.kids++x.kids.take (j+1)) ys ms):=by show iZ _ _ _;rw[TK.out,←List.append_assoc];exact HN.out.leaf tk
       have CN:Hid (cE ys≤cE ((xs.take i).flatMap ak.kids++x.kids.take (j+1))):=by have:=HC.out;show _≤_;rw[TK.out,←List.append_assoc,de];omega
       have SB:=ae (HS.out.below ((Below.refl wr.heap.size wr).alloc lr (.cells #[.string t.op,.string t.nm,.int .i64 t.aop,.string t.ver,.slice t.ka 0 t.kc] 170)))
       have BB:=ae (HB.out.alloc HB.out.size (.cells #[.string t.op,.string t.nm,.int .i64 t.aop,.string t.ver,.slice t.ka 0 t.kc] 170))
       clear tk l0
       go_wp2_with fail
       go_roundw
       case rel=>exact⟨j+1,max d k,m,cB,B,ys,ms,hs,by congr 1;omega,rfl,by go_num,by omega,by omega,SB,SN,BB,CN⟩
       case measure=>simp[intOf];omega
      ·obtain⟨g,cur,hA,hg,-⟩:=lf HOW.out tk
       have HKA:=ae hA
       obtain⟨tl,htl⟩:∃ tl,t.kids.length=tl:=⟨_,rfl⟩
       have HTL:=ae htl
       have htp:0<tl:=by rw[←htl];exact List.length_pos_iff.2 tk
       have ht64:tl≤1000000:=by
        have h1:=fX t.kids;rw[←eW tk] at h1
        have h2:=iW htm.out;rw[←eW (HS.out.lev.ne x hxm.out)] at h2
        have h3:=iW hxm.out;have:=HXC.out;omega
       rw[htl] at e4
       have hix2:=fun W=>aH (T:=168) (E:=170) (sz:=5) (n:=tl) (c:=t.kc) (k:=0) Tryz.underlying168 rfl Tryz.sizeOf170 hA htp W
       simp only[Nat.zero_mul,Nat.add_zero] at hix2
       have hix3:∀ W:World,(Instr.indexAt 168 (.slice t.ka tl t.kc) (.int .i64 0)).run Tryz.prog W=.ok (.pointer (some ⟨g,0,none⟩)) W:=hix2
       have l1:decide ((0:Int)<(tl:Int))=true:=dT (by omega)
       have l2:decide (0<tl)=true:=dT htp
       have HTK:Hid (t.kids≠[]):=tk
       clear tk hA hg htl hix2
       go_upto_region 15 with(fail)
       obtain⟨W1,hW1⟩:∃ W1,wr.alloc (.cells #[.string t.op,.string t.nm,.int .i64 t.aop,.string t.ver,.slice t.ka tl t.kc] 170)=W1:=⟨_,rfl⟩
       have B1:Hid (Below wr.heap.size wr W1):=by rw[←hW1];exact bR.alloc lr _
       have K1:Hid (av W1 wr.heap.size [.string t.op,.string t.nm,.int .i64 t.aop,.string t.ver,.slice t.ka tl t.kc]):=by rw[←hW1];exact av.new wr [.string t.op,.string t.nm,.int .i64 t.aop,.string t.ver,.slice t.ka tl t.kc] _
       rw[hW1]
       clear hW1 e0 e1 e2 e3 e4 hix l1 l2
       have u4:=K1.out.cell 4 _ rfl
       have hz1:wr.heap.size<W1.heap.size:=K1.out.sz
       have hz2:¬ wr.heap.size=W1.heap.size:=by omega
       go_region
       obtain⟨W2,hW2⟩:∃ W2,(W1.alloc (.cells #[.pointer (some ⟨g,0,none⟩),.int .i64 tl] 288)).drew=W2:=⟨_,rfl⟩
       have B2:Hid (Below W1.heap.size W1 W2):=by rw[←hW2];exact lh ((Below.refl W1.heap.size W1).alloc lr _)
       have K2:Hid (av W2 W1.heap.size [.pointer (some ⟨g,0,none⟩),.int .i64 tl]):=by rw[←hW2];exact(av.new W1 [.pointer (some ⟨g,0,none⟩),.int .i64 tl] _).drew
       have K1':=ae (K1.out.below B2.out)
       have BW:Hid (Below wr.heap.size wr W2):=ap B1.out B2.out
       have D2:=ae (HS.out.below BW.out)
       have O2:=ae (HOW.out.low BW.out)
       have BB:=ae (ap HB.out BW.out)
       have KEY:Hid (t.key=.agg #[.pointer (some ⟨g,0,none⟩),.int .i64 tl]):=by show _=_;unfold ak.key;rw[HKA.out,HTL.out]
       rw[hW2]
       have HLT:=ae hz1
       clear hW2 u4 hz1 hz2 hix3 B1 B2 K1
       have v0:=K2.out.cell 0 _ rfl
       have v1:=K2.out.cell 1 _ rfl
       have hlook:=D2.out.here.look O2.out HTK.out
       rw[KEY.out] at hlook
       rcases hlook with hlk | ⟨p,hp,hpk,hlk⟩
       ·obtain⟨w1,hs',r1,k1,g1,z1,f1,-,-⟩:=(D2.out.here.below (w':=W2.drew) ⟨rfl,rfl,rfl,lr,fun _ _=>rfl⟩).put (O2.out.low (w':=W2.drew) ⟨rfl,rfl,rfl,lr,fun _ _=>rfl⟩) HTK.out k
        have D2d:=ae (D2.out.below (w':=W2.drew) ⟨rfl,rfl,rfl,lr,fun _ _=>rfl⟩)
        have O2d:=ae (O2.out.low (w':=W2.drew) ⟨rfl,rfl,rfl,lr,fun _ _=>rfl⟩)
        have m1:eu w1 (w.heap.size+1) ms:=D2d.out.met.tame (.map D2d.out.here) (fun e=>D2.out.hne (by injection e)) g1
        obtain⟨w2,ms',r2,k2,g2,z2,-,f2,f3⟩:=m1.put (O2d.out.tame (.map D2d.out.here) g1) HTK.out k
        rw[KEY.out] at r1 r2
        have HG1:=ae g1;have HK1:=ae k1;have HF1:=ae f1
        have HG2:=ae g2;have HK2:=ae k2;have HF2:=ae f2;have HF3:=ae f3
        have hl1:s0<wr.heap.size:=HS.out.here.lt
        have hl2:w.heap.size+1<wr.heap.size:=HS.out.met.lt
        have hl3:wr.heap.size<W1.heap.size:=HLT.out
        have Kl:=ae (K2.out.drew.grownBy g1 (fun e=>by injection e with e;omega))
        have Kw:=ae ((K1'.out.drew.grownBy g1 (fun e=>by injection e with e;omega)).grownBy g2 (fun e=>by injection e with e;omega))
        have q0:=Kl.out.cell 0 _ rfl
        have q1:=Kl.out.cell 1 _ rfl
        have NW:=ae ((D2d.out.new.map D2d.out.here g1).map m1 g2)
        have B3:=ae (cY (cY (lh BB.out) g1 HS0.out) g2 (Nat.le_succ _))
        have hz3:s0<w2.heap.size:=by have:=Kw.out.sz;omega
        have hm64:m≤64:=by
         have h1:=fX ys;have h2:=HC.out;have h3:=HS.out.new.len
         have h4:=Ep HS.out.lev.ne HX.out j;have:=HXC.out;omega
        have hw2:w.heap.size≤w2.heap.size:=by have:=HS0.out;omega
        clear g1 k1 f1 g2 k2 f2 f3 z1 z2 m1 hl1 hl2 hl3
        go_wp2_with fail
        go_region
        clear v0 v1 q0 q1 r1 r2 hlk
        have y4:=Kw.out.cell 4 _ rfl
        go_wp2_with (at_builtin;refine au _ rfl _ _ _ rfl s0 168 i1 _ 1 24 Tryz.underlying285 hi1 hw0 hw1 hw2' rfl (by omega) (.slice B m cB) m _ rfl (NW.out.row.alloc _) (w2.heap.size+1) (some ⟨w2.heap.size,0,none⟩) 1 1 [.slice t.ka tl t.kc] rfl (fB w2 _ _) (by simp[Value.oneCell']) (by simp only[maxLen];omega) (by omega) (by simp;omega) ?_;intro v1 w3 o1 g3 a1)
        obtain⟨B3',c3,rfl⟩:=aL o1
        have o2:w3.ownsRow s0 168 1 (.slice B3' (m+1) c3) (m+1) (ys.map ak.sl++[t.sl]):=by rw[show t.sl=.slice t.ka tl t.kc from by unfold ak.sl;rw[HTL.out]];exact o1
        have D3:=ae (D2d.out.grow O2d.out HTK.out HSH.out.kids HHT.out HK1.out HG1.out HF1.out HK2.out HG2.out HF2.out HF3.out ((Below.refl w2.heap.size w2).alloc lr _) o2 g3)
        have BB3:Hid (Below w.heap.size w w3):=(B3.out.alloc hw2 _).grown g3 (by simp;omega) (fun j' hj'=>by have:=(NW.out.row.lt j' hj').1;have:=HS0.out;omega)
        have SN:Hid (iZ ((xs.take i).flatMap ak.kids++x.kids.take (j+1)) (ys++[t]) ms'):=by show iZ _ _ _;rw[TK.out,←List.append_assoc];exact HN.out.grow HF2.out HF3.out
        have CN:Hid (cE (ys++[t])≤cE ((xs.take i).flatMap ak.kids++x.kids.take (j+1))):=by have:=HC.out;show _≤_;rw[TK.out,←List.append_assoc,de,de _ [t]];omega
        clear o1 o2 g3 a1 y4
        go_wp2_with fail
        go_roundw
        case rel=>exact⟨j+1,d,m+1,c3,B3',ys++[t],ms',hs',rfl,rfl,by go_num,hd,by omega,D3,SN,BB3,CN⟩
        case measure=>simp[intOf];omega
       ·have SN:Hid (iZ ((xs.take i).flatMap ak.kids++x.kids.take (j+1)) ys ms):=by show iZ _ _ _;rw[TK.out,←List.append_assoc];exact D2.out.hit HN.out hp hpk
        have CN:Hid (cE ys≤cE ((xs.take i).flatMap ak.kids++x.kids.take (j+1))):=by have:=HC.out;show _≤_;rw[TK.out,←List.append_assoc,de];omega
        clear hp hpk
        go_wp2_with fail
        go_roundw
        case rel=>exact⟨j+1,d,m,cB,B,ys,ms,hs,rfl,rfl,by go_num,hd,by omega,D2,SN,BB,CN⟩
        case measure=>simp[intOf];omega
     ·have SN:Hid (iZ ((xs.take (i+1)).flatMap ak.kids) ys ms):=by have:=HN.out;rw[tL (l:=x.kids) (by rw[HKL.out];omega),←vh HX.out] at this;exact this
      have CN:Hid (cE ys≤cE ((xs.take (i+1)).flatMap ak.kids)):=by have:=HC.out;rw[tL (l:=x.kids) (by rw[HKL.out];omega),←vh HX.out] at this;exact this
      go_wp2_with fail
      go_roundw
      case rel=>exact⟨i+1,d,m,cB,B,ys,ms,hs,rfl,rfl,by go_num,hd,by omega,HS,SN,HB,CN⟩
      case measure=>simp[intOf];omega
   ·have hln:=HS.out.lev.len
    have SN:Hid (iZ (xs.flatMap ak.kids) ys ms):=by have:=HN.out;rw[tL (by omega)] at this;exact this
    have CN:Hid (cE ys≤64):=by have h1:=HC.out;have h2:=HXC.out;rw[tL (by omega),vg HS.out.lev.ne] at h1;show _≤_;omega
    have hm64:m≤64:=by have h1:=fX ys;have h2:=HS.out.new.len;have:=CN.out;omega
    clear hln
    by_cases hm0:m=0
    ·have q0:((m:Int)==0)=true:=by simp[hm0]
     clear hm0
     go_wp2_with fail
     go_ret
     exact⟨⟨d,rfl,hd⟩,HB.out⟩
    ·have q0:((m:Int)==0)=false:=by simp;omega
     obtain⟨o1,o2,o3⟩:=FT.after (w:=w) HS.out SN.out (by omega) HB.out (Nat.le_succ _) CN.out
     have O1:=ae o1
     have hlen:=HS.out.met.len
     have q1:decide ((ms.length:Int)≤(k:Int))=false:=dF (by omega)
     have q2:decide (ms.length≤k)=false:=dF (by omega)
     clear o1 o2 hm0
     go_wp2_with fail
     go_roundw
     case rel=>exact⟨k+1,d,m,cB,B,ys,ms,rfl,rfl,by go_num,hd,o3,O1⟩
     case measure=>simp[intOf];omega
structure ud (w:World) (b:Nat) (ms:List (ak×Nat)):Prop where
 map:eu w b ms
 val:∀ p∈ms,p.2=cE p.1.kids
theorem ud.below {w w':World}{b:Nat}{ms:List (ak×Nat)}(h:ud w b ms)(hb:Below w.heap.size w w'):ud w' b ms:=⟨h.map.below hb,h.val⟩
def MV (T:ak):Prop:=∀ (w:World)(b:Nat)(ms:List (ak×Nat)),ud w b ms→bE w 0 none T→dI T→T.cnt≤64 →
 Calls Tryz.prog 215 #[T.val,.map (some b)] w fun e w'=>e=.returned (.int .i64 T.cnt)∧w.grownBy w' (some b)∧∃ ms',ud w' b ms'
theorem Ho (T:ak)(IH:∀ t:ak,t.ht<T.ht→MV t):MV T:=by
 intro w b ms hM hO hS hc
 have hmm:=@run_makeMap Tryz.prog
 have HM:=ae hM
 have HO:=ae hO
 have HS:=ae hS
 have HC:=ae hc
 have HIH:=ae IH
 clear hM hO hS IH hc
 obtain⟨W1,hW1⟩:∃ W1,w.alloc (.cells #[.string T.op,.string T.nm,.int .i64 T.aop,.string T.ver,.slice T.ka T.kids.length T.kc] 170)=W1:=⟨_,rfl⟩
 have B1:Hid (Below w.heap.size w W1):=by rw[←hW1];exact bR.alloc lr _
 have K1:Hid (av W1 w.heap.size T.cells):=by rw[←hW1];exact av.new w T.cells _
 by_cases tk:T.kids=[]
 ·have o0:T.op.toList=[]:=by rw[ai];exact bL _ (HS.out.leaf tk)
  have o1:T.op.toList.isEmpty=true:=by rw[o0];rfl
  have E:Hid (T.cnt=1):=Hk tk
  have M1:=ae (HM.out.below B1.out)
  have k0:=K1.out.cell 0 _ rfl
  clear tk hmm
  unfold ak.val
  go_enter Tryz.func215,Tryz.ntmps215
  go_wp2_with fail
  go_ret
  exact⟨aE (by rw[E.out];rfl),dd B1.out _,ms,M1.out⟩
 obtain⟨g,cur,hA,hg,-⟩:=lf HO.out tk
 have o0:(T.op.toList==([]:LU))=false:=by rw[ai,bF];intro e;exact HS.out.node tk (by rw[←ah,e];rfl)
 have o1:T.op.toList.isEmpty=false:=by rw[ai,aY];exact dF (HS.out.node tk)
 have o2:¬ T.op.toList=[]:=by intro e;rw[e] at o1;simp at o1
 have HKA:=ae hA
 obtain⟨tl,htl⟩:∃ tl,T.kids.length=tl:=⟨_,rfl⟩
 have HTL:=ae htl
 have htp:0<tl:=by rw[←htl];exact List.length_pos_iff.2 tk
 have CN:Hid (T.cnt=cE T.kids):=eW tk
 have ht64:tl≤64:=by have h1:=fX T.kids;have:=HC.out;have:=CN.out;omega
 have hix3:∀ W:World,(Instr.indexAt 168 (.slice T.ka tl T.kc) (.int .i64 0)).run Tryz.prog W=.ok (.pointer (some ⟨g,0,none⟩)) W:=by
  have hix2:=fun W=>aH (T:=168) (E:=170) (sz:=5) (n:=tl) (c:=T.kc) (k:=0) Tryz.underlying168 rfl Tryz.sizeOf170 hA htp W
  simp only[Nat.zero_mul,Nat.add_zero] at hix2
  exact hix2
 have HTK:Hid (T.kids≠[]):=tk
 have l1:((tl:Int)==0)=false:=by simp;omega
 have KEY:Hid (T.key=.agg #[.pointer (some ⟨g,0,none⟩),.int .i64 tl]):=by show _=_;unfold ak.key;rw[HKA.out,HTL.out]
 have KV:Hid (T.val=.agg #[.string T.op,.string T.nm,.int .i64 T.aop,.string T.ver,.slice T.ka tl T.kc]):=by show _=_;unfold ak.val;rw[HTL.out]
 have hw1:w.heap.size<W1.heap.size:=K1.out.sz
 have hne:¬ w.heap.size=W1.heap.size:=by omega
 have u0:=K1.out.cell 0 _ rfl
 have u4:=K1.out.cell 4 _ rfl
 rw[htl] at hW1 u4
 rw[KV.out]
 clear tk hA hg htl
 go_enter Tryz.func215,Tryz.ntmps215
 go_upto_region 5 with(fail)
 clear hW1
 go_region
 obtain⟨W2,hW2⟩:∃ W2,(W1.alloc (.cells #[.pointer (some ⟨g,0,none⟩),.int .i64 tl] 288)).drew=W2:=⟨_,rfl⟩
 have B2:Hid (Below W1.heap.size W1 W2):=by rw[←hW2];exact lh ((Below.refl W1.heap.size W1).alloc lr _)
 have K2:Hid (av W2 W1.heap.size [.pointer (some ⟨g,0,none⟩),.int .i64 tl]):=by rw[←hW2];exact(av.new W1 [.pointer (some ⟨g,0,none⟩),.int .i64 tl] _).drew
 have BW:Hid (Below w.heap.size w W2):=ap B1.out B2.out
 have KB:=ae (K1.out.below B2.out)
 have M2:=ae (HM.out.below BW.out)
 have O2:=ae (HO.out.low BW.out)
 have hbw:b<w.heap.size:=HM.out.map.lt
 rw[hW2]
 clear hW2 u0 u4 hix3 hw1 hne o0 o1 o2 l1
 have v0:=K2.out.cell 0 _ rfl
 have v1:=K2.out.cell 1 _ rfl
 have u4:=KB.out.cell 4 _ rfl
 rw[HTL.out] at u4
 have hlook:=M2.out.map.look O2.out HTK.out
 rw[KEY.out] at hlook
 rcases hlook with hlk | ⟨p,hp,hpk,hlk⟩
 ·go_wp2_with fail
  clear hlk v0 v1 u4
  go_loopw [8,36] (fun sv iv wr=>∃ (i s:Nat) (ms:List (ak×Nat)),sv=.int .i64 s∧iv=.int .i64 i∧i≤tl∧s≤64∧Hid (s=cE (T.kids.take i))∧Hid (ud wr b ms)∧Hid (bE wr 0 none T)∧Hid (av wr W1.heap.size [.pointer (some ⟨g,0,none⟩),.int .i64 tl])∧Hid (w.grownBy wr (some b))) (fun _ iv _=>tl-(intOf iv).toNat)
  case atStart=>exact⟨0,0,ms,rfl,rfl,z0,by omega,by simp[Hid,cE],M2,O2,K2,dd BW.out _⟩
  case round=>
   clear M2 O2 BW KB
   obtain⟨i,s,ms,rfl,rfl,hi,hs,HSM,HM2,HO2,HK2,HG⟩:=hrel
   by_cases hlt:i<tl
   ·obtain⟨t,ht⟩:∃ t,T.kids[i]?=some t:=⟨_,gG (by rw[HTL.out];exact hlt)⟩
    have htm:Hid (t∈T.kids):=gM ht
    obtain⟨b',off,hA,he⟩:=HO2.out.rd.cell i t ht
    have e0:=he 0 _ rfl
    have e1:=he 1 _ rfl
    have e2:=he 2 _ rfl
    have e3:=he 3 _ rfl
    have e4:=he 4 _ rfl
    simp only[Nat.add_zero] at e0
    have hix:=fun W=>aH (T:=168) (E:=170) (sz:=5) (c:=T.kc) Tryz.underlying168 rfl Tryz.sizeOf170 hA hlt W
    have SM:Hid (s+t.cnt=cE (T.kids.take (i+1))):=by show _=_;rw[vc ht,HSM.out]
    have hs2:s+t.cnt≤64:=by have h1:=SM.out;have h2:=iy T.kids (i+1);have:=HC.out;have:=CN.out;omega
    obtain⟨W3,hW3⟩:∃ W3,wr.alloc (.cells #[.string t.op,.string t.nm,.int .i64 t.aop,.string t.ver,.slice t.ka t.kids.length t.kc] 170)=W3:=⟨_,rfl⟩
    have B3:Hid (Below wr.heap.size wr W3):=by rw[←hW3];exact bR.alloc lr _
    have M3:=ae (HM2.out.below B3.out)
    have O3:=ae (HO2.out.low B3.out)
    have hcall:=HIH.out t (Hl htm.out) W3 b ms M3.out (O3.out.kids t htm.out) (HS.out.kids t htm.out) (by omega)
    unfold ak.val at hcall
    have K3:Hid (av W3 wr.heap.size t.cells):=by rw[←hW3];exact av.new wr t.cells _
    have a0:=K3.out.cell 0 _ rfl
    have a1:=K3.out.cell 1 _ rfl
    have a2:=K3.out.cell 2 _ rfl
    have a3:=K3.out.cell 3 _ rfl
    have a4:=K3.out.cell 4 _ rfl
    clear ht hA he
    go_wp2_with fail
    refine hcall.mono ?_;rintro e w4 ⟨rfl,hg,ms',hm'⟩
    have K4:=ae ((HK2.out.below B3.out).grownBy hg (by simp;have:=B2.out.size;have:=hbw;have:=B1.out.size;omega))
    have O4:=ae (O3.out.tame (.map M3.out.map) hg)
    have M4:=ae hm'
    have G4:=ae (aj (kW HG.out B3.out) hg)
    clear hW3 hcall hg hm' a0 a1 a2 a3 a4 e0 e1 e2 e3 e4 hix
    go_wp2_with fail
    go_roundw
    case rel=>exact⟨i+1,s+t.cnt,ms',by congr 1;omega,by go_num,by omega,hs2,SM,M4,O4,K4,G4⟩
    case measure=>simp[intOf];omega
   ·have E:Hid (T.cnt=s):=by show _=_;rw[HSM.out,tL (by rw[HTL.out];omega),CN.out]
    obtain⟨w1,ms',r1,k1,g1,z1,f1,-,-⟩:=HM2.out.map.put HO2.out HTK.out s
    rw[KEY.out] at r1
    have M5:Hid (ud w1 b ms'):=⟨k1,fun p hp=>by
     rcases f1 p hp with⟨q,hq,rfl⟩ | ⟨h1,h2⟩
     ·exact HM2.out.val q hq
     ·rw[h1,h2,←CN.out,E.out]⟩
    have G5:=ae (aj HG.out g1)
    have v0:=HK2.out.cell 0 _ rfl
    have v1:=HK2.out.cell 1 _ rfl
    clear k1 g1 z1 f1
    go_wp2_with fail
    go_ret
    exact⟨aE (by rw[E.out]),G5.out,ms',M5.out⟩
 ·have E:Hid (p.2=T.cnt):=by show _=_;rw[CN.out,M2.out.val p hp,hpk]
  have G2:=ae (dd BW.out (some b))
  clear hp hpk
  go_wp2_with fail
  go_ret
  exact⟨aE (by rw[E.out]),G2.out,ms,M2.out⟩
theorem AZ (T:ak):MV T:=by
 have:∀ n:Nat,∀ T:ak,T.ht<n→MV T:=by
  intro n
  induction n with
  | zero=>intro T h;omega
  | succ n ih=>intro T h;exact Ho T fun t ht=>ih t (by omega)
 exact this (T.ht+1) T (by omega)
theorem su (nm:BA)(aop:Nat)(ver:BA)(hn:di (bl nm)=true)(ho:aop≤5)(hv0:aop=0→ver.size=0)(hv:0<aop→cJ 2 ver=0)(w:World)(hG:Gl w):
  Calls Tryz.prog 242 #[.agg #[.string ⟨#[]⟩,.string nm,.int .i64 aop,.string ver,.slice none 0 0]] w fun e w'=>e=.returned (.int .i64 0)∧Below w.heap.size w w':=by
 have hnz:=lH hn
 have hN:=fun W=>lK nm W (by omega)
 rw[hn] at hN
 have HG:=ae hG
 have HV0:=ae hv0
 have HV:=ae hv
 clear hn hv0 hv hG
 obtain⟨W1,hW1⟩:∃ W1,w.alloc (.cells #[.string ⟨#[]⟩,.string nm,.int .i64 aop,.string ver,.slice none 0 0] 170)=W1:=⟨_,rfl⟩
 have B1:Hid (Below w.heap.size w W1):=by rw[←hW1];exact bR.alloc lr _
 have K1:Hid (av W1 w.heap.size [.string ⟨#[]⟩,.string nm,.int .i64 aop,.string ver,.slice none 0 0]):=by rw[←hW1];exact av.new w [.string ⟨#[]⟩,.string nm,.int .i64 aop,.string ver,.slice none 0 0] _
 have k1:=K1.out.cell 1 _ rfl
 have k2:=K1.out.cell 2 _ rfl
 have k3:=K1.out.cell 3 _ rfl
 have k4:=K1.out.cell 4 _ rfl
 by_cases a0:aop=0
 ·have he:ver.toList=[]:=by rw[ai,bL ver (HV0.out a0)]
  have he2:ver.toList.isEmpty=true:=by rw[he];rfl
  subst a0
  go_enter Tryz.func242,Tryz.ntmps242
  go_wp2_with fail
  refine(hN _).mono ?_;rintro e w' ⟨rfl,rfl⟩
  go_wp2_with fail
  go_ret
  exact⟨rfl,bR.alloc lr _⟩
 ·have hvv:=HV.out (by omega)
  have q0:((aop:Int)==0)=false:=by simp;omega
  have q1:decide ((aop:Int)<0)=false:=dF (by omega)
  have q2:decide ((5:Int)<(aop:Int))=false:=dF (by omega)
  have q3:decide (5<aop)=false:=dF (by omega)
  have hvz:=sf hvv
  have hC:=aU 2 ver W1 (HG.out.below B1.out) (by omega)
  rw[hvv] at hC
  clear a0 hvv hvz
  go_enter Tryz.func242,Tryz.ntmps242
  go_wp2_with fail
  refine(hN _).mono ?_;rintro e w' ⟨rfl,rfl⟩
  go_wp2_with fail
  refine hC.mono ?_;rintro e w2 ⟨rfl,hb⟩
  have B2:=ae (ap B1.out hb)
  clear hb
  go_wp2_with fail
  go_ret
  exact⟨rfl,B2.out⟩
theorem qd (w:World):
  Calls Tryz.prog 242 #[.agg #[.string ⟨#[]⟩,.string ⟨#[]⟩,.int .i64 0,.string ⟨#[]⟩,.slice none 0 0]] w fun e w'=>e=.returned (.int .i64 10)∧Below w.heap.size w w':=by
 have hN:=fun W=>lK ⟨#[]⟩ W (by decide)
 rw[show di (bl ⟨#[]⟩)=false from by rfl] at hN
 have B1:Hid (Below w.heap.size w (w.alloc (.cells #[.string ⟨#[]⟩,.string ⟨#[]⟩,.int .i64 0,.string ⟨#[]⟩,.slice none 0 0] 170))):=bR.alloc lr _
 go_enter Tryz.func242,Tryz.ntmps242
 go_wp2_with fail
 refine(hN _).mono ?_;rintro e w' ⟨rfl,rfl⟩
 go_wp2_with fail
 go_ret
 exact⟨rfl,B1.out⟩
theorem yL (w:World):
  Calls Tryz.prog 216 #[.agg #[.string ⟨#[]⟩,.string ⟨#[]⟩,.int .i64 0,.string ⟨#[]⟩,.slice none 0 0]] w fun e w'=>e=.returned (.int .i64 10)∧Below w.heap.size w w':=by
 have B1:Hid (Below w.heap.size w (w.alloc (.cells #[.string ⟨#[]⟩,.string ⟨#[]⟩,.int .i64 0,.string ⟨#[]⟩,.slice none 0 0] 170))):=bR.alloc lr _
 go_enter Tryz.func216,Tryz.ntmps216
 go_wp2_with fail
 refine(qd _).mono ?_;rintro e w2 ⟨rfl,hb⟩
 have B2:=ae (ap B1.out hb)
 clear hb
 go_wp2_with fail
 go_ret
 exact⟨rfl,B2.out⟩
def Nb (T:ak):Prop:=∀ w:World,Gl w→bE w 0 none T→T.cnt≤64→Calls Tryz.prog 216 #[T.val] w fun e w'=>e=.returned (.int .i64 0)∧Below w.heap.size w w'
theorem Bb {T:ak}(h:fC T):Nb T:=by
 induction h with
 | atom nm aop ver hn ho hv0 hv=>
  intro w hG _ _
  have hA:=fun W hW=>su nm aop ver hn ho hv0 hv W hW
  have HG:=ae hG
  clear hn ho hv0 hv hG
  obtain⟨W1,hW1⟩:∃ W1,w.alloc (.cells #[.string ⟨#[]⟩,.string nm,.int .i64 aop,.string ver,.slice none 0 0] 170)=W1:=⟨_,rfl⟩
  have B1:Hid (Below w.heap.size w W1):=by rw[←hW1];exact bR.alloc lr _
  have K1:Hid (av W1 w.heap.size [.string ⟨#[]⟩,.string nm,.int .i64 aop,.string ver,.slice none 0 0]):=by rw[←hW1];exact av.new w [.string ⟨#[]⟩,.string nm,.int .i64 aop,.string ver,.slice none 0 0] _
  have k0:=K1.out.cell 0 _ rfl
  have k1:=K1.out.cell 1 _ rfl
  have k2:=K1.out.cell 2 _ rfl
  have k3:=K1.out.cell 3 _ rfl
  have k4:=K1.out.cell 4 _ rfl
  show Calls Tryz.prog 216 #[.agg #[.string ⟨#[]⟩,.string nm,.int .i64 aop,.string ver,.slice none 0 0]] w _
  go_enter Tryz.func216,Tryz.ntmps216
  go_wp2_with fail
  refine(hA _ (HG.out.below B1.out)).mono ?_;rintro e w2 ⟨rfl,hb⟩
  have B2:=ae (ap B1.out hb)
  clear hb
  go_wp2_with fail
  go_ret
  exact⟨rfl,B2.out⟩
 | node op ka kc kids ho hc hk ih=>
  intro w hG hO hcn
  have HG:=ae hG
  have HO:=ae hO
  have HIH:=ae ih
  have hw:=(kr ho).1
  have o0:(op.toList==([]:LU))=false:=by rw[ai,bF];exact hw
  have o2:¬ op.toList=[]:=by rw[ai];exact hw
  have o1:op.toList.isEmpty=false:=by rw[List.isEmpty_eq_false_iff];exact o2
  obtain⟨tl,htl⟩:∃ tl,kids.length=tl:=⟨_,rfl⟩
  have HTL:=ae htl
  obtain⟨W1,hW1⟩:∃ W1,w.alloc (.cells #[.string op,.string ⟨#[]⟩,.int .i64 0,.string ⟨#[]⟩,.slice ka tl kc] 170)=W1:=⟨_,rfl⟩
  have B1:Hid (Below w.heap.size w W1):=by rw[←hW1];exact bR.alloc lr _
  have K1:Hid (av W1 w.heap.size [.string op,.string ⟨#[]⟩,.int .i64 0,.string ⟨#[]⟩,.slice ka tl kc]):=by rw[←hW1];exact av.new w [.string op,.string ⟨#[]⟩,.int .i64 0,.string ⟨#[]⟩,.slice ka tl kc] _
  have k0:=K1.out.cell 0 _ rfl
  have k1:=K1.out.cell 1 _ rfl
  have k2:=K1.out.cell 2 _ rfl
  have k3:=K1.out.cell 3 _ rfl
  have k4:=K1.out.cell 4 _ rfl
  have hK:=sj op W1 (HG.out.below B1.out)
  rw[ho] at hK
  have hC:=pF op tl W1
  rw[←htl,hc,htl] at hC
  have O1:Hid (bE W1 0 none (.mk op ⟨#[]⟩ 0 ⟨#[]⟩ ka kc kids)):=HO.out.low B1.out
  have CNE:=ae (eW (t:=.mk op ⟨#[]⟩ 0 ⟨#[]⟩ ka kc kids) (by have:=kq hc;intro e;simp only[ak.kids] at e;rw[e] at this;simp at this))
  have HCN:Hid (cE kids≤64):=by have h1:=CNE.out;simp only[ak.kids] at h1;show _≤_;omega
  have htl9:tl≤64:=by have h1:=fX kids;have:=HCN.out;omega
  clear ho hc hk ih hG hO hw htl hcn CNE
  show Calls Tryz.prog 216 #[.agg #[.string op,.string ⟨#[]⟩,.int .i64 0,.string ⟨#[]⟩,.slice ka kids.length kc]] w _
  rw[HTL.out]
  go_enter Tryz.func216,Tryz.ntmps216
  go_wp2_with fail
  refine hK.mono ?_;rintro e w' ⟨rfl,rfl⟩
  go_wp2_with fail
  refine hC.mono ?_;rintro e w' ⟨rfl,rfl⟩
  clear hK hC
  go_wp2_with fail
  clear k0 k1 k2 k3 k4
  go_loopw [2,29] (fun rv iv wr=>∃ i:Nat,rv=.int .i64 0∧iv=.int .i64 i∧i≤tl∧Hid (Below w.heap.size w wr)) (fun _ iv _=>tl-(intOf iv).toNat)
  case atStart=>exact⟨0,rfl,rfl,z0,B1⟩
  case round=>
   obtain⟨i,rfl,rfl,hi,HB⟩:=hrel
   by_cases hlt:i<tl
   ·obtain⟨t,ht⟩:∃ t,kids[i]?=some t:=⟨_,gG (by rw[HTL.out];exact hlt)⟩
    have htm:Hid (t∈kids):=gM ht
    have O2:=HO.out.low HB.out
    obtain⟨b',off,hA,he⟩:=O2.rd.cell i t ht
    have e0:=he 0 _ rfl
    have e1:=he 1 _ rfl
    have e2:=he 2 _ rfl
    have e3:=he 3 _ rfl
    have e4:=he 4 _ rfl
    simp only[Nat.add_zero] at e0
    have hix:=fun W=>aH (T:=168) (E:=170) (sz:=5) (n:=tl) (c:=kc) (A:=ka) Tryz.underlying168 rfl Tryz.sizeOf170 hA hlt W
    obtain⟨W3,hW3⟩:∃ W3,wr.alloc (.cells #[.string t.op,.string t.nm,.int .i64 t.aop,.string t.ver,.slice t.ka t.kids.length t.kc] 170)=W3:=⟨_,rfl⟩
    have B3:Hid (Below wr.heap.size wr W3):=by rw[←hW3];exact bR.alloc lr _
    have K3:Hid (av W3 wr.heap.size t.cells):=by rw[←hW3];exact av.new wr t.cells _
    have B4:=ae (ap HB.out B3.out)
    have hcall:=HIH.out t htm.out W3 (HG.out.below B4.out) ((O2.low B3.out).kids t htm.out) (by have h1:=iW htm.out;have:=HCN.out;omega)
    unfold ak.val at hcall
    have a0:=K3.out.cell 0 _ rfl
    have a1:=K3.out.cell 1 _ rfl
    have a2:=K3.out.cell 2 _ rfl
    have a3:=K3.out.cell 3 _ rfl
    have a4:=K3.out.cell 4 _ rfl
    clear ht hA he O2
    go_wp2_with fail
    refine hcall.mono ?_;rintro e w4 ⟨rfl,hb⟩
    have B5:=ae (ap B4.out hb)
    clear hW3 hcall hb e0 e1 e2 e3 e4 hix a0 a1 a2 a3 a4
    go_wp2_with fail
    go_roundw
    case rel=>exact⟨i+1,rfl,by go_num,by omega,B5⟩
    case measure=>simp[intOf];omega
   ·go_wp2_with fail
    go_ret
    exact⟨rfl,HB.out⟩
theorem lj (T:ak)(c:Int)(hS:dI T)(hcn:T.cnt≤64)(hht:T.ht≤32)(w:World)(hG:Gl w)(hO:bE w 0 none T)
  (hch:∀ W,Gl W→bE W 0 none T→Calls Tryz.prog 216 #[T.val] W fun e w'=>e=.returned (.int .i64 c)∧Below W.heap.size W w'):
  Calls Tryz.prog 178 #[T.val] w fun e w'=>e=.returned (.int .i64 c)∧Below w.heap.size w w':=by
 have hmm:=@run_makeMap Tryz.prog
 have HG:=ae hG
 have HO:=ae hO
 have HCH:=ae hch
 obtain⟨W1,hW1⟩:∃ W1,w.alloc (.cells #[.string T.op,.string T.nm,.int .i64 T.aop,.string T.ver,.slice T.ka T.kids.length T.kc] 170)=W1:=⟨_,rfl⟩
 have B1:Hid (Below w.heap.size w W1):=by rw[←hW1];exact bR.alloc lr _
 have K1:Hid (av W1 w.heap.size T.cells):=by rw[←hW1];exact av.new w T.cells _
 have k0:=K1.out.cell 0 _ rfl
 have k1:=K1.out.cell 1 _ rfl
 have k2:=K1.out.cell 2 _ rfl
 have k3:=K1.out.cell 3 _ rfl
 have k4:=K1.out.cell 4 _ rfl
 have hD:=AY T W1 (HO.out.low B1.out) hS hcn (by omega)
 have HA:Hid (∀ (W:World)(b:Nat)(ms:List (ak×Nat)),ud W b ms→bE W 0 none T→Calls Tryz.prog 215 #[T.val,.map (some b)] W fun e w'=>e=.returned (.int .i64 T.cnt)∧W.grownBy w' (some b)∧∃ ms',ud w' b ms'):=fun W b ms h1 h2=>AZ T W b ms h1 h2 hS hcn
 clear hS hG hO hch
 unfold ak.val at *
 go_enter Tryz.func178,Tryz.ntmps178
 go_wp2_with fail
 clear hW1
 refine hD.mono ?_;rintro e w2 ⟨⟨r,rfl,hr⟩,hb⟩
 have B2:=ae (ap B1.out hb)
 have K2:=ae (K1.out.below hb)
 clear hb k0 k1 k2 k3 k4
 have k0:=K2.out.cell 0 _ rfl
 have k1:=K2.out.cell 1 _ rfl
 have k2:=K2.out.cell 2 _ rfl
 have k3:=K2.out.cell 3 _ rfl
 have k4:=K2.out.cell 4 _ rfl
 have q1:decide ((32:Int)<(r:Int))=false:=dF (by omega)
 have q2:decide (32<r)=false:=dF (by omega)
 obtain⟨W3,hW3⟩:∃ W3,w2.alloc (.map #[] 0)=W3:=⟨_,rfl⟩
 have M3:Hid (ud W3 w2.heap.size []):=by rw[←hW3];exact⟨eu.made w2,by simp⟩
 have B3:Hid (Below w2.heap.size w2 W3):=by rw[←hW3];exact bR.alloc lr _
 have B4:=ae (ap B2.out B3.out)
 have hA:=HA.out W3 w2.heap.size [] M3.out (HO.out.low B4.out)
 have q3:decide ((64:Int)<(T.cnt:Int))=false:=dF (by omega)
 have q4:decide (64<T.cnt)=false:=dF (by omega)
 go_wp2_with fail
 refine hA.mono ?_;rintro e w4 ⟨rfl,hg,ms',hm⟩
 have K4:=ae ((K2.out.below B3.out).grownBy hg (by simp;have:=K2.out.sz;omega))
 have B5:=ae (cY B4.out hg B2.out.size)
 clear hW3 hg hm k0 k1 k2 k3 k4 hA
 have k0:=K4.out.cell 0 _ rfl
 have k1:=K4.out.cell 1 _ rfl
 have k2:=K4.out.cell 2 _ rfl
 have k3:=K4.out.cell 3 _ rfl
 have k4:=K4.out.cell 4 _ rfl
 go_wp2_with fail
 refine(HCH.out w4 (HG.out.below B5.out) (HO.out.low B5.out)).mono ?_;rintro e w5 ⟨rfl,hb⟩
 have B6:=ae (ap B5.out hb)
 clear hb
 go_wp2_with fail
 go_ret
 exact⟨rfl,B6.out⟩
end
end Go.Proofs.YtlglfpbhapmhiaaGreatDoor
