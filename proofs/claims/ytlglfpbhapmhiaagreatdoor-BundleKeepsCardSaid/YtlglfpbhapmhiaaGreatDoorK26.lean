/- A part of the proof. -/
import Derived.Test.YtlglfpbhapmhiaaGreatDoorK25
set_option maxRecDepth 100000
set_option maxHeartbeats 20000000
set_option linter.unusedVariables false
set_option linter.unusedSimpArgs false
namespace Go.Proofs.YtlglfpbhapmhiaaGreatDoor
section
open Go.RowKit Go.Deep
theorem DZ:(Tryz.prog.info? 211).map (fun i=>(i.zero,i.size,i.bytes))=some (some (.agg #[.string ⟨#[]⟩,.int .i64 0,.string ⟨#[]⟩,.string ⟨#[]⟩,.slice none 0 0]),5,80):=by kernel_rfl
theorem Hb:(Tryz.prog.info? 209).map (fun i=>(i.zero,i.size,i.bytes))=some (some (.slice none 0 0),1,24):=by kernel_rfl
theorem rQ (w:World)(t:TypeId)(a b c d e:Value):ji (w.alloc (.cells #[a,b,c,d,e] t)) (w.heap.size+1) 5 (some ⟨w.heap.size,0,none⟩) 1 [a,b,c,d,e]:=by
 refine⟨rfl,fun _=>⟨_,rfl,by simp,fun j u hu=>?_⟩⟩
 match j,hu with
 | 0,hu=>simp at hu;subst hu;simp[Addr.add]
 | 1,hu=>simp at hu;subst hu;simp[Addr.add]
 | 2,hu=>simp at hu;subst hu;simp[Addr.add]
 | 3,hu=>simp at hu;subst hu;simp[Addr.add]
 | 4,hu=>simp at hu;subst hu;simp[Addr.add]
 | j+5,hu=>simp at hu
theorem kn {w w2:World}{lo lo':Nat}{e1 e2:TypeId}{z1 z2 n1 n2:Nat}{v1 v2:Value}{x1 x2:LV}(h1:w.ownsRow lo e1 z1 v1 n1 x1)(h2:w.ownsRow lo' e2 z2 v2 n2 x2)(hne:e1≠e2)(hg:w.grownBy w2 v2.ownBlock):w2.ownsRow lo e1 z1 v1 n1 x1:=
 h1.kept hg (AH h1 h2 hne)
structure FO (w wr:World) (a:Nat) (s:BA) (k n:Nat) (c:Int) (ts:List cy) (A:OA) (m cc:Nat):Prop where
 len:ts.length=m
 row:wr.ownsRow w.heap.size 211 5 (.slice A m cc) m (ts.flatMap cy.cells)
 archs:∀ t∈ts,t.own wr w.heap.size
 dr:DR wr a s k n c
 gr:w.grownBy wr (some a)
 lt:a<w.heap.size
theorem FO.step {w wr w':World}{a:Nat}{s:BA}{k k' n n':Nat}{c c':Int}{ts:List cy}{A:OA}{m cc:Nat}(h:FO w wr a s k n c ts A m cc)(hg:wr.grownBy w' (some a))(hd:DR w' a s k' n' c'):FO w w' a s k' n' c' ts A m cc:=
 ⟨h.len,aJ h.row h.lt hg,fun t ht=>(h.archs t ht).kept h.lt hg,hd,aj h.gr hg,h.lt⟩
theorem FO.alloc {w wr:World}{a:Nat}{s:BA}{k n:Nat}{c:Int}{ts:List cy}{A:OA}{m cc:Nat}(h:FO w wr a s k n c ts A m cc)(o:Obj):FO w (wr.alloc o) a s k n c ts A m cc:=
 ⟨h.len,h.row.alloc o,fun t ht=>(h.archs t ht).below (bR.alloc lr o),h.dr.alloc o,dG h.gr o,h.lt⟩
theorem FO.grow {w wr w2:World}{a:Nat}{s:BA}{k n:Nat}{c:Int}{ts:List cy}{A A1:OA}{m cc c1:Nat}{o1 o2:Obj}{T:cy}(h:FO w wr a s k n c ts A m cc)(hT:T.own wr w.heap.size)
  (hr:w2.ownsRow w.heap.size 211 5 (.slice A1 (m+1) c1) (m+1) (ts.flatMap cy.cells++T.cells))
  (hg:((wr.alloc o1).alloc o2).grownBy w2 (Value.slice A m cc).ownBlock):FO w w2 a s k n c (ts++[T]) A1 (m+1) c1:=by
 have ho:=(h.alloc o1).alloc o2
 have hT':T.own ((wr.alloc o1).alloc o2) w.heap.size:=(hT.below (bR.alloc lr o1)).below (bR.alloc lr o2)
 refine⟨by simp[h.len],by rw[List.flatMap_append];simpa using hr,fun t ht=>?_,ho.dr.kept hg ?_,gx ho.gr hg (fun j hj=>(h.row.lt j hj).1),h.lt⟩
 ·rcases List.mem_append.1 ht with ht | ht
  ·exact kn (ho.archs t ht) ho.row (by decide) hg
  ·obtain rfl:=List.mem_singleton.1 ht
   exact kn hT' ho.row (by decide) hg
 ·intro e;have:=(h.row.lt a e.symm).1;have:=h.lt;omega
def gz (r:Option (List dn×LU))(a:Nat)(s:BA)(p n:Nat)(c:Int)(w:World)(e:Ending)(w':World):Prop:=
 w.grownBy w' (some a)∧match r with
  | none=>e=.returned (.tuple #[.slice none 0 0,.bool false])∧∃ (p' n':Nat) (c':Int),DR w' a s p' n' c'
  | some (g,r)=>∃ (G:bA) (p':Nat) (c':Int),e=.returned (.tuple #[.slice G.ga G.ts.length G.gc,.bool true])∧G.pl=g∧G.own w' w.heap.size∧DR w' a s p' (n+g.length) c'∧p<p'∧(bl s).drop p'=r∧(c'=0↔c=0∧g.all dn.right=true∧n+g.length≤64)
theorem gz.no {r:Option (List dn×LU)}{a:Nat}{s:BA}{p n p' n':Nat}{c c':Int}{w w':World}(hr:r=none)(hg:w.grownBy w' (some a))(h:DR w' a s p' n' c'):gz r a s p n c w (.returned (.tuple #[.slice none 0 0,.bool false])) w':=by
 subst hr;exact⟨hg,rfl,p',n',c',h⟩
theorem gz.yes {r:Option (List dn×LU)}{a:Nat}{s:BA}{p n p':Nat}{c c':Int}{w w':World}{ts:List cy}{A:OA}{m cc:Nat}(hr:r=some (ts.map cy.pl,(bl s).drop p'))(h:FO w w' a s p' (n+m) c' ts A m cc)(hp:p<p')(hc:c'=0↔c=0∧(ts.map cy.pl).all dn.right=true∧n+m≤64):gz r a s p n c w (.returned (.tuple #[.slice A m cc,.bool true])) w':=by
 subst hr
 obtain rfl:=h.len
 refine⟨h.gr,⟨A,cc,ts⟩,p',c',rfl,rfl,⟨h.row,h.archs⟩,?_,hp,rfl,?_⟩
 ·rw[List.length_map];exact h.dr
 ·rw[List.length_map];exact hc
theorem AI (F:Nat)(a:Nat)(s:BA)(p n:Nat)(c:Int)(w:World)(hs:s.size≤4294967280)(hF:s.size-p<F)(hG:oO a w)(h:DR w a s p n c)(hcn:c=0→n≤64):
  Calls Tryz.prog 204 #[.pointer (some ⟨a,0,none⟩)] w (gz (dY F ((bl s).drop p)) a s p n c w):=by
 obtain⟨i0,hi0,hz0,hz1,hz2⟩:=info_parts DZ
 have HG:=ae hG
 obtain⟨f0,hf0⟩:∃ f0,F=f0+1:=⟨F-1,by omega⟩
 have E0:Hid (dY F ((bl s).drop p)=fg (f0+1) [] ((bl s).drop p)):=by show _=_;rw[tR,hf0]
 have HF0:Hid (s.size-p≤f0):=by show _≤_;omega
 have HCN:=ae hcn
 generalize dY F ((bl s).drop p)=RR at E0
 have S1:Hid (FO w w a s p n c [] none 0 0):=⟨rfl,World.ownsRow_nil _ _ _ _,by simp,h,World.grownBy.refl _ _,h.sz⟩
 have hps:=h.le
 clear hG hf0 hF hcn h
 go_enter Tryz.func204,Tryz.ntmps204
 go_wp2_with fail
 go_loopw [2,3,4] (fun s2 s3 l wr=>∃ (k m cc f:Nat) (c':Int) (ts:List cy) (A:OA),s2=.slice none 0 0∧s3=.bool false∧l=.slice A m cc∧k≤s.size∧m≤k∧Hid (FO w wr a s k (n+m) c' ts A m cc)∧Hid (p≤k)∧Hid (RR=fg (f+1) (ts.map cy.pl) ((bl s).drop k))∧Hid (s.size-k≤f)∧Hid (c'=0↔c=0∧(ts.map cy.pl).all dn.right=true∧n+m≤64)) (fun _ _ _ wr=>s.size-wl a wr)
 case atStart=>exact⟨p,0,0,f0,c,[],none,rfl,rfl,rfl,hps,z0,S1,lr,E0,HF0,by have:=HCN.out;show _↔_;simpa using this⟩
 case round=>
  clear S1 E0 HF0 HCN
  obtain⟨k,m,cc,f,c',ts,A,rfl,rfl,rfl,hk,hmk,HS,HP,HE,HF,HC⟩:=hrel
  go_wp2_with fail
  refine(DY a s k (n+m) c' wr hs (HG.out.kept HS.out.gr) HS.out.dr).mono ?_;rintro e w2 ⟨hg,hpost⟩
  cases ht:fT ((bl s).drop k) with
  | none=>
   rw[ht] at hpost
   obtain⟨T,p',n',d',rfl,hd⟩:=hpost
   have S2:=ae (HS.out.step hg hd);clear hd hg
   have EN:Hid (RR=none):=by show _=_;rw[HE.out];exact wg ht
   clear ht
   unfold cy.val
   go_wp2_with fail
   go_ret2
   have:=S2.out.alloc (.cells #[.string T.nm,.int .i64 T.op,.string T.ver,.string T.qual,.slice T.aa T.archs.length T.ac] 211)
   exact gz.no EN.out this.gr this.dr
  | some x=>
   obtain⟨t,r⟩:=x
   rw[ht] at hpost
   obtain⟨T,p',d',rfl,hT,hTo,hd,hpp,hdr,hcc⟩:=hpost
   have S2:=ae (HS.out.step hg hd)
   have HTO:=ae (hTo.base (lo':=w.heap.size) HS.out.gr.size)
   have hps':=hd.le
   have C2:Hid (d'=0↔c=0∧((ts++[T]).map cy.pl).all dn.right=true∧n+(m+1)≤64):=by
    have h1:=HC.out
    show _↔_
    rw[hcc,h1,List.map_append,List.all_append]
    simp only[List.map_cons,List.map_nil,List.all_cons,List.all_nil,Bool.and_true,Bool.and_eq_true,hT]
    constructor
    ·rintro⟨⟨a1,a2,a3⟩,a4,a5⟩;exact⟨a1,⟨a2,a4⟩,by omega⟩
    ·rintro⟨a1,⟨a2,a4⟩,a5⟩;exact⟨⟨a1,a2,by omega⟩,a4,by omega⟩
   have HD:=ae hdr
   have HT:=ae hT
   have HTM:=ae ht
   have hmm:m≤4294967280:=by omega
   have HKK:Hid (k<p'):=hpp
   clear ht hT hTo hd hg hdr hcc hpp
   unfold cy.val
   go_wp2_with (at_builtin;refine au _ rfl _ _ _ rfl w.heap.size 211 i0 _ 5 80 Tryz.underlying209 hi0 hz0 hz1 hz2 rfl (by omega) (.slice A m cc) m _ rfl ((S2.out.row.alloc _).alloc _) (w2.heap.size+1+1) (some ⟨w2.heap.size+1,0,none⟩) 1 1 T.cells rfl (by have:=rQ (w2.alloc (.cells T.cells.toArray 211)) 211 (.string T.nm) (.int .i64 T.op) (.string T.ver) (.string T.qual) (.slice T.aa T.archs.length T.ac);simpa [cy.cells] using this) (by simp[Value.oneCell',cy.cells]) (by simp only[maxLen];omega) (by omega) (by simp;have:=S2.out.gr.size;omega) ?_;intro v1 w3 o1 g1 a1)
   obtain⟨A3,c3,rfl⟩:=aL o1
   have S3:=ae (S2.out.grow (T:=T) HTO.out o1 g1)
   clear o1 g1 a1
   cases hb:ay 124 ((bl s).drop p') with
   | false=>
    have HB:=ae hb
    have EN:Hid (RR=some ((ts++[T]).map cy.pl,(bl s).drop p')):=by
     show _=_;rw[HE.out,yj HTM.out (by rw[←HD.out];exact hb),List.map_append,HD.out];simp[HT.out]
    have PF:Hid (p<p'):=by have h1:=HP.out;have h2:=HKK.out;show _<_;omega
    clear hb
    go_wp2_with fail
    refine(aC 124 a s p' _ d' w3 hs S3.out.dr HB).mono ?_;rintro e w4 ⟨rfl,hd,hg⟩
    have S4:=ae (S3.out.step hg hd);clear hd hg
    go_wp2_with fail
    go_ret2
    exact gz.yes EN.out S4.out PF.out C2.out
   | true=>
    have HB:=ae hb
    obtain⟨k2,hk2⟩:∃ k2,p'+1+aA aS ((bl s).drop (p'+1))=k2:=⟨_,rfl⟩
    have EN:Hid (RR=fg (f-1+1) ((ts++[T]).map cy.pl) ((bl s).drop k2)):=by
     have hf:=HF.out;have h2:=HKK.out
     show _=_
     rw[HE.out,wi HTM.out (by rw[←HD.out];exact hb),←HD.out,List.drop_drop,bQ,hk2,List.map_append,show f-1+1=f by omega];simp[HT.out]
    have HB2:=ae (fun (W:World) (hD:DR W a s (p'+1) (n+(m+1)) d')=>aG a s (p'+1) (n+(m+1)) d' W hs hD)
    rw[hk2] at HB2
    have HK2:Hid (k<k2):=by have:=HKK.out;show _<_;omega
    have HF2:Hid (s.size-k2≤f-1):=by have:=HF.out;have:=HK2.out;show _≤_;omega
    have HP2:Hid (p≤k2):=by have:=HP.out;have:=HK2.out;show _≤_;omega
    have hmk2:m+1≤k2:=by have:=HK2.out;omega
    clear hb hk2
    go_wp2_with fail
    refine(aM 124 a s p' _ d' w3 hs S3.out.dr HB).mono ?_;rintro e w4 ⟨rfl,hd,hg⟩
    have S4:=ae (S3.out.step hg hd);clear hd hg
    go_wp2_with fail
    refine(HB2.out w4 S4.out.dr).mono ?_;rintro e w5 ⟨rfl,hd,hg⟩
    have S5:=ae (S4.out.step hg hd);clear hd hg
    have hk2s:=S5.out.dr.le
    go_wp2_with fail
    go_roundw
    case rel=>exact⟨k2,m+1,c3,f-1,d',ts++[T],A3,rfl,rfl,rfl,hk2s,hmk2,S5,HP2,EN,HF2,C2⟩
    case measure=>exact DR.dec S5.out.dr HS.out.dr HK2.out
structure wv (w wr:World) (a:Nat) (s:BA) (k n:Nat) (c:Int) (gs:List bA) (A:OA) (m cc:Nat):Prop where
 len:gs.length=m
 row:wr.ownsRow w.heap.size 209 1 (.slice A m cc) m (gs.map bA.sl)
 grp:∀ g∈gs,g.own wr w.heap.size
 dr:DR wr a s k n c
 gr:w.grownBy wr (some a)
 lt:a<w.heap.size
theorem wv.step {w wr w':World}{a:Nat}{s:BA}{k k' n n':Nat}{c c':Int}{gs:List bA}{A:OA}{m cc:Nat}(h:wv w wr a s k n c gs A m cc)(hg:wr.grownBy w' (some a))(hd:DR w' a s k' n' c'):wv w w' a s k' n' c' gs A m cc:=
 ⟨h.len,aJ h.row h.lt hg,fun t ht=>(h.grp t ht).kept h.lt hg,hd,aj h.gr hg,h.lt⟩
theorem wv.below {w wr w':World}{a:Nat}{s:BA}{k n:Nat}{c:Int}{gs:List bA}{A:OA}{m cc:Nat}(h:wv w wr a s k n c gs A m cc)(hb:Below wr.heap.size wr w'):wv w w' a s k n c gs A m cc:=
 h.step (dd hb _) (h.dr.below hb)
theorem wv.alloc {w wr:World}{a:Nat}{s:BA}{k n:Nat}{c:Int}{gs:List bA}{A:OA}{m cc:Nat}(h:wv w wr a s k n c gs A m cc)(o:Obj):wv w (wr.alloc o) a s k n c gs A m cc:=h.below (bR.alloc lr o)
theorem wv.drewN {w wr:World}{a:Nat}{s:BA}{k n:Nat}{c:Int}{gs:List bA}{A:OA}{m cc:Nat}(h:wv w wr a s k n c gs A m cc)(j:Nat):wv w (wr.drewN j) a s k n c gs A m cc:=h.below ⟨rfl,rfl,rfl,lr,fun _ _=>rfl⟩
theorem bA.own.other {G:bA}{w w2:World}{lo lo':Nat}{z n:Nat}{v:Value}{xs:LV}(h:G.own w lo)(h2:w.ownsRow lo' 209 z v n xs)(hg:w.grownBy w2 v.ownBlock):G.own w2 lo:=
 ⟨kn h.row h2 (by decide) hg,fun t ht=>kn (h.archs t ht) h2 (by decide) hg⟩
theorem wv.grow {w wr w2:World}{a:Nat}{s:BA}{k n:Nat}{c:Int}{gs:List bA}{A A1:OA}{m cc c1:Nat}{o:Obj}{G:bA}(h:wv w wr a s k n c gs A m cc)(hG:G.own wr w.heap.size)
  (hr:w2.ownsRow w.heap.size 209 1 (.slice A1 (m+1) c1) (m+1) (gs.map bA.sl++[G.sl]))
  (hg:(wr.alloc o).grownBy w2 (Value.slice A m cc).ownBlock):wv w w2 a s k n c (gs++[G]) A1 (m+1) c1:=by
 have ho:=h.alloc o
 have hG':G.own (wr.alloc o) w.heap.size:=hG.below (bR.alloc lr o)
 refine⟨by simp[h.len],by rw[List.map_append];simpa using hr,fun t ht=>?_,ho.dr.kept hg ?_,gx ho.gr hg (fun j hj=>(h.row.lt j hj).1),h.lt⟩
 ·rcases List.mem_append.1 ht with ht | ht
  ·exact(ho.grp t ht).other ho.row hg
  ·obtain rfl:=List.mem_singleton.1 ht
   exact hG'.other ho.row hg
 ·intro e;have:=(h.row.lt a e.symm).1;have:=h.lt;omega
def AJ (L:List (List dn)):Nat:=(L.map List.length).sum
theorem Ea (L:List (List dn))(g:List dn):AJ (L++[g])=AJ L+g.length:=by simp[AJ]
theorem Hc (L:List (List dn)):tP L=true↔L.all (fun g=>g.all dn.right)=true∧AJ L≤64:=by unfold tP AJ;simp
def eL (r:Option (List (List dn)))(a:Nat)(s:BA)(w:World)(e:Ending)(w':World):Prop:=
 match r with
  | none=>w.grownBy w' (some a)∧e=.returned (.tuple #[.slice none 0 0,.bool false])∧∃ (p' n':Nat) (c':Int),DR w' a s p' n' c'
  | some L=>∃ (A:OA) (m cc:Nat) (gs:List bA) (p' n':Nat) (c':Int),e=.returned (.tuple #[.slice A m cc,.bool true])∧wv w w' a s p' n' c' gs A m cc∧gs.map bA.pl=L∧(c'=0↔tP L=true)
theorem eL.no {r:Option (List (List dn))}{a:Nat}{s:BA}{p' n':Nat}{c':Int}{w w':World}(hr:r=none)(hg:w.grownBy w' (some a))(h:DR w' a s p' n' c'):eL r a s w (.returned (.tuple #[.slice none 0 0,.bool false])) w':=by
 subst hr;exact⟨hg,rfl,p',n',c',h⟩
theorem eL.yes {r:Option (List (List dn))}{a:Nat}{s:BA}{p' n':Nat}{c':Int}{w w':World}{gs:List bA}{A:OA}{m cc:Nat}(hr:r=some (gs.map bA.pl))(h:wv w w' a s p' n' c' gs A m cc)(hc:c'=0↔tP (gs.map bA.pl)=true):eL r a s w (.returned (.tuple #[.slice A m cc,.bool true])) w':=by
 subst hr;exact⟨A,m,cc,gs,p',n',c',rfl,h,rfl,hc⟩
theorem AK (a:Nat)(s:BA)(w:World)(hs:s.size≤4294967280)(hG:oO a w)(h:DR w a s 0 0 0):
  Calls Tryz.prog 171 #[.pointer (some ⟨a,0,none⟩)] w (eL (kV (bl s)) a s w):=by
 obtain⟨i0,hi0,hz0,hz1,hz2⟩:=info_parts Hb
 have HG:=ae hG
 obtain⟨q,hq⟩:∃ q,0+aA aS ((bl s).drop 0)=q:=⟨_,rfl⟩
 have hB:=aG a s 0 0 0 w hs h
 rw[hq] at hB
 have SK:Hid (aK (bl s)=(bl s).drop q):=by have:=bQ s 0;rw[hq,List.drop_zero] at this;exact this
 have hlt:=h.sz
 generalize hRR:kV (bl s)=RR
 clear hG h hq
 go_enter Tryz.func171,Tryz.ntmps171
 go_wp2_with fail
 refine hB.mono ?_;rintro e w1 ⟨rfl,hd,hg⟩
 have S1:Hid (wv w w1 a s q 0 0 [] none 0 0):=⟨rfl,World.ownsRow_nil _ _ _ _,by simp,hd,hg,hlt⟩
 have hqs:=hd.le
 obtain⟨f1,y1,k1⟩:=hd.cells
 have c0:=k1.c0
 have c1:=k1.c1
 clear hd hg hB k1
 by_cases hqe:q=s.size
 ·have EN:Hid (RR=some (([]:List bA).map bA.pl)):=by
   show _=_;rw[←hRR];unfold kV;rw[SK.out,jN s q (by omega)];rfl
  subst hqe
  clear hRR
  go_wp2_with fail
  go_quiet (fail)
  go_wp2_with fail
  go_ret2
  exact eL.yes EN.out (S1.out.drewN _) (by simp[tP])
 ·have hqlt:q<s.size:=by omega
  have E0:Hid (RR=db (s.size+1) [] ((bl s).drop q)):=by
   show _=_;rw[←hRR];unfold kV;rw[SK.out,←ru,ah,if_neg];rw[cU s q hqlt];simp
  have hq1:((q:Int)==(s.size:Int))=false:=by simp;omega
  have HF0:Hid (s.size-q≤s.size):=by show _≤_;omega
  clear hRR SK
  go_wp2_with fail
  go_quiet (fail)
  clear c0 c1 hq1 hqe
  have S2:=ae (S1.out.drewN nq)
  clear S1
  go_wp2_with fail
  go_loopw [2,3,4] (fun s2 s3 l wr=>∃ (k m cc f n':Nat) (c':Int) (gs:List bA) (A:OA),s2=.slice none 0 0∧s3=.bool false∧l=.slice A m cc∧k≤s.size∧m≤k∧Hid (wv w wr a s k n' c' gs A m cc)∧Hid (RR=db (f+1) (gs.map bA.pl) ((bl s).drop k))∧Hid (s.size-k≤f)∧Hid (n'=AJ (gs.map bA.pl))∧Hid (c'=0↔(gs.map bA.pl).all (fun g=>g.all dn.right)=true∧n'≤64)) (fun _ _ _ wr=>s.size-wl a wr)
  case atStart=>exact⟨q,0,0,s.size,0,0,[],none,rfl,rfl,rfl,hqs,z0,S2,E0,HF0,rfl,by show _↔_;simp⟩
  case round=>
   clear S2 E0 HF0
   obtain⟨k,m,cc,f,n',c',gs,A,rfl,rfl,rfl,hk,hmk,HS,HE,HF,HN,HC⟩:=hrel
   have HCN:Hid (c'=0→n'≤64):=by have:=HC.out;show _→_;intro h;exact(this.1 h).2
   have HFL:Hid (s.size-k<((bl s).drop k).length+1):=by show _<_;rw[List.length_drop,ah];omega
   go_wp2_with fail
   refine(AI _ a s k n' c' wr hs HFL.out (HG.out.kept HS.out.gr) HS.out.dr HCN.out).mono ?_;rintro e w2 ⟨hg,hpost⟩
   cases ht:dY (((bl s).drop k).length+1) ((bl s).drop k) with
   | none=>
    rw[ht] at hpost
    obtain⟨rfl,p',m',d',hd⟩:=hpost
    have S2:=ae (HS.out.step hg hd);clear hd hg
    have EN:Hid (RR=none):=by show _=_;rw[HE.out];exact tT ht
    clear ht
    go_wp2_with fail
    go_ret2
    exact eL.no EN.out S2.out.gr S2.out.dr
   | some x=>
    obtain⟨g,r⟩:=x
    rw[ht] at hpost
    obtain⟨G,p',d',rfl,hGp,hGo,hd,hpp,hdr,hcc⟩:=hpost
    have S2:=ae (HS.out.step hg hd)
    have HGO:=ae (hGo.base (lo':=w.heap.size) HS.out.gr.size)
    have hps':=hd.le
    have N2:Hid (n'+g.length=AJ ((gs++[G]).map bA.pl)):=by
     have:=HN.out;show _=_;rw[List.map_append,List.map_cons,List.map_nil,Ea,hGp];omega
    have C2:Hid (d'=0↔((gs++[G]).map bA.pl).all (fun g=>g.all dn.right)=true∧n'+g.length≤64):=by
     have h1:=HC.out
     show _↔_
     rw[hcc,h1,List.map_append,List.all_append]
     simp only[List.map_cons,List.map_nil,List.all_cons,List.all_nil,Bool.and_true,Bool.and_eq_true,hGp]
     constructor
     ·rintro⟨⟨a1,a2⟩,a3,a4⟩;exact⟨⟨a1,a3⟩,a4⟩
     ·rintro⟨⟨a1,a3⟩,a4⟩;exact⟨⟨a1,by omega⟩,a3,a4⟩
    have HD:=ae hdr
    have HT:=ae hGp
    have HTM:=ae ht
    have hmm:m≤4294967280:=by omega
    have HKK:Hid (k<p'):=hpp
    generalize n'+g.length=n2 at S2 N2 C2 hd
    obtain⟨gl,hgl⟩:∃ gl,G.ts.length=gl:=⟨_,rfl⟩
    have GSL:Hid (G.sl=.slice G.ga gl G.gc):=by show _=_;unfold bA.sl;rw[hgl]
    rw[hgl]
    clear ht hGp hGo hd hg hdr hcc hpp hgl HCN HFL
    go_wp2_with (at_builtin;refine au _ rfl _ _ _ rfl w.heap.size 209 i0 _ 1 24 Tryz.underlying164 hi0 hz0 hz1 hz2 rfl (by omega) (.slice A m cc) m _ rfl (S2.out.row.alloc _) (w2.heap.size+1) (some ⟨w2.heap.size,0,none⟩) 1 1 [.slice G.ga gl G.gc] rfl (fB w2 _ _) (by simp[Value.oneCell']) (by simp only[maxLen];omega) (by omega) (by simp;have:=S2.out.gr.size;omega) ?_;intro v1 w3 o1 g1 a1)
    obtain⟨A3,c3,rfl⟩:=aL o1
    have S3:=ae (S2.out.grow (G:=G) HGO.out (by rw[GSL.out];exact o1) g1)
    clear o1 g1 a1
    obtain⟨f1,y1,k1⟩:=S3.out.dr.cells
    have c0:=k1.c0
    have c1:=k1.c1
    clear k1
    by_cases hpe:p'=s.size
    ·have EN:Hid (RR=some ((gs++[G]).map bA.pl)):=by
      show _=_
      rw[HE.out,wj (g:=g) (by rw[HTM.out,←HD.out,jN s p' (by omega)]),List.map_append];simp[HT.out]
     have CF:Hid (d'=0↔tP ((gs++[G]).map bA.pl)=true):=by show _↔_;rw[C2.out,Hc,N2.out]
     subst hpe
     go_wp2_with fail
     go_quiet (fail)
     go_wp2_with fail
     go_ret2
     exact eL.yes EN.out (S3.out.drewN _) CF.out
    ·have hp1:((p':Int)==(s.size:Int))=false:=by simp;omega
     have RE:Hid (r.isEmpty=false):=by show _=_;rw[←HD.out,cU s p' (by omega)];rfl
     clear hpe
     go_wp2_with fail
     go_quiet (fail)
     have S4:=ae (S3.out.drewN nq)
     clear c0 c1 hp1 S3
     cases hb:ay 44 ((bl s).drop p') with
     | false=>
      have HB:=ae hb
      have EN:Hid (RR=none):=by show _=_;rw[HE.out];exact wk HTM.out RE.out (by rw[←HD.out];exact hb)
      clear hb
      go_wp2_with fail
      refine(aC 44 a s p' _ d' _ hs S4.out.dr HB).mono ?_;rintro e w4 ⟨rfl,hd,hg⟩
      have S5:=ae (S4.out.step hg hd);clear hd hg
      go_wp2_with fail
      go_ret2
      exact eL.no EN.out S5.out.gr S5.out.dr
     | true=>
      have HB:=ae hb
      obtain⟨k2,hk2⟩:∃ k2,p'+1+aA aS ((bl s).drop (p'+1))=k2:=⟨_,rfl⟩
      have EN:Hid (RR=db (f-1+1) ((gs++[G]).map bA.pl) ((bl s).drop k2)):=by
       have hf:=HF.out;have h2:=HKK.out
       show _=_
       rw[HE.out,tU HTM.out (by rw[←HD.out];exact hb),←HD.out,List.drop_drop,bQ,hk2,List.map_append,show f-1+1=f by omega];simp[HT.out]
      have HB2:=ae (fun (W:World) (hD:DR W a s (p'+1) n2 d')=>aG a s (p'+1) n2 d' W hs hD)
      rw[hk2] at HB2
      have HK2:Hid (k<k2):=by have:=HKK.out;show _<_;omega
      have HF2:Hid (s.size-k2≤f-1):=by have:=HF.out;have:=HK2.out;show _≤_;omega
      have hmk2:m+1≤k2:=by have:=HK2.out;omega
      clear hb hk2
      go_wp2_with fail
      refine(aM 44 a s p' _ d' _ hs S4.out.dr HB).mono ?_;rintro e w4 ⟨rfl,hd,hg⟩
      have S5:=ae (S4.out.step hg hd);clear hd hg
      go_wp2_with fail
      refine(HB2.out w4 S5.out.dr).mono ?_;rintro e w5 ⟨rfl,hd,hg⟩
      have S6:=ae (S5.out.step hg hd);clear hd hg
      have hk2s:=S6.out.dr.le
      go_wp2_with fail
      go_roundw
      case rel=>exact⟨k2,m+1,c3,f-1,n2,d',gs++[G],A3,rfl,rfl,rfl,hk2s,hmk2,S6,EN,HF2,N2,C2⟩
      case measure=>exact DR.dec S6.out.dr HS.out.dr HK2.out
def AM (gs:List bA):Prop:=∀ g∈gs,∀ t∈g.ts,t.archs.length≤t.ac
theorem Eb {w:World}{lo:Nat}{gs:List bA}(hg:∀ g∈gs,g.own w lo):AM gs:=fun g hm t ht=>kY ((hg g hm).archs t ht)
structure ij (w:World) (lo:Nat) (A:OA) (n c:Nat) (gs:List bA):Prop where
 len:gs.length=n
 row:w.ownsRow lo 209 1 (.slice A n c) n (gs.map bA.sl)
 grp:∀ g∈gs,g.own w lo
theorem ij.ok {w:World}{lo:Nat}{A:OA}{n c:Nat}{gs:List bA}(h:ij w lo A n c gs):nT w A gs:=
 ⟨by rw[h.len];exact cP h.row,fun g hm=>cP (h.grp g hm).row,fun g hm t ht=>cP ((h.grp g hm).archs t ht)⟩
theorem ij.cap {w:World}{lo:Nat}{A:OA}{n c:Nat}{gs:List bA}(h:ij w lo A n c gs):AM gs:=Eb h.grp
theorem ij.kept {w w':World}{lo g:Nat}{A:OA}{n c:Nat}{gs:List bA}(h:ij w lo A n c gs)(hg:g<lo)(hw:w.grownBy w' (some g)):ij w' lo A n c gs:=⟨h.len,aJ h.row hg hw,fun x hx=>(h.grp x hx).kept hg hw⟩
theorem ij.below {w w':World}{lo:Nat}{A:OA}{n c:Nat}{gs:List bA}(h:ij w lo A n c gs)(hb:Below w.heap.size w w'):ij w' lo A n c gs:=⟨h.len,aD h.row hb,fun x hx=>(h.grp x hx).below hb⟩
def AN (r:Option (List (List dn)))(w:World)(e:Ending)(w':World):Prop:=
 ∃ (A:OA) (n c:Nat) (f:BA) (a code:Int),e=.returned (.tuple #[.slice A n c,ed f a code])∧Below w.heap.size w w' ∧
  (match r with
   | some L=>code=0∧∃ gs:List bA,gs.map bA.pl=L∧ij w' w.heap.size A n c gs
   | none=>code≠0∧A=none∧n=0)
theorem yt {l:LU}(h:kV l=none):gw l=none:=by unfold gw;rw[h]
theorem AO {l:LU}{L:List (List dn)}(h:kV l=some L)(h1:¬ tP L=true):gw l=none:=by unfold gw;rw[h];simp[h1]
theorem yu {l:LU}{L:List (List dn)}(h:kV l=some L)(h1:tP L=true):gw l=some L:=by unfold gw;rw[h];simp[h1]
theorem AP (s:BA)(w:World)(hG:Gl w)(hs:s.size≤4294967280):
  Calls Tryz.prog 123 #[.string s] w (AN (gw (bl s)) w):=by
 obtain⟨W1,hW1⟩:∃ W1,(w.alloc (.cells #[.string ⟨#[]⟩,.int .i64 0,.int .i64 0] 163)).alloc (.cells #[.string s,.int .i64 0,.int .i64 0,.string ⟨#[]⟩,.int .i64 0,.int .i64 0] 205)=W1:=⟨_,rfl⟩
 have B1:Hid (Below w.heap.size w W1):=by rw[←hW1];exact(bR.alloc lr _).alloc (by simp) _
 have K1:Hid (av W1 w.heap.size [.string ⟨#[]⟩,.int .i64 0,.int .i64 0]):=by rw[←hW1];exact(av.new w [.string ⟨#[]⟩,.int .i64 0,.int .i64 0] _).alloc _
 have D1:Hid (DR W1 (w.heap.size+1) s 0 0 0):=by
  refine⟨⟨⟨#[]⟩,0,?_⟩,z0,lr⟩
  have:=av.new (w.alloc (.cells #[.string ⟨#[]⟩,.int .i64 0,.int .i64 0] 163)) [.string s,.int .i64 0,.int .i64 0,.string ⟨#[]⟩,.int .i64 0,.int .i64 0] 205
  rw[←hW1];simpa using this
 have HG:Hid (oO (w.heap.size+1) W1):=⟨w,hG,B1.out,Nat.le_succ _⟩
 have hz1:w.heap.size<W1.heap.size:=K1.out.sz
 clear hG
 go_enter Tryz.func123,Tryz.ntmps123
 go_wp2_with fail
 clear hW1
 refine(AK (w.heap.size+1) s W1 hs HG.out D1.out).mono ?_;rintro e w2 hpost
 cases hf:kV (bl s) with
 | none=>
  rw[hf] at hpost
  obtain⟨hg,rfl,p',n',c',hd⟩:=hpost
  have EN:=ae (yt hf)
  have K2:=ae (K1.out.grownBy hg (by intro e;injection e with e;omega))
  have B2:=ae (cY B1.out hg (Nat.le_succ _))
  obtain⟨f,y,k⟩:=hd.cells
  have c1:=k.c1
  have r0:=K2.out.cell 0 _ rfl
  have r1:=K2.out.cell 1 _ rfl
  have r2:=K2.out.cell 2 _ rfl
  have fr0:=K2.out.free 0 (by simp)
  have fr1:=K2.out.free 1 (by simp)
  have fr2:=K2.out.free 2 (by simp)
  clear hf hg hd k
  go_wp2_with fail
  go_region
  go_wp2_with fail
  refine bodyPost_ret (v:=.tuple #[.slice none 0 0,.agg #[.string ⟨#[]⟩,.int .i64 p',.int .i64 3]]) (by simp[results,Tryz.results123,go_sem,r0,r1,r2]) rfl ?_
  refine⟨none,0,0,⟨#[]⟩,p',3,rfl,?_,by rw[EN.out];exact⟨by decide,rfl,rfl⟩⟩
  exact(ag (ag (ag B2.out lr _) lr _) lr _).drew
 | some L=>
  rw[hf] at hpost
  obtain⟨A,m,cc,gs,p',n',c',rfl,hS,hL,hcc⟩:=hpost
  have HS:=ae hS
  have K2:=ae (K1.out.grownBy hS.gr (by intro e;injection e with e;omega))
  have B2:=ae (cY B1.out hS.gr (Nat.le_succ _))
  obtain⟨f,y,k⟩:=hS.dr.cells
  have c3:=k.c3
  have c4:=k.c4
  have c5:=k.c5
  have r0:=K2.out.cell 0 _ rfl
  have r1:=K2.out.cell 1 _ rfl
  have r2:=K2.out.cell 2 _ rfl
  have fr0:=K2.out.free 0 (by simp)
  have fr1:=K2.out.free 1 (by simp)
  have fr2:=K2.out.free 2 (by simp)
  by_cases hc:c'=0
  ·have EN:=ae (yu hf (hcc.1 hc))
   have HL:=ae hL
   subst hc
   have hml:=hS.len
   have hlo:w.heap.size≤W1.heap.size:=Nat.le_of_lt hz1
   have F3:Hid (ij (((w2.setCell ⟨w.heap.size,0,none⟩ (.string ⟨#[]⟩)).setCell ⟨w.heap.size,1,none⟩ (.int .i64 0)).setCell ⟨w.heap.size,2,none⟩ (.int .i64 0)) w.heap.size A m cc gs):=by
    refine⟨hml,?_,?_⟩
    ·exact aN (aJ (aJ (aJ hS.row hz1 (aR _)) hz1 (aR _)) hz1 (aR _)) hlo
    ·exact fun g hg=>((((hS.grp g hg).kept hz1 (aR _)).kept hz1 (aR _)).kept hz1 (aR _)).base hlo
   clear hf hL hcc k hS hml
   go_wp2_with fail
   refine bodyPost_ret (v:=.tuple #[.slice A m cc,.agg #[.string ⟨#[]⟩,.int .i64 0,.int .i64 0]]) (by simp[results,Tryz.results123,go_sem,r0,r1,r2]) rfl ?_
   refine⟨A,m,cc,⟨#[]⟩,0,0,rfl,?_,?_⟩
   ·exact ag (ag (ag B2.out lr _) lr _) lr _
   ·rw[EN.out];exact⟨rfl,gs,HL.out,F3.out⟩
  ·have EN:=ae (AO hf (fun h=>hc (hcc.2 h)))
   have HC:=tG.mk hc
   have hc1:(c' != 0)=true:=by simp[hc]
   clear hf hL hcc k hS hc
   go_wp2_with fail
   go_region
   go_wp2_with fail
   refine bodyPost_ret (v:=.tuple #[.slice none 0 0,.agg #[.string f,.int .i64 y,.int .i64 c']]) (by simp[results,Tryz.results123,go_sem,r0,r1,r2]) rfl ?_
   refine⟨none,0,0,f,y,c',rfl,?_,by rw[EN.out];exact⟨HC.out,rfl,rfl⟩⟩
   exact(ag (ag (ag B2.out lr _) lr _) lr _).drew
end
end Go.Proofs.YtlglfpbhapmhiaaGreatDoor
