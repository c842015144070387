/- A part of the proof. -/
import Derived.Test.YtlglfpbhapmhiaaGreatDoorL06
import Derived.Test.YtlglfpbhapmhiaaGreatDoorL10
set_option maxRecDepth 100000
set_option maxHeartbeats 20000000
set_option linter.unusedVariables false
set_option linter.unusedSimpArgs false
namespace Go.Proofs.YtlglfpbhapmhiaaGreatDoor
variable{ar nm sm ver:BA}{br fs gv nd sp:Value}{w w1 w2:World}
section
open Go.RowKit
theorem zp (l:List BA):∀ u∈ay l,u.oneCell'=true:=by
 intro u hu;simp only[ay,List.mem_map] at hu;obtain⟨x,_,rfl⟩:=hu;rfl
theorem jW {α:Type}{f:α->LV}(hf:∀ x,∀ u∈f x,u.oneCell'=true)(l:List α):∀ u∈l.flatMap f,u.oneCell'=true:=by
 intro u hu;simp only[List.mem_flatMap] at hu;obtain⟨x,_,h⟩:=hu;exact hf x u h
theorem Lp (x:cS):∀ u∈x.cells,u.oneCell'=true:=by intro u hu;simp only[cS.cells,List.mem_cons,List.not_mem_nil,or_false] at hu;rcases hu with rfl | rfl | rfl<;>rfl
theorem tT (x:av):∀ u∈x.cells,u.oneCell'=true:=by intro u hu;simp only[av.cells,List.mem_cons,List.not_mem_nil,or_false] at hu;rcases hu with rfl | rfl | rfl | rfl | rfl | rfl | rfl | rfl<;>rfl
theorem DZ (x:aT):∀ u∈x.cells,u.oneCell'=true:=by intro u hu;simp only[aT.cells,List.mem_cons,List.not_mem_nil,or_false] at hu;rcases hu with rfl | rfl<;>rfl
theorem QE (x:bK):∀ u∈x.cells,u.oneCell'=true:=by intro u hu;simp only[bK.cells,List.mem_cons,List.not_mem_nil,or_false] at hu;rcases hu with rfl | rfl | rfl | rfl | rfl | rfl | rfl | rfl | rfl<;>rfl
structure bK.few (p:bK):Prop where
 needs:p.needs.length<=100000
 bars:p.bars.length<=100000
 gives:p.gives.length<=100000
 files:p.files.length<=100000
 scripts:p.scripts.length<=100000
def Ba (l:List bK)(w:World)(e:Ending)(w':World):Prop:=
 ∃ (A:OA)(c g0:Nat)(l':List bK),e=.returned (.slice A l.length c)/\l'.length=l.length/\(∀ (i:Nat)(p q:bK),l[i]?=some p->l'[i]?=some q->p.alike q)/\Sb w' w.heap.size g0 (.slice A l.length c) l'/\Below w.heap.size w w'
theorem Ea (A:OA)(c:Nat)(l:List bK)(w:World)(hd:wJ w A l)(hl:l.length<=100000)(hf:∀ p∈l,p.few):Calls Tryz.prog 52 #[.slice A l.length c] w (Ba l w):=by
 have HD:=ae hd;clear hd;have HF:=ae hf;clear hf;go_in;go_wp2_with fail;refine(wO A l.length c _ _ HD.out.row (jW QE l) hl).mono ?_;rintro e w1 ⟨v,rfl,hown,hb1⟩;obtain⟨A0,c0,rfl⟩:=aN hown;have HO:=ae hown;clear hown;have HB:=ae hb1;clear hb1;by_cases hz:l=[]
 ·subst hz;go_wp2_with fail;refine wp_loop_rounds 1 ?_;rw[rounds_succ];go_wp2;go_ret;exact⟨A0,c0,0,[],rfl,rfl,(fun i p q hp hq=>by simp at hp),⟨HO.out,(fun h=>by simp at h),(fun q hq=>by simp at hq),.nil⟩,HB.out⟩
 ·have hpos:0<l.length:=List.length_pos_iff.2 hz;clear hz;obtain⟨g0,cap,hv,hg,hg'⟩:=HO.out.form hpos;obtain⟨rfl,rfl⟩:A0=some ⟨g0,0,none⟩/\c0=cap:=by injection hv with h1 _ h2;exact⟨h1,h2⟩
  clear hv;go_wp2;go_loopw [10] (fun i wr=>∃ (k:Nat)(qs:List bK),k<=l.length/\i=.int .i64 k/\Hid (qs.length=k/\(∀ (i:Nat)(p q:bK),l[i]?=some p->qs[i]?=some q->p.alike q)/\wr.ownsRow w.heap.size 27 9 (.slice (some ⟨g0,0,none⟩) l.length c0) l.length ((qs++l.drop k).flatMap bK.cells)/\((∀ q∈qs,gj q wr (g0+1))/\qs.Pairwise Ln)/\Below w.heap.size w wr)) (fun i _=>l.length-(intOf i).toNat)
  case atStart=>exact⟨0,[],z0,rfl,rfl,(fun i p q _ hq=>by simp at hq),(by simpa using HO.out),⟨(fun q hq=>by simp at hq),.nil⟩,HB.out⟩
  case round=>
   obtain⟨k,qs,hk,rfl,HR⟩:=hrel;by_cases hlt:k<l.length
   ·obtain⟨p,hp⟩:∃ p,l[k]?=some p:=⟨_,gG hlt⟩
    have hpm:p∈l:=gM hp;obtain⟨h1,h2,h3,h4,h5⟩:=HR.out;obtain⟨b,off,hA,he⟩:=(HD.out.row.below h5).elem iG k p hp;have e0:=he 0 _ rfl;have e1:=he 1 _ rfl;have e2:=he 2 _ rfl;have e3:=he 3 _ rfl;have e4:=he 4 _ rfl;have e5:=he 5 _ rfl;have e6:=he 6 _ rfl;have e7:=he 7 _ rfl;have e8:=he 8 _ rfl;simp only[Nat.add_zero] at e0;have hix:=fun W=>aB (T:=71) (E:=27) (sz:=9) (c:=c) Tryz.underlying71 rfl Tryz.sizeOf27 hA hlt W;have hdrop:l.drop k=p::l.drop (k+1):=by rw[List.drop_eq_getElem_cons hlt];congr 1;exact(gS hp).2
    have hgw:g0<wr.heap.size:=(h3.lt g0 rfl).2;have hkk:k*9+9<=l.length*9:=by omega
    rw[hdrop] at h3;have O:=bK.ok.below ((HD.out.all p hpm).below h5) (bR.alloc lr (.cells #[.string p.nm,.string p.ver,.string p.ar,.string p.sm,.slice p.na p.needs.length p.nc,.slice p.ba p.bars.length p.bc,.slice p.ga p.gives.length p.gc,.slice p.fa p.files.length p.fc,.slice p.sa p.scripts.length p.sc] 27));have few:=HF.out p hpm;have H1:=ae h1;have H2:=ae h2;have R0:=ae h3;have H4:=ae h4;have H5:=ae h5;have HDR:=ae hdrop;have HP:=ae hp;have OK:=ae O;have FEW:=ae few;have HPM:=ae hpm;clear h1 h2 h3 h4 h5 hdrop hp hA he O few hpm HR;have hn1:¬ g0=wr.heap.size:=by omega
    have hn2:¬ wr.heap.size=g0:=by omega
    go_wp2_with fail;refine(xM p.na p.needs.length p.nc (ay p.needs) _ (by exact OK.out.needs) (zp _) FEW.out.needs).mono ?_;rintro e w2 ⟨v1,rfl,o1,b1⟩;obtain⟨a1,c1,rfl⟩:=aN o1;have R1:=ae (aL (R0.out.alloc _) b1);have G1:=ae (bB (World.grownBy.refl (wr.alloc (.cells #[.string p.nm,.string p.ver,.string p.ar,.string p.sm,.slice p.na p.needs.length p.nc,.slice p.ba p.bars.length p.bc,.slice p.ga p.gives.length p.gc,.slice p.fa p.files.length p.fc,.slice p.sa p.scripts.length p.sc] 27)) (some g0)) b1);have O1:=ae o1;have B1:=ae b1;clear o1 b1;have kb:∀ j:Nat,w2.cell? ⟨wr.heap.size,j,none⟩=(wr.alloc (.cells #[.string p.nm,.string p.ver,.string p.ar,.string p.sm,.slice p.na p.needs.length p.nc,.slice p.ba p.bars.length p.bc,.slice p.ga p.gives.length p.gc,.slice p.fa p.files.length p.fc,.slice p.sa p.scripts.length p.sc] 27)).cell? ⟨wr.heap.size,j,none⟩:=fun j=>World.cell?_of_block (G1.out.block wr.heap.size (by simp) (by intro h;injection h with h;omega));have x1:w2.cell? ⟨wr.heap.size,5,none⟩=some _:=(kb 5).trans (by simp;rfl);clear kb;have y1:w2.cell? ⟨g0,k*9+4,none⟩=some (.slice p.na p.needs.length p.nc):=by
     rw[R1.out.cellAt (k*9+4) (by omega)];exact Qz qs (l.drop (k+1)) p k H1.out
    have z1:=R1.out.frozenAt (k*9+4);have RS1:=ae (R1.out.stored (k*9+4) (.slice a1 p.needs.length c1)).1;have GS1:=ae (ap G1.out (p:=⟨g0,k*9+4,none⟩) (.inl rfl) (.slice a1 p.needs.length c1));have OKb1:Hid (p.ok (w2.setCell ⟨g0,k*9+4,none⟩ (.slice a1 p.needs.length c1))):=zo (HD.out.all p HPM.out) H5.out ((World.grownBy.refl wr (some g0) |> fun h=>eK h _) |> fun h=>ak h GS1.out) (by have:=H5.out.size;omega);go_wp2_with fail;refine(xM p.ba p.bars.length p.bc (ay p.bars) _ (by exact(OKb1.out.bars)) (zp _) FEW.out.bars).mono ?_;rintro e w3 ⟨v2,rfl,o2,b2⟩;obtain⟨a2,c2,rfl⟩:=aN o2;have R2:=ae (aL RS1.out b2);have G2:=ae (bB GS1.out b2);have O2:=ae o2;have B2:=ae b2;clear o2 b2;have kb:∀ j:Nat,w3.cell? ⟨wr.heap.size,j,none⟩=(wr.alloc (.cells #[.string p.nm,.string p.ver,.string p.ar,.string p.sm,.slice p.na p.needs.length p.nc,.slice p.ba p.bars.length p.bc,.slice p.ga p.gives.length p.gc,.slice p.fa p.files.length p.fc,.slice p.sa p.scripts.length p.sc] 27)).cell? ⟨wr.heap.size,j,none⟩:=fun j=>World.cell?_of_block (G2.out.block wr.heap.size (by simp) (by intro h;injection h with h;omega));have x2:w3.cell? ⟨wr.heap.size,6,none⟩=some _:=(kb 6).trans (by simp;rfl);clear kb;have y2:w3.cell? ⟨g0,k*9+5,none⟩=some (.slice p.ba p.bars.length p.bc):=by
     rw[R2.out.cellAt (k*9+5) (by omega)];exact QA qs (l.drop (k+1)) p k H1.out (.slice a1 p.needs.length c1)
    have z2:=R2.out.frozenAt (k*9+5);have RS2:=ae (R2.out.stored (k*9+5) (.slice a2 p.bars.length c2)).1;have GS2:=ae (ap G2.out (p:=⟨g0,k*9+5,none⟩) (.inl rfl) (.slice a2 p.bars.length c2));have OKb2:Hid (p.ok (w3.setCell ⟨g0,k*9+5,none⟩ (.slice a2 p.bars.length c2))):=zo (HD.out.all p HPM.out) H5.out ((World.grownBy.refl wr (some g0) |> fun h=>eK h _) |> fun h=>ak h GS2.out) (by have:=H5.out.size;omega);clear x1;go_wp2_with fail;refine(DT p.ga p.gives.length p.gc (p.gives.flatMap cS.cells) _ (by exact(OKb2.out.gives)) (jW Lp _) FEW.out.gives).mono ?_;rintro e w4 ⟨v3,rfl,o3,b3⟩;obtain⟨a3,c3,rfl⟩:=aN o3;have R3:=ae (aL RS2.out b3);have G3:=ae (bB GS2.out b3);have O3:=ae o3;have B3:=ae b3;clear o3 b3;have kb:∀ j:Nat,w4.cell? ⟨wr.heap.size,j,none⟩=(wr.alloc (.cells #[.string p.nm,.string p.ver,.string p.ar,.string p.sm,.slice p.na p.needs.length p.nc,.slice p.ba p.bars.length p.bc,.slice p.ga p.gives.length p.gc,.slice p.fa p.files.length p.fc,.slice p.sa p.scripts.length p.sc] 27)).cell? ⟨wr.heap.size,j,none⟩:=fun j=>World.cell?_of_block (G3.out.block wr.heap.size (by simp) (by intro h;injection h with h;omega));have x3:w4.cell? ⟨wr.heap.size,7,none⟩=some _:=(kb 7).trans (by simp;rfl);clear kb;have y3:w4.cell? ⟨g0,k*9+6,none⟩=some (.slice p.ga p.gives.length p.gc):=by
     rw[R3.out.cellAt (k*9+6) (by omega)];exact QB qs (l.drop (k+1)) p k H1.out (.slice a1 p.needs.length c1) (.slice a2 p.bars.length c2)
    have z3:=R3.out.frozenAt (k*9+6);have RS3:=ae (R3.out.stored (k*9+6) (.slice a3 p.gives.length c3)).1;have GS3:=ae (ap G3.out (p:=⟨g0,k*9+6,none⟩) (.inl rfl) (.slice a3 p.gives.length c3));have OKb3:Hid (p.ok (w4.setCell ⟨g0,k*9+6,none⟩ (.slice a3 p.gives.length c3))):=zo (HD.out.all p HPM.out) H5.out ((World.grownBy.refl wr (some g0) |> fun h=>eK h _) |> fun h=>ak h GS3.out) (by have:=H5.out.size;omega);clear x2;go_wp2_with fail;refine(DV p.fa p.files.length p.fc (p.files.flatMap av.cells) _ (by exact(OKb3.out.files)) (jW tT _) FEW.out.files).mono ?_;rintro e w5 ⟨v4,rfl,o4,b4⟩;obtain⟨a4,c4,rfl⟩:=aN o4;have R4:=ae (aL RS3.out b4);have G4:=ae (bB GS3.out b4);have O4:=ae o4;have B4:=ae b4;clear o4 b4;have kb:∀ j:Nat,w5.cell? ⟨wr.heap.size,j,none⟩=(wr.alloc (.cells #[.string p.nm,.string p.ver,.string p.ar,.string p.sm,.slice p.na p.needs.length p.nc,.slice p.ba p.bars.length p.bc,.slice p.ga p.gives.length p.gc,.slice p.fa p.files.length p.fc,.slice p.sa p.scripts.length p.sc] 27)).cell? ⟨wr.heap.size,j,none⟩:=fun j=>World.cell?_of_block (G4.out.block wr.heap.size (by simp) (by intro h;injection h with h;omega));have x4:w5.cell? ⟨wr.heap.size,8,none⟩=some _:=(kb 8).trans (by simp;rfl);clear kb;have y4:w5.cell? ⟨g0,k*9+7,none⟩=some (.slice p.fa p.files.length p.fc):=by
     rw[R4.out.cellAt (k*9+7) (by omega)];exact QC qs (l.drop (k+1)) p k H1.out (.slice a1 p.needs.length c1) (.slice a2 p.bars.length c2) (.slice a3 p.gives.length c3)
    have z4:=R4.out.frozenAt (k*9+7);have RS4:=ae (R4.out.stored (k*9+7) (.slice a4 p.files.length c4)).1;have GS4:=ae (ap G4.out (p:=⟨g0,k*9+7,none⟩) (.inl rfl) (.slice a4 p.files.length c4));have OKb4:Hid (p.ok (w5.setCell ⟨g0,k*9+7,none⟩ (.slice a4 p.files.length c4))):=zo (HD.out.all p HPM.out) H5.out ((World.grownBy.refl wr (some g0) |> fun h=>eK h _) |> fun h=>ak h GS4.out) (by have:=H5.out.size;omega);clear x3;go_wp2_with fail;refine(zn p.sa p.scripts.length p.sc (p.scripts.flatMap aT.cells) _ (by exact(OKb4.out.scripts)) (jW DZ _) FEW.out.scripts).mono ?_;rintro e w6 ⟨v5,rfl,o5,b5⟩;obtain⟨a5,c5,rfl⟩:=aN o5;have R5:=ae (aL RS4.out b5);have G5:=ae (bB GS4.out b5);have O5:=ae o5;have B5:=ae b5;clear o5 b5;have kb:∀ j:Nat,w6.cell? ⟨wr.heap.size,j,none⟩=(wr.alloc (.cells #[.string p.nm,.string p.ver,.string p.ar,.string p.sm,.slice p.na p.needs.length p.nc,.slice p.ba p.bars.length p.bc,.slice p.ga p.gives.length p.gc,.slice p.fa p.files.length p.fc,.slice p.sa p.scripts.length p.sc] 27)).cell? ⟨wr.heap.size,j,none⟩:=fun j=>World.cell?_of_block (G5.out.block wr.heap.size (by simp) (by intro h;injection h with h;omega));clear kb;have y5:w6.cell? ⟨g0,k*9+8,none⟩=some (.slice p.sa p.scripts.length p.sc):=by
     rw[R5.out.cellAt (k*9+8) (by omega)];exact QD qs (l.drop (k+1)) p k H1.out (.slice a1 p.needs.length c1) (.slice a2 p.bars.length c2) (.slice a3 p.gives.length c3) (.slice a4 p.files.length c4)
    have z5:=R5.out.frozenAt (k*9+8);have RS5:=ae (R5.out.stored (k*9+8) (.slice a5 p.scripts.length c5)).1;have GS5:=ae (ap G5.out (p:=⟨g0,k*9+8,none⟩) (.inl rfl) (.slice a5 p.scripts.length c5));clear x4;go_wp2_with fail;have D5:=ap (World.grownBy.refl w6 (some g0)) (p:=⟨g0,k*9+8,none⟩) (.inl rfl) (.slice a5 p.scripts.length c5);have D4:=ak (bB (ap (World.grownBy.refl w5 (some g0)) (p:=⟨g0,k*9+7,none⟩) (.inl rfl) (.slice a4 p.files.length c4)) B5.out) D5;have D3:=ak (bB (ap (World.grownBy.refl w4 (some g0)) (p:=⟨g0,k*9+6,none⟩) (.inl rfl) (.slice a3 p.gives.length c3)) B4.out) D4;have D2:=ak (bB (ap (World.grownBy.refl w3 (some g0)) (p:=⟨g0,k*9+5,none⟩) (.inl rfl) (.slice a2 p.bars.length c2)) B3.out) D3;have D1:=ak (bB (ap (World.grownBy.refl w2 (some g0)) (p:=⟨g0,k*9+4,none⟩) (.inl rfl) (.slice a1 p.needs.length c1)) B2.out) D2;have GE:=ak (eK (World.grownBy.refl wr (some g0)) _) GS5.out;have sz1:=G1.out.size;have sz2:=G2.out.size;have sz3:=G3.out.size;have sz4:=G4.out.size;have hq:gj { p with na:=a1,nc:=c1,ba:=a2,bc:=c2,ga:=a3,gc:=c3,fa:=a4,fc:=c4,sa:=a5,sc:=c5 } _ (g0+1):=⟨aP (aY O1.out (by simp;omega)) (Nat.lt_succ_self _) D1,aP (aY O2.out (by simp at *;omega)) (Nat.lt_succ_self _) D2,aP (aY O3.out (by simp at *;omega)) (Nat.lt_succ_self _) D3,aP (aY O4.out (by simp at *;omega)) (Nat.lt_succ_self _) D4,aP (aY O5.out (by simp at *;omega)) (Nat.lt_succ_self _) D5⟩
    have F1:(qs++[({ p with na:=a1,nc:=c1,ba:=a2,bc:=c2,ga:=a3,gc:=c3,fa:=a4,fc:=c4,sa:=a5,sc:=c5 }:bK)]).length=k+1:=by rw[List.length_append,H1.out];rfl
    have F2:=DW (q:={ p with na:=a1,nc:=c1,ba:=a2,bc:=c2,ga:=a3,gc:=c3,fa:=a4,fc:=c4,sa:=a5,sc:=c5 }) H1.out H2.out HP.out ⟨rfl,rfl,rfl,rfl,rfl,rfl,rfl,rfl,rfl⟩;have F3:=RS5.out;rw[Lo qs (l.drop (k+1)) p k H1.out a1 a2 a3 a4 a5 c1 c2 c3 c4 c5] at F3;have F4:=dU H5.out GE hg;have F5:∀ q∈qs++[({ p with na:=a1,nc:=c1,ba:=a2,bc:=c2,ga:=a3,gc:=c3,fa:=a4,fc:=c4,sa:=a5,sc:=c5 }:bK)],gj q _ (g0+1):=fun q hqm=>(List.mem_append.1 hqm).elim (fun h=>(H4.out.1 q h).kept (Nat.lt_succ_self _) GE) (fun h=>by rw[List.mem_singleton.1 h];exact hq);have F6:(qs++[({ p with na:=a1,nc:=c1,ba:=a2,bc:=c2,ga:=a3,gc:=c3,fa:=a4,fc:=c4,sa:=a5,sc:=c5 }:bK)]).Pairwise Ln:=by
     refine List.pairwise_append.2 ⟨H4.out.2,List.pairwise_singleton ..,fun x hx y hy=>?_⟩;rw[List.mem_singleton.1 hy];have hx1:=H4.out.1 x hx;exact⟨fun g g' h h'=>by have:=(hx1.gives.lt g h).2;have:=(O3.out.lt g' h').1;simp at *;omega,fun g g' h h'=>by have:=(hx1.files.lt g h).2;have:=(O4.out.lt g' h').1;simp at *;omega⟩
    have K6:=ae F6;clear F6;have K1:=ae F1;have K2:=ae F2;have K3:=ae F3;have K4:=ae F4;have K5:=ae F5;clear F1 F2 F3 F4 F5 hq D1 D2 D3 D4 D5 GE sz1 sz2 sz3 sz4;go_roundw
    case rel=>exact⟨k+1,_,by omega,by go_num,K1.out,K2.out,K3.out,⟨K5.out,K6.out⟩,K4.out⟩
    case measure=>simp[intOf];omega
   ·go_wp2;go_ret;obtain⟨h1,h2,h3,h4,h5⟩:=HR.out;have hkl:k=l.length:=by omega
    exact⟨_,_,g0,qs,rfl,by omega,h2,⟨by rw[List.drop_of_length_le (by omega),List.append_nil] at h3;rw[h1,hkl];exact h3,fun _=>rfl,h4.1,h4.2⟩,h5⟩
theorem ci {n:Nat}{W:World}(hb:Below n W w1):(∀ b o,b<n->w1.cell? ⟨b,o,none⟩=W.cell? ⟨b,o,none⟩)/\(∀ b o,b<n->w1.frozen? ⟨b,o,none⟩=W.frozen? ⟨b,o,none⟩):=
 ⟨fun b o h=>hb.cell (p:=⟨b,o,none⟩) h,fun b o h=>hb.frozen (p:=⟨b,o,none⟩) h⟩
def eh (a b:BA)(c:Int):Value:=.agg #[.string a,.string b,.int .i64 c]
theorem bh (what nm:BA)(c:Int)(a:Addr)(w:World)(ha:w.cell? a=some (.string nm))(hs:a.spot=none)(hlt:a.block<w.heap.size):Calls Tryz.prog 40 #[.string what,.int .i64 c,.pointer (some a)] w fun e w'=>e=.returned (eh nm what c)/\Below w.heap.size w w':=by
 obtain⟨b,o,sp⟩:=a;subst hs;simp only at hlt;go_in;go_wp2;refine bodyPost_ret (v:=eh nm what c) (by simp[results,Tryz.results40,go_sem,eh]) rfl ⟨rfl,?_⟩;exact bR.alloc lr _
def tV (n:Int)(x:BA):Bool:=decide (aw n 0=x\/aw n 1=x\/aw n 2=x)
theorem wP (b:Nat)(n:Int)(x:BA)(w:World)(h0:w.cell? ⟨b,0,none⟩=some (.string (aw n 0)))(h1:w.cell? ⟨b,1,none⟩=some (.string (aw n 1)))(h2:w.cell? ⟨b,2,none⟩=some (.string (aw n 2))):Calls Tryz.prog 45 #[.slice (some ⟨b,0,none⟩) 3 3,.string x] w fun e w'=>e=.returned (.bool (tV n x))/\w'=w:=
 (Tryz.slices_Contains_string b 0 3 3 [aw n 0,aw n 1,aw n 2] x w (by simp) (by omega) (fun j hj=>by
  simp at hj;rcases(by omega:j=0\/j=1\/j=2) with rfl | rfl | rfl<;>simpa)).mono fun _ _ ⟨he,hw⟩=>⟨by
   rw[he];congr 2;rw[bI,Lib.containsS_iff];simp only[tV,decide_eq_true_iff,List.take,List.mem_cons,List.not_mem_nil,or_false];exact⟨fun h=>by rcases h with h | h | h<;>simp[h],fun h=>by rcases h with h | h | h<;>simp[h]⟩,hw⟩
def kI (nm:BA)(fo no:Bool)(ev:Int)(ao so ndo bo go:Bool)(fw:BA)(fe se:Int):Value:=
 if fo=false then eh nm ⟨#[102,111,114,109,97,116]⟩ 9 else if no=false then eh nm ⟨#[110,97,109,101]⟩ 10 else if ev≠0 then eh nm ⟨#[118,101,114,115,105,111,110]⟩ ev
 else if ao=false then eh nm ⟨#[97,114,99,104]⟩ 1 else if so=false then eh nm ⟨#[115,117,109,109,97,114,121]⟩ 3 else if ndo=false then eh nm ⟨#[110,101,101,100,115]⟩ 3
 else if bo=false then eh nm ⟨#[98,97,114,115]⟩ 3 else if go=false then eh nm ⟨#[103,105,118,101,115]⟩ 3 else if fe≠0 then eh nm fw fe
 else if se≠0 then eh nm ⟨#[115,99,114,105,112,116,115]⟩ se else eh ⟨#[]⟩ ⟨#[]⟩ 0
structure pB (w w1:World) (nm ver ar sm:BA) (nd br gv fs sp:Value):Prop where
 bel:Below w.heap.size w w1
 sz:w.heap.size+1<w1.heap.size
 c0:w1.cell? ⟨w.heap.size,0,none⟩=some (.string nm)
 c1:w1.cell? ⟨w.heap.size,1,none⟩=some (.string ver)
 c2:w1.cell? ⟨w.heap.size,2,none⟩=some (.string ar)
 c3:w1.cell? ⟨w.heap.size,3,none⟩=some (.string sm)
 c4:w1.cell? ⟨w.heap.size,4,none⟩=some nd
 c5:w1.cell? ⟨w.heap.size,5,none⟩=some br
 c6:w1.cell? ⟨w.heap.size,6,none⟩=some gv
 c7:w1.cell? ⟨w.heap.size,7,none⟩=some fs
 c8:w1.cell? ⟨w.heap.size,8,none⟩=some sp
 r0:w1.cell? ⟨w.heap.size+1,0,none⟩=some (.string ⟨#[]⟩)
 r1:w1.cell? ⟨w.heap.size+1,1,none⟩=some (.string ⟨#[]⟩)
 r2:w1.cell? ⟨w.heap.size+1,2,none⟩=some (.int .i64 0)
 f0:w1.frozen? ⟨w.heap.size+1,0,none⟩=false
 f1:w1.frozen? ⟨w.heap.size+1,1,none⟩=false
 f2:w1.frozen? ⟨w.heap.size+1,2,none⟩=false
theorem pB.step (h:pB w w1 nm ver ar sm nd br gv fs sp)(hb:Below w1.heap.size w1 w2):pB w w2 nm ver ar sm nd br gv fs sp:=by
 have hz:=h.sz;have k0:∀ o,w2.cell? ⟨w.heap.size,o,none⟩=w1.cell? ⟨w.heap.size,o,none⟩:=fun o=>hb.cell (p:=⟨w.heap.size,o,none⟩) (by show w.heap.size<_;omega);have k1:∀ o,w2.cell? ⟨w.heap.size+1,o,none⟩=w1.cell? ⟨w.heap.size+1,o,none⟩:=fun o=>hb.cell (p:=⟨w.heap.size+1,o,none⟩) hz;have k2:∀ o,w2.frozen? ⟨w.heap.size+1,o,none⟩=w1.frozen? ⟨w.heap.size+1,o,none⟩:=fun o=>hb.frozen (p:=⟨w.heap.size+1,o,none⟩) hz
 exact⟨aq h.bel hb,Nat.lt_of_lt_of_le hz hb.size,(k0 _).trans h.c0,(k0 _).trans h.c1,(k0 _).trans h.c2,(k0 _).trans h.c3,(k0 _).trans h.c4,(k0 _).trans h.c5,(k0 _).trans h.c6,(k0 _).trans h.c7,(k0 _).trans h.c8,
  (k1 _).trans h.r0,(k1 _).trans h.r1,(k1 _).trans h.r2,(k2 _).trans h.f0,(k2 _).trans h.f1,(k2 _).trans h.f2⟩
theorem pB.start (w:World)(nm ver ar sm:BA)(nd br gv fs sp:Value)
  (hb:Below ((w.alloc (.cells #[.string nm,.string ver,.string ar,.string sm,nd,br,gv,fs,sp] 27)).alloc (.cells #[.string ⟨#[]⟩,.string ⟨#[]⟩,.int .i64 0] 38)).heap.size ((w.alloc (.cells #[.string nm,.string ver,.string ar,.string sm,nd,br,gv,fs,sp] 27)).alloc (.cells #[.string ⟨#[]⟩,.string ⟨#[]⟩,.int .i64 0] 38)) w1):pB w w1 nm ver ar sm nd br gv fs sp:=by
 have hz:=hb.size;simp at hz;have k0:∀ o,w1.cell? ⟨w.heap.size,o,none⟩=_:=fun o=>hb.cell (p:=⟨w.heap.size,o,none⟩) (by simp;omega);have k1:∀ o,w1.cell? ⟨w.heap.size+1,o,none⟩=_:=fun o=>hb.cell (p:=⟨w.heap.size+1,o,none⟩) (by simp);have k2:∀ o,w1.frozen? ⟨w.heap.size+1,o,none⟩=_:=fun o=>hb.frozen (p:=⟨w.heap.size+1,o,none⟩) (by simp)
 exact⟨((bR.alloc lr _).alloc (by simp) _).trans (hb.mono (by simp;omega)),by omega,(k0 _).trans (by simp),(k0 _).trans (by simp),(k0 _).trans (by simp),(k0 _).trans (by simp),(k0 _).trans (by simp),(k0 _).trans (by simp),(k0 _).trans (by simp),(k0 _).trans (by simp),(k0 _).trans (by simp),
  (k1 _).trans (by simp),(k1 _).trans (by simp),(k1 _).trans (by simp),(k2 _).trans (by simp),(k2 _).trans (by simp),(k2 _).trans (by simp)⟩
theorem dM (tmps:Array Value)(h:pB w w2 nm ver ar sm nd br gv fs sp)(ht:tmps[4]?=some (.pointer (some ⟨w.heap.size+1,0,none⟩)))(a b:BA)(c:Int):
  (results Tryz.f15 tmps).run Tryz.prog (((w2.setCell ⟨w.heap.size+1,0,none⟩ (.string a)).setCell ⟨w.heap.size+1,1,none⟩ (.string b)).setCell ⟨w.heap.size+1,2,none⟩ (.int .i64 c)) =
   .ok (eh a b c) (((w2.setCell ⟨w.heap.size+1,0,none⟩ (.string a)).setCell ⟨w.heap.size+1,1,none⟩ (.string b)).setCell ⟨w.heap.size+1,2,none⟩ (.int .i64 c)):=by
 obtain⟨bel,sz,c0,c1,c2,c3,c4,c5,c6,c7,c8,r0,r1,r2,f0,f1,f2⟩:=h;simp[results,Tryz.results15,ht,go_sem,eh,r0,r1,r2]
theorem eS (h:pB w w2 nm ver ar sm nd br gv fs sp)(a b c:Value):
  Below w.heap.size w (((w2.setCell ⟨w.heap.size+1,0,none⟩ a).setCell ⟨w.heap.size+1,1,none⟩ b).setCell ⟨w.heap.size+1,2,none⟩ c):=
 ((h.bel.setCell (p:=⟨w.heap.size+1,0,none⟩) (by simp) a).setCell (p:=⟨w.heap.size+1,1,none⟩) (by simp) b).setCell (p:=⟨w.heap.size+1,2,none⟩) (by simp) c
theorem mL (s:BA)(w:World)(hs:s.size<=9223372036854775807):Calls Tryz.prog 46 #[.string s] w fun e w'=>e=.returned (.bool (zr (bl s)))/\Below w.heap.size w w':=
 (oP s w hs).mono fun _ _ ⟨he,hw⟩=>⟨he,by rw[<-hw];exact bR⟩
theorem lB (n:Int)(w:World):Calls Tryz.prog 41 #[.int .i64 n] w fun e w'=>e=.returned (.bool (wK n))/\Below w.heap.size w w':=
 (tN n w).mono fun _ _ ⟨he,hw⟩=>⟨he,by rw[<-hw];exact bR⟩
theorem oQ (n:Int)(nm ver ar sm:BA)(na ba ga fa sa:OA)(nl nc bl' bc gl gc fl fc sl sc:Nat)(w:World)
  (ev fe se:Int)(ndo bo go:Bool)(fw:BA)(hs1:nm.size<=9223372036854775807)(hs2:sm.size<=9223372036854775807)
  (hV:Hid (∀ w1,Below w.heap.size w w1->Calls Tryz.prog 43 #[.int .i64 n,.string ver] w1 fun e w2=>e=.returned (.int .i64 ev)/\Below w1.heap.size w1 w2))
  (hN:Hid (∀ w1,Below w.heap.size w w1->Calls Tryz.prog 47 #[.int .i64 n,.slice na nl nc,.bool false] w1 fun e w2=>e=.returned (.bool ndo)/\Below w1.heap.size w1 w2))
  (hB:Hid (∀ w1,Below w.heap.size w w1->Calls Tryz.prog 47 #[.int .i64 n,.slice ba bl' bc,.bool true] w1 fun e w2=>e=.returned (.bool bo)/\Below w1.heap.size w1 w2))
  (hGv:Hid (∀ w1,Below w.heap.size w w1->Calls Tryz.prog 48 #[.int .i64 n,.slice ga gl gc] w1 fun e w2=>e=.returned (.bool go)/\Below w1.heap.size w1 w2))
  (hF:Hid (∀ w1,Below w.heap.size w w1->Calls Tryz.prog 49 #[.int .i64 n,.slice fa fl fc] w1 fun e w2=>e=.returned (.tuple #[.string fw,.int .i64 fe])/\Below w1.heap.size w1 w2))
  (hS:Hid (∀ w1,Below w.heap.size w w1->Calls Tryz.prog 50 #[.int .i64 n,.slice sa sl sc] w1 fun e w2=>e=.returned (.int .i64 se)/\Below w1.heap.size w1 w2)):Calls Tryz.prog 15 #[.int .i64 n,.agg #[.string nm,.string ver,.string ar,.string sm,.slice na nl nc,.slice ba bl' bc,.slice ga gl gc,.slice fa fl fc,.slice sa sl sc]] w
   fun e w'=>e=.returned (kI nm (wK n) (fg (bl nm)) ev (tV n ar) (zr (bl sm)) ndo bo go fw fe se)/\Below w.heap.size w w':=by
 go_in;go_wp2_with fail;refine(lB _ _).mono ?_;rintro e w1 ⟨rfl,hb1⟩;have B1:=pB.start w nm ver ar sm (.slice na nl nc) (.slice ba bl' bc) (.slice ga gl gc) (.slice fa fl fc) (.slice sa sl sc) hb1;clear hb1;obtain⟨-,sz,c0,c1,c2,c3,c4,c5,c6,c7,c8,-,-,-,-,-,-⟩:=ae B1;have HB1:=ae B1;clear B1;cases h0:wK n
 ·have K0:=ae h0;clear h0;go_wp2_with fail;refine(bh _ nm _ _ _ HB1.out.c0 rfl (by have:=HB1.out.sz;show w.heap.size<_;omega)).mono ?_;rintro e wx ⟨rfl,hbx⟩;have bx:=HB1.out.step hbx;clear c0 c1 c2 c3 c4 c5 c6 c7 c8 sz;obtain⟨-,sz,c0,c1,c2,c3,c4,c5,c6,c7,c8,r0,r1,r2,f0,f1,f2⟩:=ae bx;have HX:=ae bx;clear bx hbx;unfold eh;go_wp2_with fail;refine bodyPost_ret (dM _ HX.out rfl _ _ _) rfl ⟨?_,eS HX.out _ _ _⟩;congr 1;simp[kI,K0.out]
 have K0:=ae h0;clear h0;go_wp2_with fail;refine(nG nm _ hs1).mono ?_;rintro e w1' ⟨rfl,rfl⟩;cases h1:fg (bl nm)
 ·have K1:=ae h1;clear h1;go_wp2_with fail;refine(bh _ nm _ _ _ HB1.out.c0 rfl (by have:=HB1.out.sz;show w.heap.size<_;omega)).mono ?_;rintro e wx ⟨rfl,hbx⟩;have bx:=HB1.out.step hbx;clear c0 c1 c2 c3 c4 c5 c6 c7 c8 sz;obtain⟨-,sz,c0,c1,c2,c3,c4,c5,c6,c7,c8,r0,r1,r2,f0,f1,f2⟩:=ae bx;have HX:=ae bx;clear bx hbx;unfold eh;go_wp2_with fail;refine bodyPost_ret (dM _ HX.out rfl _ _ _) rfl ⟨?_,eS HX.out _ _ _⟩;congr 1;simp[kI,K0.out,K1.out]
 have K1:=ae h1;clear h1;go_wp2_with fail;refine(hV.out _ HB1.out.bel).mono ?_;rintro e w2 ⟨rfl,hb2⟩;have B2:=HB1.out.step hb2;clear hb2;clear c0 c1 c2 c3 c4 c5 c6 c7 c8 sz;obtain⟨-,sz,c0,c1,c2,c3,c4,c5,c6,c7,c8,-,-,-,-,-,-⟩:=ae B2;have HB2:=ae B2;clear B2;by_cases h2:¬ ev=0
 ·have h2':(ev != 0)=true:=by simpa using h2
  have K2:=ae h2;clear h2;go_wp2_with fail;refine(bh _ nm _ _ _ HB2.out.c0 rfl (by have:=HB2.out.sz;show w.heap.size<_;omega)).mono ?_;rintro e wx ⟨rfl,hbx⟩;have bx:=HB2.out.step hbx;clear c0 c1 c2 c3 c4 c5 c6 c7 c8 sz;obtain⟨-,sz,c0,c1,c2,c3,c4,c5,c6,c7,c8,r0,r1,r2,f0,f1,f2⟩:=ae bx;have HX:=ae bx;clear bx hbx;unfold eh;go_wp2_with fail;refine bodyPost_ret (dM _ HX.out rfl _ _ _) rfl ⟨?_,eS HX.out _ _ _⟩;congr 1;simp[kI,K0.out,K1.out,K2.out]
 obtain rfl:ev=0:=Decidable.not_not.1 h2;clear h2;go_wp2_with fail;refine(AV _ _).mono ?_;rintro e w3 ⟨rfl,hb3⟩;have B3:=HB2.out.step hb3;clear hb3;clear c0 c1 c2 c3 c4 c5 c6 c7 c8 sz;obtain⟨-,sz,c0,c1,c2,c3,c4,c5,c6,c7,c8,-,-,-,-,-,-⟩:=ae B3;have HB3:=ae B3;clear B3;have sz0:w.heap.size<w3.heap.size:=by omega
 go_wp2;go_quiet ((go_at_call 45;exact Calls.quiet_of_same (wP _ n _ _ (by simp) (by simp) (by simp))));cases h3:tV n ar
 ·have K3:=ae h3;clear h3;go_wp2_with fail;refine(bh _ nm _ _ _ (by exact(HB3.out.step (am (bR.alloc lr _) _)).c0) rfl (by exact Nat.lt_trans (Nat.lt_succ_self _) (HB3.out.step (am (bR.alloc lr _) _)).sz)).mono ?_;rintro e wx ⟨rfl,hbx⟩;have bx:=(HB3.out.step (am (bR.alloc lr _) _)).step hbx;clear c0 c1 c2 c3 c4 c5 c6 c7 c8 sz sz0;obtain⟨-,sz,c0,c1,c2,c3,c4,c5,c6,c7,c8,r0,r1,r2,f0,f1,f2⟩:=ae bx;have HX:=ae bx;clear bx hbx;unfold eh;go_wp2_with fail;refine bodyPost_ret (dM _ HX.out rfl _ _ _) rfl ⟨?_,eS HX.out _ _ _⟩;congr 1;simp[kI,K0.out,K1.out,K3.out]
 have K3:=ae h3;clear h3;go_wp2_with fail;refine(mL sm _ hs2).mono ?_;rintro e w4 ⟨rfl,hb4⟩;have B4:=(HB3.out.step (am (bR.alloc lr _) _)).step hb4;clear hb4;clear c0 c1 c2 c3 c4 c5 c6 c7 c8 sz sz0;obtain⟨-,sz,c0,c1,c2,c3,c4,c5,c6,c7,c8,-,-,-,-,-,-⟩:=ae B4;have HB4:=ae B4;clear B4;cases h4:zr (bl sm)
 ·have K4:=ae h4;clear h4;go_wp2_with fail;refine(bh _ nm _ _ _ HB4.out.c0 rfl (by have:=HB4.out.sz;show w.heap.size<_;omega)).mono ?_;rintro e wx ⟨rfl,hbx⟩;have bx:=HB4.out.step hbx;clear c0 c1 c2 c3 c4 c5 c6 c7 c8 sz;obtain⟨-,sz,c0,c1,c2,c3,c4,c5,c6,c7,c8,r0,r1,r2,f0,f1,f2⟩:=ae bx;have HX:=ae bx;clear bx hbx;unfold eh;go_wp2_with fail;refine bodyPost_ret (dM _ HX.out rfl _ _ _) rfl ⟨?_,eS HX.out _ _ _⟩;congr 1;simp[kI,K0.out,K1.out,K3.out,K4.out]
 have K4:=ae h4;clear h4;go_wp2_with fail;refine(hN.out _ HB4.out.bel).mono ?_;rintro e w5 ⟨rfl,hb5⟩;have B5:=HB4.out.step hb5;clear hb5;clear c0 c1 c2 c3 c4 c5 c6 c7 c8 sz;obtain⟨-,sz,c0,c1,c2,c3,c4,c5,c6,c7,c8,-,-,-,-,-,-⟩:=ae B5;have HB5:=ae B5;clear B5;cases ndo
 ·skip
  go_wp2_with fail;refine(bh _ nm _ _ _ HB5.out.c0 rfl (by have:=HB5.out.sz;show w.heap.size<_;omega)).mono ?_;rintro e wx ⟨rfl,hbx⟩;have bx:=HB5.out.step hbx;clear c0 c1 c2 c3 c4 c5 c6 c7 c8 sz;obtain⟨-,sz,c0,c1,c2,c3,c4,c5,c6,c7,c8,r0,r1,r2,f0,f1,f2⟩:=ae bx;have HX:=ae bx;clear bx hbx;unfold eh;go_wp2_with fail;refine bodyPost_ret (dM _ HX.out rfl _ _ _) rfl ⟨?_,eS HX.out _ _ _⟩;congr 1;simp[kI,K0.out,K1.out,K3.out,K4.out]
 go_wp2_with fail;refine(hB.out _ HB5.out.bel).mono ?_;rintro e w6 ⟨rfl,hb6⟩;have B6:=HB5.out.step hb6;clear hb6;clear c0 c1 c2 c3 c4 c5 c6 c7 c8 sz;obtain⟨-,sz,c0,c1,c2,c3,c4,c5,c6,c7,c8,-,-,-,-,-,-⟩:=ae B6;have HB6:=ae B6;clear B6;cases bo
 ·skip
  go_wp2_with fail;refine(bh _ nm _ _ _ HB6.out.c0 rfl (by have:=HB6.out.sz;show w.heap.size<_;omega)).mono ?_;rintro e wx ⟨rfl,hbx⟩;have bx:=HB6.out.step hbx;clear c0 c1 c2 c3 c4 c5 c6 c7 c8 sz;obtain⟨-,sz,c0,c1,c2,c3,c4,c5,c6,c7,c8,r0,r1,r2,f0,f1,f2⟩:=ae bx;have HX:=ae bx;clear bx hbx;unfold eh;go_wp2_with fail;refine bodyPost_ret (dM _ HX.out rfl _ _ _) rfl ⟨?_,eS HX.out _ _ _⟩;congr 1;simp[kI,K0.out,K1.out,K3.out,K4.out]
 go_wp2_with fail;refine(hGv.out _ HB6.out.bel).mono ?_;rintro e w7 ⟨rfl,hb7⟩;have B7:=HB6.out.step hb7;clear hb7;clear c0 c1 c2 c3 c4 c5 c6 c7 c8 sz;obtain⟨-,sz,c0,c1,c2,c3,c4,c5,c6,c7,c8,-,-,-,-,-,-⟩:=ae B7;have HB7:=ae B7;clear B7;cases go
 ·skip
  go_wp2_with fail;refine(bh _ nm _ _ _ HB7.out.c0 rfl (by have:=HB7.out.sz;show w.heap.size<_;omega)).mono ?_;rintro e wx ⟨rfl,hbx⟩;have bx:=HB7.out.step hbx;clear c0 c1 c2 c3 c4 c5 c6 c7 c8 sz;obtain⟨-,sz,c0,c1,c2,c3,c4,c5,c6,c7,c8,r0,r1,r2,f0,f1,f2⟩:=ae bx;have HX:=ae bx;clear bx hbx;unfold eh;go_wp2_with fail;refine bodyPost_ret (dM _ HX.out rfl _ _ _) rfl ⟨?_,eS HX.out _ _ _⟩;congr 1;simp[kI,K0.out,K1.out,K3.out,K4.out]
 go_wp2_with fail;refine(hF.out _ HB7.out.bel).mono ?_;rintro e w8 ⟨rfl,hb8⟩;have B8:=HB7.out.step hb8;clear hb8;clear c0 c1 c2 c3 c4 c5 c6 c7 c8 sz;obtain⟨-,sz,c0,c1,c2,c3,c4,c5,c6,c7,c8,-,-,-,-,-,-⟩:=ae B8;have HB8:=ae B8;clear B8;by_cases h5:¬ fe=0
 ·have h5':(fe != 0)=true:=by simpa using h5
  have K5:=ae h5;clear h5;go_wp2_with fail;refine(bh _ nm _ _ _ HB8.out.c0 rfl (by have:=HB8.out.sz;show w.heap.size<_;omega)).mono ?_;rintro e wx ⟨rfl,hbx⟩;have bx:=HB8.out.step hbx;clear c0 c1 c2 c3 c4 c5 c6 c7 c8 sz;obtain⟨-,sz,c0,c1,c2,c3,c4,c5,c6,c7,c8,r0,r1,r2,f0,f1,f2⟩:=ae bx;have HX:=ae bx;clear bx hbx;unfold eh;go_wp2_with fail;refine bodyPost_ret (dM _ HX.out rfl _ _ _) rfl ⟨?_,eS HX.out _ _ _⟩;congr 1;simp[kI,K0.out,K1.out,K3.out,K4.out,K5.out]
 obtain rfl:fe=0:=Decidable.not_not.1 h5;clear h5;go_wp2_with fail;refine(hS.out _ HB8.out.bel).mono ?_;rintro e w9 ⟨rfl,hb9⟩;have B9:=HB8.out.step hb9;clear hb9;clear c0 c1 c2 c3 c4 c5 c6 c7 c8 sz;obtain⟨-,sz,c0,c1,c2,c3,c4,c5,c6,c7,c8,-,-,-,-,-,-⟩:=ae B9;have HB9:=ae B9;clear B9;by_cases h6:¬ se=0
 ·have h6':(se != 0)=true:=by simpa using h6
  have K6:=ae h6;clear h6;go_wp2_with fail;refine(bh _ nm _ _ _ HB9.out.c0 rfl (by have:=HB9.out.sz;show w.heap.size<_;omega)).mono ?_;rintro e wx ⟨rfl,hbx⟩;have bx:=HB9.out.step hbx;clear c0 c1 c2 c3 c4 c5 c6 c7 c8 sz;obtain⟨-,sz,c0,c1,c2,c3,c4,c5,c6,c7,c8,r0,r1,r2,f0,f1,f2⟩:=ae bx;have HX:=ae bx;clear bx hbx;unfold eh;go_wp2_with fail;refine bodyPost_ret (dM _ HX.out rfl _ _ _) rfl ⟨?_,eS HX.out _ _ _⟩;congr 1;simp[kI,K0.out,K1.out,K3.out,K4.out,K6.out]
 obtain rfl:se=0:=Decidable.not_not.1 h6;clear h6 c0 c1 c2 c3 c4 c5 c6 c7 c8 sz;have HX:=HB9;obtain⟨-,sz,c0,c1,c2,c3,c4,c5,c6,c7,c8,r0,r1,r2,f0,f1,f2⟩:=ae HX.out;go_wp2_with fail;refine bodyPost_ret (dM _ HX.out rfl _ _ _) rfl ⟨?_,eS HX.out _ _ _⟩;congr 1;simp[kI,K0.out,K1.out,K3.out,K4.out]
def iA {α:Type}(eq:α->α->Bool):List α->List α->Bool
 | [],[]=>true
 | a::r,b::s=>eq a b&&iA eq r s
 | _,_=>false
theorem dj {α:Type}(eq:α->α->Bool):∀ (l m:List α),l.length≠m.length->iA eq l m=false
 | [],[],h=>absurd rfl h
 | [],_::_,_=>rfl
 | _::_,[],_=>rfl
 | a::r,b::s,h=>by simp only[iA];rw[dj eq r s (by simpa using h)];simp
theorem gE {α:Type}(eq:α->α->Bool):∀ (l m:List α)(k:Nat)(x y:α),l[k]?=some x->m[k]?=some y->eq x y=false->iA eq l m=false
 | [],_,k,x,y,h,_,_=>by simp at h
 | _::_,[],k,x,y,_,h,_=>by simp at h
 | a::r,b::s,0,x,y,h,h',he=>by simp at h h';subst h h';simp[iA,he]
 | a::r,b::s,k+1,x,y,h,h',he=>by
  simp only[iA];rw[gE eq r s k x y (by simpa using h) (by simpa using h') he];simp
theorem eD {α:Type}(eq:α->α->Bool):∀ (l m:List α),l.length=m.length->(∀ (i:Nat)(x y:α),l[i]?=some x->m[i]?=some y->eq x y=true)->iA eq l m=true
 | [],[],_,_=>rfl
 | [],_::_,h,_=>by simp at h
 | _::_,[],h,_=>by simp at h
 | a::r,b::s,h,hi=>by
  simp only[iA];rw[hi 0 a b rfl rfl,eD eq r s (by simpa using h) (fun i x y hx hy=>hi (i+1) x y (by simpa using hx) (by simpa using hy))];rfl
def gn (a b:BA):Bool:=a.toList==b.toList
theorem Mg {x y:BA}(h:gn x y=true):x=y:=by unfold gn at h;rw[et] at h;exact dO h
theorem gq (x:BA):gn x x=true:=by unfold gn;simp
def eE (x y:cS):Bool:=gn x.nm y.nm&&(x.op==y.op)&&gn x.ver y.ver
theorem BO (x y:cS)(w:World):(binOp .neq 81 (.agg #[.string x.nm,.int .i64 x.op,.string x.ver]) (.agg #[.string y.nm,.int .i64 y.op,.string y.ver])).run Tryz.prog w=.ok (.bool (!eE x y)) w:=by
 go_simp;unfold eE gn
 (repeat' split)<;>simp_all
theorem mf (A B:OA)(c d:Nat)(l m:List cS)(w:World)(h1:Rd w 3 A l.length (l.flatMap cS.cells))(h2:Rd w 3 B m.length (m.flatMap cS.cells))(n1:l.length<=9223372036854775807)(n2:m.length<=9223372036854775807):Calls Tryz.prog 69 #[.slice A l.length c,.slice B m.length d] w fun e w'=>e=.returned (.bool (iA eE l m))/\Below w.heap.size w w':=by
 have H1:=ae h1;clear h1;have H2:=ae h2;clear h2;by_cases hl:l.length=m.length
 ·have hb:((l.length:Int) != (m.length:Int))=false:=by simp[hl]
  have HL:=ae hl;have hle:l.length<=m.length:=by omega
  clear hl;go_in;go_wp2;go_loopw [13] (fun i wr=>∃ (k q:Nat),k<=l.length/\i=.int .i64 k/\wr=w.drewN q/\Hid (∀ (i:Nat)(x y:cS),i<k->l[i]?=some x->m[i]?=some y->eE x y=true)) (fun i _=>l.length-(intOf i).toNat)
  case atStart=>exact⟨0,0,z0,rfl,rfl,fun i x y h=>absurd h (Nat.not_lt_zero _)⟩
  case round=>
   obtain⟨k,q,hk,rfl,rfl,HK⟩:=hrel;by_cases hlt:k<l.length
   ·obtain⟨x,hx⟩:∃ x,l[k]?=some x:=⟨_,gG hlt⟩
    have hlt2:k<m.length:=by omega
    obtain⟨y,hy⟩:∃ y,m[k]?=some y:=⟨_,gG hlt2⟩
    obtain⟨b,off,hA,he⟩:=H1.out.elem lm k x hx;obtain⟨b',off',hA',he'⟩:=H2.out.elem lm k y hy;have e0:=he 0 _ rfl;have f0:=he' 0 _ rfl;have e1:=he 1 _ rfl;have f1:=he' 1 _ rfl;have e2:=he 2 _ rfl;have f2:=he' 2 _ rfl;simp only[Nat.add_zero] at e0 f0;clear he he';have hix:=fun W=>aB (T:=23) (E:=81) (sz:=3) (c:=c) Tryz.underlying23 rfl Tryz.sizeOf81 hA hlt W;have hix':=fun W=>aB (T:=23) (E:=81) (sz:=3) (c:=d) Tryz.underlying23 rfl Tryz.sizeOf81 hA' hlt2 W;have HX:=ae hx;have HY:=ae hy;clear hx hy hA hA';have hne:=BO x y;cases hxy:eE x y
    ·go_wp2;go_quiet (fail);go_wp2;go_ret;exact⟨af (gE eE l m k x y HX.out HY.out hxy).symm,am (am bR _) _⟩
    ·go_wp2;go_quiet (fail);go_wp2_with fail;have FK:Hid (∀ (i:Nat)(x y:cS),i<k+1->l[i]?=some x->m[i]?=some y->eE x y=true):=by
      intro i x' y' hi hx' hy';rcases Nat.lt_succ_iff_lt_or_eq.1 hi with h | h
      ·exact HK.out i x' y' h hx' hy'
      ·subst h;rw[HX.out] at hx';rw[HY.out] at hy';injection hx' with hx';injection hy' with hy';subst hx' hy';exact hxy
     go_roundw
     case rel=>exact⟨k+1,_,by omega,by go_num,rfl,FK⟩
     case measure=>simp[intOf];omega
   ·go_wp2;go_ret;exact⟨af (eD eE l m HL.out (fun i x y hx hy=>HK.out i x y (by have:=(gS hx).1;omega) hx hy)).symm,am bR _⟩
 ·have hb:((l.length:Int) != (m.length:Int))=true:=by simp;omega
  have HL:=ae hl;clear hl;go_in;go_wp2;go_ret;exact⟨af (dj eE l m HL.out).symm,bR⟩
def eF (x y:av):Bool:=gn x.path y.path&&(x.kind==y.kind)&&(x.mode==y.mode)&&gn x.owner y.owner&&gn x.group y.group&&gn x.link y.link&&gn x.sum y.sum&&(x.conf==y.conf)
theorem BQ (x y:av)(w:World):(binOp .neq 56 (.agg #[.string x.path,.int .i64 x.kind,.int .i64 x.mode,.string x.owner,.string x.group,.string x.link,.string x.sum,.bool x.conf]) (.agg #[.string y.path,.int .i64 y.kind,.int .i64 y.mode,.string y.owner,.string y.group,.string y.link,.string y.sum,.bool y.conf])).run Tryz.prog w=.ok (.bool (!eF x y)) w:=by
 go_simp;unfold eF gn
 (repeat' split)<;>simp_all
theorem oW (A B:OA)(c d:Nat)(l m:List av)(w:World)(h1:Rd w 8 A l.length (l.flatMap av.cells))(h2:Rd w 8 B m.length (m.flatMap av.cells))(n1:l.length<=9223372036854775807)(n2:m.length<=9223372036854775807):Calls Tryz.prog 70 #[.slice A l.length c,.slice B m.length d] w fun e w'=>e=.returned (.bool (iA eF l m))/\Below w.heap.size w w':=by
 have H1:=ae h1;clear h1;have H2:=ae h2;clear h2;by_cases hl:l.length=m.length
 ·have hb:((l.length:Int) != (m.length:Int))=false:=by simp[hl]
  have HL:=ae hl;have hle:l.length<=m.length:=by omega
  clear hl;go_in;go_wp2;go_loopw [13] (fun i wr=>∃ (k q:Nat),k<=l.length/\i=.int .i64 k/\wr=w.drewN q/\Hid (∀ (i:Nat)(x y:av),i<k->l[i]?=some x->m[i]?=some y->eF x y=true)) (fun i _=>l.length-(intOf i).toNat)
  case atStart=>exact⟨0,0,z0,rfl,rfl,fun i x y h=>absurd h (Nat.not_lt_zero _)⟩
  case round=>
   obtain⟨k,q,hk,rfl,rfl,HK⟩:=hrel;by_cases hlt:k<l.length
   ·obtain⟨x,hx⟩:∃ x,l[k]?=some x:=⟨_,gG hlt⟩
    have hlt2:k<m.length:=by omega
    obtain⟨y,hy⟩:∃ y,m[k]?=some y:=⟨_,gG hlt2⟩
    obtain⟨b,off,hA,he⟩:=H1.out.elem gg k x hx;obtain⟨b',off',hA',he'⟩:=H2.out.elem gg k y hy;have e0:=he 0 _ rfl;have f0:=he' 0 _ rfl;have e1:=he 1 _ rfl;have f1:=he' 1 _ rfl;have e2:=he 2 _ rfl;have f2:=he' 2 _ rfl;have e3:=he 3 _ rfl;have f3:=he' 3 _ rfl;have e4:=he 4 _ rfl;have f4:=he' 4 _ rfl;have e5:=he 5 _ rfl;have f5:=he' 5 _ rfl;have e6:=he 6 _ rfl;have f6:=he' 6 _ rfl;have e7:=he 7 _ rfl;have f7:=he' 7 _ rfl;simp only[Nat.add_zero] at e0 f0;clear he he';have hix:=fun W=>aB (T:=24) (E:=56) (sz:=8) (c:=c) Tryz.underlying24 rfl Tryz.sizeOf56 hA hlt W;have hix':=fun W=>aB (T:=24) (E:=56) (sz:=8) (c:=d) Tryz.underlying24 rfl Tryz.sizeOf56 hA' hlt2 W;have HX:=ae hx;have HY:=ae hy;clear hx hy hA hA';have hne:=BQ x y;cases hxy:eF x y
    ·go_wp2;go_quiet (fail);go_wp2;go_ret;exact⟨af (gE eF l m k x y HX.out HY.out hxy).symm,am (am bR _) _⟩
    ·go_wp2;go_quiet (fail);go_wp2_with fail;have FK:Hid (∀ (i:Nat)(x y:av),i<k+1->l[i]?=some x->m[i]?=some y->eF x y=true):=by
      intro i x' y' hi hx' hy';rcases Nat.lt_succ_iff_lt_or_eq.1 hi with h | h
      ·exact HK.out i x' y' h hx' hy'
      ·subst h;rw[HX.out] at hx';rw[HY.out] at hy';injection hx' with hx';injection hy' with hy';subst hx' hy';exact hxy
     go_roundw
     case rel=>exact⟨k+1,_,by omega,by go_num,rfl,FK⟩
     case measure=>simp[intOf];omega
   ·go_wp2;go_ret;exact⟨af (eD eF l m HL.out (fun i x y hx hy=>HK.out i x y (by have:=(gS hx).1;omega) hx hy)).symm,am bR _⟩
 ·have hb:((l.length:Int) != (m.length:Int))=true:=by simp;omega
  have HL:=ae hl;clear hl;go_in;go_wp2;go_ret;exact⟨af (dj eF l m HL.out).symm,bR⟩
def cu (x y:aT):Bool:=(x.phase==y.phase)&&gn x.body y.body
theorem uN (x y:aT)(w:World):(binOp .neq 44 (.agg #[.int .i64 x.phase,.string x.body]) (.agg #[.int .i64 y.phase,.string y.body])).run Tryz.prog w=.ok (.bool (!cu x y)) w:=by
 go_simp;unfold cu gn
 (repeat' split)<;>simp_all
theorem qa (A B:OA)(c d:Nat)(l m:List aT)(w:World)(h1:Rd w 2 A l.length (l.flatMap aT.cells))(h2:Rd w 2 B m.length (m.flatMap aT.cells))(n1:l.length<=9223372036854775807)(n2:m.length<=9223372036854775807):Calls Tryz.prog 71 #[.slice A l.length c,.slice B m.length d] w fun e w'=>e=.returned (.bool (iA cu l m))/\Below w.heap.size w w':=by
 have H1:=ae h1;clear h1;have H2:=ae h2;clear h2;by_cases hl:l.length=m.length
 ·have hb:((l.length:Int) != (m.length:Int))=false:=by simp[hl]
  have HL:=ae hl;have hle:l.length<=m.length:=by omega
  clear hl;go_in;go_wp2;go_loopw [13] (fun i wr=>∃ (k q:Nat),k<=l.length/\i=.int .i64 k/\wr=w.drewN q/\Hid (∀ (i:Nat)(x y:aT),i<k->l[i]?=some x->m[i]?=some y->cu x y=true)) (fun i _=>l.length-(intOf i).toNat)
  case atStart=>exact⟨0,0,z0,rfl,rfl,fun i x y h=>absurd h (Nat.not_lt_zero _)⟩
  case round=>
   obtain⟨k,q,hk,rfl,rfl,HK⟩:=hrel;by_cases hlt:k<l.length
   ·obtain⟨x,hx⟩:∃ x,l[k]?=some x:=⟨_,gG hlt⟩
    have hlt2:k<m.length:=by omega
    obtain⟨y,hy⟩:∃ y,m[k]?=some y:=⟨_,gG hlt2⟩
    obtain⟨b,off,hA,he⟩:=H1.out.elem fD k x hx;obtain⟨b',off',hA',he'⟩:=H2.out.elem fD k y hy;have e0:=he 0 _ rfl;have f0:=he' 0 _ rfl;have e1:=he 1 _ rfl;have f1:=he' 1 _ rfl;simp only[Nat.add_zero] at e0 f0;clear he he';have hix:=fun W=>aB (T:=25) (E:=44) (sz:=2) (c:=c) Tryz.underlying25 rfl Tryz.sizeOf44 hA hlt W;have hix':=fun W=>aB (T:=25) (E:=44) (sz:=2) (c:=d) Tryz.underlying25 rfl Tryz.sizeOf44 hA' hlt2 W;have HX:=ae hx;have HY:=ae hy;clear hx hy hA hA';have hne:=uN x y;cases hxy:cu x y
    ·go_wp2;go_quiet (fail);go_wp2;go_ret;exact⟨af (gE cu l m k x y HX.out HY.out hxy).symm,am (am bR _) _⟩
    ·go_wp2;go_quiet (fail);go_wp2_with fail;have FK:Hid (∀ (i:Nat)(x y:aT),i<k+1->l[i]?=some x->m[i]?=some y->cu x y=true):=by
      intro i x' y' hi hx' hy';rcases Nat.lt_succ_iff_lt_or_eq.1 hi with h | h
      ·exact HK.out i x' y' h hx' hy'
      ·subst h;rw[HX.out] at hx';rw[HY.out] at hy';injection hx' with hx';injection hy' with hy';subst hx' hy';exact hxy
     go_roundw
     case rel=>exact⟨k+1,_,by omega,by go_num,rfl,FK⟩
     case measure=>simp[intOf];omega
   ·go_wp2;go_ret;exact⟨af (eD cu l m HL.out (fun i x y hx hy=>HK.out i x y (by have:=(gS hx).1;omega) hx hy)).symm,am bR _⟩
 ·have hb:((l.length:Int) != (m.length:Int))=true:=by simp;omega
  have HL:=ae hl;clear hl;go_in;go_wp2;go_ret;exact⟨af (dj cu l m HL.out).symm,bR⟩
theorem dP (A B:OA)(c d:Nat)(l m:List BA)(w:World)(h1:Rd w 1 A l.length (ay l))(h2:Rd w 1 B m.length (ay m))(n1:l.length<=9223372036854775807)(n2:m.length<=9223372036854775807):Calls Tryz.prog 30 #[.slice A l.length c,.slice B m.length d] w fun e w'=>e=.returned (.bool (iA gn l m))/\Below w.heap.size w w':=by
 have H1:=ae h1;clear h1;have H2:=ae h2;clear h2;by_cases hl:l.length=m.length
 ·have hb:((l.length:Int) != (m.length:Int))=false:=by simp[hl]
  have HL:=ae hl;have hle:l.length<=m.length:=by omega
  clear hl;go_in;go_wp2;go_loopw [13] (fun i wr=>∃ (k q:Nat),k<=l.length/\i=.int .i64 k/\wr=w.drewN q/\Hid (∀ (i:Nat)(x y:BA),i<k->l[i]?=some x->m[i]?=some y->gn x y=true)) (fun i _=>l.length-(intOf i).toNat)
  case atStart=>exact⟨0,0,z0,rfl,rfl,fun i x y h=>absurd h (Nat.not_lt_zero _)⟩
  case round=>
   obtain⟨k,q,hk,rfl,rfl,HK⟩:=hrel;by_cases hlt:k<l.length
   ·obtain⟨x,hx⟩:∃ x,l[k]?=some x:=⟨_,gG hlt⟩
    have hlt2:k<m.length:=by omega
    obtain⟨y,hy⟩:∃ y,m[k]?=some y:=⟨_,gG hlt2⟩
    obtain⟨b,off,hA,e0⟩:=H1.out.str k x hx;obtain⟨b',off',hA',f0⟩:=H2.out.str k y hy;have hix:=fun W=>aB (T:=22) (E:=9) (sz:=1) (c:=c) Tryz.underlying22 rfl Tryz.sizeOf9 hA hlt W;have hix':=fun W=>aB (T:=22) (E:=9) (sz:=1) (c:=d) Tryz.underlying22 rfl Tryz.sizeOf9 hA' hlt2 W;simp only[Nat.mul_one] at hix hix';have HX:=ae hx;have HY:=ae hy;clear hx hy hA hA';cases hxy:gn x y
    ·have HXY:=ae hxy;unfold gn at hxy;go_wp2;go_quiet (fail);go_wp2;go_ret;exact⟨af (gE gn l m k x y HX.out HY.out HXY.out).symm,am (am bR _) _⟩
    ·have HXY:=ae hxy;obtain rfl:=Mg hxy;clear hxy;go_wp2;go_quiet (fail);go_wp2_with fail;have FK:Hid (∀ (i:Nat)(x y:BA),i<k+1->l[i]?=some x->m[i]?=some y->gn x y=true):=by
      intro i x' y' hi hx' hy';rcases Nat.lt_succ_iff_lt_or_eq.1 hi with h | h
      ·exact HK.out i x' y' h hx' hy'
      ·subst h;rw[HX.out] at hx';rw[HY.out] at hy';injection hx' with hx';injection hy' with hy';subst hx' hy';exact HXY.out
     go_roundw
     case rel=>exact⟨k+1,_,by omega,by go_num,rfl,FK⟩
     case measure=>simp[intOf];omega
   ·go_wp2;go_ret;exact⟨af (eD gn l m HL.out (fun i x y hx hy=>HK.out i x y (by have:=(gS hx).1;omega) hx hy)).symm,am bR _⟩
 ·have hb:((l.length:Int) != (m.length:Int))=true:=by simp;omega
  have HL:=ae hl;clear hl;go_in;go_wp2;go_ret;exact⟨af (dj gn l m HL.out).symm,bR⟩
def cv (p q:bK):Bool:=gn p.nm q.nm&&gn p.ver q.ver&&gn p.ar q.ar&&gn p.sm q.sm&&iA gn p.needs q.needs&&iA gn p.bars q.bars&&iA eE p.gives q.gives&&iA eF p.files q.files&&iA cu p.scripts q.scripts
theorem qX {p q:bK}(h0:gn p.nm q.nm=true)(h1:gn p.ver q.ver=true)(h2:gn p.ar q.ar=true)(h3:gn p.sm q.sm=true)(h4:iA gn p.needs q.needs=true)(h5:iA gn p.bars q.bars=true)(h6:iA eE p.gives q.gives=true)(h7:iA eF p.files q.files=true)(h8:iA cu p.scripts q.scripts=true):cv p q=true:=by
 simp[cv,h0,h1,h2,h3,h4,h5,h6,h7,h8]
theorem rU (p q:bK)(w:World)(hp:p.ok w)(hq:q.ok w)(fp:p.fits)(fq:q.fits):Calls Tryz.prog 68 #[p.val,q.val] w fun e w'=>e=.returned (.bool (cv p q))/\Below w.heap.size w w':=by
 have HW:Hid (Below w.heap.size w ((w.alloc (.cells #[.string p.nm,.string p.ver,.string p.ar,.string p.sm,.slice p.na p.needs.length p.nc,.slice p.ba p.bars.length p.bc,.slice p.ga p.gives.length p.gc,.slice p.fa p.files.length p.fc,.slice p.sa p.scripts.length p.sc] 27)).alloc (.cells #[.string q.nm,.string q.ver,.string q.ar,.string q.sm,.slice q.na q.needs.length q.nc,.slice q.ba q.bars.length q.bc,.slice q.ga q.gives.length q.gc,.slice q.fa q.files.length q.fc,.slice q.sa q.scripts.length q.sc] 27))):=(bR.alloc lr _).alloc (by simp) _;have HP:=ae (hp.below HW.out);have HQ:=ae (hq.below HW.out);have FP:=ae fp;have FQ:=ae fq;clear hp hq fp fq;unfold bK.val;cases h0:(p.nm.toList==q.nm.toList)
 ·have E:Hid (cv p q=false):=by show _=_;simp[cv,gn,h0]
  go_in;go_wp2;go_ret;exact⟨af E.out.symm,HW.out⟩
 cases h1:(p.ver.toList==q.ver.toList)
 ·have E:Hid (cv p q=false):=by show _=_;simp[cv,gn,h1]
  go_in;go_wp2;go_ret;exact⟨af E.out.symm,HW.out⟩
 cases h2:(p.ar.toList==q.ar.toList)
 ·have E:Hid (cv p q=false):=by show _=_;simp[cv,gn,h2]
  go_in;go_wp2;go_ret;exact⟨af E.out.symm,HW.out⟩
 cases h3:(p.sm.toList==q.sm.toList)
 ·have E:Hid (cv p q=false):=by show _=_;simp[cv,gn,h3]
  go_in;go_wp2;go_ret;exact⟨af E.out.symm,HW.out⟩
 cases h4:iA gn p.needs q.needs
 ·have E:Hid (cv p q=false):=by show _=_;simp[cv,h4]
  go_in;go_wp2_with fail;refine(dP _ _ _ _ p.needs q.needs _ (by exact HP.out.needs) (by exact HQ.out.needs) FP.out.needs FQ.out.needs).mono ?_;rintro e w1 ⟨rfl,hb1⟩;have HB1:=ae hb1;obtain⟨hc1,hf1⟩:=ci HB1.out;clear hb1;go_wp2;go_ret;exact⟨af E.out.symm,HW.out.trans (HB1.out.mono (by simp;omega))⟩
 cases h5:iA gn p.bars q.bars
 ·have E:Hid (cv p q=false):=by show _=_;simp[cv,h5]
  go_in;go_wp2_with fail;refine(dP _ _ _ _ p.needs q.needs _ (by exact HP.out.needs) (by exact HQ.out.needs) FP.out.needs FQ.out.needs).mono ?_;rintro e w1 ⟨rfl,hb1⟩;have HB1:=ae hb1;obtain⟨hc1,hf1⟩:=ci HB1.out;clear hb1;go_wp2_with fail;refine(dP _ _ _ _ p.bars q.bars _ (by exact(HP.out.bars.below HB1.out)) (by exact(HQ.out.bars.below HB1.out)) FP.out.bars FQ.out.bars).mono ?_;rintro e w2 ⟨rfl,hb2⟩;have HB2:=ae (aq HB1.out hb2);clear hc1 hf1;obtain⟨hc2,hf2⟩:=ci HB2.out;clear hb2;go_wp2;go_ret;exact⟨af E.out.symm,HW.out.trans (HB2.out.mono (by simp;omega))⟩
 cases h6:iA eE p.gives q.gives
 ·have E:Hid (cv p q=false):=by show _=_;simp[cv,h6]
  go_in;go_wp2_with fail;refine(dP _ _ _ _ p.needs q.needs _ (by exact HP.out.needs) (by exact HQ.out.needs) FP.out.needs FQ.out.needs).mono ?_;rintro e w1 ⟨rfl,hb1⟩;have HB1:=ae hb1;obtain⟨hc1,hf1⟩:=ci HB1.out;clear hb1;go_wp2_with fail;refine(dP _ _ _ _ p.bars q.bars _ (by exact(HP.out.bars.below HB1.out)) (by exact(HQ.out.bars.below HB1.out)) FP.out.bars FQ.out.bars).mono ?_;rintro e w2 ⟨rfl,hb2⟩;have HB2:=ae (aq HB1.out hb2);clear hc1 hf1;obtain⟨hc2,hf2⟩:=ci HB2.out;clear hb2;go_wp2_with fail;refine(mf _ _ _ _ p.gives q.gives _ (by exact(HP.out.gives.below HB2.out)) (by exact(HQ.out.gives.below HB2.out)) FP.out.gives FQ.out.gives).mono ?_;rintro e w3 ⟨rfl,hb3⟩;have HB3:=ae (aq HB2.out hb3);clear hc2 hf2;obtain⟨hc3,hf3⟩:=ci HB3.out;clear hb3;go_wp2;go_ret;exact⟨af E.out.symm,HW.out.trans (HB3.out.mono (by simp;omega))⟩
 cases h7:iA eF p.files q.files
 ·have E:Hid (cv p q=false):=by show _=_;simp[cv,h7]
  go_in;go_wp2_with fail;refine(dP _ _ _ _ p.needs q.needs _ (by exact HP.out.needs) (by exact HQ.out.needs) FP.out.needs FQ.out.needs).mono ?_;rintro e w1 ⟨rfl,hb1⟩;have HB1:=ae hb1;obtain⟨hc1,hf1⟩:=ci HB1.out;clear hb1;go_wp2_with fail;refine(dP _ _ _ _ p.bars q.bars _ (by exact(HP.out.bars.below HB1.out)) (by exact(HQ.out.bars.below HB1.out)) FP.out.bars FQ.out.bars).mono ?_;rintro e w2 ⟨rfl,hb2⟩;have HB2:=ae (aq HB1.out hb2);clear hc1 hf1;obtain⟨hc2,hf2⟩:=ci HB2.out;clear hb2;go_wp2_with fail;refine(mf _ _ _ _ p.gives q.gives _ (by exact(HP.out.gives.below HB2.out)) (by exact(HQ.out.gives.below HB2.out)) FP.out.gives FQ.out.gives).mono ?_;rintro e w3 ⟨rfl,hb3⟩;have HB3:=ae (aq HB2.out hb3);clear hc2 hf2;obtain⟨hc3,hf3⟩:=ci HB3.out;clear hb3;go_wp2_with fail;refine(oW _ _ _ _ p.files q.files _ (by exact(HP.out.files.below HB3.out)) (by exact(HQ.out.files.below HB3.out)) FP.out.files FQ.out.files).mono ?_;rintro e w4 ⟨rfl,hb4⟩;have HB4:=ae (aq HB3.out hb4);clear hc3 hf3;obtain⟨hc4,hf4⟩:=ci HB4.out;clear hb4;go_wp2;go_ret;exact⟨af E.out.symm,HW.out.trans (HB4.out.mono (by simp;omega))⟩
 cases h8:iA cu p.scripts q.scripts
 ·have E:Hid (cv p q=false):=by show _=_;simp[cv,h8]
  go_in;go_wp2_with fail;refine(dP _ _ _ _ p.needs q.needs _ (by exact HP.out.needs) (by exact HQ.out.needs) FP.out.needs FQ.out.needs).mono ?_;rintro e w1 ⟨rfl,hb1⟩;have HB1:=ae hb1;obtain⟨hc1,hf1⟩:=ci HB1.out;clear hb1;go_wp2_with fail;refine(dP _ _ _ _ p.bars q.bars _ (by exact(HP.out.bars.below HB1.out)) (by exact(HQ.out.bars.below HB1.out)) FP.out.bars FQ.out.bars).mono ?_;rintro e w2 ⟨rfl,hb2⟩;have HB2:=ae (aq HB1.out hb2);clear hc1 hf1;obtain⟨hc2,hf2⟩:=ci HB2.out;clear hb2;go_wp2_with fail;refine(mf _ _ _ _ p.gives q.gives _ (by exact(HP.out.gives.below HB2.out)) (by exact(HQ.out.gives.below HB2.out)) FP.out.gives FQ.out.gives).mono ?_;rintro e w3 ⟨rfl,hb3⟩;have HB3:=ae (aq HB2.out hb3);clear hc2 hf2;obtain⟨hc3,hf3⟩:=ci HB3.out;clear hb3;go_wp2_with fail;refine(oW _ _ _ _ p.files q.files _ (by exact(HP.out.files.below HB3.out)) (by exact(HQ.out.files.below HB3.out)) FP.out.files FQ.out.files).mono ?_;rintro e w4 ⟨rfl,hb4⟩;have HB4:=ae (aq HB3.out hb4);clear hc3 hf3;obtain⟨hc4,hf4⟩:=ci HB4.out;clear hb4;go_wp2_with fail;refine(qa _ _ _ _ p.scripts q.scripts _ (by exact(HP.out.scripts.below HB4.out)) (by exact(HQ.out.scripts.below HB4.out)) FP.out.scripts FQ.out.scripts).mono ?_;rintro e w5 ⟨rfl,hb5⟩;have HB5:=ae (aq HB4.out hb5);clear hc4 hf4;obtain⟨hc5,hf5⟩:=ci HB5.out;clear hb5;go_wp2;go_ret;exact⟨af E.out.symm,HW.out.trans (HB5.out.mono (by simp;omega))⟩
 have E:Hid (cv p q=true):=qX (by exact h0) (by exact h1) (by exact h2) (by exact h3) h4 h5 h6 h7 h8;go_in;go_wp2_with fail;refine(dP _ _ _ _ p.needs q.needs _ (by exact HP.out.needs) (by exact HQ.out.needs) FP.out.needs FQ.out.needs).mono ?_;rintro e w1 ⟨rfl,hb1⟩;have HB1:=ae hb1;obtain⟨hc1,hf1⟩:=ci HB1.out;clear hb1;go_wp2_with fail;refine(dP _ _ _ _ p.bars q.bars _ (by exact(HP.out.bars.below HB1.out)) (by exact(HQ.out.bars.below HB1.out)) FP.out.bars FQ.out.bars).mono ?_;rintro e w2 ⟨rfl,hb2⟩;have HB2:=ae (aq HB1.out hb2);clear hc1 hf1;obtain⟨hc2,hf2⟩:=ci HB2.out;clear hb2;go_wp2_with fail;refine(mf _ _ _ _ p.gives q.gives _ (by exact(HP.out.gives.below HB2.out)) (by exact(HQ.out.gives.below HB2.out)) FP.out.gives FQ.out.gives).mono ?_;rintro e w3 ⟨rfl,hb3⟩;have HB3:=ae (aq HB2.out hb3);clear hc2 hf2;obtain⟨hc3,hf3⟩:=ci HB3.out;clear hb3;go_wp2_with fail;refine(oW _ _ _ _ p.files q.files _ (by exact(HP.out.files.below HB3.out)) (by exact(HQ.out.files.below HB3.out)) FP.out.files FQ.out.files).mono ?_;rintro e w4 ⟨rfl,hb4⟩;have HB4:=ae (aq HB3.out hb4);clear hc3 hf3;obtain⟨hc4,hf4⟩:=ci HB4.out;clear hb4;go_wp2_with fail;refine(qa _ _ _ _ p.scripts q.scripts _ (by exact(HP.out.scripts.below HB4.out)) (by exact(HQ.out.scripts.below HB4.out)) FP.out.scripts FQ.out.scripts).mono ?_;rintro e w5 ⟨rfl,hb5⟩;have HB5:=ae (aq HB4.out hb5);clear hc4 hf4;obtain⟨hc5,hf5⟩:=ci HB5.out;clear hb5;go_wp2;go_ret;exact⟨af E.out.symm,HW.out.trans (HB5.out.mono (by simp;omega))⟩
theorem bP (A B:OA)(c d:Nat)(l m:List BA)(w:World)(h1:Rd w 1 A l.length (ay l))(h2:Rd w 1 B m.length (ay m))(n1:l.length<=9223372036854775807)(n2:m.length<=9223372036854775807):Calls Tryz.prog 16 #[.slice A l.length c,.slice B m.length d] w fun e w'=>e=.returned (.bool (iA gn l m))/\Below w.heap.size w w':=by
 have H1:=ae h1;clear h1;have H2:=ae h2;clear h2;by_cases hl:l.length=m.length
 ·have hb:((l.length:Int) != (m.length:Int))=false:=by simp[hl]
  have HL:=ae hl;have hle:l.length<=m.length:=by omega
  clear hl;go_in;go_wp2;go_loopw [5] (fun i wr=>∃ (k q:Nat),k<=l.length/\i=.int .i64 k/\wr=w.drewN q/\Hid (∀ (i:Nat)(x y:BA),i<k->l[i]?=some x->m[i]?=some y->gn x y=true)) (fun i _=>l.length-(intOf i).toNat)
  case atStart=>exact⟨0,0,z0,rfl,rfl,fun i x y h=>absurd h (Nat.not_lt_zero _)⟩
  case round=>
   obtain⟨k,q,hk,rfl,rfl,HK⟩:=hrel;by_cases hlt:k<l.length
   ·obtain⟨x,hx⟩:∃ x,l[k]?=some x:=⟨_,gG hlt⟩
    have hlt2:k<m.length:=by omega
    obtain⟨y,hy⟩:∃ y,m[k]?=some y:=⟨_,gG hlt2⟩
    obtain⟨b,off,hA,e0⟩:=H1.out.str k x hx;obtain⟨b',off',hA',f0⟩:=H2.out.str k y hy;have hix:=fun W=>aB (T:=22) (E:=9) (sz:=1) (c:=c) Tryz.underlying22 rfl Tryz.sizeOf9 hA hlt W;have hix':=fun W=>aB (T:=22) (E:=9) (sz:=1) (c:=d) Tryz.underlying22 rfl Tryz.sizeOf9 hA' hlt2 W;simp only[Nat.mul_one] at hix hix';have HX:=ae hx;have HY:=ae hy;clear hx hy hA hA';cases hxy:gn x y
    ·have HXY:=ae hxy;unfold gn at hxy;go_wp2;go_quiet (fail);go_wp2;go_ret;exact⟨af (gE gn l m k x y HX.out HY.out HXY.out).symm,am (am bR _) _⟩
    ·have HXY:=ae hxy;obtain rfl:=Mg hxy;clear hxy;go_wp2;go_quiet (fail);go_wp2_with fail;have FK:Hid (∀ (i:Nat)(x y:BA),i<k+1->l[i]?=some x->m[i]?=some y->gn x y=true):=by
      intro i x' y' hi hx' hy';rcases Nat.lt_succ_iff_lt_or_eq.1 hi with h | h
      ·exact HK.out i x' y' h hx' hy'
      ·subst h;rw[HX.out] at hx';rw[HY.out] at hy';injection hx' with hx';injection hy' with hy';subst hx' hy';exact HXY.out
     go_roundw
     case rel=>exact⟨k+1,_,by omega,by go_num,rfl,FK⟩
     case measure=>simp[intOf];omega
   ·go_wp2;go_ret;exact⟨af (eD gn l m HL.out (fun i x y hx hy=>HK.out i x y (by have:=(gS hx).1;omega) hx hy)).symm,am bR _⟩
 ·have hb:((l.length:Int) != (m.length:Int))=true:=by simp;omega
  have HL:=ae hl;clear hl;go_in;go_wp2;go_ret;exact⟨af (dj gn l m HL.out).symm,bR⟩
theorem sQ (A B:OA)(c d:Nat)(l m:List bK)(w:World)(h1:wJ w A l)(h2:wJ w B m)(n1:l.length<=9223372036854775807)(n2:m.length<=9223372036854775807)(f1:∀ p∈l,p.fits)(f2:∀ p∈m,p.fits):Calls Tryz.prog 67 #[.slice A l.length c,.slice B m.length d,.func (.func 68) #[] #[]] w fun e w'=>e=.returned (.bool (iA cv l m))/\Below w.heap.size w w':=by
 have H1:=ae h1;have H2:=ae h2;have F1:=ae f1;have F2:=ae f2;clear h1 h2 f1 f2;by_cases hl:l.length=m.length
 ·have hb:((l.length:Int) != (m.length:Int))=false:=by simp[hl]
  have HL:=ae hl;have hle:l.length<=m.length:=by omega
  clear hl;go_in;go_wp2;go_loopw [17] (fun i wr=>∃ (k:Nat),k<=l.length/\i=.int .i64 k/\Hid (Below w.heap.size w wr)/\Hid (∀ (i:Nat)(x y:bK),i<k->l[i]?=some x->m[i]?=some y->cv x y=true)) (fun i _=>l.length-(intOf i).toNat)
  case atStart=>exact⟨0,z0,rfl,bR,fun i x y h=>absurd h (Nat.not_lt_zero _)⟩
  case round=>
   obtain⟨k,hk,rfl,HB,HK⟩:=hrel;by_cases hlt:k<l.length
   ·obtain⟨x,hx⟩:∃ x,l[k]?=some x:=⟨_,gG hlt⟩
    have hlt2:k<m.length:=by omega
    obtain⟨y,hy⟩:∃ y,m[k]?=some y:=⟨_,gG hlt2⟩
    obtain⟨be,offe,hAe,hee⟩:=(H1.out.row.below HB.out).elem iG k x hx;have e0:=hee 0 _ rfl;have e1:=hee 1 _ rfl;have e2:=hee 2 _ rfl;have e3:=hee 3 _ rfl;have e4:=hee 4 _ rfl;have e5:=hee 5 _ rfl;have e6:=hee 6 _ rfl;have e7:=hee 7 _ rfl;have e8:=hee 8 _ rfl;simp only[Nat.add_zero] at e0;clear hee;obtain⟨bf,offf,hAf,hef⟩:=(H2.out.row.below HB.out).elem iG k y hy;have f0:=hef 0 _ rfl;have f1:=hef 1 _ rfl;have f2:=hef 2 _ rfl;have f3:=hef 3 _ rfl;have f4:=hef 4 _ rfl;have f5:=hef 5 _ rfl;have f6:=hef 6 _ rfl;have f7:=hef 7 _ rfl;have f8:=hef 8 _ rfl;simp only[Nat.add_zero] at f0;clear hef;have hix:=fun W=>aB (T:=71) (E:=27) (sz:=9) (c:=c) Tryz.underlying71 rfl Tryz.sizeOf27 hAe hlt W;have hix':=fun W=>aB (T:=71) (E:=27) (sz:=9) (c:=d) Tryz.underlying71 rfl Tryz.sizeOf27 hAf hlt2 W;have be:be<wr.heap.size:=World.block_lt_of_cell? _ _ e0;have bf:bf<wr.heap.size:=World.block_lt_of_cell? _ _ f0;have HX:=ae hx;have HY:=ae hy;have MX:=ae (gM hx);have MY:=ae (gM hy);clear hx hy hAe hAf;cases hxy:cv x y
    ·have HXY:=ae hxy;clear hxy;go_wp2_with fail;refine(rU x y _ (by exact((H1.out.all x MX.out).below HB.out).below ((bR.alloc lr _).alloc (by simp) _)) (by exact((H2.out.all y MY.out).below HB.out).below ((bR.alloc lr _).alloc (by simp) _)) (F1.out x MX.out) (F2.out y MY.out)).mono ?_;rintro e w1 ⟨rfl,hb1⟩;rw[HXY.out];go_wp2;go_ret;exact⟨af (gE cv l m k x y HX.out HY.out HXY.out).symm,aq HB.out (aq ((bR.alloc lr _).alloc (by simp) _) hb1)⟩
    ·have HXY:=ae hxy;clear hxy;go_wp2_with fail;refine(rU x y _ (by exact((H1.out.all x MX.out).below HB.out).below ((bR.alloc lr _).alloc (by simp) _)) (by exact((H2.out.all y MY.out).below HB.out).below ((bR.alloc lr _).alloc (by simp) _)) (F1.out x MX.out) (F2.out y MY.out)).mono ?_;rintro e w1 ⟨rfl,hb1⟩;rw[HXY.out];go_wp2_with fail;have FK:Hid (∀ (i:Nat)(x y:bK),i<k+1->l[i]?=some x->m[i]?=some y->cv x y=true):=by
      intro i x' y' hi hx' hy';rcases Nat.lt_succ_iff_lt_or_eq.1 hi with h | h
      ·exact HK.out i x' y' h hx' hy'
      ·subst h;rw[HX.out] at hx';rw[HY.out] at hy';injection hx' with hx';injection hy' with hy';subst hx' hy';exact HXY.out
     go_roundw
     case rel=>exact⟨k+1,by omega,by go_num,aq HB.out (aq ((bR.alloc lr _).alloc (by simp) _) hb1),FK⟩
     case measure=>simp[intOf];omega
   ·go_wp2;go_ret;exact⟨af (eD cv l m HL.out (fun i x y hx hy=>HK.out i x y (by have:=(gS hx).1;omega) hx hy)).symm,HB.out⟩
 ·have hb:((l.length:Int) != (m.length:Int))=true:=by simp;omega
  have HL:=ae hl;clear hl;go_in;go_wp2;go_ret;exact⟨af (dj cv l m HL.out).symm,bR⟩
theorem E8 (A B:OA)(c d:Nat)(l m:List bK)(w:World)(h1:wJ w A l)(h2:wJ w B m)(n1:l.length<=9223372036854775807)(n2:m.length<=9223372036854775807)(f1:∀ p∈l,p.fits)(f2:∀ p∈m,p.fits):Calls Tryz.prog 29 #[.slice A l.length c,.slice B m.length d] w fun e w'=>e=.returned (.bool (iA cv l m))/\Below w.heap.size w w':=by
 go_in;go_wp2_with fail;refine(sQ A B c d l m _ h1 h2 n1 n2 f1 f2).mono ?_;rintro e w1 ⟨rfl,hb1⟩;go_wp2;go_ret;exact⟨rfl,hb1⟩
theorem uO {p q:bK}(h:p.gives.length≠q.gives.length\/p.files.length≠q.files.length\/p.scripts.length≠q.scripts.length):cv p q=false:=by
 unfold cv;rcases h with h | h | h
 ·rw[dj eE _ _ h];simp
 ·rw[dj eF _ _ h];simp
 ·rw[dj cu _ _ h];simp
theorem zP (p q:bK)(w:World)(hp:p.ok w)(hq:q.ok w)(fp:p.fits)(fq:q.fits):Calls Tryz.prog 14 #[p.val,q.val] w fun e w'=>e=.returned (.bool (cv p q))/\Below w.heap.size w w':=by
 have HW:Hid (Below w.heap.size w ((w.alloc (.cells #[.string p.nm,.string p.ver,.string p.ar,.string p.sm,.slice p.na p.needs.length p.nc,.slice p.ba p.bars.length p.bc,.slice p.ga p.gives.length p.gc,.slice p.fa p.files.length p.fc,.slice p.sa p.scripts.length p.sc] 27)).alloc (.cells #[.string q.nm,.string q.ver,.string q.ar,.string q.sm,.slice q.na q.needs.length q.nc,.slice q.ba q.bars.length q.bc,.slice q.ga q.gives.length q.gc,.slice q.fa q.files.length q.fc,.slice q.sa q.scripts.length q.sc] 27))):=(bR.alloc lr _).alloc (by simp) _;have HP:=ae (hp.below HW.out);have HQ:=ae (hq.below HW.out);have FP:=ae fp;have FQ:=ae fq;clear hp hq fp fq;unfold bK.val;cases h0:(p.nm.toList==q.nm.toList)
 ·have E:Hid (cv p q=false):=by show _=_;simp[cv,gn,h0]
  go_in;go_wp2;go_ret;exact⟨af E.out.symm,HW.out⟩
 cases h1:(p.ver.toList==q.ver.toList)
 ·have E:Hid (cv p q=false):=by show _=_;simp[cv,gn,h1]
  go_in;go_wp2;go_ret;exact⟨af E.out.symm,HW.out⟩
 cases h2:(p.ar.toList==q.ar.toList)
 ·have E:Hid (cv p q=false):=by show _=_;simp[cv,gn,h2]
  go_in;go_wp2;go_ret;exact⟨af E.out.symm,HW.out⟩
 cases h3:(p.sm.toList==q.sm.toList)
 ·have E:Hid (cv p q=false):=by show _=_;simp[cv,gn,h3]
  go_in;go_wp2;go_ret;exact⟨af E.out.symm,HW.out⟩
 cases h4:iA gn p.needs q.needs
 ·have E:Hid (cv p q=false):=by show _=_;simp[cv,h4]
  go_in;go_wp2_with fail;refine(bP _ _ _ _ p.needs q.needs _ (by exact HP.out.needs) (by exact HQ.out.needs) FP.out.needs FQ.out.needs).mono ?_;rintro e w1 ⟨rfl,hb1⟩;have HB1:=ae hb1;obtain⟨hc1,hf1⟩:=ci HB1.out;clear hb1;go_wp2;go_ret;exact⟨af E.out.symm,HW.out.trans (HB1.out.mono (by simp;omega))⟩
 cases h5:iA gn p.bars q.bars
 ·have E:Hid (cv p q=false):=by show _=_;simp[cv,h5]
  go_in;go_wp2_with fail;refine(bP _ _ _ _ p.needs q.needs _ (by exact HP.out.needs) (by exact HQ.out.needs) FP.out.needs FQ.out.needs).mono ?_;rintro e w1 ⟨rfl,hb1⟩;have HB1:=ae hb1;obtain⟨hc1,hf1⟩:=ci HB1.out;clear hb1;go_wp2_with fail;refine(bP _ _ _ _ p.bars q.bars _ (by exact(HP.out.bars.below HB1.out)) (by exact(HQ.out.bars.below HB1.out)) FP.out.bars FQ.out.bars).mono ?_;rintro e w2 ⟨rfl,hb2⟩;have HB2:=ae (aq HB1.out hb2);clear hc1 hf1;obtain⟨hc2,hf2⟩:=ci HB2.out;clear hb2;go_wp2;go_ret;exact⟨af E.out.symm,HW.out.trans (HB2.out.mono (by simp;omega))⟩
 by_cases g6:p.gives.length=q.gives.length
 rotate_left
 ·have E:Hid (cv p q=false):=uO (.inl g6);have gb6:((p.gives.length:Int) != (q.gives.length:Int))=true:=by simp;omega
  clear g6;go_in;go_wp2_with fail;refine(bP _ _ _ _ p.needs q.needs _ (by exact HP.out.needs) (by exact HQ.out.needs) FP.out.needs FQ.out.needs).mono ?_;rintro e w1 ⟨rfl,hb1⟩;have HB1:=ae hb1;obtain⟨hc1,hf1⟩:=ci HB1.out;clear hb1;go_wp2_with fail;refine(bP _ _ _ _ p.bars q.bars _ (by exact(HP.out.bars.below HB1.out)) (by exact(HQ.out.bars.below HB1.out)) FP.out.bars FQ.out.bars).mono ?_;rintro e w2 ⟨rfl,hb2⟩;have HB2:=ae (aq HB1.out hb2);clear hc1 hf1;obtain⟨hc2,hf2⟩:=ci HB2.out;clear hb2;go_wp2;go_ret;exact⟨af E.out.symm,HW.out.trans (HB2.out.mono (by simp;omega))⟩
 have gb6:((p.gives.length:Int) != (q.gives.length:Int))=false:=by simp[g6]
 have hle6:p.gives.length<=q.gives.length:=by omega
 have hlm6:=FP.out.gives;have G6:=ae g6;clear g6;by_cases g7:p.files.length=q.files.length
 rotate_left
 ·have E:Hid (cv p q=false):=uO (.inr (.inl g7));have gb7:((p.files.length:Int) != (q.files.length:Int))=true:=by simp;omega
  clear g7;go_in;go_wp2_with fail;refine(bP _ _ _ _ p.needs q.needs _ (by exact HP.out.needs) (by exact HQ.out.needs) FP.out.needs FQ.out.needs).mono ?_;rintro e w1 ⟨rfl,hb1⟩;have HB1:=ae hb1;obtain⟨hc1,hf1⟩:=ci HB1.out;clear hb1;go_wp2_with fail;refine(bP _ _ _ _ p.bars q.bars _ (by exact(HP.out.bars.below HB1.out)) (by exact(HQ.out.bars.below HB1.out)) FP.out.bars FQ.out.bars).mono ?_;rintro e w2 ⟨rfl,hb2⟩;have HB2:=ae (aq HB1.out hb2);clear hc1 hf1;obtain⟨hc2,hf2⟩:=ci HB2.out;clear hb2;go_wp2;go_ret;exact⟨af E.out.symm,HW.out.trans (HB2.out.mono (by simp;omega))⟩
 have gb7:((p.files.length:Int) != (q.files.length:Int))=false:=by simp[g7]
 have hle7:p.files.length<=q.files.length:=by omega
 have hlm7:=FP.out.files;have G7:=ae g7;clear g7;by_cases g8:p.scripts.length=q.scripts.length
 rotate_left
 ·have E:Hid (cv p q=false):=uO (.inr (.inr g8));have gb8:((p.scripts.length:Int) != (q.scripts.length:Int))=true:=by simp;omega
  clear g8;go_in;go_wp2_with fail;refine(bP _ _ _ _ p.needs q.needs _ (by exact HP.out.needs) (by exact HQ.out.needs) FP.out.needs FQ.out.needs).mono ?_;rintro e w1 ⟨rfl,hb1⟩;have HB1:=ae hb1;obtain⟨hc1,hf1⟩:=ci HB1.out;clear hb1;go_wp2_with fail;refine(bP _ _ _ _ p.bars q.bars _ (by exact(HP.out.bars.below HB1.out)) (by exact(HQ.out.bars.below HB1.out)) FP.out.bars FQ.out.bars).mono ?_;rintro e w2 ⟨rfl,hb2⟩;have HB2:=ae (aq HB1.out hb2);clear hc1 hf1;obtain⟨hc2,hf2⟩:=ci HB2.out;clear hb2;go_wp2;go_ret;exact⟨af E.out.symm,HW.out.trans (HB2.out.mono (by simp;omega))⟩
 have gb8:((p.scripts.length:Int) != (q.scripts.length:Int))=false:=by simp[g8]
 have hle8:p.scripts.length<=q.scripts.length:=by omega
 have hlm8:=FP.out.scripts;have G8:=ae g8;clear g8;have HS:Hid (gn p.nm q.nm=true/\gn p.ver q.ver=true/\gn p.ar q.ar=true/\gn p.sm q.sm=true/\iA gn p.needs q.needs=true/\iA gn p.bars q.bars=true):=⟨h0,h1,h2,h3,h4,h5⟩
 go_in;go_wp2_with fail;refine(bP _ _ _ _ p.needs q.needs _ (by exact HP.out.needs) (by exact HQ.out.needs) FP.out.needs FQ.out.needs).mono ?_;rintro e w1 ⟨rfl,hb1⟩;have HB1:=ae hb1;obtain⟨hc1,hf1⟩:=ci HB1.out;clear hb1;go_wp2_with fail;refine(bP _ _ _ _ p.bars q.bars _ (by exact(HP.out.bars.below HB1.out)) (by exact(HQ.out.bars.below HB1.out)) FP.out.bars FQ.out.bars).mono ?_;rintro e w2 ⟨rfl,hb2⟩;have HB2:=ae (aq HB1.out hb2);clear hc1 hf1;obtain⟨hc2,hf2⟩:=ci HB2.out;clear hb2;go_wp2;go_loopw [5] (fun i wr=>∃ (k z:Nat),k<=p.gives.length/\i=.int .i64 k/\wr=w2.drewN z/\Hid (∀ (i:Nat)(x y:cS),i<k->p.gives[i]?=some x->q.gives[i]?=some y->eE x y=true)) (fun i _=>p.gives.length-(intOf i).toNat)
 case atStart=>exact⟨0,0,z0,rfl,rfl,fun i x y h=>absurd h (Nat.not_lt_zero _)⟩
 case round=>
  obtain⟨k,z,hk,rfl,rfl,HK6⟩:=hrel;by_cases hlt:k<p.gives.length
  ·obtain⟨x,hx⟩:∃ x,p.gives[k]?=some x:=⟨_,gG hlt⟩
   have hlt2:k<q.gives.length:=by omega
   obtain⟨y,hy⟩:∃ y,q.gives[k]?=some y:=⟨_,gG hlt2⟩
   obtain⟨b,off,hA,he⟩:=(HP.out.gives.below HB2.out).elem lm k x hx;obtain⟨b',off',hA',he'⟩:=(HQ.out.gives.below HB2.out).elem lm k y hy;have e0:=he 0 _ rfl;have f0:=he' 0 _ rfl;have e1:=he 1 _ rfl;have f1:=he' 1 _ rfl;have e2:=he 2 _ rfl;have f2:=he' 2 _ rfl;simp only[Nat.add_zero] at e0 f0;clear he he';have hix:=fun W=>aB (T:=23) (E:=81) (sz:=3) (c:=p.gc) Tryz.underlying23 rfl Tryz.sizeOf81 hA hlt W;have hix':=fun W=>aB (T:=23) (E:=81) (sz:=3) (c:=q.gc) Tryz.underlying23 rfl Tryz.sizeOf81 hA' hlt2 W;have bx:=hc2 w.heap.size 6 (by simp;omega);have by_:=hc2 (w.heap.size+1) 6 (by simp);clear hc2 hf2;have HX:=ae hx;have HY:=ae hy;clear hx hy hA hA';have hne:=BO x y;cases hxy:eE x y
   ·have E:Hid (cv p q=false):=by show _=_;unfold cv;rw[gE eE p.gives q.gives k x y HX.out HY.out hxy];simp
    go_wp2;go_quiet (fail);go_wp2;go_ret;exact⟨af E.out.symm,am (am (HW.out.trans (HB2.out.mono (by simp;omega))) _) _⟩
   ·go_wp2;go_quiet (fail);go_wp2_with fail;have FK:Hid (∀ (i:Nat)(x y:cS),i<k+1->p.gives[i]?=some x->q.gives[i]?=some y->eE x y=true):=by
     intro i x' y' hi hx' hy';rcases Nat.lt_succ_iff_lt_or_eq.1 hi with h | h
     ·exact HK6.out i x' y' h hx' hy'
     ·subst h;rw[HX.out] at hx';rw[HY.out] at hy';injection hx' with hx';injection hy' with hy';subst hx' hy';exact hxy
    go_roundw
    case rel=>exact⟨k+1,_,by omega,by go_num,rfl,FK⟩
    case measure=>simp[intOf];omega
  ·have Q6:Hid (iA eE p.gives q.gives=true):=eD eE p.gives q.gives G6.out (fun i x y hx hy=>HK6.out i x y (by have:=(gS hx).1;omega) hx hy);go_wp2;go_loopw [6] (fun i wr=>∃ (k z:Nat),k<=p.files.length/\i=.int .i64 k/\wr=w2.drewN z/\Hid (∀ (i:Nat)(x y:av),i<k->p.files[i]?=some x->q.files[i]?=some y->eF x y=true)) (fun i _=>p.files.length-(intOf i).toNat)
   case atStart=>exact⟨0,_,z0,rfl,rfl,fun i x y h=>absurd h (Nat.not_lt_zero _)⟩
   case round=>
    obtain⟨k,z,hk,rfl,rfl,HK7⟩:=hrel;by_cases hlt:k<p.files.length
    ·obtain⟨x,hx⟩:∃ x,p.files[k]?=some x:=⟨_,gG hlt⟩
     have hlt2:k<q.files.length:=by omega
     obtain⟨y,hy⟩:∃ y,q.files[k]?=some y:=⟨_,gG hlt2⟩
     obtain⟨b,off,hA,he⟩:=(HP.out.files.below HB2.out).elem gg k x hx;obtain⟨b',off',hA',he'⟩:=(HQ.out.files.below HB2.out).elem gg k y hy;have e0:=he 0 _ rfl;have f0:=he' 0 _ rfl;have e1:=he 1 _ rfl;have f1:=he' 1 _ rfl;have e2:=he 2 _ rfl;have f2:=he' 2 _ rfl;have e3:=he 3 _ rfl;have f3:=he' 3 _ rfl;have e4:=he 4 _ rfl;have f4:=he' 4 _ rfl;have e5:=he 5 _ rfl;have f5:=he' 5 _ rfl;have e6:=he 6 _ rfl;have f6:=he' 6 _ rfl;have e7:=he 7 _ rfl;have f7:=he' 7 _ rfl;simp only[Nat.add_zero] at e0 f0;clear he he';have hix:=fun W=>aB (T:=24) (E:=56) (sz:=8) (c:=p.fc) Tryz.underlying24 rfl Tryz.sizeOf56 hA hlt W;have hix':=fun W=>aB (T:=24) (E:=56) (sz:=8) (c:=q.fc) Tryz.underlying24 rfl Tryz.sizeOf56 hA' hlt2 W;have bx:=hc2 w.heap.size 7 (by simp;omega);have by_:=hc2 (w.heap.size+1) 7 (by simp);clear hc2 hf2;have HX:=ae hx;have HY:=ae hy;clear hx hy hA hA';have hne:=BQ x y;cases hxy:eF x y
     ·have E:Hid (cv p q=false):=by show _=_;unfold cv;rw[gE eF p.files q.files k x y HX.out HY.out hxy];simp
      go_wp2;go_quiet (fail);go_wp2;go_ret;exact⟨af E.out.symm,am (am (HW.out.trans (HB2.out.mono (by simp;omega))) _) _⟩
     ·go_wp2;go_quiet (fail);go_wp2_with fail;have FK:Hid (∀ (i:Nat)(x y:av),i<k+1->p.files[i]?=some x->q.files[i]?=some y->eF x y=true):=by
       intro i x' y' hi hx' hy';rcases Nat.lt_succ_iff_lt_or_eq.1 hi with h | h
       ·exact HK7.out i x' y' h hx' hy'
       ·subst h;rw[HX.out] at hx';rw[HY.out] at hy';injection hx' with hx';injection hy' with hy';subst hx' hy';exact hxy
      go_roundw
      case rel=>exact⟨k+1,_,by omega,by go_num,rfl,FK⟩
      case measure=>simp[intOf];omega
    ·have Q7:Hid (iA eF p.files q.files=true):=eD eF p.files q.files G7.out (fun i x y hx hy=>HK7.out i x y (by have:=(gS hx).1;omega) hx hy);go_wp2;go_loopw [7] (fun i wr=>∃ (k z:Nat),k<=p.scripts.length/\i=.int .i64 k/\wr=w2.drewN z/\Hid (∀ (i:Nat)(x y:aT),i<k->p.scripts[i]?=some x->q.scripts[i]?=some y->cu x y=true)) (fun i _=>p.scripts.length-(intOf i).toNat)
     case atStart=>exact⟨0,_,z0,rfl,rfl,fun i x y h=>absurd h (Nat.not_lt_zero _)⟩
     case round=>
      obtain⟨k,z,hk,rfl,rfl,HK8⟩:=hrel;by_cases hlt:k<p.scripts.length
      ·obtain⟨x,hx⟩:∃ x,p.scripts[k]?=some x:=⟨_,gG hlt⟩
       have hlt2:k<q.scripts.length:=by omega
       obtain⟨y,hy⟩:∃ y,q.scripts[k]?=some y:=⟨_,gG hlt2⟩
       obtain⟨b,off,hA,he⟩:=(HP.out.scripts.below HB2.out).elem fD k x hx;obtain⟨b',off',hA',he'⟩:=(HQ.out.scripts.below HB2.out).elem fD k y hy;have e0:=he 0 _ rfl;have f0:=he' 0 _ rfl;have e1:=he 1 _ rfl;have f1:=he' 1 _ rfl;simp only[Nat.add_zero] at e0 f0;clear he he';have hix:=fun W=>aB (T:=25) (E:=44) (sz:=2) (c:=p.sc) Tryz.underlying25 rfl Tryz.sizeOf44 hA hlt W;have hix':=fun W=>aB (T:=25) (E:=44) (sz:=2) (c:=q.sc) Tryz.underlying25 rfl Tryz.sizeOf44 hA' hlt2 W;have bx:=hc2 w.heap.size 8 (by simp;omega);have by_:=hc2 (w.heap.size+1) 8 (by simp);clear hc2 hf2;have HX:=ae hx;have HY:=ae hy;clear hx hy hA hA';have hne:=uN x y;cases hxy:cu x y
       ·have E:Hid (cv p q=false):=by show _=_;unfold cv;rw[gE cu p.scripts q.scripts k x y HX.out HY.out hxy];simp
        go_wp2;go_quiet (fail);go_wp2;go_ret;exact⟨af E.out.symm,am (am (HW.out.trans (HB2.out.mono (by simp;omega))) _) _⟩
       ·go_wp2;go_quiet (fail);go_wp2_with fail;have FK:Hid (∀ (i:Nat)(x y:aT),i<k+1->p.scripts[i]?=some x->q.scripts[i]?=some y->cu x y=true):=by
         intro i x' y' hi hx' hy';rcases Nat.lt_succ_iff_lt_or_eq.1 hi with h | h
         ·exact HK8.out i x' y' h hx' hy'
         ·subst h;rw[HX.out] at hx';rw[HY.out] at hy';injection hx' with hx';injection hy' with hy';subst hx' hy';exact hxy
        go_roundw
        case rel=>exact⟨k+1,_,by omega,by go_num,rfl,FK⟩
        case measure=>simp[intOf];omega
      ·have Q8:Hid (iA cu p.scripts q.scripts=true):=eD cu p.scripts q.scripts G8.out (fun i x y hx hy=>HK8.out i x y (by have:=(gS hx).1;omega) hx hy);go_wp2;go_ret;obtain⟨s0,s1,s2,s3,s4,s5⟩:=HS.out;exact⟨af (qX s0 s1 s2 s3 s4 s5 Q6.out Q7.out Q8.out).symm,am (HW.out.trans (HB2.out.mono (by simp;omega))) _⟩
end
section
open Go.RowKit Go.Deep
open Go.RowKit
open Go.RowKit Go.Maps
def Hn (nm:BA)(r:BA×Int):Value:=if r.2=0 then eh ⟨#[]⟩ ⟨#[]⟩ 0 else eh nm r.1 r.2
theorem MH (nm what:BA):Hn nm (what,0)=.agg #[.string ⟨#[]⟩,.string ⟨#[]⟩,.int .i64 0]:=rfl
theorem CG (nm what:BA){c:Int}(h:c≠0):Hn nm (what,c)=.agg #[.string nm,.string what,.int .i64 c]:=by unfold Hn;rw[if_neg h];rfl
structure RC (w wr:World):Prop where
 bel:Below w.heap.size w wr
 res:ax wr w.heap.size [.string ⟨#[]⟩,.string ⟨#[]⟩,.int .i64 0]
theorem ax.grownC {wr w':World}{b c:Nat}{vs:LV}(h:ax wr c vs)(hg:wr.grownBy w' (some b))(hne:c≠b):ax w' c vs:=by
 have hk:w'.heap[c]?=wr.heap[c]?:=hg.block c h.sz (by intro e;injection e with e;exact hne e);refine⟨Nat.lt_of_lt_of_le h.sz hg.size,fun j u hu=>?_,fun j hj=>?_⟩
 ·exact(World.cell?_of_block (a:=⟨c,j,none⟩) hk).trans (h.cell j u hu)
 ·exact(World.frozen?_of_block (a:=⟨c,j,none⟩) hk).trans (h.free j hj)
end
section
open Go.RowKit Go.Maps
theorem iT {α:Type}{f:α->α->Bool}(hf:∀ x,f x x=true):∀ l:List α,iA f l l=true
 | []=>by simp[iA]
 | x::r=>by simp[iA,hf x,iT hf r]
end
end Go.Proofs.YtlglfpbhapmhiaaGreatDoor
