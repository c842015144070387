/- A part of the proof. -/
import Derived.Test.YtkmjcombhjombaaGreatDoorJ05
set_option maxRecDepth 100000
set_option maxHeartbeats 20000000
set_option linter.unusedVariables false
set_option linter.unusedSimpArgs false
namespace Go.Proofs.YtkmjcombhjombaaGreatDoor
variable{ar nm s sm ver:BA}{f g:BA->Option Value}{ans:BA×Int}{fo:Bool}{fmt:Int}{b k m n o:Nat}{br fs gv nd sp v:Value}{W w w' w1 w2 wr:World}
open Go.Proofs.Tryz
section
open Go.RowKit
def Bm (l:List fZ):Nat:=(l.map fun p=>1+wW p).sum
theorem WX (l:List fZ)(k:Nat)(x:fZ)(h:l[k]?=some x):Bm (l.take (k+1))=Bm (l.take k)+1+wW x:=by
 obtain⟨z,D⟩:=gS h;unfold Bm;rw[tS z,List.map_append,List.sum_append,D];simp;omega
def TL (l:List fZ)(count:Nat)(most:Int)(e:Ending):Prop:=∃ b:Bool,e=.returned (.bool b)/\(b=true->l.length<=count/\(Bm l:Int)<=most)
theorem TM (A:OA)(c:Nat)(l:List fZ)(count:Nat)(X:count<=1000)(z:Int)(h0:0<=z)(h1:z<=1000000)(w:World)(U:vl w A l)(hf:∀ p∈l,p.fits)(hl:l.length<=9223372036854775807):Calls prog 20 #[.slice A l.length c,.int .i64 count,.int .i64 z] w fun e w'=>TL l count z e/\Bw w w':=by
 have HD:=fH U;clear U;have HF:=fH hf;clear hf;by_cases hc:l.length<=count
 ·have aa:decide (count<l.length)=false:=by simp;omega
  go_in;go_upto_block 0 with(fail)
  go_cut [7] (fun s7 wx=>∃ m:Int,s7=.int .i64 m/\0<=m/\m<=7*z+7/\Hid (m<=z->m=(Bm l:Int))/\Hid (Bw w wx))
  case first=>
   go_wp2;go_loopw [7,8] (fun n i wr=>∃ (k:Nat) (m:Int),k<=l.length/\i=.int .i64 k/\n=.int .i64 m/\0<=m/\m<=7*z+7/\Hid (m<=z->m=(Bm (l.take k):Int))/\Hid (Bw w wr)) (fun _ i _=>l.length-(intOf i).toNat)
   case atStart=>exact⟨0,0,z0,rfl,rfl,by omega,by omega,(fun h=>by simp[Bm]),bR⟩
   case round=>
    obtain⟨k,m,hk,rfl,rfl,M,O,J,D⟩:=hrel;by_cases F:k<l.length
    ·by_cases hm:m<=z
     ·obtain⟨x,H⟩:∃ x,l[k]?=some x:=⟨_,gG F⟩
      have I:x∈l:=gM H;obtain⟨b,off,Z,he⟩:=(HD.row.below D).elem lk k x H;obtain⟨V,e1,e2,e3,e4,e5,e6,e7,e8⟩:=cF9 he;simp only[Nat.add_zero] at V;clear he;have K:=fun W=>gi (T:=22) (E:=38) (sz:=9) (c:=c) underlying22 rfl sizeOf38 Z F W;have HX:=fH H;have HW:=fH (WX l k x H);have Y:=fH I;clear H Z I;go_wp2_with fail;refine(Pd x z h0 h1 _ ((HD.all x Y).below D) (HF x Y)).mono ?_;rintro e w1 ⟨⟨q,rfl,q0,q1,q2⟩,R⟩;have Q2:=fH q2;clear q2;clear V e1 e2 e3 e4 e5 e6 e7 e8 K;go_wp2_with fail;have F1:Hid (m+1+q<=z->m+1+q=(Bm (l.take (k+1)):Int)):=by
       intro h;rw[HW.out];have:=J.out hm;have:=Q2.out (by omega);omega
      go_roundw
      case rel=>exact⟨k+1,_,by omega,by go_num,rfl,by omega,by omega,F1,fM D R⟩
      case measure=>simp[intOf];omega
     ·go_wp2;go_meet;exact⟨m,rfl,M,O,(fun h=>by omega),D⟩
    ·go_wp2;go_meet;exact⟨m,rfl,M,O,(fun h=>by rw[J.out h,tL (by omega)]),D⟩
  case rest=>
   obtain⟨m,rfl,M,O,J,D⟩:=hcut;go_wp2;go_ret;exact⟨⟨_,rfl,fun hb=>⟨hc,by have h:=dO hb;have:=J.out h;omega⟩⟩,D⟩
 ·go_in;go_wp2;go_ret;exact⟨⟨false,rfl,fun h=>by cases h⟩,bR⟩
theorem Sh (l:List BA):∀ u∈strCells l,u.oneCell'=true:=by
 intro u z;simp only[strCells,List.mem_map] at z;obtain⟨x,_,rfl⟩:=z;rfl
theorem tK {α:Type}{f:α->LV}(D:∀ x,∀ u∈f x,u.oneCell'=true)(l:List α):∀ u∈l.flatMap f,u.oneCell'=true:=by
 intro u z;simp only[List.mem_flatMap] at z;obtain⟨x,_,h⟩:=z;exact D x u h
theorem LY (x:fP):∀ u∈x.cells,u.oneCell'=true:=by intro u z;simp only[fP.cells,List.mem_cons,List.not_mem_nil,or_false] at z;rcases z with rfl | rfl | rfl<;>rfl
theorem WZ (x:fW):∀ u∈x.cells,u.oneCell'=true:=by intro u z;simp only[fW.cells,List.mem_cons,List.not_mem_nil,or_false] at z;rcases z with rfl | rfl | rfl | rfl | rfl | rfl | rfl | rfl<;>rfl
theorem Ph (x:gE):∀ u∈x.cells,u.oneCell'=true:=by intro u z;simp only[gE.cells,List.mem_cons,List.not_mem_nil,or_false] at z;rcases z with rfl | rfl<;>rfl
theorem W8 (x:fZ):∀ u∈x.cells,u.oneCell'=true:=by intro u z;simp only[fZ.cells,List.mem_cons,List.not_mem_nil,or_false] at z;rcases z with rfl | rfl | rfl | rfl | rfl | rfl | rfl | rfl | rfl<;>rfl
structure fZ.few (p:fZ):Prop where
 needs:p.needs.length<=100000
 bars:p.bars.length<=100000
 gives:p.gives.length<=100000
 files:p.files.length<=100000
 scripts:p.scripts.length<=100000
def Xa (l:List fZ)(w:World)(e:Ending)(w':World):Prop:=
 ∃ (A:OA)(c g0:Nat)(l':List fZ),e=.returned (.slice A l.length c)/\l'.length=l.length/\(∀ (i:Nat)(p q:fZ),l[i]?=some p->l'[i]?=some q->p.alike q)/\adb w' w.heap.size g0 (.slice A l.length c) l'/\Bw w w'
theorem Pi (A:OA)(c:Nat)(l:List fZ)(w:World)(hd:vl w A l)(hl:l.length<=100000)(hf:∀ p∈l,p.few):Calls prog 25 #[.slice A l.length c] w (Xa l w):=by
 have HD:=fH hd;clear hd;have HF:=fH hf;clear hf;go_in;go_wp2_with fail;refine(GC A l.length c _ _ HD.row (tK W8 l) hl).mono ?_;rintro e w1 ⟨v,rfl,Z,an⟩;obtain⟨A0,c0,rfl⟩:=gg Z;have HO:=fH Z;clear Z;have HB:=fH an;clear an;by_cases hz:l=[]
 ·subst hz;go_wp2_with fail;refine wp_loop_rounds 1 ?_;rw[rounds_succ];go_wp2;go_ret;exact⟨A0,c0,0,[],rfl,rfl,(fun i p q hp hq=>by simp at hp),⟨HO,(fun h=>by simp at h),(fun q hq=>by simp at hq),.nil⟩,HB⟩
 ·have ae:0<l.length:=List.length_pos_iff.2 hz;clear hz;obtain⟨z,cap,hv,hg,aI⟩:=HO.form ae;obtain⟨rfl,rfl⟩:A0=some ⟨z,0,none⟩/\c0=cap:=by injection hv with h1 _ h2;exact⟨h1,h2⟩
  clear hv;go_wp2;go_loopw [10] (fun i wr=>∃ (k:Nat)(D:List fZ),k<=l.length/\i=.int .i64 k/\Hid (D.length=k/\(∀ (i:Nat)(p q:fZ),l[i]?=some p->D[i]?=some q->p.alike q)/\wr.ownsRow w.heap.size 38 9 (.slice (some ⟨z,0,none⟩) l.length c0) l.length ((D++l.drop k).flatMap fZ.cells)/\((∀ q∈D,lS q wr (z+1))/\D.Pairwise Sg)/\Bw w wr)) (fun i _=>l.length-(intOf i).toNat)
  case atStart=>exact⟨0,[],z0,rfl,rfl,(fun i p q _ hq=>by simp at hq),(by simpa using HO.out),⟨(fun q hq=>by simp at hq),.nil⟩,HB⟩
  case round=>
   obtain⟨k,D,hk,rfl,HR⟩:=hrel;by_cases ac:k<l.length
   ·obtain⟨p,hp⟩:∃ p,l[k]?=some p:=⟨_,gG ac⟩
    have aa:p∈l:=gM hp;obtain⟨h1,h2,h3,h4,h5⟩:=HR.out;obtain⟨b,off,hA,he⟩:=(HD.row.below h5).elem lk k p hp;obtain⟨e0,e1,e2,e3,e4,e5,e6,e7,e8⟩:=cF9 he;simp only[Nat.add_zero] at e0;have aE:=fun W=>gi (T:=22) (E:=38) (sz:=9) (c:=c) underlying22 rfl sizeOf38 hA ac W;have F:l.drop k=p::l.drop (k+1):=by rw[List.drop_eq_getElem_cons ac];congr 1;exact(gS hp).2
    have aG:z<wr.heap.size:=(h3.lt z rfl).2;have aH:k*9+9<=l.length*9:=by omega
    rw[F] at h3;have O:=fZ.ok.below ((HD.all p aa).below h5) (bR.alloc lr (.cells #[.string p.nm,.string p.ver,.string p.ar,.string p.sm,.slice p.na p.needs.length p.nc,.slice p.ba p.bars.length p.bc,.slice p.ga p.gives.length p.gc,.slice p.fa p.files.length p.fc,.slice p.sa p.scripts.length p.sc] 38));have few:=HF.out p aa;have H1:=fH h1;have H2:=fH h2;have R0:=fH h3;have H4:=fH h4;have H5:=fH h5;have aJ:=fH F;have HP:=fH hp;have OK:=fH O;have Y:=fH few;have ab:=fH aa;clear h1 h2 h3 h4 h5 F hp hA he O few aa HR;have aF:¬ z=wr.heap.size:=by omega
    have aK:¬ wr.heap.size=z:=by omega
    go_wp2_with fail;refine(If p.na p.needs.length p.nc (strCells p.needs) _ (by exact OK.needs) (Sh _) Y.needs).mono ?_;rintro e w2 ⟨v1,rfl,o1,b1⟩;obtain⟨I,H,rfl⟩:=gg o1;have R1:=fH (ge (R0.alloc _) b1);have G1:=fH (iu (World.grownBy.refl (wr.alloc (.cells #[.string p.nm,.string p.ver,.string p.ar,.string p.sm,.slice p.na p.needs.length p.nc,.slice p.ba p.bars.length p.bc,.slice p.ga p.gives.length p.gc,.slice p.fa p.files.length p.fc,.slice p.sa p.scripts.length p.sc] 38)) (some z)) b1);have O1:=fH o1;have B1:=fH b1;clear o1 b1;have M:∀ j:Nat,w2.cell? ⟨wr.heap.size,j,none⟩=(wr.alloc (.cells #[.string p.nm,.string p.ver,.string p.ar,.string p.sm,.slice p.na p.needs.length p.nc,.slice p.ba p.bars.length p.bc,.slice p.ga p.gives.length p.gc,.slice p.fa p.files.length p.fc,.slice p.sa p.scripts.length p.sc] 38)).cell? ⟨wr.heap.size,j,none⟩:=fun j=>World.cell?_of_block (G1.block wr.heap.size (by simp) (by intro h;injection h with h;omega));have x1:w2.cell? ⟨wr.heap.size,5,none⟩=some _:=(M 5).trans (by simp;rfl);clear M;have y1:w2.cell? ⟨z,k*9+4,none⟩=some (.slice p.na p.needs.length p.nc):=by
     rw[R1.out.cellAt (k*9+4) (by omega)];exact ab3 D (l.drop (k+1)) p k H1.out
    have z1:=R1.frozenAt (k*9+4);have aC:=fH (R1.stored (k*9+4) (.slice I p.needs.length H)).1;have aj:=fH (fX G1 (p:=⟨z,k*9+4,none⟩) (.inl rfl) (.slice I p.needs.length H));have ai:Hid (p.ok (w2.setCell ⟨z,k*9+4,none⟩ (.slice I p.needs.length H))):=J0 (HD.all p ab) H5 ((World.grownBy.refl wr (some z) |> fun h=>ny h _) |> fun h=>fN h aj) (by have:=H5.size;omega);go_wp2_with fail;refine(If p.ba p.bars.length p.bc (strCells p.bars) _ (by exact(ai.bars)) (Sh _) Y.bars).mono ?_;rintro e w3 ⟨v2,rfl,o2,b2⟩;obtain⟨K,J,rfl⟩:=gg o2;have R2:=fH (ge aC b2);have G2:=fH (iu aj b2);have O2:=fH o2;have B2:=fH b2;clear o2 b2;have M:∀ j:Nat,w3.cell? ⟨wr.heap.size,j,none⟩=(wr.alloc (.cells #[.string p.nm,.string p.ver,.string p.ar,.string p.sm,.slice p.na p.needs.length p.nc,.slice p.ba p.bars.length p.bc,.slice p.ga p.gives.length p.gc,.slice p.fa p.files.length p.fc,.slice p.sa p.scripts.length p.sc] 38)).cell? ⟨wr.heap.size,j,none⟩:=fun j=>World.cell?_of_block (G2.block wr.heap.size (by simp) (by intro h;injection h with h;omega));have x2:w3.cell? ⟨wr.heap.size,6,none⟩=some _:=(M 6).trans (by simp;rfl);clear M;have y2:w3.cell? ⟨z,k*9+5,none⟩=some (.slice p.ba p.bars.length p.bc):=by
     rw[R2.out.cellAt (k*9+5) (by omega)];exact ab4 D (l.drop (k+1)) p k H1 (.slice I p.needs.length H)
    have z2:=R2.frozenAt (k*9+5);have ay:=fH (R2.stored (k*9+5) (.slice K p.bars.length J)).1;have af:=fH (fX G2 (p:=⟨z,k*9+5,none⟩) (.inl rfl) (.slice K p.bars.length J));have ak:Hid (p.ok (w3.setCell ⟨z,k*9+5,none⟩ (.slice K p.bars.length J))):=J0 (HD.all p ab) H5 ((World.grownBy.refl wr (some z) |> fun h=>ny h _) |> fun h=>fN h af) (by have:=H5.size;omega);clear x1;go_wp2_with fail;refine(Pe p.ga p.gives.length p.gc (p.gives.flatMap fP.cells) _ (by exact(ak.gives)) (tK LY _) Y.gives).mono ?_;rintro e w4 ⟨v3,rfl,o3,b3⟩;obtain⟨U,R,rfl⟩:=gg o3;have R3:=fH (ge ay b3);have G3:=fH (iu af b3);have O3:=fH o3;have B3:=fH b3;clear o3 b3;have M:∀ j:Nat,w4.cell? ⟨wr.heap.size,j,none⟩=(wr.alloc (.cells #[.string p.nm,.string p.ver,.string p.ar,.string p.sm,.slice p.na p.needs.length p.nc,.slice p.ba p.bars.length p.bc,.slice p.ga p.gives.length p.gc,.slice p.fa p.files.length p.fc,.slice p.sa p.scripts.length p.sc] 38)).cell? ⟨wr.heap.size,j,none⟩:=fun j=>World.cell?_of_block (G3.block wr.heap.size (by simp) (by intro h;injection h with h;omega));have x3:w4.cell? ⟨wr.heap.size,7,none⟩=some _:=(M 7).trans (by simp;rfl);clear M;have y3:w4.cell? ⟨z,k*9+6,none⟩=some (.slice p.ga p.gives.length p.gc):=by
     rw[R3.out.cellAt (k*9+6) (by omega)];exact ab5 D (l.drop (k+1)) p k H1 (.slice I p.needs.length H) (.slice K p.bars.length J)
    have z3:=R3.frozenAt (k*9+6);have aq:=fH (R3.stored (k*9+6) (.slice U p.gives.length R)).1;have am:=fH (fX G3 (p:=⟨z,k*9+6,none⟩) (.inl rfl) (.slice U p.gives.length R));have ah:Hid (p.ok (w4.setCell ⟨z,k*9+6,none⟩ (.slice U p.gives.length R))):=J0 (HD.all p ab) H5 ((World.grownBy.refl wr (some z) |> fun h=>ny h _) |> fun h=>fN h am) (by have:=H5.size;omega);clear x2;go_wp2_with fail;refine(Pf p.fa p.files.length p.fc (p.files.flatMap fW.cells) _ (by exact(ah.files)) (tK WZ _) Y.files).mono ?_;rintro e w5 ⟨v4,rfl,o4,b4⟩;obtain⟨V,X,rfl⟩:=gg o4;have R4:=fH (ge aq b4);have G4:=fH (iu am b4);have O4:=fH o4;have B4:=fH b4;clear o4 b4;have M:∀ j:Nat,w5.cell? ⟨wr.heap.size,j,none⟩=(wr.alloc (.cells #[.string p.nm,.string p.ver,.string p.ar,.string p.sm,.slice p.na p.needs.length p.nc,.slice p.ba p.bars.length p.bc,.slice p.ga p.gives.length p.gc,.slice p.fa p.files.length p.fc,.slice p.sa p.scripts.length p.sc] 38)).cell? ⟨wr.heap.size,j,none⟩:=fun j=>World.cell?_of_block (G4.block wr.heap.size (by simp) (by intro h;injection h with h;omega));have x4:w5.cell? ⟨wr.heap.size,8,none⟩=some _:=(M 8).trans (by simp;rfl);clear M;have y4:w5.cell? ⟨z,k*9+7,none⟩=some (.slice p.fa p.files.length p.fc):=by
     rw[R4.out.cellAt (k*9+7) (by omega)];exact ab6 D (l.drop (k+1)) p k H1 (.slice I p.needs.length H) (.slice K p.bars.length J) (.slice U p.gives.length R)
    have z4:=R4.frozenAt (k*9+7);have ax:=fH (R4.stored (k*9+7) (.slice V p.files.length X)).1;have ad:=fH (fX G4 (p:=⟨z,k*9+7,none⟩) (.inl rfl) (.slice V p.files.length X));have ag:Hid (p.ok (w5.setCell ⟨z,k*9+7,none⟩ (.slice V p.files.length X))):=J0 (HD.all p ab) H5 ((World.grownBy.refl wr (some z) |> fun h=>ny h _) |> fun h=>fN h ad) (by have:=H5.size;omega);clear x3;go_wp2_with fail;refine(JZ p.sa p.scripts.length p.sc (p.scripts.flatMap gE.cells) _ (by exact(ag.scripts)) (tK Ph _) Y.scripts).mono ?_;rintro e w6 ⟨v5,rfl,o5,b5⟩;obtain⟨a5,c5,rfl⟩:=gg o5;have R5:=fH (ge ax b5);have G5:=fH (iu ad b5);have O5:=fH o5;have B5:=fH b5;clear o5 b5;have M:∀ j:Nat,w6.cell? ⟨wr.heap.size,j,none⟩=(wr.alloc (.cells #[.string p.nm,.string p.ver,.string p.ar,.string p.sm,.slice p.na p.needs.length p.nc,.slice p.ba p.bars.length p.bc,.slice p.ga p.gives.length p.gc,.slice p.fa p.files.length p.fc,.slice p.sa p.scripts.length p.sc] 38)).cell? ⟨wr.heap.size,j,none⟩:=fun j=>World.cell?_of_block (G5.block wr.heap.size (by simp) (by intro h;injection h with h;omega));clear M;have y5:w6.cell? ⟨z,k*9+8,none⟩=some (.slice p.sa p.scripts.length p.sc):=by
     rw[R5.out.cellAt (k*9+8) (by omega)];exact ab7 D (l.drop (k+1)) p k H1 (.slice I p.needs.length H) (.slice K p.bars.length J) (.slice U p.gives.length R) (.slice V p.files.length X)
    have z5:=R5.frozenAt (k*9+8);have aD:=fH (R5.stored (k*9+8) (.slice a5 p.scripts.length c5)).1;have aB:=fH (fX G5 (p:=⟨z,k*9+8,none⟩) (.inl rfl) (.slice a5 p.scripts.length c5));clear x4;go_wp2_with fail;have D5:=fX (World.grownBy.refl w6 (some z)) (p:=⟨z,k*9+8,none⟩) (.inl rfl) (.slice a5 p.scripts.length c5);have D4:=fN (iu (fX (World.grownBy.refl w5 (some z)) (p:=⟨z,k*9+7,none⟩) (.inl rfl) (.slice V p.files.length X)) B5) D5;have D3:=fN (iu (fX (World.grownBy.refl w4 (some z)) (p:=⟨z,k*9+6,none⟩) (.inl rfl) (.slice U p.gives.length R)) B4) D4;have D2:=fN (iu (fX (World.grownBy.refl w3 (some z)) (p:=⟨z,k*9+5,none⟩) (.inl rfl) (.slice K p.bars.length J)) B3) D3;have D1:=fN (iu (fX (World.grownBy.refl w2 (some z)) (p:=⟨z,k*9+4,none⟩) (.inl rfl) (.slice I p.needs.length H)) B2) D2;have GE:=fN (ny (World.grownBy.refl wr (some z)) _) aB.out;have av:=G1.size;have ao:=G2.size;have au:=G3.size;have aA:=G4.size;have hq:lS { p with na:=I,nc:=H,ba:=K,bc:=J,ga:=U,gc:=R,fa:=V,fc:=X,sa:=a5,sc:=c5 } _ (z+1):=⟨gZ (gF O1 (by simp;omega)) (Nat.lt_succ_self _) D1,gZ (gF O2 (by simp at *;omega)) (Nat.lt_succ_self _) D2,gZ (gF O3 (by simp at *;omega)) (Nat.lt_succ_self _) D3,gZ (gF O4 (by simp at *;omega)) (Nat.lt_succ_self _) D4,gZ (gF O5 (by simp at *;omega)) (Nat.lt_succ_self _) D5⟩
    have F1:(D++[({ p with na:=I,nc:=H,ba:=K,bc:=J,ga:=U,gc:=R,fa:=V,fc:=X,sa:=a5,sc:=c5 }:fZ)]).length=k+1:=by rw[List.length_append,H1.out];rfl
    have F2:=Pg (q:={ p with na:=I,nc:=H,ba:=K,bc:=J,ga:=U,gc:=R,fa:=V,fc:=X,sa:=a5,sc:=c5 }) H1 H2 HP ⟨rfl,rfl,rfl,rfl,rfl,rfl,rfl,rfl,rfl⟩;have F3:=aD.out;rw[WY D (l.drop (k+1)) p k H1.out I K U V a5 H J R X c5] at F3;have F4:=kP H5 GE hg;have F5:∀ q∈D++[({ p with na:=I,nc:=H,ba:=K,bc:=J,ga:=U,gc:=R,fa:=V,fc:=X,sa:=a5,sc:=c5 }:fZ)],lS q _ (z+1):=fun q ap=>(List.mem_append.1 ap).elim (fun h=>(H4.1 q h).kept (Nat.lt_succ_self _) GE) (fun h=>by rw[List.mem_singleton.1 h];exact hq);have F6:(D++[({ p with na:=I,nc:=H,ba:=K,bc:=J,ga:=U,gc:=R,fa:=V,fc:=X,sa:=a5,sc:=c5 }:fZ)]).Pairwise Sg:=by
     refine List.pairwise_append.2 ⟨H4.2,List.pairwise_singleton ..,fun x hx y hy=>?_⟩;rw[List.mem_singleton.1 hy];have al:=H4.1 x hx;exact⟨fun g g' h h'=>by have:=(al.gives.lt g h).2;have:=(O3.lt g' h').1;simp at *;omega,fun g g' h h'=>by have:=(al.files.lt g h).2;have:=(O4.lt g' h').1;simp at *;omega⟩
    have K6:=fH F6;clear F6;have K1:=fH F1;have K2:=fH F2;have K3:=fH F3;have K4:=fH F4;have K5:=fH F5;clear F1 F2 F3 F4 F5 hq D1 D2 D3 D4 D5 GE av ao au aA;go_roundw
    case rel=>exact⟨k+1,_,by omega,by go_num,K1,K2,K3,⟨K5,K6⟩,K4⟩
    case measure=>simp[intOf];omega
   ·go_wp2;go_ret;obtain⟨h1,h2,h3,h4,h5⟩:=HR.out;have az:k=l.length:=by omega
    exact⟨_,_,z,D,rfl,by omega,h2,⟨by rw[List.drop_of_length_le (by omega),List.append_nil] at h3;rw[h1,az];exact h3,fun _=>rfl,h4.1,h4.2⟩,h5⟩
def mY (a b:BA)(c:Int):Value:=.agg #[.string a,.string b,.int .i64 c]
theorem ie (z nm:BA)(c:Int)(a:Addr)(w:World)(I:w.cell? a=some (.string nm))(F:a.spot=none)(D:a.block<w.heap.size):Calls prog 64 #[.string z,.int .i64 c,.pointer (some a)] w fun e w'=>e=.returned (mY nm z c)/\Bw w w':=by
 obtain⟨b,o,H⟩:=a;subst F;simp only at D;go_in;go_wp2;refine bodyPost_ret (v:=mY nm z c) (by simp[results,results64,go_sem,mY]) rfl ⟨rfl,?_⟩;exact bR.alloc lr _
def ry (n:Int)(x:BA):Bool:=decide (aw n 0=x\/aw n 1=x\/aw n 2=x)
theorem GD (b:Nat)(n:Int)(x:BA)(w:World)(J:w.cell? ⟨b,0,none⟩=some (.string (aw n 0)))(I:w.cell? ⟨b,1,none⟩=some (.string (aw n 1)))(H:w.cell? ⟨b,2,none⟩=some (.string (aw n 2))):Calls prog 67 #[.slice (some ⟨b,0,none⟩) 3 3,.string x] w fun e w'=>e=.returned (.bool (ry n x))/\w'=w:=
 (Tryz.slices_Contains_string b 0 3 3 [aw n 0,aw n 1,aw n 2] x w (by simp) (by omega) (fun j F=>by
  simp at F;rcases(by omega:j=0\/j=1\/j=2) with rfl | rfl | rfl<;>simpa)).mono fun _ _ ⟨D,z⟩=>⟨by
   rw[D];congr 2;rw[bI,Lib.containsS_iff];simp only[ry,decide_eq_true_iff,List.take,List.mem_cons,List.not_mem_nil,or_false];exact⟨fun h=>by rcases h with h | h | h<;>simp[h],fun h=>by rcases h with h | h | h<;>simp[h]⟩,z⟩
def qX (nm:BA)(fo no:Bool)(ev:Int)(ao so ndo bo go:Bool)(fw:BA)(fe se:Int):Value:=
 if fo=false then mY nm ⟨#[102,111,114,109,97,116]⟩ 9 else if no=false then mY nm ⟨#[110,97,109,101]⟩ 10 else if ev≠0 then mY nm ⟨#[118,101,114,115,105,111,110]⟩ ev
 else if ao=false then mY nm ⟨#[97,114,99,104]⟩ 1 else if so=false then mY nm ⟨#[115,117,109,109,97,114,121]⟩ 3 else if ndo=false then mY nm ⟨#[110,101,101,100,115]⟩ 3
 else if bo=false then mY nm ⟨#[98,97,114,115]⟩ 3 else if go=false then mY nm ⟨#[103,105,118,101,115]⟩ 3 else if fe≠0 then mY nm fw fe
 else if se≠0 then mY nm ⟨#[115,99,114,105,112,116,115]⟩ se else mY ⟨#[]⟩ ⟨#[]⟩ 0
structure xe (w w1:World) (nm ver ar sm:BA) (nd br gv fs sp:Value):Prop where
 bel:Bw w w1
 sz:w.heap.size+1<w1.heap.size
 c0:w1.cell? ⟨w.heap.size,0,none⟩=some (.string nm)
 c1:w1.cell? ⟨w.heap.size,1,none⟩=some (.string ver)
 c2:w1.cell? ⟨w.heap.size,2,none⟩=some (.string ar)
 c3:w1.cell? ⟨w.heap.size,3,none⟩=some (.string sm)
 c4:w1.cell? ⟨w.heap.size,4,none⟩=some nd
 c5:w1.cell? ⟨w.heap.size,5,none⟩=some br
 c6:w1.cell? ⟨w.heap.size,6,none⟩=some gv
 c7:w1.cell? ⟨w.heap.size,7,none⟩=some fs
 c8:w1.cell? ⟨w.heap.size,8,none⟩=some sp
 r0:w1.cell? ⟨w.heap.size+1,0,none⟩=some (.string ⟨#[]⟩)
 r1:w1.cell? ⟨w.heap.size+1,1,none⟩=some (.string ⟨#[]⟩)
 r2:w1.cell? ⟨w.heap.size+1,2,none⟩=some (.int .i64 0)
 f0:w1.frozen? ⟨w.heap.size+1,0,none⟩=false
 f1:w1.frozen? ⟨w.heap.size+1,1,none⟩=false
 f2:w1.frozen? ⟨w.heap.size+1,2,none⟩=false
theorem xe.step (h:xe w w1 nm ver ar sm nd br gv fs sp)(D:Bw w1 w2):xe w w2 nm ver ar sm nd br gv fs sp:=by
 have I:=h.sz;have z:∀ o,w2.cell? ⟨w.heap.size,o,none⟩=w1.cell? ⟨w.heap.size,o,none⟩:=fun o=>D.cell (p:=⟨w.heap.size,o,none⟩) (by show w.heap.size<_;omega);have F:∀ o,w2.cell? ⟨w.heap.size+1,o,none⟩=w1.cell? ⟨w.heap.size+1,o,none⟩:=fun o=>D.cell (p:=⟨w.heap.size+1,o,none⟩) I;have H:∀ o,w2.frozen? ⟨w.heap.size+1,o,none⟩=w1.frozen? ⟨w.heap.size+1,o,none⟩:=fun o=>D.frozen (p:=⟨w.heap.size+1,o,none⟩) I
 exact⟨fM h.bel D,Nat.lt_of_lt_of_le I D.size,(z _).trans h.c0,(z _).trans h.c1,(z _).trans h.c2,(z _).trans h.c3,(z _).trans h.c4,(z _).trans h.c5,(z _).trans h.c6,(z _).trans h.c7,(z _).trans h.c8,
  (F _).trans h.r0,(F _).trans h.r1,(F _).trans h.r2,(H _).trans h.f0,(H _).trans h.f1,(H _).trans h.f2⟩
theorem xe.start (w:World)(nm ver M sm:BA)(H J R O K:Value)
  (D:Below ((w.alloc (.cells #[.string nm,.string ver,.string M,.string sm,H,J,R,O,K] 38)).alloc (.cells #[.string ⟨#[]⟩,.string ⟨#[]⟩,.int .i64 0] 49)).heap.size ((w.alloc (.cells #[.string nm,.string ver,.string M,.string sm,H,J,R,O,K] 38)).alloc (.cells #[.string ⟨#[]⟩,.string ⟨#[]⟩,.int .i64 0] 49)) w1):xe w w1 nm ver M sm H J R O K:=by
 have U:=D.size;simp at U;have z:∀ o,w1.cell? ⟨w.heap.size,o,none⟩=_:=fun o=>D.cell (p:=⟨w.heap.size,o,none⟩) (by simp;omega);have F:∀ o,w1.cell? ⟨w.heap.size+1,o,none⟩=_:=fun o=>D.cell (p:=⟨w.heap.size+1,o,none⟩) (by simp);have I:∀ o,w1.frozen? ⟨w.heap.size+1,o,none⟩=_:=fun o=>D.frozen (p:=⟨w.heap.size+1,o,none⟩) (by simp)
 exact⟨((bR.alloc lr _).alloc (by simp) _).trans (D.mono (by simp;omega)),by omega,(z _).trans (by simp),(z _).trans (by simp),(z _).trans (by simp),(z _).trans (by simp),(z _).trans (by simp),(z _).trans (by simp),(z _).trans (by simp),(z _).trans (by simp),(z _).trans (by simp),
  (F _).trans (by simp),(F _).trans (by simp),(F _).trans (by simp),(I _).trans (by simp),(I _).trans (by simp),(I _).trans (by simp)⟩
theorem kJ (z:Array Value)(h:xe w w2 nm ver ar sm nd br gv fs sp)(ht:z[4]?=some (.pointer (some ⟨w.heap.size+1,0,none⟩)))(a b:BA)(c:Int):
  (results Tryz.f34 z).run prog (((w2.setCell ⟨w.heap.size+1,0,none⟩ (.string a)).setCell ⟨w.heap.size+1,1,none⟩ (.string b)).setCell ⟨w.heap.size+1,2,none⟩ (.int .i64 c)) =
   .ok (mY a b c) (((w2.setCell ⟨w.heap.size+1,0,none⟩ (.string a)).setCell ⟨w.heap.size+1,1,none⟩ (.string b)).setCell ⟨w.heap.size+1,2,none⟩ (.int .i64 c)):=by
 obtain⟨F,sz,Y,Z,J,O,c4,V,X,U,R,I,H,D,f0,M,K⟩:=h;simp[results,results34,ht,go_sem,mY,I,H,D]
theorem lT (h:xe w w2 nm ver ar sm nd br gv fs sp)(a b c:Value):
  Bw w (((w2.setCell ⟨w.heap.size+1,0,none⟩ a).setCell ⟨w.heap.size+1,1,none⟩ b).setCell ⟨w.heap.size+1,2,none⟩ c):=
 ((h.bel.setCell (p:=⟨w.heap.size+1,0,none⟩) (by simp) a).setCell (p:=⟨w.heap.size+1,1,none⟩) (by simp) b).setCell (p:=⟨w.heap.size+1,2,none⟩) (by simp) c
theorem tO (s:BA)(w:World)(z:s.size<=9223372036854775807):Calls prog 68 #[.string s] w fun e w'=>e=.returned (.bool (C7 (bl s)))/\Bw w w':=
 (vZ s w z).mono fun _ _ ⟨F,D⟩=>⟨F,by rw[<-D];exact bR⟩
theorem rH (n:Int)(w:World):Calls prog 33 #[.int .i64 n] w fun e w'=>e=.returned (.bool (nO n))/\Bw w w':=
 (mx n w).mono fun _ _ ⟨D,z⟩=>⟨D,by rw[<-z];exact bR⟩
theorem we (n:Int)(nm ver ar sm:BA)(na ba ga fa sa:OA)(nl nc ai bc gl gc fl fc sl sc:Nat)(w:World)
  (ev fe se:Int)(ah bo go:Bool)(fw:BA)(az:nm.size<=9223372036854775807)(ax:sm.size<=9223372036854775807)
  (hV:Hid (∀ w1,Bw w w1->Calls prog 65 #[.int .i64 n,.string ver] w1 fun e w2=>e=.returned (.int .i64 ev)/\Bw w1 w2))
  (hN:Hid (∀ w1,Bw w w1->Calls prog 69 #[.int .i64 n,.slice na nl nc,.bool false] w1 fun e w2=>e=.returned (.bool ah)/\Bw w1 w2))
  (hB:Hid (∀ w1,Bw w w1->Calls prog 69 #[.int .i64 n,.slice ba ai bc,.bool true] w1 fun e w2=>e=.returned (.bool bo)/\Bw w1 w2))
  (ay:Hid (∀ w1,Bw w w1->Calls prog 70 #[.int .i64 n,.slice ga gl gc] w1 fun e w2=>e=.returned (.bool go)/\Bw w1 w2))
  (hF:Hid (∀ w1,Bw w w1->Calls prog 71 #[.int .i64 n,.slice fa fl fc] w1 fun e w2=>e=.returned (.tuple #[.string fw,.int .i64 fe])/\Bw w1 w2))
  (hS:Hid (∀ w1,Bw w w1->Calls prog 72 #[.int .i64 n,.slice sa sl sc] w1 fun e w2=>e=.returned (.int .i64 se)/\Bw w1 w2)):Calls prog 34 #[.int .i64 n,.agg #[.string nm,.string ver,.string ar,.string sm,.slice na nl nc,.slice ba ai bc,.slice ga gl gc,.slice fa fl fc,.slice sa sl sc]] w
   fun e w'=>e=.returned (qX nm (nO n) (hH (bl nm)) ev (ry n ar) (C7 (bl sm)) ah bo go fw fe se)/\Bw w w':=by
 go_in;go_wp2_with fail;refine mb (rH _ _) ?_;rintro w1 av;have B1:=xe.start w nm ver ar sm (.slice na nl nc) (.slice ba ai bc) (.slice ga gl gc) (.slice fa fl fc) (.slice sa sl sc) av;clear av;obtain⟨-,sz,O,I,F,J,M,U,K,R,H,-,-,-,-,-,-⟩:=fH B1;have X:=fH B1;clear B1;cases h0:nO n
 ·have Y:=fH h0;clear h0;go_wp2_with fail;refine mb (ie _ nm _ _ _ X.c0 rfl (by have:=X.sz;show w.heap.size<_;omega)) ?_;rintro wx z;have D:=X.step z;clear O I F J M U K R H sz;obtain⟨-,sz,O,I,F,J,M,U,K,R,H,r0,r1,r2,f0,f1,f2⟩:=fH D;have V:=fH D;clear D z;unfold mY;go_wp2_with fail;refine bodyPost_ret (kJ _ V rfl _ _ _) rfl ⟨?_,lT V _ _ _⟩;congr 1;simp[qX,Y.out]
 have Y:=fH h0;clear h0;go_wp2_with fail;refine mb (nC nm _ az) ?_;rintro aA rfl;cases h1:hH (bl nm)
 ·have K1:=fH h1;clear h1;go_wp2_with fail;refine mb (ie _ nm _ _ _ X.c0 rfl (by have:=X.sz;show w.heap.size<_;omega)) ?_;rintro wx z;have D:=X.step z;clear O I F J M U K R H sz;obtain⟨-,sz,O,I,F,J,M,U,K,R,H,r0,r1,r2,f0,f1,f2⟩:=fH D;have V:=fH D;clear D z;unfold mY;go_wp2_with fail;refine bodyPost_ret (kJ _ V rfl _ _ _) rfl ⟨?_,lT V _ _ _⟩;congr 1;simp[qX,Y.out,K1.out]
 have K1:=fH h1;clear h1;go_wp2_with fail;refine mb (hV _ X.bel) ?_;rintro w2 am;have B2:=X.step am;clear am;clear O I F J M U K R H sz;obtain⟨-,sz,O,I,F,J,M,U,K,R,H,-,-,-,-,-,-⟩:=fH B2;have af:=fH B2;clear B2;by_cases h2:¬ ev=0
 ·have aC:(ev != 0)=true:=by simpa using h2
  have K2:=fH h2;clear h2;go_wp2_with fail;refine mb (ie _ nm _ _ _ af.c0 rfl (by have:=af.sz;show w.heap.size<_;omega)) ?_;rintro wx z;have D:=af.step z;clear O I F J M U K R H sz;obtain⟨-,sz,O,I,F,J,M,U,K,R,H,r0,r1,r2,f0,f1,f2⟩:=fH D;have V:=fH D;clear D z;unfold mY;go_wp2_with fail;refine bodyPost_ret (kJ _ V rfl _ _ _) rfl ⟨?_,lT V _ _ _⟩;congr 1;simp[qX,Y.out,K1.out,K2.out]
 obtain rfl:ev=0:=Decidable.not_not.1 h2;clear h2;go_wp2_with fail;refine mb (pd _ _) ?_;rintro w3 an;have B3:=af.step an;clear an;clear O I F J M U K R H sz;obtain⟨-,sz,O,I,F,J,M,U,K,R,H,-,-,-,-,-,-⟩:=fH B3;have ag:=fH B3;clear B3;have al:w.heap.size<w3.heap.size:=by omega
 go_wp2;go_quiet ((go_at_call 67;exact Calls.quiet_of_same (GD _ n _ _ (by simp) (by simp) (by simp))));cases h3:ry n ar
 ·have K3:=fH h3;clear h3;go_wp2_with fail;refine(ie _ nm _ _ _ (by exact(ag.step (gh (bR.alloc lr _) _)).c0) rfl (by exact Nat.lt_trans (Nat.lt_succ_self _) (ag.step (gh (bR.alloc lr _) _)).sz)).mono ?_;rintro e wx ⟨rfl,z⟩;have D:=(ag.step (gh (bR.alloc lr _) _)).step z;clear O I F J M U K R H sz al;obtain⟨-,sz,O,I,F,J,M,U,K,R,H,r0,r1,r2,f0,f1,f2⟩:=fH D;have V:=fH D;clear D z;unfold mY;go_wp2_with fail;refine bodyPost_ret (kJ _ V rfl _ _ _) rfl ⟨?_,lT V _ _ _⟩;congr 1;simp[qX,Y.out,K1.out,K3.out]
 have K3:=fH h3;clear h3;go_wp2_with fail;refine mb (tO sm _ ax) ?_;rintro w4 au;have B4:=(ag.step (gh (bR.alloc lr _) _)).step au;clear au;clear O I F J M U K R H sz al;obtain⟨-,sz,O,I,F,J,M,U,K,R,H,-,-,-,-,-,-⟩:=fH B4;have ac:=fH B4;clear B4;cases h4:C7 (bl sm)
 ·have K4:=fH h4;clear h4;go_wp2_with fail;refine mb (ie _ nm _ _ _ ac.c0 rfl (by have:=ac.sz;show w.heap.size<_;omega)) ?_;rintro wx z;have D:=ac.step z;clear O I F J M U K R H sz;obtain⟨-,sz,O,I,F,J,M,U,K,R,H,r0,r1,r2,f0,f1,f2⟩:=fH D;have V:=fH D;clear D z;unfold mY;go_wp2_with fail;refine bodyPost_ret (kJ _ V rfl _ _ _) rfl ⟨?_,lT V _ _ _⟩;congr 1;simp[qX,Y.out,K1.out,K3.out,K4.out]
 have K4:=fH h4;clear h4;go_wp2_with fail;refine mb (hN _ ac.bel) ?_;rintro w5 ap;have B5:=ac.step ap;clear ap;clear O I F J M U K R H sz;obtain⟨-,sz,O,I,F,J,M,U,K,R,H,-,-,-,-,-,-⟩:=fH B5;have ad:=fH B5;clear B5;cases ah
 ·skip
  go_wp2_with fail;refine mb (ie _ nm _ _ _ ad.c0 rfl (by have:=ad.sz;show w.heap.size<_;omega)) ?_;rintro wx z;have D:=ad.step z;clear O I F J M U K R H sz;obtain⟨-,sz,O,I,F,J,M,U,K,R,H,r0,r1,r2,f0,f1,f2⟩:=fH D;have V:=fH D;clear D z;unfold mY;go_wp2_with fail;refine bodyPost_ret (kJ _ V rfl _ _ _) rfl ⟨?_,lT V _ _ _⟩;congr 1;simp[qX,Y.out,K1.out,K3.out,K4.out]
 go_wp2_with fail;refine mb (hB _ ad.bel) ?_;rintro w6 ao;have B6:=ad.step ao;clear ao;clear O I F J M U K R H sz;obtain⟨-,sz,O,I,F,J,M,U,K,R,H,-,-,-,-,-,-⟩:=fH B6;have Z:=fH B6;clear B6;cases bo
 ·skip
  go_wp2_with fail;refine mb (ie _ nm _ _ _ Z.c0 rfl (by have:=Z.sz;show w.heap.size<_;omega)) ?_;rintro wx z;have D:=Z.step z;clear O I F J M U K R H sz;obtain⟨-,sz,O,I,F,J,M,U,K,R,H,r0,r1,r2,f0,f1,f2⟩:=fH D;have V:=fH D;clear D z;unfold mY;go_wp2_with fail;refine bodyPost_ret (kJ _ V rfl _ _ _) rfl ⟨?_,lT V _ _ _⟩;congr 1;simp[qX,Y.out,K1.out,K3.out,K4.out]
 go_wp2_with fail;refine mb (ay _ Z.bel) ?_;rintro w7 aq;have B7:=Z.step aq;clear aq;clear O I F J M U K R H sz;obtain⟨-,sz,O,I,F,J,M,U,K,R,H,-,-,-,-,-,-⟩:=fH B7;have ab:=fH B7;clear B7;cases go
 ·skip
  go_wp2_with fail;refine mb (ie _ nm _ _ _ ab.c0 rfl (by have:=ab.sz;show w.heap.size<_;omega)) ?_;rintro wx z;have D:=ab.step z;clear O I F J M U K R H sz;obtain⟨-,sz,O,I,F,J,M,U,K,R,H,r0,r1,r2,f0,f1,f2⟩:=fH D;have V:=fH D;clear D z;unfold mY;go_wp2_with fail;refine bodyPost_ret (kJ _ V rfl _ _ _) rfl ⟨?_,lT V _ _ _⟩;congr 1;simp[qX,Y.out,K1.out,K3.out,K4.out]
 go_wp2_with fail;refine mb (hF _ ab.bel) ?_;rintro w8 aj;have B8:=ab.step aj;clear aj;clear O I F J M U K R H sz;obtain⟨-,sz,O,I,F,J,M,U,K,R,H,-,-,-,-,-,-⟩:=fH B8;have aa:=fH B8;clear B8;by_cases h5:¬ fe=0
 ·have aB:(fe != 0)=true:=by simpa using h5
  have K5:=fH h5;clear h5;go_wp2_with fail;refine mb (ie _ nm _ _ _ aa.c0 rfl (by have:=aa.sz;show w.heap.size<_;omega)) ?_;rintro wx z;have D:=aa.step z;clear O I F J M U K R H sz;obtain⟨-,sz,O,I,F,J,M,U,K,R,H,r0,r1,r2,f0,f1,f2⟩:=fH D;have V:=fH D;clear D z;unfold mY;go_wp2_with fail;refine bodyPost_ret (kJ _ V rfl _ _ _) rfl ⟨?_,lT V _ _ _⟩;congr 1;simp[qX,Y.out,K1.out,K3.out,K4.out,K5.out]
 obtain rfl:fe=0:=Decidable.not_not.1 h5;clear h5;go_wp2_with fail;refine mb (hS _ aa.bel) ?_;rintro w9 ak;have B9:=aa.step ak;clear ak;clear O I F J M U K R H sz;obtain⟨-,sz,O,I,F,J,M,U,K,R,H,-,-,-,-,-,-⟩:=fH B9;have ae:=fH B9;clear B9;by_cases h6:¬ se=0
 ·have aD:(se != 0)=true:=by simpa using h6
  have K6:=fH h6;clear h6;go_wp2_with fail;refine mb (ie _ nm _ _ _ ae.c0 rfl (by have:=ae.sz;show w.heap.size<_;omega)) ?_;rintro wx z;have D:=ae.step z;clear O I F J M U K R H sz;obtain⟨-,sz,O,I,F,J,M,U,K,R,H,r0,r1,r2,f0,f1,f2⟩:=fH D;have V:=fH D;clear D z;unfold mY;go_wp2_with fail;refine bodyPost_ret (kJ _ V rfl _ _ _) rfl ⟨?_,lT V _ _ _⟩;congr 1;simp[qX,Y.out,K1.out,K3.out,K4.out,K6.out]
 obtain rfl:se=0:=Decidable.not_not.1 h6;clear h6 O I F J M U K R H sz;have V:=ae;obtain⟨-,sz,O,I,F,J,M,U,K,R,H,r0,r1,r2,f0,f1,f2⟩:=fH V.out;go_wp2_with fail;refine bodyPost_ret (kJ _ V rfl _ _ _) rfl ⟨?_,lT V _ _ _⟩;congr 1;simp[qX,Y.out,K1.out,K3.out,K4.out]
end
section
open Go.RowKit
open Classical
def lw (l:List fW):List BA:=l.map (·.path)
end
section
open Go.RowKit Go.Maps
theorem mE.alloc (h:mE w b n f)(o:Obj):mE (w.alloc o) b n f:=h.kept (World.grownBy_alloc w o none) (by simp)
theorem P7 {base:Nat}{e t:TypeId}{size:Nat}{xs:LV}{cs:Array Value}{fr:Nat×Nat}(h:W.ownsRow base e size v n xs)(I:W.heap[b]?=some (.cells cs t fr))(F:t≠e):some b≠v.ownBlock:=by
 intro D;rcases h.2 with⟨rfl,_⟩ | ⟨g,cap,H,rfl,_,z,_⟩
 ·simp[Value.ownBlock] at D
 ·simp[Value.ownBlock] at D;subst D;rw[I] at z;injection z with z;injection z with _ h2 _;exact F h2
end
section
open Go.RowKit
theorem lN {b1 b2:Nat}{e1 e2:TypeId}{s1 s2 n1 n2:Nat}{v1 v2:Value}{x1 x2:LV}(H:W.ownsRow b1 e1 s1 v1 n1 x1)(F:W.ownsRow b2 e2 s2 v2 n2 x2)(z:e1≠e2):v1.ownBlock=none\/v1.ownBlock≠v2.ownBlock:=by
 rcases H.2 with⟨rfl,_⟩ | ⟨g,cap,D,rfl,_,I,_⟩
 ·exact .inl rfl
 ·exact .inr (P7 F I z)
end
section
open Go.RowKit Go.Maps
def nA (prev:Option fW)(f:fW):Bool:=match prev with
 | none=>true
 | some g=>decide (bl g.path<bl f.path)
def oM (pre:List fW)(f:fW):Bool:=Uc f.path&&pre.any (fun g=>decide (g.path=yT f.path)&&decide (g.kind≠2))
def pT (fmt:Int)(pre:List fW)(f:fW):Int:=
 if (qr (bl f.path)&&qn (bl f.path))=false then 10 else if nA pre.getLast? f=false then 15 else if ¬ (f.kind=1\/f.kind=2\/f.kind=3) then 9
 else if jf fmt f=false then 1 else if oM pre f=true then 9 else 0
def jC (fmt:Int):List fW->List fW->Option (BA×Int)
 | _,[]=>none
 | pre,f::r=>if pT fmt pre f=0 then jC fmt (pre++[f]) r else some (f.path,pT fmt pre f)
theorem Nb {fs:List fW}{f:fW}(h:fs[k]?=some f)(H:jC fmt [] fs=jC fmt (fs.take k) (fs.drop k))(F:pT fmt (fs.take k) f=0):jC fmt [] fs=jC fmt (fs.take (k+1)) (fs.drop (k+1)):=by
 obtain⟨z,D⟩:=gS h;rw[H,List.drop_eq_getElem_cons z,D,jC,if_pos F,tS z,D]
theorem oN {fs:List fW}{f:fW}(h:fs[k]?=some f)(F:jC fmt [] fs=jC fmt (fs.take k) (fs.drop k))(z:pT fmt (fs.take k) f≠0):jC fmt [] fs=some (f.path,pT fmt (fs.take k) f):=by
 obtain⟨D,H⟩:=gS h;rw[F,List.drop_eq_getElem_cons D,H,jC,if_neg z]
theorem Qu {fs:List fW}(z:fs.length<=k)(D:jC fmt [] fs=jC fmt (fs.take k) (fs.drop k)):jC fmt [] fs=none:=by
 rw[D,List.drop_of_length_le z];rfl
def iV (fmt:Int)(fs:List fW):BA×Int:=if 512<fs.length then (⟨#[102,105,108,101,115]⟩,4) else (jC fmt [] fs).getD (⟨#[]⟩,0)
def wy (fmt:Int)(fs:List fW):Value:=.tuple #[.string (iV fmt fs).1,.int .i64 (iV fmt fs).2]
structure xP (pre:List fW) (g:BA->Option Value):Prop where
 sorted:(lw pre).Pairwise (fun s t=>bl s<bl t)
 kind:∀ x∈pre,g x.path=some (.int .i64 x.kind)
 mem:∀ s,g s≠none->s∈lw pre
theorem xP.nil:xP [] (fun _=>none):=⟨by simp[lw],by simp,by simp⟩
theorem xP.less {pre:List fW}(h:xP pre g){f:fW}(F:nA pre.getLast? f=true):∀ x∈pre,bl x.path<bl f.path:=by
 intro x z;cases hl:pre.getLast? with
 | none=>rw[List.getLast?_eq_none_iff] at hl;subst hl;simp at z
 | some y=>
  rw[hl] at F;have D:bl y.path<bl f.path:=dO F;obtain⟨H,rfl⟩:=List.getLast?_eq_some_iff.1 hl;rcases List.mem_append.1 z with z | z
  ·have I:=h.sorted;rw[show lw (H++[y])=lw H++[y.path] by simp[lw],List.pairwise_append] at I;exact abM (I.2.2 x.path (List.mem_map.2 ⟨x,z,rfl⟩) y.path (by simp)) D
  ·rw[List.mem_singleton.1 z];exact D
theorem xP.put {pre:List fW}(h:xP pre g){f:fW}(I:nA pre.getLast? f=true):xP (pre++[f]) (fun x=>if x=f.path then some (.int .i64 f.kind) else g x):=by
 have F:=h.less I;refine⟨?_,fun x z=>?_,fun s H=>?_⟩
 ·rw[show lw (pre++[f])=lw pre++[f.path] by simp[lw],List.pairwise_append];refine⟨h.sorted,by simp,fun a J b K=>?_⟩;obtain⟨x,z,rfl⟩:=List.mem_map.1 J;rw[List.mem_singleton.1 K];exact F x z
 ·rcases List.mem_append.1 z with z | z
  ·have D:x.path≠f.path:=fun e=>by have:=F x z;rw[e] at this;exact Kn _ this
   simp only[if_neg D];exact h.kind x z
  ·rw[List.mem_singleton.1 z];simp
 ·by_cases e:s=f.path
  ·subst e;simp[lw]
  ·simp only[if_neg e] at H;have:=h.mem s H;simp only[lw,List.map_append,List.mem_append] at this |-;exact .inl this
theorem xP.par {pre:List fW}(h:xP pre g)(f:fW)(O:Uc f.path=true):
  (g (yT f.path)=none/\oM pre f=false)\/∃ k:Int,g (yT f.path)=some (.int .i64 k)/\oM pre f=decide (k≠2):=by
 unfold oM;rw[O];cases hg:g (yT f.path) with
 | none=>
  refine .inl ⟨rfl,?_⟩;rw[Bool.true_and,List.any_eq_false];intro x I H;rw[Bool.and_eq_true] at H;have z:=dO H.1;have:=h.kind x I;rw[z,hg] at this;cases this
 | some v=>
  obtain⟨x,I,z⟩:=List.mem_map.1 (h.mem (yT f.path) (by rw[hg];simp));have D:=h.kind x I;have z:x.path=yT f.path:=z;rw[z,hg] at D;injection D with D;subst D;refine .inr ⟨x.kind,rfl,?_⟩;rw[Bool.true_and,bI,List.any_eq_true,decide_eq_true_iff];constructor
  ·rintro⟨y,hy,H⟩;rw[Bool.and_eq_true] at H;have K:=dO H.1;have J:=dO H.2;have M:=h.kind y hy;have F:=h.kind x I;rw[K] at M;rw[z,M] at F;injection F with F;injection F with _ F;rw[<-F];exact J
  ·intro D;exact⟨x,I,by rw[dT z,dT D];rfl⟩
theorem aaq (s:BA):(yT s).size<=s.size:=by
 have h:(bl (yT s)).length<=(bl s).length:=by
  unfold yT;rw[nj];unfold nQ;split
  ·cases ll 47 (bl s) with
   | none=>simp
   | some i=>simp only[Option.map_some,Option.getD_some];rw[List.length_take];omega
  ·simp
 rw[fI,fI] at h;exact h
theorem aar (w:World):(zeroValue 3).run prog w=.ok (.int .i64 0) w:=by kernel_rfl
theorem xQ (f:fW)(pre:List fW)(g:BA->Option Value)(D B n:Nat)(w:World)(hG:Gl w)(hc:w.cell? ⟨D,0,none⟩=some (.map (some B)))(J:D<w.heap.size)(U:mE w B n g)(Z:xP pre g)(hs:f.path.size<=4294967280):Calls prog 113 #[.string f.path,.pointer (some ⟨D,0,none⟩)] w fun e w'=>e=.returned (.bool (!oM pre f))/\Bw w w':=by
 have Y:=fH hG;have X:=fH U;have HK:=fH Z;have HC:=fH hc;go_in;go_wp2_with fail;refine mb (J8 f.path _ Y hs) ?_;rintro R M;have I:=fH M;have aa:R.cell? ⟨D,0,none⟩=some (.map (some B)):=(M.cell (p:=⟨D,0,none⟩) J).trans HC.out;have V:=aaq f.path;have z:=(X.below M).look_ok underlying99 aar (yT f.path) (by unfold maxLen;omega);unfold Ud;cases hp:Uc f.path
 ·have E:Hid (oM pre f=false):=by show _=_;unfold oM;rw[hp];rfl
  go_wp2;go_ret;exact⟨fJ (by rw[E.out];rfl),I⟩
 ·rcases HK.par f hp with⟨O,F⟩ | ⟨k,O,F⟩
  ·rw[O] at z;simp only[Option.getD_none,Option.isSome_none] at z;have E:=fH F;go_wp2;go_ret;exact⟨fJ (by rw[E.out];rfl),I⟩
  ·rw[O] at z;simp only[Option.getD_some,Option.isSome_some] at z;by_cases H:k=2
   ·have K:(k==2)=true:=by simpa using H
    have E:Hid (oM pre f=false):=by show _=_;rw[F];simp[H]
    go_wp2;go_ret;exact⟨fJ (by rw[E.out];rfl),I⟩
   ·have K:(k==2)=false:=by simpa using H
    have E:Hid (oM pre f=true):=by show _=_;rw[F];simp[H]
    go_wp2;go_ret;exact⟨fJ (by rw[E.out];rfl),I⟩
theorem oO {fs:List fW}{p:BA}{e:Int}(z:¬ 512<fs.length)(h:jC fmt [] fs=some (p,e)):wy fmt fs=.tuple #[.string p,.int .i64 e]:=by
 unfold wy iV;rw[if_neg z,h];rfl
theorem Vc {fs:List fW}(z:¬ 512<fs.length)(h:jC fmt [] fs=none):wy fmt fs=.tuple #[.string ⟨#[]⟩,.int .i64 0]:=by
 unfold wy iV;rw[if_neg z,h];rfl
theorem Vd {fs:List fW}{f:fW}(h:fs[k]?=some f):(fs.take (k+1)).getLast?=some f:=by
 obtain⟨z,D⟩:=gS h;rw[tS z,D];simp
theorem Ya (s t:BA):(Op.bytesLess s.toList t.toList||s.toList==t.toList)=!decide (bl t<bl s):=by
 rw[vH,kY,fK,fK];by_cases h:bl t<bl s
 ·rw[dT h];have D:¬ bl s<bl t:=fun z=>Kn _ (abM h z);have F:s≠t:=fun e=>by rw[e] at h;exact Kn _ h
  simp[D,F]
 ·rw[dF h];by_cases e:s=t
  ·simp[e]
  ·have:bl s<bl t:=UB h (fun z=>e (kG z).symm);simp[this]
structure ZV (w wr:World) (k:Nat) (pre:List fW) (g:BA->Option Value):Prop where
 map:mE wr w.heap.size k g
 inv:xP pre g
 cell:wr.cell? ⟨w.heap.size+1,0,none⟩=some (.map (some w.heap.size))
 bel:Bw w wr
 sz:w.heap.size+2<=wr.heap.size
theorem ZV.below {pre:List fW}(h:ZV w wr k pre g)(z:Bw wr w'):ZV w w' k pre g:=
 ⟨h.map.below z,h.inv,(z.cell (p:=⟨w.heap.size+1,0,none⟩) (by have:=h.sz;show w.heap.size+1<_;omega)).trans h.cell,fM h.bel z,Nat.le_trans h.sz z.size⟩
theorem ZV.start (w:World):ZV w ((w.alloc (.map #[] 0)).alloc (.cells #[.map (some w.heap.size)] 99)) 0 [] (fun _=>none):=
 ⟨(mE.made w).alloc _,xP.nil,by simp,(bR.alloc lr _).alloc (by simp) _,by simp⟩
theorem ZV.put {pre:List fW}{f:fW}(h:ZV w wr k pre g)(H:nA pre.getLast? f=true)(F:mE w' w.heap.size (k+1) (fun x=>if x=f.path then some (.int .i64 f.kind) else g x))(z:wr.grownBy w' (some w.heap.size)):ZV w w' (k+1) (pre++[f]) (fun x=>if x=f.path then some (.int .i64 f.kind) else g x):=
 ⟨F,h.inv.put H,z.cell h.cell (by simp),h.bel.grown z h.bel.size (fun j D=>by injection D with D;omega),Nat.le_trans h.sz z.size⟩
theorem zj (fmt:Int)(ah:fmt=1\/fmt=2\/fmt=3)(A:OA)(c:Nat)(z:List fW)(w:World)(hG:Gl w)(hr:Rd w 8 A z.length (z.flatMap fW.cells))(hn:z.length<=9223372036854775807)(U:∀ x∈z,x.path.size<=4294967280/\x.owner.size<=4294967280/\x.group.size<=4294967280/\x.link.size<=4294967280/\x.sum.size<=4294967280):Calls prog 71 #[.int .i64 fmt,.slice A z.length c] w fun e w'=>e=.returned (wy fmt z)/\Bw w w':=by
 have HG:=fH hG;have HR:=fH hr;have HF:=fH U;clear hG hr U;by_cases D:512<z.length
 ·have E:Hid (wy fmt z=.tuple #[.string ⟨#[102,105,108,101,115]⟩,.int .i64 4]):=by show _=_;unfold wy iV;rw[if_pos D]
  go_in;go_wp2;go_ret2;exact⟨by rw[E.out];rfl,bR⟩
 have au:=@run_makeMap prog;go_in;go_wp2_with fail;clear au;go_loopw [17] (fun i wr=>∃ (k:Nat) (g:BA->Option Value),k<=z.length/\i=.int .i64 k/\Hid (jC fmt [] z=jC fmt (z.take k) (z.drop k))/\Hid (ZV w wr k (z.take k) g)) (fun i _=>z.length-(intOf i).toNat)
 case atStart=>exact⟨0,_,z0,rfl,rfl,ZV.start w⟩
 case round=>
  obtain⟨k,g,hk,rfl,K,I⟩:=hrel;by_cases ac:k<z.length
  ·obtain⟨f,U⟩:∃ f,z[k]?=some f:=⟨_,gG ac⟩
   obtain⟨ax,aE,aB,aD,aC⟩:=HF.out f (gM U);obtain⟨b,off,hA,he⟩:=(HR.below I.bel).elem rG k f U;obtain⟨e0,e1,e2,e3,e4,e5,e6,e7⟩:=cF8 he;simp only[Nat.add_zero] at e0;have al:=fun W=>gi (T:=35) (E:=57) (sz:=8) (c:=c) underlying35 rfl sizeOf57 hA ac W;have O:=fH U;clear U he hA;have X0:Hid (Bx wr (wr.alloc (.cells #[.string f.path,.int .i64 f.kind,.int .i64 f.mode,.string f.owner,.string f.group,.string f.link,.string f.sum,.bool f.conf] 57)) f.cells):=Bx.start wr f.cells _;go_wp2_with fail;clear e0 e1 e2 e3 e4 e5 e6 e7 al;refine mb (vU f.path _ (HG.below (fM I.bel X0.bel)) (by omega)) ?_;rintro w1 aj;have R:Hid (Bx wr w1 f.cells):=X0.step aj;clear aj;cases g1:qr (bl f.path)
   ·skip
    have M:=R.cell 0 _ rfl;have F:pT fmt (z.take k) f=10:=by unfold pT;rw[g1];rfl
    have E:=fH (oO (fmt:=fmt) D (oN O K (by rw[F];decide)));rw[F] at E;clear F g1;go_wp2;go_ret2;exact⟨by rw[E.out];rfl,fM I.bel R.bel⟩
   have G1:=fH g1;clear g1;have M:=R.cell 0 _ rfl;go_wp2_with fail;refine mb (Ai f.path _ (by omega)) ?_;rintro w' rfl;cases g2:qn (bl f.path)
   ·skip
    have F:pT fmt (z.take k) f=10:=by unfold pT;rw[G1.out,g2];rfl
    have E:=fH (oO (fmt:=fmt) D (oN O K (by rw[F];decide)));rw[F] at E;clear F g2;go_wp2;go_ret2;exact⟨by rw[E.out];rfl,fM I.bel R.bel⟩
   have G2:Hid ((qr (bl f.path)&&qn (bl f.path))=true):=by show _=_;rw[G1.out,g2];rfl
   clear g2;go_upto_region 10 with(fail)
   go_cut [35] (fun aq wx=>∃ bb:Bool,aq=.bool bb/\Hid (bb=!nA (z.take k).getLast? f)/\Hid (Bx wr wx f.cells))
   case first=>
    by_cases k0:k=0
    ·have av:decide (0<(k:Int))=false:=dF (by omega);have ap:decide (0<k)=false:=dF (by omega);have OB:Hid (false=!nA (z.take k).getLast? f):=by show _=_;rw[k0];rfl
     clear k0;go_quiet (fail);go_wp2;go_meet;exact⟨false,rfl,OB,R.drewN _⟩
    ·have av:decide (0<(k:Int))=true:=dT (by omega);have ap:decide (0<k)=true:=dT (by omega);have aA:0<k:=by omega
     obtain⟨y,hy⟩:∃ y,z[k-1]?=some y:=⟨_,gG (by omega)⟩
     have ag:(z.take k).getLast?=some y:=by have:=Vd hy;rw[show k-1+1=k by omega] at this;exact this
     obtain⟨b2,ay,aa,ai⟩:=(HR.below (fM I.bel R.bel)).elem rG (k-1) y hy;have p0:=ai 0 _ rfl;simp only[Nat.add_zero] at p0;have az:=fun W=>Ch (T:=35) (E:=57) (sz:=8) (c:=c) (i:=(k:Int)-1) underlying35 rfl sizeOf57 (by omega) aa (show k-1<z.length by omega) W;have OB:Hid ((Op.bytesLess f.path.toList y.path.toList||f.path.toList==y.path.toList)=!nA (z.take k).getLast? f):=by
      show _=_;rw[ag];exact Ya f.path y.path
     have iw:IntKind.i64.wrap ((k:Int)-1)=(k:Int)-1:=IntWalk.i64_in _ (by omega);clear hy ag ai aa k0;go_quiet (fail);go_wp2;go_meet;exact⟨_,rfl,OB,R.drewN _⟩
   case rest=>
   obtain⟨bb,rfl,ae,H⟩:=hcut;clear M;have M:=H.cell 0 _ rfl;have c1:=H.cell 1 _ rfl;cases bb
   case true=>
    have V:Hid (nA (z.take k).getLast? f=false):=by have:=ae.out;show _=_;revert this;cases nA (z.take k).getLast? f<;>simp
    have F:pT fmt (z.take k) f=15:=by unfold pT;rw[G2.out,V.out];rfl
    have E:=fH (oO (fmt:=fmt) D (oN O K (by rw[F];decide)));rw[F] at E;clear F;go_wp2;go_ret2;exact⟨by rw[E.out];rfl,fM I.bel H.bel⟩
   have V:Hid (nA (z.take k).getLast? f=true):=by have:=ae.out;show _=_;revert this;cases nA (z.take k).getLast? f<;>simp
   by_cases J:f.kind=1\/f.kind=2\/f.kind=3
   case neg=>
    have q1:(f.kind != 1)=true:=by simp[bne];omega
    have q2:(f.kind != 2)=true:=by simp[bne];omega
    have q3:(f.kind != 3)=true:=by simp[bne];omega
    have F:pT fmt (z.take k) f=9:=by unfold pT;rw[G2.out,V.out,if_neg (by simp),if_neg (by simp),if_pos J]
    have E:=fH (oO (fmt:=fmt) D (oN O K (by rw[F];decide)));rw[F] at E;clear F J;go_wp2;go_ret2;exact⟨by rw[E.out];rfl,fM I.bel H.bel⟩
   have QQ:Hid (¬ ¬ (f.kind=1\/f.kind=2\/f.kind=3)):=fun h=>h J;have Q:decide (f.kind=1)=true\/(decide (f.kind=1)=false/\decide (f.kind=2)=true)\/(decide (f.kind=1)=false/\decide (f.kind=2)=false/\decide (f.kind=3)=true):=by
    by_cases h1:f.kind=1
    ·exact .inl (dT h1)
    by_cases h2:f.kind=2
    ·exact .inr (.inl ⟨dF h1,dT h2⟩)
    ·exact .inr (.inr ⟨dF h1,dF h2,dT⟩)
   clear J;go_upto_region 12 with(fail)
   go_cut [51] (fun ao wx=>ao=.bool false/\wc=wx)
   case first=>
    rcases Q with h | ⟨h,h'⟩ | ⟨h,h',ad⟩
    ·have q1:(f.kind != 1)=false:=by have:=dO h;simp[bne,this]
     clear h;go_wp2;go_meet;exact⟨rfl,rfl⟩
    ·have q1:(f.kind != 1)=true:=by have:=of_decide_eq_false h;simp[bne,this]
     have q2:(f.kind != 2)=false:=by have:=dO h';simp[bne,this]
     clear h h';go_wp2;go_meet;exact⟨rfl,rfl⟩
    ·have q1:(f.kind != 1)=true:=by have:=of_decide_eq_false h;simp[bne,this]
     have q2:(f.kind != 2)=true:=by have:=of_decide_eq_false h';simp[bne,this]
     have q3:(f.kind != 3)=false:=by have:=dO ad;simp[bne,this]
     clear h h' ad;go_wp2;go_meet;exact⟨rfl,rfl⟩
   case rest=>
   obtain⟨rfl,rfl⟩:=hcut;have c2:=H.cell 2 _ rfl;have c3:=H.cell 3 _ rfl;have c4:=H.cell 4 _ rfl;have c5:=H.cell 5 _ rfl;have c6:=H.cell 6 _ rfl;have c7:=H.cell 7 _ rfl;go_wp2_with fail;refine mb (BL fmt ah f _ (by omega) (by omega) (by omega) (by omega)) ?_;rintro w3 af;have X3:Hid (Bx wr w3 f.cells):=H.step af;clear af M c1 c2 c3 c4 c5 c6 c7;have M:=X3.cell 0 _ rfl;cases g3:jf fmt f
   case false=>
    have F:pT fmt (z.take k) f=1:=by unfold pT;rw[G2.out,V.out,if_neg (by simp),if_neg (by simp),if_neg QQ.out,g3];rfl
    have E:=fH (oO (fmt:=fmt) D (oN O K (by rw[F];decide)));rw[F] at E;clear F g3;go_wp2;go_ret2;exact⟨by rw[E.out];rfl,fM I.bel X3.bel⟩
   have G3:=fH g3;clear g3;go_wp2_with fail;have Z:=fH (I.below X3.bel);refine mb (xQ f (z.take k) g (w.heap.size+1) w.heap.size k _ (HG.below Z.bel) Z.cell (by have:=Z.sz;omega) Z.map Z.inv ax) ?_;rintro w4 Y;have X4:Hid (Bx wr w4 f.cells):=X3.step Y;have S4:=fH (Z.below Y);clear Y M;have M:=X4.cell 0 _ rfl;have c1:=X4.cell 1 _ rfl;cases g4:oM (z.take k) f
   case true=>
    have F:pT fmt (z.take k) f=9:=by unfold pT;rw[G2.out,V.out,if_neg (by simp),if_neg (by simp),if_neg QQ.out,G3.out,if_neg (by simp),g4];rfl
    have E:=fH (oO (fmt:=fmt) D (oN O K (by rw[F];decide)));rw[F] at E;clear F g4;go_wp2;go_ret2;exact⟨by rw[E.out];rfl,fM I.bel X4.bel⟩
   have F:Hid (pT fmt (z.take k) f=0):=by show _=_;unfold pT;rw[G2.out,V.out,if_neg (by simp),if_neg (by simp),if_neg QQ.out,G3.out,if_neg (by simp),g4];rfl
   clear g4;have ar:=S4.cell;obtain⟨w5,X,ab,ak⟩:=S4.map.put underlying99 (by unfold maxLen;omega) f.path (by unfold maxLen;omega) (.int .i64 f.kind);have S5:=fH (S4.put V ab ak);clear ab ak;go_wp2_with fail;clear X ar M c1;have TK:Hid (z.take (k+1)=z.take k++[f]):=by show _=_;obtain⟨am,an⟩:=gS O.out;rw[tS am,an]
   go_roundw
   case rel=>exact⟨k+1,_,by omega,by go_num,fH (Nb O K F),fH (by rw[TK.out];exact S5.out)⟩
   case measure=>simp[intOf];omega
  ·have E:=fH (Vc (fmt:=fmt) D (Qu (by omega) K));go_wp2;go_ret2;exact⟨by rw[E.out];rfl,I.bel⟩
end
section
open Go.RowKit
def zk (fmt n:Int):Bool:=decide ((1<=n/\n<=4)\/(fmt=1/\n=7)\/(fmt=3/\(n=5\/n=6)))
def Yb (fmt:Int)(x:gE):Bool:=zk fmt x.phase&&decide (1<=x.body.size/\x.body.size<=4096) && !(bl x.body).contains 0
def BM:List gE->Bool
 | x::y::r=>decide (x.phase<y.phase)&&BM (y::r)
 | _=>true
def jN (fmt:Int)(l:List gE):Int:=if 7<l.length then 4 else if BM l=false then 15 else if l.all (Yb fmt)=true then 0 else 1
theorem IS:∀ (l:List gE),(∀ (i:Nat) x y,l[i]?=some x->l[i+1]?=some y->x.phase<y.phase)->BM l=true
 | [],_=>rfl
 | [x],_=>rfl
 | x::y::r,h=>by
  rw[BM,dT (h 0 x y rfl rfl),IS (y::r) (fun i a b z D=>h (i+1) a b (by simpa using z) (by simpa using D))];rfl
theorem Er:∀ (l:List gE)(i:Nat)(x y:gE),l[i]?=some x->l[i+1]?=some y->¬ x.phase<y.phase->BM l=false
 | [],i,x,y,h,_,_=>by simp at h
 | [z],i,x,y,h,h',_=>by
  have:=(gS h').1;simp at this
 | a::b::r,0,x,y,h,h',hn=>by
  simp at h h';subst h h';rw[BM,dF hn];rfl
 | a::b::r,i+1,x,y,h,h',hn=>by
  rw[BM,Er (b::r) i x y (by simpa using h) (by simpa using h') hn,Bool.and_false]
theorem zl (fmt n:Int)(z:fmt=1\/fmt=2\/fmt=3)(w:World):Calls prog 118 #[.int .i64 fmt,.int .i64 n] w fun e w'=>e=.returned (.bool (zk fmt n))/\w=w':=by
 by_cases D:1<=n
 ·by_cases H:n<=4
  ·have E:Hid (zk fmt n=true):=dT (.inl ⟨D,H⟩);have O:decide (n<=4)=true:=dT H;have M:decide (n<=6)=true:=dT (by omega);have J:decide (1<=n)=true:=dT D;rcases z with rfl | rfl | rfl
   all_goals
    go_in;go_wp2;go_ret;exact⟨fJ (by rw[E.out]),rfl⟩
  ·have O:decide (n<=4)=false:=dF H;have J:decide (1<=n)=true:=dT D;rcases z with rfl | rfl | rfl
   ·by_cases F:n=7
    ·have E:Hid (zk 1 n=true):=dT (by omega);have K:(n==7)=true:=by simpa using F
     clear F;go_in;go_wp2;go_ret;exact⟨fJ (by rw[E.out]),rfl⟩
    ·have E:Hid (zk 1 n=false):=dF (by omega);have K:(n==7)=false:=by simpa using F
     clear F;go_in;go_wp2;go_ret;exact⟨fJ (by rw[E.out]),rfl⟩
   ·have E:Hid (zk 2 n=false):=dF (by omega);go_in;go_wp2;go_ret;exact⟨fJ (by rw[E.out]),rfl⟩
   ·by_cases I:n<=6
    ·have E:Hid (zk 3 n=true):=dT (by omega);have M:decide (n<=6)=true:=dT I;go_in;go_wp2;go_ret;exact⟨fJ (by rw[E.out]),rfl⟩
    ·have E:Hid (zk 3 n=false):=dF (by omega);have M:decide (n<=6)=false:=dF I;go_in;go_wp2;go_ret;exact⟨fJ (by rw[E.out]),rfl⟩
 ·have E:Hid (zk fmt n=false):=dF (by omega);have J:decide (1<=n)=false:=dF D;have K:(n==7)=false:=by simp;omega
  rcases z with rfl | rfl | rfl
  all_goals
   go_in;go_wp2;go_ret;exact⟨fJ (by rw[E.out]),rfl⟩
def Qv (l:List gE)(k:Nat):Prop:=∀ (i:Nat) x y,i+1<k->l[i]?=some x->l[i+1]?=some y->x.phase<y.phase
theorem Qv.all {l:List gE}(h:Qv l k)(D:l.length<=k):BM l=true:=
 IS l fun i x y F z=>h i x y (Nat.lt_of_lt_of_le (gS z).1 D) F z
theorem Qv.next {l:List gE}{x y:gE}(h:Qv l k)(H:l[k-1]?=some x)(I:l[k]?=some y)(F:x.phase<y.phase):Qv l (k+1):=by
 intro i a b J z D;by_cases e:i+1=k
 ·subst e;rw[Nat.add_sub_cancel] at H;rw[H] at z;rw[I] at D;injection z with z;injection D with D;subst z D;exact F
 ·exact h i a b (by omega) z D
theorem Qv.one {l:List gE}:Qv l 1:=fun i x y z=>by omega
theorem Qv.zero {l:List gE}:Qv l 0:=fun i x y z=>by omega
theorem Es {l:List gE}(z:¬ 7<l.length)(h:BM l=false):jN fmt l=15:=by unfold jN;rw[if_neg z,if_pos h]
theorem pU {l:List gE}(z:¬ 7<l.length)(h:BM l=true)(D:l.all (Yb fmt)=false):jN fmt l=1:=by unfold jN;rw[if_neg z,h,D];rfl
theorem Nc {l:List gE}(z:¬ 7<l.length)(h:BM l=true)(D:l.all (Yb fmt)=true):jN fmt l=0:=by unfold jN;rw[if_neg z,h,D];rfl
theorem wz (fmt:Int)(Y:fmt=1\/fmt=2\/fmt=3)(A:OA)(c:Nat)(l:List gE)(w:World)(hr:Rd w 2 A l.length (l.flatMap gE.cells))(hn:l.length<=9223372036854775807)(hf:∀ x∈l,x.body.size<=4294967280):Calls prog 72 #[.int .i64 fmt,.slice A l.length c] w fun e w'=>e=.returned (.int .i64 (jN fmt l))/\Bw w w':=by
 have HR:=fH hr;have HF:=fH hf;clear hr hf;by_cases U:7<l.length
 ·have E:Hid (jN fmt l=4):=by show _=_;unfold jN;rw[if_pos U]
  go_in;go_wp2;go_ret;exact⟨fT (by rw[E.out]),bR⟩
 go_in;go_wp2;go_loopw [14] (fun i wr=>∃ k:Nat,k<=l.length/\i=.int .i64 k/\Hid (Qv l k)/\Hid (Bw w wr)) (fun i _=>l.length-(intOf i).toNat)
 case atStart=>exact⟨0,z0,rfl,Qv.zero,bR⟩
 case round=>
  obtain⟨k,hk,rfl,HI,D⟩:=hrel;by_cases V:k<l.length
  ·obtain⟨y,hy⟩:∃ y,l[k]?=some y:=⟨_,gG V⟩
   by_cases k0:k=0
   ·have ae:decide (0<(k:Int))=false:=dF (by omega);have ad:decide (0<k)=false:=dF (by omega);have R:Hid (Qv l (k+1)):=by show Qv _ _;rw[k0];exact Qv.one
    clear k0 hy;go_wp2;go_quiet (fail);go_wp2;go_roundw
    case rel=>exact⟨k+1,by omega,by go_num,R,fH (gh D _)⟩
    case measure=>simp[intOf];omega
   ·have ae:decide (0<(k:Int))=true:=dT (by omega);have ad:decide (0<k)=true:=dT (by omega);have ah:0<k:=by omega
    obtain⟨x,K⟩:∃ x,l[k-1]?=some x:=⟨_,gG (by omega)⟩
    obtain⟨b1,X,F,z⟩:=(HR.below D).elem ql k y hy;obtain⟨b2,ag,Z,aa⟩:=(HR.below D).elem ql (k-1) x K;have p1:=z 0 _ rfl;have p2:=aa 0 _ rfl;simp only[Nat.add_zero] at p1 p2;have J:=fun W=>gi (T:=36) (E:=59) (sz:=2) (c:=c) underlying36 rfl sizeOf59 F V W;have ab:=fun W=>Ch (T:=36) (E:=59) (sz:=2) (c:=c) (i:=(k:Int)-1) underlying36 rfl sizeOf59 (by omega) Z (show k-1<l.length by omega) W;have iw:IntKind.i64.wrap ((k:Int)-1)=(k:Int)-1:=IntWalk.i64_in _ (by omega);have O:=fH K;have HY:=fH hy;clear K hy F Z z aa k0;by_cases hp:x.phase<y.phase
    ·have R:Hid (Qv l (k+1)):=HI.next O HY hp;have ac:decide (y.phase<=x.phase)=false:=dF (by omega);go_wp2;go_quiet (fail);go_wp2_with fail;clear iw J ab;go_roundw
     case rel=>exact⟨k+1,by omega,by go_num,R,fH (gh D _)⟩
     case measure=>simp[intOf];omega
    ·have E:=fH (Es (fmt:=fmt) U (Er l (k-1) x y O (by rw[show k-1+1=k by omega];exact HY.out) hp));have ac:decide (y.phase<=x.phase)=true:=dT (by omega);go_wp2;go_quiet (fail);go_wp2;go_ret;exact⟨fT (by rw[E.out]),gh D _⟩
  ·have H:Hid (BM l=true):=HI.all (by omega);go_wp2;go_loopw [36] (fun i wr=>∃ k:Nat,k<=l.length/\i=.int .i64 k/\Hid ((l.take k).all (Yb fmt)=true)/\Hid (Bw w wr)) (fun i _=>l.length-(intOf i).toNat)
   case atStart=>exact⟨0,z0,rfl,by simp[Hid],D⟩
   case round=>
    clear D;obtain⟨m,hm,rfl,HA,D⟩:=hrel;by_cases M:m<l.length
    ·obtain⟨x,K⟩:∃ x,l[m]?=some x:=⟨_,gG M⟩
     have ai:=HF.out x (gM K);obtain⟨b1,X,F,z⟩:=(HR.below D).elem ql m x K;have p1:=z 0 _ rfl;have p2:=z 1 _ rfl;simp only[Nat.add_zero] at p1;have J:=fun W=>gi (T:=36) (E:=59) (sz:=2) (c:=c) underlying36 rfl sizeOf59 F M W;have O:=fH K;have I:Hid (Bw w (wr.alloc (.cells #[.int .i64 x.phase,.string x.body] 59))):=D.alloc D.size _;clear K F z;go_wp2_with fail;refine mb (zl fmt x.phase Y _) ?_;rintro w' rfl;cases g1:zk fmt x.phase
     ·have E:=fH (pU (fmt:=fmt) U H (sJ O (by unfold Yb;rw[g1];rfl)));clear g1;go_wp2;go_ret;exact⟨fT (by rw[E.out]),I⟩
     by_cases s1:x.body.size<1
     ·have E:=fH (pU (fmt:=fmt) U H (sJ O (by unfold Yb;rw[dF];simp)));clear g1;go_wp2;go_ret;exact⟨fT (by rw[E.out]),I⟩
     by_cases s2:4096<x.body.size
     ·have E:=fH (pU (fmt:=fmt) U H (sJ O (by unfold Yb;rw[dF];simp)));clear g1;go_wp2;go_ret;exact⟨fT (by rw[E.out]),I⟩
     have G1:=fH g1;clear g1;go_wp2_with fail;refine mb (Ig x.body _) ?_;rintro w' rfl;cases g2:(bl x.body).contains 0
     ·have af:Hid ((l.take (m+1)).all (Yb fmt)=true):=Ma O HA (by unfold Yb;rw[G1.out,g2,dT];rfl);clear g2;go_wp2;go_roundw
      case rel=>exact⟨m+1,by omega,by go_num,af,I⟩
      case measure=>simp[intOf];omega
     ·have E:=fH (pU (fmt:=fmt) U H (sJ O (by unfold Yb;rw[g2];simp)));clear g2;go_wp2;go_ret;exact⟨fT (by rw[E.out]),I⟩
    ·have E:=fH (Nc (fmt:=fmt) U H (by have:=HA.out;rw[tL (by omega)] at this;exact this));go_wp2;go_ret;exact⟨fT (by rw[E.out]),D⟩
end
section
open Go.RowKit Go.Maps
def OY (x:fW):Value:=.agg #[.int .i64 x.kind,.int .i64 x.mode,.string x.owner,.string x.group,.string x.link]
def uc (x y:fW):Bool:=(x.kind==y.kind)&&((x.mode==y.mode)&&((x.owner.toList==y.owner.toList)&&((x.group.toList==y.group.toList)&&(x.link.toList==y.link.toList))))
theorem sR (a b:fW):uc a b=true↔OY a=OY b:=by
 unfold uc OY;simp only[Bool.and_eq_true,kY,beq_iff_eq,decide_eq_true_iff];constructor
 ·rintro⟨F,z,I,D,H⟩;rw[F,z,I,D,H]
 ·intro h;injection h with h;have h:=congrArg Array.toList h;simp only[List.cons.injEq,and_true] at h;obtain⟨F,z,I,D,H⟩:=h;injection F with _ F;injection z with _ z;injection I with I;injection D with D;injection H with H;exact⟨F,z,I,D,H⟩
def xR (fs:List fW)(s:BA):Option fW:=fs.find? fun y=>decide (y.path=s)
theorem wA {fs:List fW}{y:fW}(h:xR fs s=some y):y∈fs/\y.path=s:=
 by unfold xR at h;exact⟨List.mem_of_find?_eq_some h,by simpa using List.find?_some h⟩
theorem Qw {fs:List fW}(h:xR fs s=none):∀ y∈fs,y.path≠s:=by
 intro y D z;unfold xR at h;have:=List.find?_eq_none.1 h y D;exact this (dT z)
def Et (q:fZ)(x:fW):Bool:=match xR q.files x.path with
 | none=>false
 | some y=>!uc y x
def conf (pre:List fZ)(x:fW):Bool:=pre.any fun q=>Et q x
def Nd (pre:List fZ)(p:fZ):Bool:=match pre.getLast? with | none=>true | some q=>decide (bl q.nm<bl p.nm)
def LD (ans:BA×Int)(pre:List fZ)(p:fZ):BA×BA×Int:=
 if ans.2≠0 then (p.nm,ans.1,ans.2)
 else if Nd pre p=false then (p.nm,⟨#[110,97,109,101]⟩,15)
 else match p.files.find? (conf pre) with
  | some f=>(p.nm,f.path,8)
  | none=>(⟨#[]⟩,⟨#[]⟩,0)
def zm (ans:fZ->BA×Int):List fZ->List fZ->BA×BA×Int
 | _,[]=>(⟨#[]⟩,⟨#[]⟩,0)
 | pre,p::r=>if (LD (ans p) pre p).2.2=0 then zm ans (pre++[p]) r else LD (ans p) pre p
theorem Yc {ans:fZ->BA×Int}{l:List fZ}{p:fZ}(h:l[k]?=some p)(H:zm ans [] l=zm ans (l.take k) (l.drop k))(F:(LD (ans p) (l.take k) p).2.2=0):zm ans [] l=zm ans (l.take (k+1)) (l.drop (k+1)):=by
 obtain⟨z,D⟩:=gS h;rw[H,List.drop_eq_getElem_cons z,D,zm,if_pos F,tS z,D]
theorem Kv {ans:fZ->BA×Int}{l:List fZ}{p:fZ}(h:l[k]?=some p)(F:zm ans [] l=zm ans (l.take k) (l.drop k))(z:(LD (ans p) (l.take k) p).2.2≠0):zm ans [] l=LD (ans p) (l.take k) p:=by
 obtain⟨D,H⟩:=gS h;rw[F,List.drop_eq_getElem_cons D,H,zm,if_neg z]
theorem aas {ans:fZ->BA×Int}{l:List fZ}(z:l.length<=k)(D:zm ans [] l=zm ans (l.take k) (l.drop k)):zm ans [] l=(⟨#[]⟩,⟨#[]⟩,0):=by
 rw[D,List.drop_of_length_le z];rfl
def ud (l:List fZ)(k:Nat)(p:fZ):Bool:=Nd (l.take k) p
theorem IT (l:List fZ)(p:fZ):ud l 0 p=true:=by unfold ud Nd;simp
theorem Ve {l:List fZ}{q:fZ}(p:fZ)(h:l[k]?=some q):ud l (k+1) p=decide (bl q.nm<bl p.nm):=by
 obtain⟨z,D⟩:=gS h;unfold ud Nd;rw[tS z];simp[D]
theorem Sx {pre:List fZ}{p:fZ}(h:ans.2≠0):LD ans pre p=(p.nm,ans.1,ans.2):=by unfold LD;rw[if_pos h]
theorem aat {l:List fZ}{p:fZ}(h:ans.2=0)(z:ud l k p=false):LD ans (l.take k) p=(p.nm,⟨#[110,97,109,101]⟩,15):=by
 unfold LD;unfold ud at z;rw[if_neg (by simpa using h),if_pos z]
theorem Yd {l:List fZ}{p:fZ}{x:fW}(h:ans.2=0)(D:ud l k p=true)(z:p.files[m]?=some x)(J:∀ y∈p.files.take m,conf (l.take k) y=false)(I:conf (l.take k) x=true):LD ans (l.take k) p=(p.nm,x.path,8):=by
 unfold LD;unfold ud at D;rw[if_neg (by simpa using h),D,if_neg (by simp)];have:p.files.find? (conf (l.take k))=some x:=by
  obtain⟨F,z⟩:=gS z;rw[<-List.take_append_drop m p.files,List.find?_append,List.find?_eq_none.2 (fun y H=>by rw[J y H];simp),List.drop_eq_getElem_cons F,z];simp[I]
 rw[this]
theorem Ne {l:List fZ}{p:fZ}(h:ans.2=0)(z:ud l k p=true)(F:∀ y∈p.files,conf (l.take k) y=false):LD ans (l.take k) p=(⟨#[]⟩,⟨#[]⟩,0):=by
 unfold LD;unfold ud at z;rw[if_neg (by simpa using h),z,if_neg (by simp),List.find?_eq_none.2 (fun y D=>by rw[F y D];simp)]
def BN (ans:fZ->BA×Int)(fo:Bool)(l:List fZ):BA×BA×Int:=
 if fo=false then (⟨#[]⟩,⟨#[102,111,114,109,97,116]⟩,9) else if 128<l.length then (⟨#[]⟩,⟨#[112,97,99,107,97,103,101,115]⟩,4) else zm ans [] l
def dbV (r:BA×BA×Int):Value:=.agg #[.string r.1,.string r.2.1,.int .i64 r.2.2]
structure zp (L:List fW) (f:BA->Option Value):Prop where
 dom:∀ s,f s=none->∀ y∈L,y.path≠s
 mem:∀ s v,f s=some v->(∃ y∈L,y.path=s)/\∀ y∈L,y.path=s->OY y=v
theorem zp.nil:zp [] (fun _=>none):=⟨by simp,by simp⟩
theorem zp.put {L:List fW}(h:zp L f)(x:fW)(J:f x.path=none\/f x.path=some (OY x)):zp (L++[x]) (fun s=>if s=x.path then some (OY x) else f s):=by
 refine⟨fun s M y D F=>?_,fun s v I=>?_⟩
 ·by_cases e:s=x.path
  ·simp only[if_pos e] at M;cases M
  ·simp only[if_neg e] at M;rcases List.mem_append.1 D with D | D
   ·exact h.dom s M y D F
   ·rw[List.mem_singleton.1 D] at F;exact e F.symm
 ·by_cases e:s=x.path
  ·simp only[if_pos e] at I;injection I with I;subst I;subst e;refine⟨⟨x,by simp,rfl⟩,fun y D F=>?_⟩;rcases List.mem_append.1 D with D | D
   ·rcases J with J | J
    ·exact absurd F (h.dom _ J y D)
    ·exact(h.mem _ _ J).2 y D F
   ·rw[List.mem_singleton.1 D]
  ·simp only[if_neg e] at I;obtain⟨⟨y,D,F⟩,O⟩:=h.mem s v I;refine⟨⟨y,by simp[D],F⟩,fun z K H=>?_⟩;rcases List.mem_append.1 K with K | K
   ·exact O z K H
   ·rw[List.mem_singleton.1 K] at H;exact absurd H.symm e
def qT (l:List fZ)(k:Nat)(fs:List fW):List fW:=(l.take k).flatMap fZ.files++fs
theorem zp.fresh {l:List fZ}{fs:List fW}(h:zp (qT l k fs) f){x:fW}(I:f x.path=none):conf (l.take k) x=false:=by
 unfold conf;rw[List.any_eq_false];intro q F z;unfold Et at z;cases e:xR q.files x.path with
 | none=>rw[e] at z;cases z
 | some y=>
  obtain⟨H,D⟩:=wA e;exact h.dom _ I y (List.mem_append_left _ (List.mem_flatMap.2 ⟨q,F,H⟩)) D
theorem zp.same {l:List fZ}{fs:List fW}(h:zp (qT l k fs) f){x:fW}(J:f x.path=some (OY x)):conf (l.take k) x=false:=by
 unfold conf;rw[List.any_eq_false];intro q F z;unfold Et at z;cases e:xR q.files x.path with
 | none=>rw[e] at z;cases z
 | some y=>
  rw[e] at z;obtain⟨I,D⟩:=wA e;have:=(h.mem _ _ J).2 y (List.mem_append_left _ (List.mem_flatMap.2 ⟨q,F,I⟩)) D;have H:=(sR y x).2 this;simp[H] at z
theorem zp.other {l:List fZ}{fs:List fW}(h:zp (qT l k fs) f){x:fW}(U:f x.path=some v)(H:v≠OY x)(M:∀ y∈fs,y.path≠x.path):conf (l.take k) x=true:=by
 obtain⟨⟨y,D,J⟩,O⟩:=h.mem _ _ U;rcases List.mem_append.1 D with D | D
 ·obtain⟨q,K,F⟩:=List.mem_flatMap.1 D;unfold conf;rw[List.any_eq_true];refine⟨q,K,?_⟩;unfold Et;cases e:xR q.files x.path with
  | none=>exact absurd J (Qw e y F)
  | some z=>
   obtain⟨V,I⟩:=wA e;have R:=O z (List.mem_append_left _ (List.mem_flatMap.2 ⟨q,K,V⟩)) I;show(!uc z x)=true;cases ha:uc z x with
   | false=>rfl
   | true=>exact absurd (R.symm.trans ((sR z x).1 ha)) H
 ·exact absurd J (M y D)
theorem IU {l:List fZ}{p:fZ}(h:l[k]?=some p):qT l (k+1) []=qT l k p.files:=by
 obtain⟨z,D⟩:=gS h;unfold qT;rw[tS z,D];simp
theorem Vf (l:List fZ)(k:Nat){fs:List fW}{x:fW}(h:fs[m]?=some x):qT l k (fs.take (m+1))=qT l k (fs.take m)++[x]:=by
 obtain⟨z,D⟩:=gS h;unfold qT;rw[tS z,D];simp
theorem Nf (l:List fZ)(k:Nat)(p:fZ)(m:Nat)(h:l[k]?=some p):(qT l k (p.files.take m)).length<=Bm l:=by
 have key:∀ (L:List fZ),(L.flatMap fZ.files).length<=Bm L:=by
  intro L
  induction L with
  | nil=>simp[Bm]
  | cons a r ih=>
   have z:a.files.length<=mz a.files:=by
    unfold mz;generalize a.files=fs
    induction fs with
    | nil=>simp
    | cons a r ih=>simp at *;omega
   unfold Bm at ih |-;rw[List.flatMap_cons,List.length_append,List.map_cons,List.sum_cons];have F:wW a=kZ a+jx a.needs+jx a.bars+my a.gives+mz a.files+mA a.scripts:=rfl;omega
 have I:=key (l.take (k+1));have H:(qT l k (p.files.take m)).length<=((l.take (k+1)).flatMap fZ.files).length:=by
  have e:=IU h;have D:qT l (k+1) []=(l.take (k+1)).flatMap fZ.files:=by unfold qT;simp
  rw[<-D,e];unfold qT;rw[List.length_append,List.length_append,List.length_take];omega
 have z:Bm (l.take (k+1))<=Bm l:=by
  have e:Bm l=Bm (l.take (k+1))+Bm (l.drop (k+1)):=by
   unfold Bm;rw[<-List.sum_append,<-List.map_append,List.take_append_drop]
  omega
 omega
theorem Ng {fs:List fW}(h:(iV fmt fs).2=0):(lw fs).Pairwise (fun s t=>bl s<bl t):=by
 unfold iV at h;split at h
 ·simp at h
 ·have key:∀ (r z:List fW),(∃ g,xP z g)->((jC fmt z r).getD (⟨#[]⟩,0)).2=0->(lw (z++r)).Pairwise (fun s t=>bl s<bl t):=by
   intro r
   induction r with
   | nil=>rintro z ⟨g,F⟩ _;simpa using F.sorted
   | cons a r ih=>
    rintro z ⟨g,F⟩ h;rw[jC] at h;by_cases D:pT fmt z a=0
    ·rw[if_pos D] at h;have H:nA z.getLast? a=true:=by
      unfold pT at D;cases e1:(qr (bl a.path)&&qn (bl a.path)) with
      | false=>rw[e1] at D;simp at D
      | true=>
       cases e2:nA z.getLast? a with
       | false=>rw[e1,e2] at D;simp at D
       | true=>rfl
     have:=ih (z++[a]) ⟨_,F.put H⟩ h;simpa using this
    ·rw[if_neg D] at h;exact absurd h D
  have:=key fs [] ⟨_,xP.nil⟩ h;simpa using this
theorem Vg {fs:List fW}(h:(lw fs).Pairwise (fun s t=>bl s<bl t)){x:fW}(z:fs[m]?=some x):∀ y∈fs.take m,y.path≠x.path:=by
 intro y H D;obtain⟨F,z⟩:=gS z;have e:lw fs=lw (fs.take m)++lw (fs.drop m):=by unfold lw;rw[<-List.map_append,List.take_append_drop]
 rw[e,List.pairwise_append] at h;have:=h.2.2 y.path (List.mem_map.2 ⟨y,H,rfl⟩) x.path (by rw[List.drop_eq_getElem_cons F,z];simp[lw]);rw[D] at this;exact Kn _ this
end
section
open Go.RowKit Go.Deep
open Go.RowKit
open Go.RowKit Go.Maps
def ckV (nm:BA)(r:BA×Int):Value:=if r.2=0 then mY ⟨#[]⟩ ⟨#[]⟩ 0 else mY nm r.1 r.2
theorem Ye (nm z:BA):ckV nm (z,0)=.agg #[.string ⟨#[]⟩,.string ⟨#[]⟩,.int .i64 0]:=rfl
theorem Yf (nm z:BA){c:Int}(h:c≠0):ckV nm (z,c)=.agg #[.string nm,.string z,.int .i64 c]:=by unfold ckV;rw[if_neg h];rfl
structure RC (w wr:World):Prop where
 bel:Bw w wr
 res:fV wr w.heap.size [.string ⟨#[]⟩,.string ⟨#[]⟩,.int .i64 0]
theorem RC.step (h:RC w wr)(z:Bw wr w'):RC w w':=⟨fM h.bel z,h.res.below z⟩
theorem RC.alloc (h:RC w wr)(o:Obj):RC w (wr.alloc o):=h.step (bR.alloc lr o)
theorem RC.start (w:World):RC w (w.alloc (.cells #[.string ⟨#[]⟩,.string ⟨#[]⟩,.int .i64 0] 49)):=
 ⟨bR.alloc lr _,fV.new w [.string ⟨#[]⟩,.string ⟨#[]⟩,.int .i64 0] _⟩
theorem RC.done (h:RC w wr)(a b c:Value):Bw w (((wr.setCell ⟨w.heap.size,0,none⟩ a).setCell ⟨w.heap.size,1,none⟩ b).setCell ⟨w.heap.size,2,none⟩ c):=
 fO (fO (fO h.bel lr _) lr _) lr _
theorem adC {p:fZ}(h:∀ (j:Nat)(u:Value),p.cells[j]?=some u->w.cell? ⟨b,o+j,none⟩=some u):
  w.cell? ⟨b,o,none⟩=some (.string p.nm)/\w.cell? ⟨b,o+1,none⟩=some (.string p.ver)/\w.cell? ⟨b,o+2,none⟩=some (.string p.ar)/\w.cell? ⟨b,o+3,none⟩=some (.string p.sm)/\w.cell? ⟨b,o+4,none⟩=some (.slice p.na p.needs.length p.nc)/\w.cell? ⟨b,o+5,none⟩=some (.slice p.ba p.bars.length p.bc)/\w.cell? ⟨b,o+6,none⟩=some (.slice p.ga p.gives.length p.gc)/\w.cell? ⟨b,o+7,none⟩=some (.slice p.fa p.files.length p.fc)/\w.cell? ⟨b,o+8,none⟩=some (.slice p.sa p.scripts.length p.sc):=
 ⟨h 0 _ rfl,h 1 _ rfl,h 2 _ rfl,h 3 _ rfl,h 4 _ rfl,h 5 _ rfl,h 6 _ rfl,h 7 _ rfl,h 8 _ rfl⟩
def At8 (w:World)(b o:Nat)(x:fW):Prop:=
 w.cell? ⟨b,o,none⟩=some (.string x.path)/\w.cell? ⟨b,o+1,none⟩=some (.int .i64 x.kind)/\w.cell? ⟨b,o+2,none⟩=some (.int .i64 x.mode)/\w.cell? ⟨b,o+3,none⟩=some (.string x.owner)/\w.cell? ⟨b,o+4,none⟩=some (.string x.group)/\w.cell? ⟨b,o+5,none⟩=some (.string x.link)/\w.cell? ⟨b,o+6,none⟩=some (.string x.sum)/\w.cell? ⟨b,o+7,none⟩=some (.bool x.conf)
theorem adi {x:fW}(h:∀ (j:Nat)(u:Value),x.cells[j]?=some u->w.cell? ⟨b,o+j,none⟩=some u):At8 w b o x:=
 ⟨h 0 _ rfl,h 1 _ rfl,h 2 _ rfl,h 3 _ rfl,h 4 _ rfl,h 5 _ rfl,h 6 _ rfl,h 7 _ rfl⟩
theorem RC.six (h:RC w wr):wr.cell? ⟨w.heap.size,0,none⟩=some (.string ⟨#[]⟩)/\wr.cell? ⟨w.heap.size,1,none⟩=some (.string ⟨#[]⟩)/\wr.cell? ⟨w.heap.size,2,none⟩=some (.int .i64 0)/\wr.frozen? ⟨w.heap.size,0,none⟩=false/\wr.frozen? ⟨w.heap.size,1,none⟩=false/\wr.frozen? ⟨w.heap.size,2,none⟩=false:=
 ⟨h.res.cell 0 _ rfl,h.res.cell 1 _ rfl,h.res.cell 2 _ rfl,h.res.free 0 (by simp),h.res.free 1 (by simp),h.res.free 2 (by simp)⟩
theorem Yg {ans:fZ->BA×Int}{l:List fZ}(h:fo=false):dbV (BN ans fo l)=.agg #[.string ⟨#[]⟩,.string ⟨#[102,111,114,109,97,116]⟩,.int .i64 9]:=by unfold BN;rw[if_pos h];rfl
theorem Vh {ans:fZ->BA×Int}{l:List fZ}(h:fo=true)(z:128<l.length):dbV (BN ans fo l)=.agg #[.string ⟨#[]⟩,.string ⟨#[112,97,99,107,97,103,101,115]⟩,.int .i64 4]:=by unfold BN;rw[if_neg (by rw[h];simp),if_pos z];rfl
theorem Yh {ans:fZ->BA×Int}{l:List fZ}(h:fo=true)(z:¬ 128<l.length):BN ans fo l=zm ans [] l:=by unfold BN;rw[if_neg (by rw[h];simp),if_neg z]
theorem Qx (x y:fW)(w:World):(binOp .neq 96 (.agg #[.int .i64 x.kind,.int .i64 x.mode,.string x.owner,.string x.group,.string x.link]) (.agg #[.int .i64 y.kind,.int .i64 y.mode,.string y.owner,.string y.group,.string y.link])).run prog w=.ok (.bool (!uc x y)) w:=by
 go_simp;unfold uc
 (repeat' split)<;>simp_all
theorem Nh (w:World):(zeroValue 96).run prog w=.ok (.agg #[.int .i64 0,.int .i64 0,.string ⟨#[]⟩,.string ⟨#[]⟩,.string ⟨#[]⟩]) w:=by kernel_rfl
structure MC (w wr:World) (L:List fW) (f:BA->Option Value):Prop where
 rc:RC w wr
 map:mE wr (w.heap.size+1) L.length f
 inv:zp L f
 sz:w.heap.size+2<=wr.heap.size
theorem MC.step {L:List fW}(h:MC w wr L f)(z:Bw wr w'):MC w w' L f:=⟨h.rc.step z,h.map.below z,h.inv,Nat.le_trans h.sz z.size⟩
theorem MC.start (w:World):MC w ((w.alloc (.cells #[.string ⟨#[]⟩,.string ⟨#[]⟩,.int .i64 0] 49)).alloc (.map #[] 0)) [] (fun _=>none):=
 ⟨(RC.start w).alloc _,by have:=mE.made (w.alloc (.cells #[.string ⟨#[]⟩,.string ⟨#[]⟩,.int .i64 0] 49));simpa using this,zp.nil,by simp⟩
theorem fV.grownC {c:Nat}{vs:LV}(h:fV wr c vs)(F:wr.grownBy w' (some b))(z:c≠b):fV w' c vs:=by
 have D:w'.heap[c]?=wr.heap[c]?:=F.block c h.sz (by intro e;injection e with e;exact z e);refine⟨Nat.lt_of_lt_of_le h.sz F.size,fun j u I=>?_,fun j H=>?_⟩
 ·exact(World.cell?_of_block (a:=⟨c,j,none⟩) D).trans (h.cell j u I)
 ·exact(World.frozen?_of_block (a:=⟨c,j,none⟩) D).trans (h.free j H)
theorem MC.put {L:List fW}{x:fW}(h:MC w wr L f)(H:f x.path=none\/f x.path=some (OY x))(F:mE w' (w.heap.size+1) (L.length+1) (fun s=>if s=x.path then some (OY x) else f s))(z:wr.grownBy w' (some (w.heap.size+1))):MC w w' (L++[x]) (fun s=>if s=x.path then some (OY x) else f s):=
 ⟨⟨h.rc.bel.grown z h.rc.bel.size (fun j D=>by injection D with D;omega),h.rc.res.grownC z (by omega)⟩,by rw[List.length_append];exact F,h.inv.put x H,Nat.le_trans h.sz z.size⟩
theorem MC.look {L:List fW}(h:MC w wr L f)(s:BA)(K:s.size<=maxLen):
  ∃ (z:fW) (b:Bool),(Instr.lookup 93 (.map (some (w.heap.size+1))) (.string s) true).run prog wr=.ok (.tuple #[.agg #[.int .i64 z.kind,.int .i64 z.mode,.string z.owner,.string z.group,.string z.link],.bool b]) wr/\(b=false->f s=none)/\(b=true->f s=some (OY z)):=by
 have D:=h.map.look_ok underlying93 Nh s K;cases hf:f s with
 | none=>
  rw[hf] at D;exact⟨⟨⟨#[]⟩,0,0,⟨#[]⟩,⟨#[]⟩,⟨#[]⟩,⟨#[]⟩,false⟩,false,D,fun _=>rfl,(fun h=>by cases h)⟩
 | some v=>
  rw[hf] at D;obtain⟨⟨y,J,F⟩,I⟩:=h.inv.mem s v hf;have H:=I y J F;subst H;exact⟨y,true,D,(fun h=>by cases h),fun _=>rfl⟩
theorem zq {tmps:Array Value}(h:RC w w2)(ht:tmps[4]?=some (.pointer (some ⟨w.heap.size,0,none⟩)))(a b:BA)(c:Int):
  (results Tryz.f17 tmps).run prog (((w2.setCell ⟨w.heap.size,0,none⟩ (.string a)).setCell ⟨w.heap.size,1,none⟩ (.string b)).setCell ⟨w.heap.size,2,none⟩ (.int .i64 c)) =
   .ok (.agg #[.string a,.string b,.int .i64 c]) (((w2.setCell ⟨w.heap.size,0,none⟩ (.string a)).setCell ⟨w.heap.size,1,none⟩ (.string b)).setCell ⟨w.heap.size,2,none⟩ (.int .i64 c)):=by
 obtain⟨I,H,z,F,D,J⟩:=h.six;simp[results,results17,ht,go_sem,I,H,z]
theorem Eu (fmt:Int)(F:fZ->BA×Int)(A:OA)(c:Nat)(l:List fZ)(w:World)(hG:Gl w)(hd:vl w A l)(hl:l.length<=100000)(ay:Bm l<=10000000)(hs:∀ p∈l,p.files.length<=1000000/\∀ x∈p.files,x.path.size<=1000000)(hC:∀ p∈l,∀ W,Bw w W->p.ok W->Calls prog 34 #[.int .i64 fmt,p.val] W fun e w'=>e=.returned (ckV p.nm (F p))/\Bw W w')(am:∀ p∈l,(F p).2=0->(iV fmt p.files).2=0):Calls prog 17 #[.int .i64 fmt,.slice A l.length c] w fun e w'=>e=.returned (dbV (BN F (nO fmt) l))/\Bw w w':=by
 have HG:=fH hG;have HD:=fH hd;have HS:=fH hs;have aP:=fH hC;have aL:=fH am;have aR:=fH ay;clear hG hd hs ay hC am;have R0:=fH (RC.start w);obtain⟨W0,ae⟩:∃ W0,w.alloc (.cells #[.string ⟨#[]⟩,.string ⟨#[]⟩,.int .i64 0] 49)=W0:=⟨_,rfl⟩
 have O:Hid (RC w W0):=by show RC w W0;rw[<-ae];exact R0.out
 have M0:Hid (MC w (W0.alloc (.map #[] 0)) [] (fun _=>none)):=by show MC _ _ _ _;rw[<-ae];exact MC.start w
 have Z0:Hid (W0.heap.size=w.heap.size+1):=by show _=_;rw[<-ae];simp
 have hI:=fun W=>mx fmt W;cases hfm:nO fmt with
 | false=>
  have E:Hid (dbV (BN F false l)=_):=Yg rfl;obtain⟨r0,r1,r2,Y,ab,Z⟩:=O.six;rw[hfm] at hI;clear hfm R0;go_in;go_wp2_with fail;refine mb (hI _) ?_;rintro w' rfl;go_wp2_with fail;exact bodyPost_ret (zq O rfl _ _ _) rfl ⟨by rw[E.out],O.done _ _ _⟩
 | true=>
 rw[hfm] at hI;clear hfm R0;by_cases I:128<l.length
 ·have d8:decide ((128:Int)<l.length)=true:=dT (by omega);have aH:decide (128<l.length)=true:=dT I;have E:Hid (dbV (BN F true l)=_):=Vh rfl I;obtain⟨r0,r1,r2,Y,ab,Z⟩:=O.six;clear I;go_in;go_wp2_with fail;refine mb (hI _) ?_;rintro w' rfl;go_wp2_with fail;exact bodyPost_ret (zq O rfl _ _ _) rfl ⟨by rw[E.out],O.done _ _ _⟩
 have d8:decide ((128:Int)<l.length)=false:=dF (by omega);have aH:decide (128<l.length)=false:=dF I;have E0:Hid (BN F true l=zm F [] l):=Yh rfl I;clear I O;rw[E0.out];have aV:=@run_makeMap prog;go_in;go_wp2_with fail;refine mb (hI _) ?_;rintro w' rfl;go_wp2_with fail;clear aV ae d8 aH hI;rw[Z0.out];go_loopw [25] (fun i wr=>∃ (k:Nat) (f:BA->Option Value),k<=l.length/\i=.int .i64 k/\Hid (zm F [] l=zm F (l.take k) (l.drop k))/\Hid (MC w wr (qT l k []) f)) (fun i _=>l.length-(intOf i).toNat)
 case atStart=>exact⟨0,_,z0,rfl,rfl,fH (by simpa [qT] using M0.out)⟩
 case round=>
  clear M0 Z0;obtain⟨k,f,hk,rfl,HE,V⟩:=hrel;by_cases aq:k<l.length
  ·obtain⟨p,hp⟩:∃ p,l[k]?=some p:=⟨_,gG aq⟩
   have ao:p∈l:=gM hp;have HP:=fH hp;have R:=fH ao;clear hp ao;obtain⟨b,off,hA,he⟩:=(HD.row.below V.rc.bel).elem lk k p HP.out;obtain⟨e0,e1,e2,e3,e4,e5,e6,e7,e8⟩:=adC he;have al:=fun W=>gi (T:=22) (E:=38) (sz:=9) (c:=c) underlying22 rfl sizeOf38 hA aq W;have HA:=fH hA;clear hA he;have Ra:=fH (V.step (bR.alloc lr (.cells #[.string p.nm,.string p.ver,.string p.ar,.string p.sm,.slice p.na p.needs.length p.nc,.slice p.ba p.bars.length p.bc,.slice p.ga p.gives.length p.gc,.slice p.fa p.files.length p.fc,.slice p.sa p.scripts.length p.sc] 38)));have Ka:=fH (fV.new wr p.cells 38);obtain⟨W1,ad⟩:∃ W1,wr.alloc (.cells #[.string p.nm,.string p.ver,.string p.ar,.string p.sm,.slice p.na p.needs.length p.nc,.slice p.ba p.bars.length p.bc,.slice p.ga p.gives.length p.gc,.slice p.fa p.files.length p.fc,.slice p.sa p.scripts.length p.sc] 38)=W1:=⟨_,rfl⟩
   have Rb:Hid (MC w W1 (qT l k []) f):=by show MC _ W1 _ _;rw[<-ad];exact Ra.out
   have Kb:Hid (fV W1 wr.heap.size p.cells):=by show fV W1 _ _;rw[<-ad];exact Ka.out
   obtain⟨k0,k1,k2,k3,k4,k5,k6,k7,k8⟩:=cF9 Kb.cell;clear Ra Ka;have HC:=fH fun (W:World) (g:Bw w W) (h:p.ok W)=>aP.out p R W g h;obtain⟨⟨H,D⟩,hr⟩:∃ r,F p=r:=⟨_,rfl⟩
   have HQ:=fH hr;clear hr;rw[HQ.out] at HC;by_cases hc:¬ D=0
   ·rw[Yf _ _ hc] at HC;have q1:(D != 0)=true:=by simp[hc]
    have E:Hid (zm F [] l=(p.nm,H,D)):=by
     have h1:=Sx (pre:=l.take k) (p:=p) (ans:=(H,D)) hc;show _=_;rw[Kv HP.out HE.out (by rw[HQ.out,h1];exact hc),HQ.out,h1]
    clear hc;go_wp2_with fail;refine mb (HC W1 Rb.rc.bel ((HD.all p R).below Rb.rc.bel)) ?_;rintro w1 X;have R1:=fH ((Rb.step X).rc.alloc (.cells #[.string p.nm,.string H,.int .i64 D] 49));have K1:=fH (fV.new w1 [.string p.nm,.string H,.int .i64 D] 49);clear X e0 e1 e2 e3 e4 e5 e6 e7 e8 al k0 k1 k2 k3 k4 k5 k6 k7 k8 ad;obtain⟨U,M⟩:∃ U,w1.alloc (.cells #[.string p.nm,.string H,.int .i64 D] 49)=U:=⟨_,rfl⟩
    have K:Hid (RC w U):=by show RC w U;rw[<-M];exact R1.out
    have J:Hid (fV U w1.heap.size [.string p.nm,.string H,.int .i64 D]):=by show fV U _ _;rw[<-M];exact K1.out
    have k0:=J.cell 0 _ rfl;have k1:=J.cell 1 _ rfl;have k2:=J.cell 2 _ rfl;obtain⟨r0,r1,r2,Y,ab,Z⟩:=K.six;clear R1 K1;go_wp2_with fail;exact bodyPost_ret (zq K rfl _ _ _) rfl ⟨by rw[E.out];rfl,K.done _ _ _⟩
   obtain rfl:D=0:=Decidable.not_not.1 hc;clear hc;rw[Ye] at HC;have A0:Hid ((F p).2=0):=by show _=_;rw[HQ.out]
   go_wp2_with fail;clear ad;refine mb (HC W1 Rb.rc.bel ((HD.all p R).below Rb.rc.bel)) ?_;rintro w1 X;have R1:=fH ((Rb.step X).step (bR.alloc lr (.cells #[.string ⟨#[]⟩,.string ⟨#[]⟩,.int .i64 0] 49)));have K1:=fH ((Kb.below X).alloc (.cells #[.string ⟨#[]⟩,.string ⟨#[]⟩,.int .i64 0] 49));have aS:Hid (w.heap.size+2<=wr.heap.size):=V.sz;clear X e0 e1 e2 e3 e4 e5 e6 e7 e8 k0 k1 k2 k3 k4 k5 k6 k7 k8 HC al Rb Kb V;generalize wr.heap.size=pb at *;go_upto_region 12 with(fail)
   obtain⟨U,M⟩:∃ U,w1.alloc (.cells #[.string ⟨#[]⟩,.string ⟨#[]⟩,.int .i64 0] 49)=U:=⟨_,rfl⟩
   have K:Hid (MC w U (qT l k []) f):=by show MC _ U _ _;rw[<-M];exact R1.out
   have J:Hid (fV U pb p.cells):=by show fV U _ _;rw[<-M];exact K1.out
   rw[M];clear R1 K1 M;go_cut [49] (fun aM wx=>∃ bb:Bool,aM=.bool bb/\Hid (bb=!ud l k p)/\Hid (MC w wx (qT l k []) f)/\Hid (fV wx pb p.cells))
   case first=>
    by_cases k0:k=0
    ·have aW:decide (0<(k:Int))=false:=dF (by omega);have aO:decide (0<k)=false:=dF (by omega);have OB:Hid (false=!ud l k p):=by show _=_;rw[k0,IT];rfl
     clear k0;go_quiet (fail);go_wp2;go_meet;exact⟨false,rfl,OB,K.step (gh bR _),J.drewN _⟩
    ·have aW:decide (0<(k:Int))=true:=dT (by omega);have aO:decide (0<k)=true:=dT (by omega);have be:0<k:=by omega
     obtain⟨q,hq⟩:∃ q,l[k-1]?=some q:=⟨_,gG (by omega)⟩
     obtain⟨b2,aZ,ap,aE⟩:=(HD.row.below K.rc.bel).elem lk (k-1) q hq;have n0:=J.cell 0 _ rfl;have p0:=aE 0 _ rfl;simp only[Nat.add_zero] at p0;have bd:=fun W=>Ch (T:=22) (E:=38) (sz:=9) (c:=c) (i:=(k:Int)-1) underlying22 rfl sizeOf38 (by omega) ap (show k-1<l.length by omega) W;have OB:Hid ((Op.bytesLess p.nm.toList q.nm.toList||p.nm.toList==q.nm.toList)=!ud l k p):=by
      show _=_;have:=Ve (l:=l) (k:=k-1) p hq;rw[show k-1+1=k by omega] at this;rw[this];exact Ya p.nm q.nm
     have iw:IntKind.i64.wrap ((k:Int)-1)=(k:Int)-1:=IntWalk.i64_in _ (by omega);clear hq aE ap k0;go_quiet (fail);go_wp2;go_meet;exact⟨_,rfl,OB,K.step (gh bR _),J.drewN _⟩
   case rest=>
   clear K J;obtain⟨bb,rfl,ah,aa,af⟩:=hcut;cases bb
   case true=>
    have HO:Hid (ud l k p=false):=by have:=ah.out;show _=_;revert this;cases ud l k p<;>simp
    have E:Hid (zm F [] l=(p.nm,⟨#[110,97,109,101]⟩,15)):=by
     have h1:=aat (ans:=F p) A0 HO.out;show _=_;rw[Kv HP.out HE.out (by rw[h1];simp),h1]
    have n0:=af.cell 0 _ rfl;obtain⟨r0,r1,r2,Y,ab,Z⟩:=aa.rc.six;go_wp2_with fail;exact bodyPost_ret (zq aa.rc rfl _ _ _) rfl ⟨by rw[E.out];rfl,aa.rc.done _ _ _⟩
   have HO:Hid (ud l k p=true):=by have:=ah.out;show _=_;revert this;cases ud l k p<;>simp
   clear ah;have aQ:Hid ((lw p.files).Pairwise (fun s t=>bl s<bl t)):=Ng (fmt:=fmt) (aL p R A0);have fl:=(HS p R).1;have n7:=af.cell 7 _ rfl;go_wp2_with fail;clear n7;go_loopw [56] (fun i wr=>∃ (m:Nat) (f:BA->Option Value),m<=p.files.length/\i=.int .i64 m/\Hid (∀ y∈p.files.take m,conf (l.take k) y=false)/\Hid (MC w wr (qT l k (p.files.take m)) f)/\Hid (fV wr pb p.cells)) (fun i _=>p.files.length-(intOf i).toNat)
   case atStart=>exact⟨0,f,z0,rfl,by simp[Hid],aa,af⟩
   case round=>
    clear aa af;obtain⟨m,f,hm,rfl,HN,V,HK⟩:=hrel;by_cases ax:m<p.files.length
    ·obtain⟨x,hx⟩:∃ x,p.files[m]?=some x:=⟨_,gG ax⟩
     have au:Hid (x.path.size<=maxLen):=by
      have:=((HS p R).2 x (gM hx))
      show _<=_;unfold maxLen;omega
     obtain⟨b',aY,aF,an⟩:=((HD.all p R).below V.rc.bel).files.elem rG m x hx;obtain⟨f0,f1,f2,f3,f4,f5,f6,f7⟩:=adi an;have aD:=fun W=>gi (T:=35) (E:=57) (sz:=8) (c:=p.fc) underlying35 rfl sizeOf57 aF ax W;have HX:=fH hx;clear hx aF an;obtain⟨W3,ak⟩:∃ W3,wr.alloc (.cells #[.string x.path,.int .i64 x.kind,.int .i64 x.mode,.string x.owner,.string x.group,.string x.link,.string x.sum,.bool x.conf] 57)=W3:=⟨_,rfl⟩
     have B3:Hid (Bw wr W3):=by rw[<-ak];exact bR.alloc lr _
     have K3:Hid (fV W3 wr.heap.size x.cells):=by rw[<-ak];exact fV.new wr x.cells _
     obtain⟨W4,ag⟩:∃ W4,W3.alloc (.cells #[.int .i64 x.kind,.int .i64 x.mode,.string x.owner,.string x.group,.string x.link] 96)=W4:=⟨_,rfl⟩
     have B4:Hid (Bw W3 W4):=by rw[<-ag];exact bR.alloc lr _
     have S4:Hid (fV W4 W3.heap.size [.int .i64 x.kind,.int .i64 x.mode,.string x.owner,.string x.group,.string x.link]):=by rw[<-ag];exact fV.new W3 [.int .i64 x.kind,.int .i64 x.mode,.string x.owner,.string x.group,.string x.link] _
     have M4:=fH ((V.step B3).step B4);have P4:=fH ((HK.below B3).below B4);have X4:=fH (K3.below B4);obtain⟨z,there,aN,aC,aB⟩:=M4.look x.path au.out;have aG:=fH aC;have av:=fH aB;clear aC aB;obtain⟨g0,g1,g2,g3,g4,g5⟩:=cF6 K3.cell;have v0:=X4.cell 0 _ rfl;obtain⟨W5,ai⟩:∃ W5,W4.alloc (.cells #[.int .i64 z.kind,.int .i64 z.mode,.string z.owner,.string z.group,.string z.link] 96)=W5:=⟨_,rfl⟩
     have B5:Hid (Bw W4 W5):=by rw[<-ai];exact bR.alloc lr _
     have Z5:Hid (fV W5 W4.heap.size [.int .i64 z.kind,.int .i64 z.mode,.string z.owner,.string z.group,.string z.link]):=by rw[<-ai];exact fV.new W4 [.int .i64 z.kind,.int .i64 z.mode,.string z.owner,.string z.group,.string z.link] _
     go_upto_region 19 with(fail)
     have M5:=fH (M4.step B5);have P5:=fH (P4.below B5);have X5:=fH (X4.below B5);have S5:=fH (S4.below B5);have bf:Hid (w.heap.size+2<=wr.heap.size/\pb<wr.heap.size):=⟨V.sz,HK.sz⟩
     clear f0 f1 f2 f3 f4 f5 f6 f7 g0 g1 g2 g3 g4 g5 v0 aD aN ak ag ai M4 P4 X4 S4 B3 B4 B5 K3 V HK;generalize wr.heap.size=xb at *;generalize W3.heap.size=sb at *;generalize W4.heap.size=zb at *;go_cut [83] (fun aT wx=>∃ bb:Bool,aT=.bool bb/\Hid (bb=conf (l.take k) x)/\Hid (bb=false->f x.path=none\/f x.path=some (OY x))/\wx=W5)
     case first=>
      have nq:=fun W=>Qx z x W;obtain⟨u0,u1,u2,u3,u4⟩:=rF Z5.cell;obtain⟨v0,v1,v2,v3,v4⟩:=rF S5.cell;cases there
      ·have C0:Hid (false=conf (l.take k) x):=(M5.inv.fresh (aG (by trivial))).symm;go_wp2;go_meet;exact⟨false,rfl,C0,fun _=>.inl (aG.out (by trivial)),rfl⟩
      ·cases hzx:uc z x
       ·have C0:Hid (true=conf (l.take k) x):=(M5.inv.other (av (by trivial)) (fun e=>by rw[(sR z x).2 e] at hzx;cases hzx) (Vg aQ HX)).symm;rw[hzx] at nq;clear hzx;go_wp2;go_meet;exact⟨true,rfl,C0,(fun h=>by cases h),rfl⟩
       ·have C1:Hid (f x.path=some (OY x)):=by show _=_;rw[av.out (by trivial),(sR z x).1 hzx]
        have C0:Hid (false=conf (l.take k) x):=(M5.inv.same C1).symm;rw[hzx] at nq;clear hzx;go_wp2;go_meet;exact⟨false,rfl,C0,fun _=>.inr C1.out,rfl⟩
     case rest=>
     obtain⟨bb,rfl,aA,aU,rfl⟩:=hcut;have x0:=X5.cell 0 _ rfl;cases bb
     case true=>
      have E:Hid (zm F [] l=(p.nm,x.path,8)):=by
       have h1:=Yd (ans:=F p) A0 HO HX HN aA.out.symm;show _=_;rw[Kv HP.out HE.out (by rw[h1];simp),h1]
      have n0:=P5.cell 0 _ rfl;obtain⟨r0,r1,r2,Y,ab,Z⟩:=M5.rc.six;go_wp2_with fail;exact bodyPost_ret (zq M5.rc rfl _ _ _) rfl ⟨by rw[E.out];rfl,M5.rc.done _ _ _⟩
     obtain⟨v0,v1,v2,v3,v4⟩:=rF S5.cell;have aX:=Nf l k p m HP.out;have aI:Hid (Bm l<=10000000):=aR;obtain⟨w6,ac,az,aj⟩:=M5.map.put underlying93 (by have:=aI.out;unfold maxLen;omega) x.path au (OY x);have M6:=fH (M5.put (aU rfl) az aj);have P6:=fH (P5.grownC aj (by have:=aS.out;omega));unfold OY at ac;clear az aj aX;go_wp2_with fail;clear ac v0 v1 v2 v3 v4 x0;go_roundw
     case rel=>exact⟨m+1,_,by omega,by go_num,fH (fun z hz=>by
      obtain⟨aJ,aK⟩:=gS HX.out;rw[tS aJ,aK] at hz;rcases List.mem_append.1 hz with hz | hz
      ·exact HN.out z hz
      ·rw[List.mem_singleton.1 hz];exact aA.out.symm),fH (by rw[Vf l k HX.out];exact M6.out),P6⟩
     case measure=>simp[intOf];omega
    ·have F:Hid ((LD (F p) (l.take k) p).2.2=0):=by
      show _=_;rw[Ne A0.out HO.out (fun y hy=>HN.out y (by rw[tL (by omega)];exact hy))]
     have CN:Hid (qT l (k+1) []=qT l k (p.files.take m)):=by show _=_;rw[IU HP.out,tL (by omega)]
     go_wp2;go_roundw
     case rel=>exact⟨k+1,f,by omega,by go_num,fH (Yc HP HE F),fH (by rw[CN.out];exact V.out)⟩
     case measure=>simp[intOf];omega
  ·have E:=fH (aas (ans:=F) (l:=l) (k:=k) (by omega) HE);obtain⟨r0,r1,r2,Y,ab,Z⟩:=V.rc.six;go_wp2_with fail;exact bodyPost_ret (zq V.rc rfl _ _ _) rfl ⟨by rw[E.out];rfl,V.rc.done _ _ _⟩
end
section
open Go.RowKit
theorem qN (fmt:Int)(s:BA)(w:World)(hs:s.size<=9223372036854775807):Calls prog 52 #[.int .i64 fmt,.string s] w fun e w'=>e=.returned (.bool (lU fmt s))/\w=w':=by
 by_cases h1:s.size<1
 ·have E:Hid (lU fmt s=false):=by show _=_;unfold lU;rw[dF];rfl
  go_in;go_wp2;go_ret;exact⟨fJ E.out.symm,rfl⟩
 by_cases h2:31<s.size
 ·have E:Hid (lU fmt s=false):=by show _=_;unfold lU;rw[dF];rfl
  go_in;go_wp2;go_ret;exact⟨fJ E.out.symm,rfl⟩
 by_cases V:fmt=3
 ·subst V;have E:Hid (lU 3 s=Xd s):=by show _=_;unfold lU;rw[dT,if_pos rfl];rfl
  unfold Xd at E;cases g1:(s.toList == [114,111,111,116])
  ·have Y:Hid (decide (bl s=[114,111,111,116])=false):=by show _=_;rw[<-xf];exact g1
   go_in;go_wp2_with fail;refine mb (pf s _ hs) ?_;rintro w' rfl;unfold oF;by_cases F:mh (bl s)=0
   ·by_cases g3:1<=jF (bl s)
    ·have R:(mh (bl s)==0)=true:=by simpa using F
     have I:Hid (lU 3 s=decide (jF (bl s)<=2097151)):=by show _=_;rw[E.out,Y.out,dT F,dT g3];rfl
     clear F;go_wp2;go_ret;exact⟨fJ (by rw[I.out]),rfl⟩
    ·have R:(mh (bl s)==0)=true:=by simpa using F
     have I:Hid (lU 3 s=false):=by show _=_;rw[E.out,Y.out,dF g3];simp
     clear F;go_wp2;go_ret;exact⟨fJ (by rw[I.out]),rfl⟩
   ·have R:(mh (bl s)==0)=false:=by simpa using F
    have I:Hid (lU 3 s=false):=by show _=_;rw[E.out,Y.out,dF F];simp
    clear F;go_wp2;go_ret;exact⟨fJ (by rw[I.out]),rfl⟩
  ·have I:Hid (lU 3 s=true):=by show _=_;rw[E.out,<-xf,g1];rfl
   go_in;go_wp2_with fail;refine mb (pf s _ hs) ?_;rintro w' rfl;unfold oF;go_wp2;go_ret;exact⟨fJ (by rw[I.out]),rfl⟩
 ·have af:(fmt==3)=false:=by simpa using V
  have E:Hid (lU fmt s=nR s):=by show _=_;unfold lU;rw[dT,if_neg V];rfl
  clear V;go_in;go_wp2;go_loop [41] (fun i=>∃ k:Nat,k<=s.size/\i=.int .i64 k/\Hid (∀ j (h:j<s.size),j<k->qt j s[j]=true)) (fun i=>s.size-(intOf i).toNat)
  case atStart=>exact⟨0,z0,rfl,fH (fun j h hj=>by omega)⟩
  case round=>
   obtain⟨k,hk,rfl,O⟩:=hrel;by_cases z:k<s.size
   ·by_cases a1:97<=s[k].toNat
    ·by_cases a2:s[k].toNat<=122
     ·skip
      have D:Hid (qt k s[k]=true):=dT (by omega);go_wp2;go_round
      case rel=>exact⟨k+1,by omega,by go_num,fH (pg z O D)⟩
      case measure=>simp[intOf];omega
     ·have Z:decide ((s[k].toNat:Int)<=122)=false:=dF (by omega);have U:((s[k].toNat:Int)==95)=false:=nz (by omega:¬ s[k].toNat=95);have M:((s[k].toNat:Int) != 45)=true:=Cg (by omega:¬ s[k].toNat=45);have ac:57<s[k].toNat:=by omega
      have D:Hid (nR s=false):=qY z dF;by_cases H:k=0
      ·have X:((k:Int)==0)=true:=oG H;clear H;go_wp2;go_ret;exact⟨fJ (by rw[E.out,D.out]),rfl⟩
      ·have X:((k:Int)==0)=false:=nz H;have ae:decide ((s[k].toNat:Int)<48)=false:=dF (by omega);have ab:decide (57<(s[k].toNat:Int))=true:=dT (by omega);clear H;go_wp2;go_ret;exact⟨fJ (by rw[E.out,D.out]),rfl⟩
    ·by_cases K:s[k].toNat=95
     ·have U:((s[k].toNat:Int)==95)=true:=oG K;have D:Hid (qt k s[k]=true):=dT (by omega);clear K;go_wp2;go_round
      case rel=>exact⟨k+1,by omega,by go_num,fH (pg z O D)⟩
      case measure=>simp[intOf];omega
     ·skip
      have U:((s[k].toNat:Int)==95)=false:=nz K;by_cases H:k=0
      ·have X:((k:Int)==0)=true:=oG H;have D:Hid (nR s=false):=qY z dF;clear H;go_wp2;go_ret;exact⟨fJ (by rw[E.out,D.out]),rfl⟩
      have X:((k:Int)==0)=false:=nz H;by_cases J:s[k].toNat=45
      ·have M:((s[k].toNat:Int) != 45)=false:=Sj J;have D:Hid (qt k s[k]=true):=dT (by omega);clear J;go_wp2;go_round
       case rel=>exact⟨k+1,by omega,by go_num,fH (pg z O D)⟩
       case measure=>simp[intOf];omega
      have M:((s[k].toNat:Int) != 45)=true:=Cg J;by_cases ad:s[k].toNat<48
      ·skip
       have D:Hid (nR s=false):=qY z dF;go_wp2;go_ret;exact⟨fJ (by rw[E.out,D.out]),rfl⟩
      by_cases aa:57<s[k].toNat
      ·skip
       have D:Hid (nR s=false):=qY z dF;go_wp2;go_ret;exact⟨fJ (by rw[E.out,D.out]),rfl⟩
      ·skip
       have D:Hid (qt k s[k]=true):=dT (by omega);go_wp2;go_round
       case rel=>exact⟨k+1,by omega,by go_num,fH (pg z O D)⟩
       case measure=>simp[intOf];omega
   ·have HE:Hid (nR s=true):=dT (fun j h=>O.out j h (by omega));go_wp2;go_ret;exact⟨fJ (by rw[E.out,HE.out]),rfl⟩
theorem zR (fmt:Int)(O:fmt=1\/fmt=2\/fmt=3)(s:BA)(w:World)(J:s.size<=9223372036854775807):Calls prog 39 #[.int .i64 fmt,.string s] w fun e w'=>e=.returned (.bool (wP fmt s))/\Bw w w':=by
 have key:∀ n:Nat,Pj fmt=n->wP fmt s=(decide (s.size=n)&&GH (bl s)):=fun n R=>by unfold wP;rw[R]
 rcases O with rfl | rfl | rfl
 ·have K:=fH (key 32 (by decide));clear key;by_cases z:s.size=32
  ·have D:((s.size:Int)==32)=true:=oG z;have E:Hid (wP 1 s=GH (bl s)):=by show _=_;rw[K.out,dT z];rfl
   clear z;go_in;go_wp2_with fail;refine(rJ s _ J).mono ?_;rintro e M ⟨⟨t,rfl,ht⟩,F⟩;have I:=fH ht;have H:=fH F;clear ht F;go_wp2;go_ret;exact⟨fJ (by rw[E.out];exact I.out),H⟩
  ·have D:((s.size:Int)==32)=false:=nz z;have E:Hid (wP 1 s=false):=by show _=_;rw[K.out,dF z];rfl
   clear z;go_in;go_wp2;go_ret;exact⟨fJ (by rw[E.out]),bR⟩
 ·have K:=fH (key 64 (by decide));clear key;by_cases z:s.size=64
  ·have D:((s.size:Int)==64)=true:=oG z;have E:Hid (wP 2 s=GH (bl s)):=by show _=_;rw[K.out,dT z];rfl
   clear z;go_in;go_wp2_with fail;refine(rJ s _ J).mono ?_;rintro e M ⟨⟨t,rfl,ht⟩,F⟩;have I:=fH ht;have H:=fH F;clear ht F;go_wp2;go_ret;exact⟨fJ (by rw[E.out];exact I.out),H⟩
  ·have D:((s.size:Int)==64)=false:=nz z;have E:Hid (wP 2 s=false):=by show _=_;rw[K.out,dF z];rfl
   clear z;go_in;go_wp2;go_ret;exact⟨fJ (by rw[E.out]),bR⟩
 ·have K:=fH (key 40 (by decide));clear key;by_cases z:s.size=40
  ·have D:((s.size:Int)==40)=true:=oG z;have E:Hid (wP 3 s=GH (bl s)):=by show _=_;rw[K.out,dT z];rfl
   clear z;go_in;go_wp2_with fail;refine(rJ s _ J).mono ?_;rintro e M ⟨⟨t,rfl,ht⟩,F⟩;have I:=fH ht;have H:=fH F;clear ht F;go_wp2;go_ret;exact⟨fJ (by rw[E.out];exact I.out),H⟩
  ·have D:((s.size:Int)==40)=false:=nz z;have E:Hid (wP 3 s=false):=by show _=_;rw[K.out,dF z];rfl
   clear z;go_in;go_wp2;go_ret;exact⟨fJ (by rw[E.out]),bR⟩
theorem wI (fmt n:Int)(z:fmt=1\/fmt=2\/fmt=3)(w:World):Calls prog 55 #[.int .i64 fmt,.int .i64 n] w fun e w'=>e=.returned (.bool (zk fmt n))/\w=w':=by
 by_cases D:1<=n
 ·by_cases H:n<=4
  ·have E:Hid (zk fmt n=true):=dT (.inl ⟨D,H⟩);have O:decide (n<=4)=true:=dT H;have M:decide (n<=6)=true:=dT (by omega);have J:decide (1<=n)=true:=dT D;rcases z with rfl | rfl | rfl
   all_goals
    go_in;go_wp2;go_ret;exact⟨fJ (by rw[E.out]),rfl⟩
  ·have O:decide (n<=4)=false:=dF H;have J:decide (1<=n)=true:=dT D;rcases z with rfl | rfl | rfl
   ·by_cases F:n=7
    ·have E:Hid (zk 1 n=true):=dT (by omega);have K:(n==7)=true:=by simpa using F
     clear F;go_in;go_wp2;go_ret;exact⟨fJ (by rw[E.out]),rfl⟩
    ·have E:Hid (zk 1 n=false):=dF (by omega);have K:(n==7)=false:=by simpa using F
     clear F;go_in;go_wp2;go_ret;exact⟨fJ (by rw[E.out]),rfl⟩
   ·have E:Hid (zk 2 n=false):=dF (by omega);go_in;go_wp2;go_ret;exact⟨fJ (by rw[E.out]),rfl⟩
   ·by_cases I:n<=6
    ·have E:Hid (zk 3 n=true):=dT (by omega);have M:decide (n<=6)=true:=dT I;go_in;go_wp2;go_ret;exact⟨fJ (by rw[E.out]),rfl⟩
    ·have E:Hid (zk 3 n=false):=dF (by omega);have M:decide (n<=6)=false:=dF I;go_in;go_wp2;go_ret;exact⟨fJ (by rw[E.out]),rfl⟩
 ·have E:Hid (zk fmt n=false):=dF (by omega);have J:decide (1<=n)=false:=dF D;have K:(n==7)=false:=by simp;omega
  rcases z with rfl | rfl | rfl
  all_goals
   go_in;go_wp2;go_ret;exact⟨fJ (by rw[E.out]),rfl⟩
theorem H8 (x:fP)(w:World):(binOp .neq 78 (.agg #[.string x.nm,.int .i64 x.op,.string x.ver]) (.agg #[.string x.nm,.int .i64 x.op,.string x.ver])).run prog w=.ok (.bool false) w:=by
 go_simp
theorem H9 (A B:OA)(c d:Nat)(l:List fP)(w:World)(O:Rd w 3 A l.length (l.flatMap fP.cells))(M:Rd w 3 B l.length (l.flatMap fP.cells))(hl:l.length<=1000000):Calls prog 28 #[.slice A l.length c,.slice B l.length d] w fun e w'=>e=.returned (.bool true)/\Bw w w':=by
 have Y:=fH O;have Z:=fH M;clear O M;have q:((l.length:Int) != (l.length:Int))=false:=by simp
 go_in;go_wp2;go_loopw [5] (fun i wr=>∃ k:Nat,k<=l.length/\i=.int .i64 k/\Hid (Bw w wr)) (fun i _=>l.length-(intOf i).toNat)
 case atStart=>exact⟨0,z0,rfl,bR⟩
 case round=>
  obtain⟨k,hk,rfl,J⟩:=hrel;by_cases z:k<l.length
  ·obtain⟨x,K⟩:∃ x,l[k]?=some x:=⟨_,gG z⟩
   obtain⟨b1,o1,D,I⟩:=(Y.below J).elem kt k x K;obtain⟨b2,o2,F,H⟩:=(Z.below J).elem kt k x K;obtain⟨U,e1,e2⟩:=qj I;obtain⟨X,f1,f2⟩:=qj H;simp only[Nat.add_zero] at U X;have R:=fun W=>gi (T:=34) (E:=78) (sz:=3) (c:=c) underlying34 rfl sizeOf78 D z W;have V:=fun W=>gi (T:=34) (E:=78) (sz:=3) (c:=d) underlying34 rfl sizeOf78 F z W;have nq:=fun W=>H8 x W;clear K D F I H;go_wp2;go_quiet (fail);go_wp2;go_roundw
   case rel=>exact⟨k+1,by omega,by go_num,gh J _⟩
   case measure=>simp[intOf];omega
  ·go_wp2;go_ret;exact⟨rfl,J⟩
end
end Go.Proofs.YtkmjcombhjombaaGreatDoor
