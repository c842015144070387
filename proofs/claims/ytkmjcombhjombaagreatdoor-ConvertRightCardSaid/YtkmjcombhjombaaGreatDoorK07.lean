/- A part of the proof. -/
import Derived.Test.YtkmjcombhjombaaGreatDoorK04
import Derived.Test.YtkmjcombhjombaaGreatDoorK05
set_option maxRecDepth 100000
set_option maxHeartbeats 20000000
set_option linter.unusedVariables false
set_option linter.unusedSimpArgs false
namespace Go.Proofs.YtkmjcombhjombaaGreatDoor
variable{fmt:Int}{k:Nat}{c:UInt8}
section
open Go.RowKit
def vL (l:List jn):Nat:=(l.map fun p=>1+sW p).sum
theorem Va (l:List jn)(k:Nat)(x:jn)(h:l[k]?=some x):vL (l.take (k+1))=vL (l.take k)+1+sW x:=by
 obtain⟨y,z⟩:=gS h;unfold vL;rw[tS y,List.map_append,List.sum_append,z];simp;omega
def RU (l:List jn)(count:Nat)(most:Int)(e:Ending):Prop:=∃ b:Bool,e=.returned (.bool b)/\(b=true->l.length<=count/\(vL l:Int)<=most)
theorem R9 (A:Option Addr)(c:Nat)(l:List jn)(count:Nat)(hcnt:count<=1000)(most:Int)(h0:0<=most)(h1:most<=1000000)(w:World)(hd:tU w A l)(hf:∀ p∈l,p.fits)(hl:l.length<=9223372036854775807):Calls Tryz.prog 20 #[.slice A l.length c,.int .i64 count,.int .i64 most] w fun e w'=>RU l count most e/\Below w.heap.size w w':=by
 have V:=iV hd;clear hd;have HF:=iV hf;clear hf;by_cases hc:l.length<=count
 ·have Z:decide (count<l.length)=false:=by simp;omega
  go_in;go_upto_block 0 with(fail)
  go_cut [7] (fun Y wx=>∃ m:Int,Y=.int .i64 m/\0<=m/\m<=7*most+7/\Hid (m<=most->m=(vL l:Int))/\Hid (Below w.heap.size w wx))
  case first=>
   go_wp2;go_loopw [7,8] (fun n i wr=>∃ (k:Nat) (m:Int),k<=l.length/\i=.int .i64 k/\n=.int .i64 m/\0<=m/\m<=7*most+7/\Hid (m<=most->m=(vL (l.take k):Int))/\Hid (Below w.heap.size w wr)) (fun _ i _=>l.length-(intOf i).toNat)
   case atStart=>exact⟨0,0,z0,rfl,rfl,by omega,by omega,(fun h=>by simp[vL]),bR⟩
   case round=>
    obtain⟨k,m,hk,rfl,rfl,K,J,I,z⟩:=hrel;by_cases F:k<l.length
    ·by_cases hm:m<=most
     ·obtain⟨x,H⟩:∃ x,l[k]?=some x:=⟨_,gG F⟩
      have D:x∈l:=gM H;obtain⟨b,off,X,y⟩:=(V.out.row.below z.out).elem mX k x H;have R:=y 0 _ rfl;have e1:=y 1 _ rfl;have e2:=y 2 _ rfl;have e3:=y 3 _ rfl;have e4:=y 4 _ rfl;have e5:=y 5 _ rfl;have e6:=y 6 _ rfl;have e7:=y 7 _ rfl;have e8:=y 8 _ rfl;simp only[Nat.add_zero] at R;clear y;have N:=fun W=>jm (T:=22) (E:=38) (sz:=9) (c:=c) Tryz.underlying22 rfl Tryz.sizeOf38 X F W;have HX:=iV H;have HW:=iV (Va l k x H);have O:=iV D;clear H X D;go_wp2_with fail;refine(NB x most h0 h1 _ ((V.out.all x O.out).below z.out) (HF.out x O.out)).mono ?_;rintro e w1 ⟨⟨q,rfl,q0,q1,U⟩,M⟩;have Q2:=iV U;clear U;clear R e1 e2 e3 e4 e5 e6 e7 e8 N;go_wp2_with fail;have F1:Hid (m+1+q<=most->m+1+q=(vL (l.take (k+1)):Int)):=by
       intro h;rw[HW.out];have:=I.out hm;have:=Q2.out (by omega);omega
      go_roundw
      case rel=>exact⟨k+1,_,by omega,by go_num,rfl,by omega,by omega,F1,jc z.out M⟩
      case measure=>simp[intOf];omega
     ·go_wp2;go_meet;exact⟨m,rfl,K,J,(fun h=>by omega),z⟩
    ·go_wp2;go_meet;exact⟨m,rfl,K,J,(fun h=>by rw[I.out h,tL (by omega)]),z⟩
  case rest=>
   obtain⟨m,rfl,K,J,I,z⟩:=hcut;go_wp2;go_ret;exact⟨⟨_,rfl,fun hb=>⟨hc,by have h:=dO hb;have:=I.out h;omega⟩⟩,z.out⟩
 ·go_in;go_wp2;go_ret;exact⟨⟨false,rfl,fun h=>by cases h⟩,bR⟩
theorem QG (l:List BA):∀ u∈strCells l,u.oneCell'=true:=by
 intro u y;simp only[strCells,List.mem_map] at y;obtain⟨x,_,rfl⟩:=y;rfl
theorem xJ {α:Type}{f:α->List Value}(hf:∀ x,∀ u∈f x,u.oneCell'=true)(l:List α):∀ u∈l.flatMap f,u.oneCell'=true:=by
 intro u y;simp only[List.mem_flatMap] at y;obtain⟨x,_,h⟩:=y;exact hf x u h
theorem Vc (x:jf):∀ u∈x.cells,u.oneCell'=true:=by intro u y;simp only[jf.cells,List.mem_cons,List.not_mem_nil,or_false] at y;rcases y with rfl | rfl | rfl<;>rfl
theorem Vd (x:jg):∀ u∈x.cells,u.oneCell'=true:=by intro u y;simp only[jg.cells,List.mem_cons,List.not_mem_nil,or_false] at y;rcases y with rfl | rfl | rfl | rfl | rfl | rfl | rfl | rfl<;>rfl
theorem NI (x:jy):∀ u∈x.cells,u.oneCell'=true:=by intro u y;simp only[jy.cells,List.mem_cons,List.not_mem_nil,or_false] at y;rcases y with rfl | rfl<;>rfl
theorem Ve (x:jn):∀ u∈x.cells,u.oneCell'=true:=by intro u y;simp only[jn.cells,List.mem_cons,List.not_mem_nil,or_false] at y;rcases y with rfl | rfl | rfl | rfl | rfl | rfl | rfl | rfl | rfl<;>rfl
structure jn.few (p:jn):Prop where
 needs:p.needs.length<=100000
 bars:p.bars.length<=100000
 gives:p.gives.length<=100000
 files:p.files.length<=100000
 scripts:p.scripts.length<=100000
def Vf (l:List jn)(w:World)(e:Ending)(w':World):Prop:=
 ∃ (A:Option Addr)(c g0:Nat)(l':List jn),e=.returned (.slice A l.length c)/\l'.length=l.length/\(∀ (i:Nat)(p q:jn),l[i]?=some p->l'[i]?=some q->p.alike q)/\aaW w' w.heap.size g0 (.slice A l.length c) l'/\Below w.heap.size w w'
theorem NJ (A:Option Addr)(c:Nat)(l:List jn)(w:World)(hd:tU w A l)(hl:l.length<=100000)(hf:∀ p∈l,p.few):Calls Tryz.prog 25 #[.slice A l.length c] w (Vf l w):=by
 have HD:=iV hd;clear hd;have HF:=iV hf;clear hf;go_in;go_wp2_with fail;refine(F9 A l.length c _ _ HD.out.row (xJ Ve l) hl).mono ?_;rintro e w1 ⟨v,rfl,Y,af⟩;obtain⟨A0,c0,rfl⟩:=jk Y;have HO:=iV Y;clear Y;have HB:=iV af;clear af;by_cases hz:l=[]
 ·subst hz;go_wp2_with fail;refine wp_loop_rounds 1 ?_;rw[rounds_succ];go_wp2;go_ret;exact⟨A0,c0,0,[],rfl,rfl,(fun i p q hp hq=>by simp at hp),⟨HO.out,(fun h=>by simp at h),(fun q hq=>by simp at hq),.nil⟩,HB.out⟩
 ·have aj:0<l.length:=List.length_pos_iff.2 hz;clear hz;obtain⟨z,cap,hv,hg,aF⟩:=HO.out.form aj;obtain⟨rfl,rfl⟩:A0=some ⟨z,0,none⟩/\c0=cap:=by injection hv with h1 _ h2;exact⟨h1,h2⟩
  clear hv;go_wp2;go_loopw [10] (fun i wr=>∃ (k:Nat)(D:List jn),k<=l.length/\i=.int .i64 k/\Hid (D.length=k/\(∀ (i:Nat)(p q:jn),l[i]?=some p->D[i]?=some q->p.alike q)/\wr.ownsRow w.heap.size 38 9 (.slice (some ⟨z,0,none⟩) l.length c0) l.length ((D++l.drop k).flatMap jn.cells)/\((∀ q∈D,nT q wr (z+1))/\D.Pairwise QE)/\Below w.heap.size w wr)) (fun i _=>l.length-(intOf i).toNat)
  case atStart=>exact⟨0,[],z0,rfl,rfl,(fun i p q _ hq=>by simp at hq),(by simpa using HO.out),⟨(fun q hq=>by simp at hq),.nil⟩,HB.out⟩
  case round=>
   obtain⟨k,D,hk,rfl,HR⟩:=hrel;by_cases ac:k<l.length
   ·obtain⟨p,hp⟩:∃ p,l[k]?=some p:=⟨_,gG ac⟩
    have ab:p∈l:=gM hp;obtain⟨h1,h2,h3,h4,h5⟩:=HR.out;obtain⟨b,off,hA,Z⟩:=(HD.out.row.below h5).elem mX k p hp;have e0:=Z 0 _ rfl;have e1:=Z 1 _ rfl;have e2:=Z 2 _ rfl;have e3:=Z 3 _ rfl;have e4:=Z 4 _ rfl;have e5:=Z 5 _ rfl;have e6:=Z 6 _ rfl;have e7:=Z 7 _ rfl;have e8:=Z 8 _ rfl;simp only[Nat.add_zero] at e0;have aK:=fun W=>jm (T:=22) (E:=38) (sz:=9) (c:=c) Tryz.underlying22 rfl Tryz.sizeOf38 hA ac W;have F:l.drop k=p::l.drop (k+1):=by rw[List.drop_eq_getElem_cons ac];congr 1;exact(gS hp).2
    have aH:z<wr.heap.size:=(h3.lt z rfl).2;have aE:k*9+9<=l.length*9:=by omega
    rw[F] at h3;have O:=jn.ok.below ((HD.out.all p ab).below h5) (bR.alloc lr (.cells #[.string p.nm,.string p.ver,.string p.ar,.string p.sm,.slice p.na p.needs.length p.nc,.slice p.ba p.bars.length p.bc,.slice p.ga p.gives.length p.gc,.slice p.fa p.files.length p.fc,.slice p.sa p.scripts.length p.sc] 38));have few:=HF.out p ab;have H1:=iV h1;have H2:=iV h2;have R0:=iV h3;have H4:=iV h4;have H5:=iV h5;have aI:=iV F;have HP:=iV hp;have OK:=iV O;have X:=iV few;have aa:=iV ab;clear h1 h2 h3 h4 h5 F hp hA Z O few ab HR;have aJ:¬ z=wr.heap.size:=by omega
    have aG:¬ wr.heap.size=z:=by omega
    go_wp2_with fail;refine(GX p.na p.needs.length p.nc (strCells p.needs) _ (by exact OK.out.needs) (QG _) X.out.needs).mono ?_;rintro e w2 ⟨v1,rfl,o1,b1⟩;obtain⟨I,H,rfl⟩:=jk o1;have R1:=iV (jp (R0.out.alloc _) b1);have G1:=iV (kx (World.grownBy.refl (wr.alloc (.cells #[.string p.nm,.string p.ver,.string p.ar,.string p.sm,.slice p.na p.needs.length p.nc,.slice p.ba p.bars.length p.bc,.slice p.ga p.gives.length p.gc,.slice p.fa p.files.length p.fc,.slice p.sa p.scripts.length p.sc] 38)) (some z)) b1);have O1:=iV o1;have B1:=iV b1;clear o1 b1;have J:∀ j:Nat,w2.cell? ⟨wr.heap.size,j,none⟩=(wr.alloc (.cells #[.string p.nm,.string p.ver,.string p.ar,.string p.sm,.slice p.na p.needs.length p.nc,.slice p.ba p.bars.length p.bc,.slice p.ga p.gives.length p.gc,.slice p.fa p.files.length p.fc,.slice p.sa p.scripts.length p.sc] 38)).cell? ⟨wr.heap.size,j,none⟩:=fun j=>World.cell?_of_block (G1.out.block wr.heap.size (by simp) (by intro h;injection h with h;omega));have x1:w2.cell? ⟨wr.heap.size,5,none⟩=some _:=(J 5).trans (by simp;rfl);clear J;have y1:w2.cell? ⟨z,k*9+4,none⟩=some (.slice p.na p.needs.length p.nc):=by
     rw[R1.out.cellAt (k*9+4) (by omega)];exact ZX D (l.drop (k+1)) p k H1.out
    have z1:=R1.out.frozenAt (k*9+4);have au:=iV (R1.out.stored (k*9+4) (.slice I p.needs.length H)).1;have ak:=iV (ji G1.out (p:=⟨z,k*9+4,none⟩) (.inl rfl) (.slice I p.needs.length H));have ad:Hid (p.ok (w2.setCell ⟨z,k*9+4,none⟩ (.slice I p.needs.length H))):=Je (HD.out.all p aa.out) H5.out ((World.grownBy.refl wr (some z) |> fun h=>pB h _) |> fun h=>ja h ak.out) (by have:=H5.out.size;omega);go_wp2_with fail;refine(GX p.ba p.bars.length p.bc (strCells p.bars) _ (by exact(ad.out.bars)) (QG _) X.out.bars).mono ?_;rintro e w3 ⟨v2,rfl,o2,b2⟩;obtain⟨K,M,rfl⟩:=jk o2;have R2:=iV (jp au.out b2);have G2:=iV (kx ak.out b2);have O2:=iV o2;have B2:=iV b2;clear o2 b2;have J:∀ j:Nat,w3.cell? ⟨wr.heap.size,j,none⟩=(wr.alloc (.cells #[.string p.nm,.string p.ver,.string p.ar,.string p.sm,.slice p.na p.needs.length p.nc,.slice p.ba p.bars.length p.bc,.slice p.ga p.gives.length p.gc,.slice p.fa p.files.length p.fc,.slice p.sa p.scripts.length p.sc] 38)).cell? ⟨wr.heap.size,j,none⟩:=fun j=>World.cell?_of_block (G2.out.block wr.heap.size (by simp) (by intro h;injection h with h;omega));have x2:w3.cell? ⟨wr.heap.size,6,none⟩=some _:=(J 6).trans (by simp;rfl);clear J;have y2:w3.cell? ⟨z,k*9+5,none⟩=some (.slice p.ba p.bars.length p.bc):=by
     rw[R2.out.cellAt (k*9+5) (by omega)];exact ZY D (l.drop (k+1)) p k H1.out (.slice I p.needs.length H)
    have z2:=R2.out.frozenAt (k*9+5);have az:=iV (R2.out.stored (k*9+5) (.slice K p.bars.length M)).1;have ah:=iV (ji G2.out (p:=⟨z,k*9+5,none⟩) (.inl rfl) (.slice K p.bars.length M));have al:Hid (p.ok (w3.setCell ⟨z,k*9+5,none⟩ (.slice K p.bars.length M))):=Je (HD.out.all p aa.out) H5.out ((World.grownBy.refl wr (some z) |> fun h=>pB h _) |> fun h=>ja h ah.out) (by have:=H5.out.size;omega);clear x1;go_wp2_with fail;refine(ND p.ga p.gives.length p.gc (p.gives.flatMap jf.cells) _ (by exact(al.out.gives)) (xJ Vc _) X.out.gives).mono ?_;rintro e w4 ⟨v3,rfl,o3,b3⟩;obtain⟨N,R,rfl⟩:=jk o3;have R3:=iV (jp az.out b3);have G3:=iV (kx ah.out b3);have O3:=iV o3;have B3:=iV b3;clear o3 b3;have J:∀ j:Nat,w4.cell? ⟨wr.heap.size,j,none⟩=(wr.alloc (.cells #[.string p.nm,.string p.ver,.string p.ar,.string p.sm,.slice p.na p.needs.length p.nc,.slice p.ba p.bars.length p.bc,.slice p.ga p.gives.length p.gc,.slice p.fa p.files.length p.fc,.slice p.sa p.scripts.length p.sc] 38)).cell? ⟨wr.heap.size,j,none⟩:=fun j=>World.cell?_of_block (G3.out.block wr.heap.size (by simp) (by intro h;injection h with h;omega));have x3:w4.cell? ⟨wr.heap.size,7,none⟩=some _:=(J 7).trans (by simp;rfl);clear J;have y3:w4.cell? ⟨z,k*9+6,none⟩=some (.slice p.ga p.gives.length p.gc):=by
     rw[R3.out.cellAt (k*9+6) (by omega)];exact ZZ D (l.drop (k+1)) p k H1.out (.slice I p.needs.length H) (.slice K p.bars.length M)
    have z3:=R3.out.frozenAt (k*9+6);have aC:=iV (R3.out.stored (k*9+6) (.slice N p.gives.length R)).1;have am:=iV (ji G3.out (p:=⟨z,k*9+6,none⟩) (.inl rfl) (.slice N p.gives.length R));have ae:Hid (p.ok (w4.setCell ⟨z,k*9+6,none⟩ (.slice N p.gives.length R))):=Je (HD.out.all p aa.out) H5.out ((World.grownBy.refl wr (some z) |> fun h=>pB h _) |> fun h=>ja h am.out) (by have:=H5.out.size;omega);clear x2;go_wp2_with fail;refine(NE p.fa p.files.length p.fc (p.files.flatMap jg.cells) _ (by exact(ae.out.files)) (xJ Vd _) X.out.files).mono ?_;rintro e w5 ⟨v4,rfl,o4,b4⟩;obtain⟨U,V,rfl⟩:=jk o4;have R4:=iV (jp aC.out b4);have G4:=iV (kx am.out b4);have O4:=iV o4;have B4:=iV b4;clear o4 b4;have J:∀ j:Nat,w5.cell? ⟨wr.heap.size,j,none⟩=(wr.alloc (.cells #[.string p.nm,.string p.ver,.string p.ar,.string p.sm,.slice p.na p.needs.length p.nc,.slice p.ba p.bars.length p.bc,.slice p.ga p.gives.length p.gc,.slice p.fa p.files.length p.fc,.slice p.sa p.scripts.length p.sc] 38)).cell? ⟨wr.heap.size,j,none⟩:=fun j=>World.cell?_of_block (G4.out.block wr.heap.size (by simp) (by intro h;injection h with h;omega));have x4:w5.cell? ⟨wr.heap.size,8,none⟩=some _:=(J 8).trans (by simp;rfl);clear J;have y4:w5.cell? ⟨z,k*9+7,none⟩=some (.slice p.fa p.files.length p.fc):=by
     rw[R4.out.cellAt (k*9+7) (by omega)];exact Z1 D (l.drop (k+1)) p k H1.out (.slice I p.needs.length H) (.slice K p.bars.length M) (.slice N p.gives.length R)
    have z4:=R4.out.frozenAt (k*9+7);have ao:=iV (R4.out.stored (k*9+7) (.slice U p.files.length V)).1;have ag:=iV (ji G4.out (p:=⟨z,k*9+7,none⟩) (.inl rfl) (.slice U p.files.length V));have ai:Hid (p.ok (w5.setCell ⟨z,k*9+7,none⟩ (.slice U p.files.length V))):=Je (HD.out.all p aa.out) H5.out ((World.grownBy.refl wr (some z) |> fun h=>pB h _) |> fun h=>ja h ag.out) (by have:=H5.out.size;omega);clear x3;go_wp2_with fail;refine(Jd p.sa p.scripts.length p.sc (p.scripts.flatMap jy.cells) _ (by exact(ai.out.scripts)) (xJ NI _) X.out.scripts).mono ?_;rintro e w6 ⟨v5,rfl,o5,b5⟩;obtain⟨a5,c5,rfl⟩:=jk o5;have R5:=iV (jp ao.out b5);have G5:=iV (kx ag.out b5);have O5:=iV o5;have B5:=iV b5;clear o5 b5;have J:∀ j:Nat,w6.cell? ⟨wr.heap.size,j,none⟩=(wr.alloc (.cells #[.string p.nm,.string p.ver,.string p.ar,.string p.sm,.slice p.na p.needs.length p.nc,.slice p.ba p.bars.length p.bc,.slice p.ga p.gives.length p.gc,.slice p.fa p.files.length p.fc,.slice p.sa p.scripts.length p.sc] 38)).cell? ⟨wr.heap.size,j,none⟩:=fun j=>World.cell?_of_block (G5.out.block wr.heap.size (by simp) (by intro h;injection h with h;omega));clear J;have y5:w6.cell? ⟨z,k*9+8,none⟩=some (.slice p.sa p.scripts.length p.sc):=by
     rw[R5.out.cellAt (k*9+8) (by omega)];exact Z3 D (l.drop (k+1)) p k H1.out (.slice I p.needs.length H) (.slice K p.bars.length M) (.slice N p.gives.length R) (.slice U p.files.length V)
    have z5:=R5.out.frozenAt (k*9+8);have ap:=iV (R5.out.stored (k*9+8) (.slice a5 p.scripts.length c5)).1;have av:=iV (ji G5.out (p:=⟨z,k*9+8,none⟩) (.inl rfl) (.slice a5 p.scripts.length c5));clear x4;go_wp2_with fail;have D5:=ji (World.grownBy.refl w6 (some z)) (p:=⟨z,k*9+8,none⟩) (.inl rfl) (.slice a5 p.scripts.length c5);have D4:=ja (kx (ji (World.grownBy.refl w5 (some z)) (p:=⟨z,k*9+7,none⟩) (.inl rfl) (.slice U p.files.length V)) B5.out) D5;have D3:=ja (kx (ji (World.grownBy.refl w4 (some z)) (p:=⟨z,k*9+6,none⟩) (.inl rfl) (.slice N p.gives.length R)) B4.out) D4;have D2:=ja (kx (ji (World.grownBy.refl w3 (some z)) (p:=⟨z,k*9+5,none⟩) (.inl rfl) (.slice K p.bars.length M)) B3.out) D3;have D1:=ja (kx (ji (World.grownBy.refl w2 (some z)) (p:=⟨z,k*9+4,none⟩) (.inl rfl) (.slice I p.needs.length H)) B2.out) D2;have GE:=ja (pB (World.grownBy.refl wr (some z)) _) av.out;have ax:=G1.out.size;have aq:=G2.out.size;have aA:=G3.out.size;have aB:=G4.out.size;have hq:nT { p with na:=I,nc:=H,ba:=K,bc:=M,ga:=N,gc:=R,fa:=U,fc:=V,sa:=a5,sc:=c5 } _ (z+1):=⟨jS (jK O1.out (by simp;omega)) (Nat.lt_succ_self _) D1,jS (jK O2.out (by simp at *;omega)) (Nat.lt_succ_self _) D2,jS (jK O3.out (by simp at *;omega)) (Nat.lt_succ_self _) D3,jS (jK O4.out (by simp at *;omega)) (Nat.lt_succ_self _) D4,jS (jK O5.out (by simp at *;omega)) (Nat.lt_succ_self _) D5⟩
    have F1:(D++[({ p with na:=I,nc:=H,ba:=K,bc:=M,ga:=N,gc:=R,fa:=U,fc:=V,sa:=a5,sc:=c5 }:jn)]).length=k+1:=by rw[List.length_append,H1.out];rfl
    have F2:=NH (q:={ p with na:=I,nc:=H,ba:=K,bc:=M,ga:=N,gc:=R,fa:=U,fc:=V,sa:=a5,sc:=c5 }) H1.out H2.out HP.out ⟨rfl,rfl,rfl,rfl,rfl,rfl,rfl,rfl,rfl⟩;have F3:=ap.out;rw[Vb D (l.drop (k+1)) p k H1.out I K N U a5 H M R V c5] at F3;have F4:=mP H5.out GE hg;have F5:∀ q∈D++[({ p with na:=I,nc:=H,ba:=K,bc:=M,ga:=N,gc:=R,fa:=U,fc:=V,sa:=a5,sc:=c5 }:jn)],nT q _ (z+1):=fun q aD=>(List.mem_append.1 aD).elim (fun h=>(H4.out.1 q h).kept (Nat.lt_succ_self _) GE) (fun h=>by rw[List.mem_singleton.1 h];exact hq);have F6:(D++[({ p with na:=I,nc:=H,ba:=K,bc:=M,ga:=N,gc:=R,fa:=U,fc:=V,sa:=a5,sc:=c5 }:jn)]).Pairwise QE:=by
     refine List.pairwise_append.2 ⟨H4.out.2,List.pairwise_singleton ..,fun x hx y hy=>?_⟩;rw[List.mem_singleton.1 hy];have an:=H4.out.1 x hx;exact⟨fun g g' h h'=>by have:=(an.gives.lt g h).2;have:=(O3.out.lt g' h').1;simp at *;omega,fun g g' h h'=>by have:=(an.files.lt g h).2;have:=(O4.out.lt g' h').1;simp at *;omega⟩
    have K6:=iV F6;clear F6;have K1:=iV F1;have K2:=iV F2;have K3:=iV F3;have K4:=iV F4;have K5:=iV F5;clear F1 F2 F3 F4 F5 hq D1 D2 D3 D4 D5 GE ax aq aA aB;go_roundw
    case rel=>exact⟨k+1,_,by omega,by go_num,K1.out,K2.out,K3.out,⟨K5.out,K6.out⟩,K4.out⟩
    case measure=>simp[intOf];omega
   ·go_wp2;go_ret;obtain⟨h1,h2,h3,h4,h5⟩:=HR.out;have ay:k=l.length:=by omega
    exact⟨_,_,z,D,rfl,by omega,h2,⟨by rw[List.drop_of_length_le (by omega),List.append_nil] at h3;rw[h1,ay];exact h3,fun _=>rfl,h4.1,h4.2⟩,h5⟩
def mQ (s:BA):List BA:=(lU (bl s)).map fun p=>(⟨p.toArray⟩:BA)
theorem AA (l:List BA):(l.map bl).map (fun p=>(⟨p.toArray⟩:BA))=l:=by
 rw[List.map_map];conv=>rhs;rw[<-List.map_id l]
 apply List.map_congr_left;intro a _;apply nH;simp[bl]
theorem vT (s:BA):Lib.splitB ⟨#[47]⟩ 0 (Lib.countB s ⟨#[47]⟩) s=mQ s:=by
 have h:=Lib.splitB_data ⟨#[47]⟩ 0 (Lib.countB s ⟨#[47]⟩) s;have y:Lib.countB s ⟨#[47]⟩=(bl s).count 47:=by
  show Lib.count _ _=_;exact Lib.count_one 47 (bl s)
 have z:(Lib.splitB ⟨#[47]⟩ 0 (Lib.countB s ⟨#[47]⟩) s).map bl=lU (bl s):=by
  refine Eq.trans h ?_;rw[y];exact vS _ (bl s) rfl
 unfold mQ;rw[<-z,AA]
theorem Sf (s:BA)(w:World)(hG:Gl w)(hs:s.size<=4294967280):Calls Tryz.prog 133 #[.string s,.string ⟨#[47]⟩] w fun e w'=>e=.returned (.slice (some ⟨w.heap.size,0,none⟩) (mQ s).length (mQ s).length)/\Rd w' 1 (some ⟨w.heap.size,0,none⟩) (mQ s).length (strCells (mQ s))/\Below w.heap.size w w':=by
 obtain⟨m,H⟩:=hG.ml;refine(Tryz.strings_Split s ⟨#[47]⟩ m w (by omega) H (by decide)).mono fun e w' ⟨D,z⟩=>?_;have y:(mQ s).length=Lib.countB s ⟨#[47]⟩+1:=by
  rw[<-vT];exact Lib.splitB_all ⟨#[47]⟩ (by decide) 0 _ s rfl
 rw[vT] at z;rw[y,z];refine⟨D,⟨by simp[strCells,y],fun _=>⟨_,0,rfl,fun j u F=>?_⟩⟩,bR.alloc lr _⟩;simpa [strCells] using F
theorem GY (s:BA)(w:World):Calls Tryz.prog 119 #[.string s,.string ⟨#[0]⟩] w fun e w'=>e=.returned (.bool ((bl s).contains 0))/\w=w':=
 (Tryz.strings_Contains_one s 0 w).mono fun e w' ⟨y,z⟩=>⟨by
  rw[y];congr 2;cases h:(bl s).contains 0
  ·have:=pj s 0 h;unfold Bk at this;simp only[bl] at this;simp;omega
  ·have:=pO s 0 h;unfold Bk at this;simp only[bl] at this;simpa using this,z.symm⟩
theorem GZ (w:World)(s:BA):oP (w.alloc (.cells #[.string s] 9)) (w.heap.size+1) 1 (some ⟨w.heap.size,0,none⟩) 1 [.string s]:=by
 refine⟨rfl,fun _=>⟨_,rfl,by simp,fun j u y=>?_⟩⟩;cases j with
 | zero=>simp at y;subst y;simp[Addr.add]
 | succ j=>simp at y
theorem xK (p:BA):Kz (bl p)=!(p.toList.isEmpty||p.toList == [46]||p.toList == [46,46]):=by
 rw[iY];unfold Kz;rw[bI];simp
theorem KC (s:BA)(k:Nat)(x:BA)(h:(mQ s)[k]?=some x):(lU (bl s))[k]?=some (bl x):=by
 unfold mQ at h;rw[List.getElem?_map] at h;obtain⟨p,y,rfl⟩:=Option.map_eq_some_iff.1 h;rw[y,pd]
theorem AC (s:BA):(mQ s).length=(lU (bl s)).length:=by simp[mQ]
theorem vU:∀ (l:LU),(lU l).length<=l.length+1
 | []=>by simp[lU]
 | c::r=>by
  have:=vU r;by_cases y:c=47
  ·rw[lU,if_pos y];simp;omega
  ·obtain⟨p,F,D,z⟩:=rJ y r;rw[D] at this;rw[z];simp at *;omega
theorem KE {α:Type}{p:α->Bool}{l:List α}{x:α}(h:l[k]?=some x)(h0:(l.take k).all p=true)(hx:p x=true):(l.take (k+1)).all p=true:=by
 obtain⟨y,z⟩:=gS h;rw[tS y,List.all_append,h0,z];simp[hx]
theorem tZ {α:Type}{p:α->Bool}{l:List α}{x:α}(h:l[k]?=some x)(hx:p x=false):l.all p=false:=by
 rw[List.all_eq_false];exact⟨x,gM h,by simp[hx]⟩
theorem wC (s:BA)(w:World)(hG:Gl w)(hs:s.size<=9223372036854775807):Calls Tryz.prog 115 #[.string s] w fun e w'=>e=.returned (.bool (rK (bl s)))/\Below w.heap.size w w':=by
 have O:=iV hG;clear hG;by_cases h1:s.size<1
 ·have E:Hid (rK (bl s)=false):=by show _=_;unfold rK;rw[iX,show decide (1<=s.size)=false from dF (by omega)];rfl
  go_in;go_wp2;go_ret;exact⟨iW E.out.symm,bR⟩
 by_cases V:200<s.size
 ·have E:Hid (rK (bl s)=false):=by show _=_;unfold rK;rw[iX,show decide (s.size<=200)=false from dF (by omega)];simp
  go_in;go_wp2;go_ret;exact⟨iW E.out.symm,bR⟩
 go_in;go_wp2_with fail;refine(GY _ _).mono ?_;rintro e w' ⟨rfl,rfl⟩;cases h0:(bl s).contains 0
 ·go_wp2_with fail;refine(Sf s _ O.out (by omega)).mono ?_;rintro e Y ⟨rfl,J,I⟩;have N:=iV J;have D:=iV I;clear J I;have U:(mQ s).length<=201:=by rw[AC];have:=vU (bl s);rw[iX] at this;omega
  have E:Hid (rK (bl s)=(lU (bl s)).all Kz):=by show _=_;unfold rK;rw[h0,iX,show decide (1<=s.size)=true from dT (by omega),show decide (s.size<=200)=true from dT (by omega)];simp
  have R:=iV (AC s);clear h0;go_wp2;go_loop [20] (fun i=>∃ k:Nat,k<=(mQ s).length/\i=.int .i64 k/\Hid (((lU (bl s)).take k).all Kz=true)) (fun i=>(mQ s).length-(intOf i).toNat)
  case atStart=>exact⟨0,z0,rfl,by simp[Hid]⟩
  case round=>
   obtain⟨k,Z,rfl,K⟩:=hrel;by_cases y:k<(mQ s).length
   ·obtain⟨x,F⟩:∃ x,(mQ s)[k]?=some x:=⟨_,gG y⟩
    obtain⟨b,off,M,X⟩:=N.out.str k x F;have H:=fun W=>jm (T:=33) (E:=9) (sz:=1) (c:=(mQ s).length) Tryz.underlying33 rfl Tryz.sizeOf9 M y W;simp only[Nat.mul_one] at H;have z:=iV (KC s k x F);clear F M;go_wp2
    ·go_ret;exact⟨iW (by rw[E.out];exact(tZ z.out (by rw[xK];simp_all)).symm),D.out⟩
    ·go_ret;exact⟨iW (by rw[E.out];exact(tZ z.out (by rw[xK];simp_all)).symm),D.out⟩
    ·go_ret;exact⟨iW (by rw[E.out];exact(tZ z.out (by rw[xK];simp_all)).symm),D.out⟩
    ·go_round
     case rel=>exact⟨k+1,by omega,by go_num,iV (KE z.out K.out (by rw[xK];simp_all))⟩
     case measure=>simp[intOf];omega
   ·go_wp2;go_ret;exact⟨iW (by rw[E.out];have:=K.out;rw[tL (by rw[<-R.out];omega)] at this;exact this.symm),D.out⟩
 ·have E:Hid (rK (bl s)=false):=by show _=_;unfold rK;rw[h0];simp
  go_wp2;go_ret;exact⟨iW E.out.symm,bR⟩
theorem CC (s:BA)(c:UInt8)(h:(bl s).contains c=false):Bk s c=-1:=by
 have z:=pj s c h;have y:=Lib.indexByte_ge (bl s) c;unfold Bk at *;omega
theorem BZ {T E:TypeId}{sz:Nat}(hT:Tryz.prog.underlying T=some (.slice (Tryz.prog.elem T)))(hE:Tryz.prog.elem T=E)(hs:∀ w,(sizeOf E).run Tryz.prog w=.ok sz w)
  {A:Option Addr}{n c b off:Nat}{i:Int}(hi:i=k)(hA:A=some ⟨b,off,none⟩)(hk:k<n)(w:World):(Instr.indexAt T (.slice A n c) (.int .i64 i)).run Tryz.prog w=.ok (.pointer (some ⟨b,off+k*sz,none⟩)) w:=by
 subst hi;exact jm hT hE hs hA hk w
theorem Vs :∀ (l:LU)(k:Nat),(l.take k).contains c=false->l[k]?=some c->Lib.cut l [c]=(l.take k,l.drop (k+1),true):=by
 intro l k z y;have I:k<l.length:=(gS y).1;have H:Lib.indexByte l c=k:=by
  have key:∀ (l:LU)(k:Nat),(l.take k).contains c=false->l[k]?=some c->Lib.indexByte l c=k:=by
   intro l
   induction l with
   | nil=>intro k _ h;simp at h
   | cons b r ih=>
    intro k z y;cases k with
    | zero=>simp at y;subst y;simp[Lib.indexByte]
    | succ k=>
     simp at y;rw[List.take_succ_cons,List.contains_cons,Bool.or_eq_false_iff] at z;have F:(b==c)=false:=by have:=z.1;simp at this |-;exact fun e=>this e.symm
     have D:=ih k z.2 y;simp only[Lib.indexByte,F,D];rw[if_neg (by simp),if_neg (by simp;try omega)];omega
  exact key l k z y
 unfold Lib.cut;rw[Lib.index_one,H];simp
theorem KL (l:LU)(h:l.contains c=false):Lib.cut l [c]=(l,[],false):=by
 have z:Lib.indexByte l c=-1:=by
  have y:=CC ⟨l.toArray⟩ c (by simpa [bl] using h);simpa [Bk,bl] using y
 unfold Lib.cut;rw[Lib.index_one,z];simp
end
section
open Go.RowKit Go.Deep
theorem Z7 {B:Nat}{w w1 w2:World}(h1:Below B w w1)(h2:Below w1.heap.size w1 w2)(h:B<=w1.heap.size:=by exact Nat.le_trans (by assumption) (Below.size (by assumption))):Below B w w2:=h1.trans (h2.mono h)
theorem yb (s:BA)(j:Nat)(b:UInt8)(h:(bl s)[j]?=some b):s.get! j=b:=by
 unfold bl at h;show s.data[j]! = b;have z:s.data[j]?=some b:=by simpa using h
 obtain⟨y,D⟩:=Array.getElem?_eq_some_iff.1 z;rw[getElem!_pos s.data j y,D]
theorem Oa (s:BA)(i:Nat)(h:i<s.size)(ha:¬ (s[i]'h).toNat<128):
  (128<=(Utf8.decode s i).1/\(Utf8.decode s i).1<=1114111)/\(1<=(Utf8.decode s i).2/\i+(Utf8.decode s i).2<=s.size)/\∀ (j:Nat)(b:UInt8),i<=j->j<i+(Utf8.decode s i).2->(bl s)[j]?=some b->128<=b.toNat:=by
 have N:=yb s i _ (qJ s i h);rw[Lib.decode_at,N];have U:=(s.get! (i+1)).toNat_lt;have R:=(s.get! (i+2)).toNat_lt;have Y:=(s.get! (i+3)).toNat_lt;have Z:=(s[i]'h).toNat_lt;have H:∀ b,(bl s)[i+1]?=some b->b.toNat=(s.get! (i+1)).toNat:=fun b y=>by rw[yb s _ b y]
 have F:∀ b,(bl s)[i+2]?=some b->b.toNat=(s.get! (i+2)).toNat:=fun b y=>by rw[yb s _ b y]
 have K:∀ b,(bl s)[i+3]?=some b->b.toNat=(s.get! (i+3)).toNat:=fun b y=>by rw[yb s _ b y]
 have I:∀ b,(bl s)[i]?=some b->b.toNat=(s[i]'h).toNat:=fun b y=>by rw[qJ s i h] at y;injection y with y;rw[y]
 generalize (s.get! (i+1)).toNat=b1 at *;generalize (s.get! (i+2)).toNat=b2 at *;generalize (s.get! (i+3)).toNat=b3 at *;generalize (s[i]'h).toNat=b0 at *;unfold Lib.decodeN;rw[if_neg ha];have key:∀ (r w:Nat),1<=w->w<=4->(1<w->128<=b1)->(2<w->128<=b2)->(3<w->128<=b3)->∀ (j:Nat)(b:UInt8),i<=j->j<i+w->(bl s)[j]?=some b->128<=b.toNat:=by
  intro r w V X M J D j b z O y;obtain z | z | z | z:j=i\/j=i+1\/j=i+2\/j=i+3:=by omega
  ·subst z;rw[I b y];omega
  ·subst z;rw[H b y];exact M (by omega)
  ·subst z;rw[F b y];exact J (by omega)
  ·subst z;rw[K b y];exact D (by omega)
 repeat' split
 all_goals (refine⟨by simp only;omega,by simp only;omega,key 0 _ ?_ ?_ ?_ ?_ ?_⟩<;>(simp only;omega))
theorem Ob (r:Int)(h0:128<=r)(h1:r<=1114111):2<=(Utf8.encode r).size/\(Utf8.encode r).size<=4/\∃ c:UInt8,(bl (Utf8.encode r))[(Utf8.encode r).size-1]?=some c/\128<=c.toNat:=by
 unfold Utf8.encode;have y:128<=(if Utf8.valid r then r.toNat else Utf8.runeError):=by
  split
  ·omega
  ·simp[Utf8.runeError]
 generalize (if Utf8.valid r then r.toNat else Utf8.runeError)=c at y;simp only;rw[if_neg (by omega)];have k:(UInt8.ofNat (128+c % 64)).toNat=128+c % 64:=by simp[UInt8.toNat_ofNat'];omega
 repeat' split
 all_goals exact⟨by simp[ByteArray.size],by simp[ByteArray.size],_,rfl,by rw[k];omega⟩
def qq:BA:=⟨#[60,61,62,126]⟩
theorem CZ:qq.size=4:=rfl
theorem yd (j:Nat)(b:UInt8)(h:(bl qq)[j]?=some b):b.toNat<128:=by
 have y:=gM h;simp[qq,bl] at y;rcases y with rfl | rfl | rfl | rfl<;>decide
theorem Gm (w:World):Calls Tryz.prog 203 #[.string qq,.int .i32 65533] w fun e w'=>e=.returned (.int .i64 (-1))/\Below w.heap.size w w':=by
 go_in;go_wp2;go_loopg [5,6] 4 (fun g _ _ K=>∃ i:Nat,i+g=4/\K=w.iter qq i)
 case atStart=>exact⟨0,by omega,rfl⟩
 case round=>
  obtain⟨i,J,rfl⟩:=hrel;cases gk with
  | zero=>
   obtain rfl:i=4:=by omega
   have z:=fun F=>run_next_end (P:=Tryz.prog) w qq 4 F (by rw[CZ];omega);go_wp2;go_ret;exact⟨rfl,bR.alloc lr _⟩
  | succ g=>
   have H:i<qq.size:=by rw[CZ];omega
   obtain⟨x,D⟩:∃ x:UInt8,qq[i]'H=x:=⟨_,rfl⟩
   have y:x.toNat<128:=yd i x (by rw[<-D];exact qJ qq i H);have z:=fun F=>run_next_ascii (P:=Tryz.prog) w qq i F H (by rw[D];exact y);rw[D] at z;clear D;have I:((x.toNat:Int)==65533)=false:=beq_eq_false_iff_ne.2 (by omega);go_wp2;go_roundg g
   case measure=>omega
   case rel=>exact⟨i+1,by omega,rfl⟩
theorem Gn (r:Int)(w:World)(h0:128<=r)(h1:r<=1114111)(hne:r≠65533)(hv:Lib.validRune r=false):Calls Tryz.prog 203 #[.string qq,.int .i32 r] w fun e w'=>e=.returned (.int .i64 (-1))/\Below w.heap.size w w':=by
 have y:(r==65533)=false:=beq_eq_false_iff_ne.2 hne;go_in;go_wp2_with (go_at_call 253;refine(Tryz.utf8_ValidRune _ _).mono ?_;rintro e w' ⟨rfl,z⟩;rw[z,hv]);go_ret;exact⟨rfl,bR⟩
theorem C7 (r:Int)(w:World)(h0:128<=r)(h1:r<=1114111)(hne:r≠65533)(hv:Lib.validRune r=true):Calls Tryz.prog 203 #[.string qq,.int .i32 r] w fun e w'=>e=.returned (.int .i64 (-1))/\Below w.heap.size w w':=by
 have ad:(r==65533)=false:=beq_eq_false_iff_ne.2 hne;obtain⟨z0,z1,c,D,c0⟩:=Ob r h0 h1;obtain⟨y,O⟩:∃ y,Utf8.encode r=y:=⟨_,rfl⟩
 rw[O] at z0 z1 D;obtain⟨m,hm⟩:∃ m,y.size=m+1:=⟨y.size-1,by omega⟩
 have I:m<y.size:=by omega
 have H:y[m]'I=c:=by
  rw[show y.size-1=m by omega,qJ y _ I] at D;injection D
 have J:=CZ;have z:m<qq.size:=by omega
 obtain⟨x,V⟩:∃ x:UInt8,qq[m]'z=x:=⟨_,rfl⟩
 have K:x.toNat<128:=yd _ x (by rw[<-V];exact qJ qq _ z);have ab:((x.toNat:Int) != (c.toNat:Int))=true:=by simp;omega
 have ac:(m:Int)<(qq.size:Int):=by omega
 have M:(m:Int)+1<=(qq.size:Int):=by omega
 have aa:m+1<=qq.size:=by omega
 clear J;have Z:∀ W:World,Calls Tryz.prog 142 #[.string (qq.extract (m+1) qq.size),.int .u8 c.toNat] W fun e w'=>e=.returned (.int .i64 (-1))/\w'=W:=by
  intro W;refine(jQ _ c W).mono ?_;rintro e w' ⟨rfl,rfl⟩;refine⟨jz ?_,rfl⟩;show Lib.indexByte (bl (qq.extract (m+1) qq.size)) c=-1;have N:(bl (qq.extract (m+1) qq.size)).contains c=false:=by
   rw[lm];cases hcc:((bl qq).drop (m+1)).contains c with
   | false=>rfl
   | true=>
    have F:c∈(bl qq).drop (m+1):=by simpa using hcc
    obtain⟨j,hj⟩:=List.getElem?_of_mem (List.mem_of_mem_drop F);have:=yd j c hj;omega
  exact CC _ _ N
 have iw:IntKind.i64.wrap ((m:Int)+1)=(m:Int)+1:=IntWalk.i64_in _ (by omega);have ae:∀ W:World,(Instr.slice 9 (.string qq) (some (.int .i64 ((m:Int)+1))) none none).run Tryz.prog W=.ok (.string (qq.extract (m+1) qq.size)) W:=fun W=>run_slice_string_l W 9 qq Tryz.underlying9 .i64 ((m:Int)+1) (by omega) M;have U:∀ W:World,(Instr.index 9 (.string y) (.int .i64 (m:Int))).run Tryz.prog W=.ok (.int .u8 c.toNat) W:=fun W=>by
  rw[run_index_string W 9 y .i64 (m:Int) Tryz.underlying9,dif_pos ⟨by omega,by omega⟩];simp[H]
 have R:∀ W:World,(Instr.index 9 (.string qq) (.int .i64 (m:Int))).run Tryz.prog W=.ok (.int .u8 x.toNat) W:=fun W=>by
  rw[run_index_string W 9 qq .i64 (m:Int) Tryz.underlying9,dif_pos ⟨by omega,by omega⟩];simp[V]
 clear D;go_in;go_wp2_with (go_at_call 253;refine(Tryz.utf8_ValidRune _ _).mono ?_;rintro e w' ⟨rfl,hw⟩;rw[hw,hv]);go_step3;go_wp2_with fail;refine wp_loop_rounds 1 ?_;rw[rounds_succ];go_wp2_with fail;go_step3;go_wp2;go_quiet (fail);go_wp2_with fail;have Y:=fun n=>jj (Below.refl w.heap.size w) n;generalize X:w.drewN _=W2;have HW:Below w.heap.size w W2:=by rw[<-X];exact Y _
 clear X Y;go_quiet ((go_at_call 142;exact Calls.quiet_of_same (Z _)));go_wp2_with fail;rw[Exit.noGoto_ret];go_wp2_with fail;rw[Exit.noGoto_ret];go_ret;exact⟨rfl,jj HW _⟩
theorem Gp (r:Int)(w:World)(h0:128<=r)(h1:r<=1114111):Calls Tryz.prog 203 #[.string qq,.int .i32 r] w fun e w'=>e=.returned (.int .i64 (-1))/\Below w.heap.size w w':=by
 by_cases y:r=65533
 ·subst y;exact Gm w
 ·cases hv:Lib.validRune r with
  | false=>exact Gn r w h0 h1 y hv
  | true=>exact C7 r w h0 h1 y hv
theorem C8 (s:BA)(w:World)(h8:s.size<=8):Calls Tryz.prog 151 #[.string s,.string qq] w fun e w'=>e=.returned (.int .i64 (Lib.indexAny (bl s) (bl qq)))/\Below w.heap.size w w':=by
 have ae:qq.toList.isEmpty=false:=by rw[iY];rfl
 have U:¬ qq.toList=[]:=by rw[iY];intro h;exact absurd (congrArg List.length h) (by decide)
 have af:((qq.size:Int)==1)=false:=rfl;have Z:decide ((8:Int)<(s.size:Int))=false:=dF (by omega);go_in;go_wp2_with (go_at_call 204;refine(Tryz.strings_shouldUseASCIISet _ _).mono ?_;rintro e w' ⟨rfl,N⟩;rw[N,Z]);go_loopg [9,10] s.size (fun g _ _ wx=>∃ i:Nat,i+g=s.size/\Hid (wx.heap[w.heap.size]?=some (.stringIter s i))/\Hid (Below w.heap.size w wx)/\Hid (Lib.NoAny (bl s) (bl qq) i))
 case atStart=>exact⟨0,by omega,World.iter_heap w s 0,bR.alloc lr _,Lib.NoAny.zero _ _⟩
 case round=>
  obtain⟨i,ag,K,HB,R⟩:=hrel;cases gk with
  | zero=>
   obtain rfl:i=s.size:=by omega
   have I:=fun M=>Lib.run_next_end_at (P:=Tryz.prog) wr w.heap.size s s.size M K.out (by omega);go_wp2;go_ret;exact⟨jz (by rw[Lib.indexAny_none (by rw[iX];exact R.out)]),HB.out⟩
  | succ g=>
   have O:i<s.size:=by omega
   have H:=qJ s i O;by_cases V:(s[i]'O).toNat<128
   ·have I:=fun M=>Lib.run_next_ascii_at (P:=Tryz.prog) wr w.heap.size s i M K.out O V;obtain⟨x,hx⟩:∃ x:UInt8,s[i]'O=x:=⟨_,rfl⟩
    rw[hx] at I V H;have HX:=iV H;clear H hx;have z:((x.toNat:Int)).toNat.toUInt8=x:=by simp
    have y:Hid (Below w.heap.size w (wr.iterAt w.heap.size s (i+1))):=Lib.below_iterAt HB.out lr _ _;have F:Hid ((wr.iterAt w.heap.size s (i+1)).heap[w.heap.size]?=some (.stringIter s (i+1))):=Lib.iterAt_heap _ _ _ _ _ K.out;cases hin:(bl qq).contains x with
    | false=>
     have aa:=pj qq x hin;unfold Bk bl at aa;have HI:=iV hin;clear hin;go_wp2_with (go_at_call 203;refine(Tryz.strings_IndexRune_ascii _ _ _ (by omega) (by omega)).mono ?_;rintro e w' ⟨rfl,N⟩;rw[N,z]);go_roundg g
     case measure=>omega
     case rel=>exact⟨i+1,by omega,F,y,R.out.succ HX.out HI.out⟩
    | true=>
     have X:=pO qq x hin;unfold Bk bl at X;have HI:=iV hin;clear hin;go_wp2_with (go_at_call 203;refine(Tryz.strings_IndexRune_ascii _ _ _ (by omega) (by omega)).mono ?_;rintro e w' ⟨rfl,N⟩;rw[N,z]);go_ret;exact⟨jz (Lib.indexAny_hit R.out HX.out HI.out).symm,y.out⟩
   ·obtain⟨⟨d1,d2⟩,⟨d3,d4⟩,d5⟩:=Oa s i O V;have I:=fun M=>Lib.run_next_any_at (P:=Tryz.prog) wr w.heap.size s i M K.out O;have HD:=iV d5;clear d5 H;generalize Utf8.decode s i=D at *;obtain⟨r,n⟩:=D;simp only at d1 d2 d3 d4 I;have y:Hid (Below w.heap.size w (wr.iterAt w.heap.size s (i+n))):=Lib.below_iterAt HB.out lr _ _;have F:Hid ((wr.iterAt w.heap.size s (i+n)).heap[w.heap.size]?=some (.stringIter s (i+n))):=Lib.iterAt_heap _ _ _ _ _ K.out;have ad:Hid (Lib.NoAny (bl s) (bl qq) (i+n)):=by
     intro j b hj J;by_cases Y:j<i
     ·exact R.out j b Y J
     ·have h1:=HD.out j b (by omega) hj J;cases hc:(bl qq).contains b with
      | false=>rfl
      | true=>
       have hm:b∈bl qq:=by simpa using hc
       obtain⟨k,hk⟩:=List.getElem?_of_mem hm;have:=yd k b hk;omega
    clear HD;go_wp2_with fail;refine(Gp (r:Int) _ (by omega) (by omega)).mono ?_;rintro e w' ⟨rfl,J⟩;have HS:w.heap.size<(wr.iterAt w.heap.size s (i+n)).heap.size:=(Array.getElem?_eq_some_iff.1 F.out).1;have ac:Hid (Below w.heap.size w w'):=Z7 y.out J y.out.size;have ab:Hid (w'.heap[w.heap.size]?=some (.stringIter s (i+n))):=(J.block _ HS).trans F.out;clear J;go_wp2;go_roundg (g+1-n)
    case measure=>omega
    case rel=>exact⟨i+n,by omega,ab,ac,ad⟩
theorem Jv (s:BA)(w:World)(hs:s.size<=4294967280):Calls Tryz.prog 151 #[.string s,.string qq] w fun e w'=>e=.returned (.int .i64 (Lib.indexAny (bl s) (bl qq)))/\Below w.heap.size w w':=by
 by_cases y:s.size<=8
 ·exact C8 s w y
 ·refine(Tryz.strings_IndexAny_long (by intro w;kernel_rfl) s qq w (by decide) (by omega) (by omega) (by decide) (fun j b h=>yd j b h)).mono ?_;rintro e w' ⟨rfl,rfl⟩;refine⟨rfl,?_⟩;have z:Below w.heap.size w (w.alloc (.cells (Lib.setCells qq.data.toList) 219)):=bR.alloc lr _;exact z.alloc (by simp) _
end
section
open Go.RowKit
theorem kN (A B:Option Addr)(c d:Nat)(l m:List BA)(w:World)(h1:Rd w 1 A l.length (strCells l))(h2:Rd w 1 B m.length (strCells m))(n1:l.length<=9223372036854775807)(n2:m.length<=9223372036854775807):Calls Tryz.prog 19 #[.slice A l.length c,.slice B m.length d] w fun e w'=>e=.returned (.bool (xx rn l m))/\Below w.heap.size w w':=by
 have H1:=iV h1;clear h1;have H2:=iV h2;clear h2;by_cases M:l.length=m.length
 ·have hb:((l.length:Int) != (m.length:Int))=false:=by simp[M]
  have R:=iV M;have aa:l.length<=m.length:=by omega
  clear M;go_in;go_wp2;go_loopw [5] (fun i wr=>∃ (k q:Nat),k<=l.length/\i=.int .i64 k/\wr=w.drewN q/\Hid (∀ (i:Nat)(x y:BA),i<k->l[i]?=some x->m[i]?=some y->rn x y=true)) (fun i _=>l.length-(intOf i).toNat)
  case atStart=>exact⟨0,0,z0,rfl,rfl,fun i x y h=>absurd h (Nat.not_lt_zero _)⟩
  case round=>
   obtain⟨k,q,hk,rfl,rfl,Y⟩:=hrel;by_cases K:k<l.length
   ·obtain⟨x,I⟩:∃ x,l[k]?=some x:=⟨_,gG K⟩
    have F:k<m.length:=by omega
    obtain⟨y,J⟩:∃ y,m[k]?=some y:=⟨_,gG F⟩
    obtain⟨b,off,hA,e0⟩:=H1.out.str k x I;obtain⟨b',X,O,f0⟩:=H2.out.str k y J;have U:=fun W=>jm (T:=33) (E:=9) (sz:=1) (c:=c) Tryz.underlying33 rfl Tryz.sizeOf9 hA K W;have N:=fun W=>jm (T:=33) (E:=9) (sz:=1) (c:=d) Tryz.underlying33 rfl Tryz.sizeOf9 O F W;simp only[Nat.mul_one] at U N;have Z:=iV I;have V:=iV J;clear I J hA O;cases hxy:rn x y
    ·have H:=iV hxy;unfold rn at hxy;go_wp2;go_quiet (fail);go_wp2;go_ret;exact⟨iW (yi rn l m k x y Z.out V.out H.out).symm,jj (jj bR _) _⟩
    ·have H:=iV hxy;obtain rfl:=aaf hxy;clear hxy;go_wp2;go_quiet (fail);go_wp2_with fail;have FK:Hid (∀ (i:Nat)(x y:BA),i<k+1->l[i]?=some x->m[i]?=some y->rn x y=true):=by
      intro i x' y' hi D z;rcases Nat.lt_succ_iff_lt_or_eq.1 hi with h | h
      ·exact Y.out i x' y' h D z
      ·subst h;rw[Z.out] at D;rw[V.out] at z;injection D with D;injection z with z;subst D z;exact H.out
     go_roundw
     case rel=>exact⟨k+1,_,by omega,by go_num,rfl,FK⟩
     case measure=>simp[intOf];omega
   ·go_wp2;go_ret;exact⟨iW (uM rn l m R.out (fun i x y I J=>Y.out i x y (by have:=(gS I).1;omega) I J)).symm,jj bR _⟩
 ·have hb:((l.length:Int) != (m.length:Int))=true:=by simp;omega
  have R:=iV M;clear M;go_in;go_wp2;go_ret;exact⟨iW (rT rn l m R.out).symm,bR⟩
def jg.val (f:jg):Value:=.agg #[.string f.path,.int .i64 f.kind,.int .i64 f.mode,.string f.owner,.string f.group,.string f.link,.string f.sum,.bool f.conf]
def kQ (fmt:Int)(f:jg):Bool:=decide (0<=f.mode/\f.mode<=4095)&&nV fmt f.owner&&nV fmt f.group&&(if f.kind=3 then decide (f.mode=511)&&rG (bl f.link)&&decide (f.link.size<=200) else decide (f.link.size=0))&&(if f.kind=1 then pG fmt f.sum&&(!f.conf||decide (fmt≠3)) else decide (f.sum.size=0) && !f.conf)
theorem BI (fmt:Int)(hfmt:fmt=1\/fmt=2\/fmt=3)(f:jg)(w:World)(ho:f.owner.size<=9223372036854775807)(hg:f.group.size<=9223372036854775807)(hl:f.link.size<=9223372036854775807)(hsm:f.sum.size<=9223372036854775807):Calls Tryz.prog 117 #[.int .i64 fmt,f.val] w fun e w'=>e=.returned (.bool (kQ fmt f))/\Below w.heap.size w w':=by
 have R:Hid (Below w.heap.size w (w.alloc (.cells #[.string f.path,.int .i64 f.kind,.int .i64 f.mode,.string f.owner,.string f.group,.string f.link,.string f.sum,.bool f.conf] 57))):=bR.alloc lr _;unfold jg.val;by_cases ae:f.mode<0
 ·skip
  have E:Hid (kQ fmt f=false):=by show _=_;unfold kQ;rw[dF];rfl
  go_in;go_wp2;go_ret;exact⟨iW (by rw[E.out]),R.out⟩
 by_cases af:4095<f.mode
 ·skip
  have E:Hid (kQ fmt f=false):=by show _=_;unfold kQ;rw[dF];rfl
  go_in;go_wp2;go_ret;exact⟨iW (by rw[E.out]),R.out⟩
 have RM:Hid (decide (0<=f.mode/\f.mode<=4095)=true):=dT (by omega);go_in;go_wp2_with fail;refine(td fmt f.owner _ ho).mono ?_;rintro e w' ⟨rfl,rfl⟩;cases g1:nV fmt f.owner
 ·skip
  have E:Hid (kQ fmt f=false):=by show _=_;unfold kQ;rw[g1];simp
  clear g1;go_wp2;go_ret;exact⟨iW (by rw[E.out]),R.out⟩
 have G1:=iV g1;clear g1;go_wp2_with fail;refine(td fmt f.group _ hg).mono ?_;rintro e w' ⟨rfl,rfl⟩;cases g2:nV fmt f.group
 ·skip
  have E:Hid (kQ fmt f=false):=by show _=_;unfold kQ;rw[g2];simp
  clear g2;go_wp2;go_ret;exact⟨iW (by rw[E.out]),R.out⟩
 have G2:=iV g2;clear g2;have y:=R.out;by_cases D:f.kind=3
 ·have aa:(f.kind==3)=true:=by simpa using D
  have Y:(f.kind==1)=false:=by simp;omega
  by_cases N:f.mode=511
  ·have ab:(f.mode != 511)=false:=by simpa [bne] using N
   have M5:Hid (decide (f.mode=511)=true):=dT N;have Z:=iV D;clear D N;go_wp2_with fail;refine(At f.link _ hl).mono ?_;rintro e w' ⟨rfl,rfl⟩;cases g3:rG (bl f.link)
   ·skip
    have E:Hid (kQ fmt f=false):=by show _=_;unfold kQ;rw[if_pos Z.out,g3];simp
    clear g3;go_wp2;go_ret;exact⟨iW (by rw[E.out]),y⟩
   have G3:=iV g3;clear g3;by_cases l2:200<f.link.size
   ·skip
    have E:Hid (kQ fmt f=false):=by show _=_;unfold kQ;rw[if_pos Z.out,dF (show ¬ f.link.size<=200 by omega)];simp
    go_wp2;go_ret;exact⟨iW (by rw[E.out]),y⟩
   have L2:Hid (decide (f.link.size<=200)=true):=dT (by omega);have X:Hid ((if f.kind=3 then decide (f.mode=511)&&rG (bl f.link)&&decide (f.link.size<=200) else decide (f.link.size=0))=true):=by show _=_;rw[if_pos Z.out,M5.out,G3.out,L2.out];rfl
   have M:Gb (f.kind=1):=⟨by have:=Z.out;omega⟩
   by_cases F:f.sum.size=0
   ·have V:f.sum.toList=[]:=by rw[iY,kw _ F]
    have z:f.sum.toList.isEmpty=true:=by rw[V];rfl
    cases hcf:f.conf
    ·skip
     have E:Hid (kQ fmt f=true):=by show _=_;unfold kQ;rw[RM.out,G1.out,G2.out,X.out,if_neg M.out,dT F,hcf];rfl
     simp only[hcf] at *;go_wp2;go_ret;exact⟨iW (by rw[E.out]),y⟩
    ·skip
     have E:Hid (kQ fmt f=false):=by show _=_;unfold kQ;rw[if_neg M.out,hcf];simp
     simp only[hcf] at *;go_wp2;go_ret;exact⟨iW (by rw[E.out]),y⟩
   ·have z:f.sum.toList.isEmpty=false:=by rw[iY,jB];exact dF F
    have V:¬ f.sum.toList=[]:=by intro h;rw[h] at z;simp at z
    have E:Hid (kQ fmt f=false):=by show _=_;unfold kQ;rw[if_neg M.out,dF F];simp
    clear F;go_wp2;go_ret;exact⟨iW (by rw[E.out]),y⟩
  ·have ab:(f.mode != 511)=true:=by simpa [bne] using N
   have E:Hid (kQ fmt f=false):=by show _=_;unfold kQ;rw[if_pos D,dF N];simp
   clear D N;go_wp2;go_ret;exact⟨iW (by rw[E.out]),y⟩
 ·have aa:(f.kind==3)=false:=by simpa using D
  by_cases K:f.link.size=0
  ·have le:f.link.toList=[]:=by rw[iY,kw _ K]
   have J:f.link.toList.isEmpty=true:=by rw[le];rfl
   have X:Hid ((if f.kind=3 then decide (f.mode=511)&&rG (bl f.link)&&decide (f.link.size<=200) else decide (f.link.size=0))=true):=by show _=_;rw[if_neg D,dT K]
   by_cases O:f.kind=1
   ·have Y:(f.kind==1)=true:=by simpa using O
    have K1:=iV O;clear O D K;go_wp2_with fail;refine(CA fmt hfmt f.sum _ hsm).mono ?_;rintro e w3 ⟨rfl,U⟩;have X3:Hid (Bx w w3 f.cells):=(Bx.start w f.cells _).step U;have x7:=X3.out.cell 7 _ rfl;clear U;have H:=X3.out.bel;cases g4:pG fmt f.sum
    ·skip
     have E:Hid (kQ fmt f=false):=by show _=_;unfold kQ;rw[if_pos K1.out,g4];simp
     clear g4;go_wp2;go_ret;exact⟨iW (by rw[E.out]),H⟩
    have G4:=iV g4;clear g4;cases hcf:f.conf
    ·skip
     have E:Hid (kQ fmt f=true):=by show _=_;unfold kQ;rw[RM.out,G1.out,G2.out,X.out,if_pos K1.out,G4.out,hcf];rfl
     simp only[hcf] at *;go_wp2;go_ret;exact⟨iW (by rw[E.out]),H⟩
    by_cases I:fmt=3
    ·have ad:(fmt==3)=true:=by simpa using I
     have ac:(fmt != 3)=false:=by simpa [bne] using I
     have E:Hid (kQ fmt f=false):=by show _=_;unfold kQ;rw[if_pos K1.out,hcf,dF (show ¬ fmt≠3 from fun h=>h I)];simp
     clear I;simp only[hcf] at *;go_wp2;go_ret;exact⟨iW (by rw[E.out]),H⟩
    ·have ad:(fmt==3)=false:=by simpa using I
     have ac:(fmt != 3)=true:=by simpa [bne] using I
     have E:Hid (kQ fmt f=true):=by show _=_;unfold kQ;rw[RM.out,G1.out,G2.out,X.out,if_pos K1.out,G4.out,hcf,dT (show fmt≠3 from I)];rfl
     clear I;simp only[hcf] at *;go_wp2;go_ret;exact⟨iW (by rw[E.out]),H⟩
   ·have Y:(f.kind==1)=false:=by simpa using O
    have M:Gb (f.kind=1):=⟨O⟩
    clear O D K;by_cases F:f.sum.size=0
    ·have V:f.sum.toList=[]:=by rw[iY,kw _ F]
     have z:f.sum.toList.isEmpty=true:=by rw[V];rfl
     cases hcf:f.conf
     ·skip
      have E:Hid (kQ fmt f=true):=by show _=_;unfold kQ;rw[RM.out,G1.out,G2.out,X.out,if_neg M.out,dT F,hcf];rfl
      simp only[hcf] at *;go_wp2;go_ret;exact⟨iW (by rw[E.out]),y⟩
     ·skip
      have E:Hid (kQ fmt f=false):=by show _=_;unfold kQ;rw[if_neg M.out,hcf];simp
      simp only[hcf] at *;go_wp2;go_ret;exact⟨iW (by rw[E.out]),y⟩
    ·have z:f.sum.toList.isEmpty=false:=by rw[iY,jB];exact dF F
     have V:¬ f.sum.toList=[]:=by intro h;rw[h] at z;simp at z
     have E:Hid (kQ fmt f=false):=by show _=_;unfold kQ;rw[if_neg M.out,dF F];simp
     clear F;go_wp2;go_ret;exact⟨iW (by rw[E.out]),y⟩
  ·have J:f.link.toList.isEmpty=false:=by rw[iY,jB];exact dF K
   have le:¬ f.link.toList=[]:=by intro h;rw[h] at J;simp at J
   have E:Hid (kQ fmt f=false):=by show _=_;unfold kQ;rw[if_neg D,dF K];simp
   clear D K;go_wp2;go_ret;exact⟨iW (by rw[E.out]),y⟩
def zD (fmt n:Int):Bool:=decide ((1<=n/\n<=4)\/(fmt=1/\n=7)\/(fmt=3/\(n=5\/n=6)))
def U7 (fmt:Int)(x:jy):Bool:=zD fmt x.phase&&decide (1<=x.body.size/\x.body.size<=4096) && !(bl x.body).contains 0
def BK:List jy->Bool
 | x::y::r=>decide (x.phase<y.phase)&&BK (y::r)
 | _=>true
def lH (fmt:Int)(l:List jy):Int:=if 7<l.length then 4 else if BK l=false then 15 else if l.all (U7 fmt)=true then 0 else 1
theorem Ie:∀ (l:List jy),(∀ (i:Nat) x y,l[i]?=some x->l[i+1]?=some y->x.phase<y.phase)->BK l=true
 | [],_=>rfl
 | [x],_=>rfl
 | x::y::r,h=>by
  rw[BK,dT (h 0 x y rfl rfl),Ie (y::r) (fun i a b z D=>h (i+1) a b (by simpa using z) (by simpa using D))];rfl
theorem Ee:∀ (l:List jy)(i:Nat)(x y:jy),l[i]?=some x->l[i+1]?=some y->¬ x.phase<y.phase->BK l=false
 | [],i,x,y,h,_,_=>by simp at h
 | [z],i,x,y,h,h',_=>by
  have:=(gS h').1;simp at this
 | a::b::r,0,x,y,h,h',hn=>by
  simp at h h';subst h h';rw[BK,dF hn];rfl
 | a::b::r,i+1,x,y,h,h',hn=>by
  rw[BK,Ee (b::r) i x y (by simpa using h) (by simpa using h') hn,Bool.and_false]
theorem zE (fmt n:Int)(hfmt:fmt=1\/fmt=2\/fmt=3)(w:World):Calls Tryz.prog 118 #[.int .i64 fmt,.int .i64 n] w fun e w'=>e=.returned (.bool (zD fmt n))/\w=w':=by
 by_cases y:1<=n
 ·by_cases D:n<=4
  ·have E:Hid (zD fmt n=true):=dT (.inl ⟨y,D⟩);have K:decide (n<=4)=true:=dT D;have I:decide (n<=6)=true:=dT (by omega);have F:decide (1<=n)=true:=dT y;rcases hfmt with rfl | rfl | rfl
   all_goals
    go_in;go_wp2;go_ret;exact⟨iW (by rw[E.out]),rfl⟩
  ·have K:decide (n<=4)=false:=dF D;have F:decide (1<=n)=true:=dT y;rcases hfmt with rfl | rfl | rfl
   ·by_cases z:n=7
    ·have E:Hid (zD 1 n=true):=dT (by omega);have J:(n==7)=true:=by simpa using z
     clear z;go_in;go_wp2;go_ret;exact⟨iW (by rw[E.out]),rfl⟩
    ·have E:Hid (zD 1 n=false):=dF (by omega);have J:(n==7)=false:=by simpa using z
     clear z;go_in;go_wp2;go_ret;exact⟨iW (by rw[E.out]),rfl⟩
   ·have E:Hid (zD 2 n=false):=dF (by omega);go_in;go_wp2;go_ret;exact⟨iW (by rw[E.out]),rfl⟩
   ·by_cases H:n<=6
    ·have E:Hid (zD 3 n=true):=dT (by omega);have I:decide (n<=6)=true:=dT H;go_in;go_wp2;go_ret;exact⟨iW (by rw[E.out]),rfl⟩
    ·have E:Hid (zD 3 n=false):=dF (by omega);have I:decide (n<=6)=false:=dF H;go_in;go_wp2;go_ret;exact⟨iW (by rw[E.out]),rfl⟩
 ·have E:Hid (zD fmt n=false):=dF (by omega);have F:decide (1<=n)=false:=dF y;have J:(n==7)=false:=by simp;omega
  rcases hfmt with rfl | rfl | rfl
  all_goals
   go_in;go_wp2;go_ret;exact⟨iW (by rw[E.out]),rfl⟩
def Pd (l:List jy)(k:Nat):Prop:=∀ (i:Nat) x y,i+1<k->l[i]?=some x->l[i+1]?=some y->x.phase<y.phase
theorem Pd.all {l:List jy}(h:Pd l k)(hk:l.length<=k):BK l=true:=
 Ie l fun i x y D z=>h i x y (Nat.lt_of_lt_of_le (gS z).1 hk) D z
theorem Pd.next {l:List jy}{x y:jy}(h:Pd l k)(hx:l[k-1]?=some x)(hy:l[k]?=some y)(hlt:x.phase<y.phase):Pd l (k+1):=by
 intro i a b F z D;by_cases e:i+1=k
 ·subst e;rw[Nat.add_sub_cancel] at hx;rw[hx] at z;rw[hy] at D;injection z with z;injection D with D;subst z D;exact hlt
 ·exact h i a b (by omega) z D
theorem Pd.one {l:List jy}:Pd l 1:=fun i x y z=>by omega
theorem Pd.zero {l:List jy}:Pd l 0:=fun i x y z=>by omega
theorem Ef {l:List jy}(h7:¬ 7<l.length)(h:BK l=false):lH fmt l=15:=by unfold lH;rw[if_neg h7,if_pos h]
theorem rA {l:List jy}(h7:¬ 7<l.length)(h:BK l=true)(ha:l.all (U7 fmt)=false):lH fmt l=1:=by unfold lH;rw[if_neg h7,h,ha];rfl
theorem LY {l:List jy}(h7:¬ 7<l.length)(h:BK l=true)(ha:l.all (U7 fmt)=true):lH fmt l=0:=by unfold lH;rw[if_neg h7,h,ha];rfl
theorem xd (fmt:Int)(hfmt:fmt=1\/fmt=2\/fmt=3)(A:Option Addr)(c:Nat)(l:List jy)(w:World)(hr:Rd w 2 A l.length (l.flatMap jy.cells))(hn:l.length<=9223372036854775807)(hf:∀ x∈l,x.body.size<=4294967280):Calls Tryz.prog 72 #[.int .i64 fmt,.slice A l.length c] w fun e w'=>e=.returned (.int .i64 (lH fmt l))/\Below w.heap.size w w':=by
 have HR:=iV hr;have HF:=iV hf;clear hr hf;by_cases O:7<l.length
 ·have E:Hid (lH fmt l=4):=by show _=_;unfold lH;rw[if_pos O]
  go_in;go_wp2;go_ret;exact⟨jz (by rw[E.out]),bR⟩
 go_in;go_wp2;go_loopw [14] (fun i wr=>∃ k:Nat,k<=l.length/\i=.int .i64 k/\Hid (Pd l k)/\Hid (Below w.heap.size w wr)) (fun i _=>l.length-(intOf i).toNat)
 case atStart=>exact⟨0,z0,rfl,Pd.zero,bR⟩
 case round=>
  obtain⟨k,hk,rfl,HI,D⟩:=hrel;by_cases V:k<l.length
  ·obtain⟨y,hy⟩:∃ y,l[k]?=some y:=⟨_,gG V⟩
   by_cases k0:k=0
   ·have ab:decide (0<(k:Int))=false:=dF (by omega);have ad:decide (0<k)=false:=dF (by omega);have R:Hid (Pd l (k+1)):=by show Pd _ _;rw[k0];exact Pd.one
    clear k0 hy;go_wp2;go_quiet (fail);go_wp2;go_roundw
    case rel=>exact⟨k+1,by omega,by go_num,R,iV (jj D.out _)⟩
    case measure=>simp[intOf];omega
   ·have ab:decide (0<(k:Int))=true:=dT (by omega);have ad:decide (0<k)=true:=dT (by omega);have af:0<k:=by omega
    obtain⟨x,K⟩:∃ x,l[k-1]?=some x:=⟨_,gG (by omega)⟩
    obtain⟨b1,X,H,z⟩:=(HR.out.below D.out).elem nI k y hy;obtain⟨b2,ae,Y,U⟩:=(HR.out.below D.out).elem nI (k-1) x K;have p1:=z 0 _ rfl;have p2:=U 0 _ rfl;simp only[Nat.add_zero] at p1 p2;have M:=fun W=>jm (T:=36) (E:=59) (sz:=2) (c:=c) Tryz.underlying36 rfl Tryz.sizeOf59 H V W;have Z:=fun W=>BZ (T:=36) (E:=59) (sz:=2) (c:=c) (i:=(k:Int)-1) Tryz.underlying36 rfl Tryz.sizeOf59 (by omega) Y (show k-1<l.length by omega) W;have iw:IntKind.i64.wrap ((k:Int)-1)=(k:Int)-1:=IntWalk.i64_in _ (by omega);have N:=iV K;have HY:=iV hy;clear K hy H Y z U k0;by_cases hp:x.phase<y.phase
    ·have R:Hid (Pd l (k+1)):=HI.out.next N.out HY.out hp;have ac:decide (y.phase<=x.phase)=false:=dF (by omega);go_wp2;go_quiet (fail);go_wp2_with fail;clear iw M Z;go_roundw
     case rel=>exact⟨k+1,by omega,by go_num,R,iV (jj D.out _)⟩
     case measure=>simp[intOf];omega
    ·have E:=iV (Ef (fmt:=fmt) O (Ee l (k-1) x y N.out (by rw[show k-1+1=k by omega];exact HY.out) hp));have ac:decide (y.phase<=x.phase)=true:=dT (by omega);go_wp2;go_quiet (fail);go_wp2;go_ret;exact⟨jz (by rw[E.out]),jj D.out _⟩
  ·have I:Hid (BK l=true):=HI.out.all (by omega);go_wp2;go_loopw [36] (fun i wr=>∃ k:Nat,k<=l.length/\i=.int .i64 k/\Hid ((l.take k).all (U7 fmt)=true)/\Hid (Below w.heap.size w wr)) (fun i _=>l.length-(intOf i).toNat)
   case atStart=>exact⟨0,z0,rfl,by simp[Hid],D⟩
   case round=>
    clear D;obtain⟨m,hm,rfl,HA,D⟩:=hrel;by_cases J:m<l.length
    ·obtain⟨x,K⟩:∃ x,l[m]?=some x:=⟨_,gG J⟩
     have ag:=HF.out x (gM K);obtain⟨b1,X,H,z⟩:=(HR.out.below D.out).elem nI m x K;have p1:=z 0 _ rfl;have p2:=z 1 _ rfl;simp only[Nat.add_zero] at p1;have M:=fun W=>jm (T:=36) (E:=59) (sz:=2) (c:=c) Tryz.underlying36 rfl Tryz.sizeOf59 H J W;have N:=iV K;have F:Hid (Below w.heap.size w (wr.alloc (.cells #[.int .i64 x.phase,.string x.body] 59))):=D.out.alloc D.out.size _;clear K H z;go_wp2_with fail;refine(zE fmt x.phase hfmt _).mono ?_;rintro e w' ⟨rfl,rfl⟩;cases g1:zD fmt x.phase
     ·have E:=iV (rA (fmt:=fmt) O I.out (tZ N.out (by unfold U7;rw[g1];rfl)));clear g1;go_wp2;go_ret;exact⟨jz (by rw[E.out]),F.out⟩
     by_cases s1:x.body.size<1
     ·have E:=iV (rA (fmt:=fmt) O I.out (tZ N.out (by unfold U7;rw[dF];simp)));clear g1;go_wp2;go_ret;exact⟨jz (by rw[E.out]),F.out⟩
     by_cases s2:4096<x.body.size
     ·have E:=iV (rA (fmt:=fmt) O I.out (tZ N.out (by unfold U7;rw[dF];simp)));clear g1;go_wp2;go_ret;exact⟨jz (by rw[E.out]),F.out⟩
     have G1:=iV g1;clear g1;go_wp2_with fail;refine(GY x.body _).mono ?_;rintro e w' ⟨rfl,rfl⟩;cases g2:(bl x.body).contains 0
     ·have aa:Hid ((l.take (m+1)).all (U7 fmt)=true):=KE N.out HA.out (by unfold U7;rw[G1.out,g2,dT];rfl);clear g2;go_wp2;go_roundw
      case rel=>exact⟨m+1,by omega,by go_num,aa,F⟩
      case measure=>simp[intOf];omega
     ·have E:=iV (rA (fmt:=fmt) O I.out (tZ N.out (by unfold U7;rw[g2];simp)));clear g2;go_wp2;go_ret;exact⟨jz (by rw[E.out]),F.out⟩
    ·have E:=iV (LY (fmt:=fmt) O I.out (by have:=HA.out;rw[tL (by omega)] at this;exact this));go_wp2;go_ret;exact⟨jz (by rw[E.out]),D.out⟩
theorem su (fmt:Int)(s:BA)(w:World)(hs:s.size<=9223372036854775807):Calls Tryz.prog 52 #[.int .i64 fmt,.string s] w fun e w'=>e=.returned (.bool (nV fmt s))/\w=w':=by
 by_cases h1:s.size<1
 ·have E:Hid (nV fmt s=false):=by show _=_;unfold nV;rw[dF];rfl
  go_in;go_wp2;go_ret;exact⟨iW E.out.symm,rfl⟩
 by_cases h2:31<s.size
 ·have E:Hid (nV fmt s=false):=by show _=_;unfold nV;rw[dF];rfl
  go_in;go_wp2;go_ret;exact⟨iW E.out.symm,rfl⟩
 by_cases R:fmt=3
 ·subst R;have E:Hid (nV 3 s=Vi s):=by show _=_;unfold nV;rw[dT,if_pos rfl];rfl
  unfold Vi at E;cases g1:(s.toList == [114,111,111,116])
  ·have V:Hid (decide (bl s=[114,111,111,116])=false):=by show _=_;rw[<-xO];exact g1
   go_in;go_wp2_with fail;refine(qO s _ hs).mono ?_;rintro e w' ⟨rfl,rfl⟩;unfold qu;by_cases F:ol (bl s)=0
   ·by_cases X:1<=lI (bl s)
    ·have K:(ol (bl s)==0)=true:=by simpa using F
     have H:Hid (nV 3 s=decide (lI (bl s)<=2097151)):=by show _=_;rw[E.out,V.out,dT F,dT X];rfl
     clear F;go_wp2;go_ret;exact⟨iW (by rw[H.out]),rfl⟩
    ·have K:(ol (bl s)==0)=true:=by simpa using F
     have H:Hid (nV 3 s=false):=by show _=_;rw[E.out,V.out,dF X];simp
     clear F;go_wp2;go_ret;exact⟨iW (by rw[H.out]),rfl⟩
   ·have K:(ol (bl s)==0)=false:=by simpa using F
    have H:Hid (nV 3 s=false):=by show _=_;rw[E.out,V.out,dF F];simp
    clear F;go_wp2;go_ret;exact⟨iW (by rw[H.out]),rfl⟩
  ·have H:Hid (nV 3 s=true):=by show _=_;rw[E.out,<-xO,g1];rfl
   go_in;go_wp2_with fail;refine(qO s _ hs).mono ?_;rintro e w' ⟨rfl,rfl⟩;unfold qu;go_wp2;go_ret;exact⟨iW (by rw[H.out]),rfl⟩
 ·have ac:(fmt==3)=false:=by simpa using R
  have E:Hid (nV fmt s=pS s):=by show _=_;unfold nV;rw[dT,if_neg R];rfl
  clear R;go_in;go_wp2;go_loop [41] (fun i=>∃ k:Nat,k<=s.size/\i=.int .i64 k/\Hid (∀ j (h:j<s.size),j<k->rM j s[j]=true)) (fun i=>s.size-(intOf i).toNat)
  case atStart=>exact⟨0,z0,rfl,iV (fun j h hj=>by omega)⟩
  case round=>
   obtain⟨k,hk,rfl,M⟩:=hrel;by_cases y:k<s.size
   ·by_cases a1:97<=s[k].toNat
    ·by_cases a2:s[k].toNat<=122
     ·skip
      have z:Hid (rM k s[k]=true):=dT (by omega);go_wp2;go_round
      case rel=>exact⟨k+1,by omega,by go_num,iV (qP y M.out z.out)⟩
      case measure=>simp[intOf];omega
     ·have Y:decide ((s[k].toNat:Int)<=122)=false:=dF (by omega);have O:((s[k].toNat:Int)==95)=false:=om (by omega:¬ s[k].toNat=95);have N:((s[k].toNat:Int) != 45)=true:=BY (by omega:¬ s[k].toNat=45);have ad:57<s[k].toNat:=by omega
      have z:Hid (pS s=false):=sE y dF;by_cases D:k=0
      ·have U:((k:Int)==0)=true:=oV D;clear D;go_wp2;go_ret;exact⟨iW (by rw[E.out,z.out]),rfl⟩
      ·have U:((k:Int)==0)=false:=om D;have ae:decide ((s[k].toNat:Int)<48)=false:=dF (by omega);have Z:decide (57<(s[k].toNat:Int))=true:=dT (by omega);clear D;go_wp2;go_ret;exact⟨iW (by rw[E.out,z.out]),rfl⟩
    ·by_cases J:s[k].toNat=95
     ·have O:((s[k].toNat:Int)==95)=true:=oV J;have z:Hid (rM k s[k]=true):=dT (by omega);clear J;go_wp2;go_round
      case rel=>exact⟨k+1,by omega,by go_num,iV (qP y M.out z.out)⟩
      case measure=>simp[intOf];omega
     ·skip
      have O:((s[k].toNat:Int)==95)=false:=om J;by_cases D:k=0
      ·have U:((k:Int)==0)=true:=oV D;have z:Hid (pS s=false):=sE y dF;clear D;go_wp2;go_ret;exact⟨iW (by rw[E.out,z.out]),rfl⟩
      have U:((k:Int)==0)=false:=om D;by_cases I:s[k].toNat=45
      ·have N:((s[k].toNat:Int) != 45)=false:=QI I;have z:Hid (rM k s[k]=true):=dT (by omega);clear I;go_wp2;go_round
       case rel=>exact⟨k+1,by omega,by go_num,iV (qP y M.out z.out)⟩
       case measure=>simp[intOf];omega
      have N:((s[k].toNat:Int) != 45)=true:=BY I;by_cases ab:s[k].toNat<48
      ·skip
       have z:Hid (pS s=false):=sE y dF;go_wp2;go_ret;exact⟨iW (by rw[E.out,z.out]),rfl⟩
      by_cases aa:57<s[k].toNat
      ·skip
       have z:Hid (pS s=false):=sE y dF;go_wp2;go_ret;exact⟨iW (by rw[E.out,z.out]),rfl⟩
      ·skip
       have z:Hid (rM k s[k]=true):=dT (by omega);go_wp2;go_round
       case rel=>exact⟨k+1,by omega,by go_num,iV (qP y M.out z.out)⟩
       case measure=>simp[intOf];omega
   ·have HE:Hid (pS s=true):=dT (fun j h=>M.out j h (by omega));go_wp2;go_ret;exact⟨iW (by rw[E.out,HE.out]),rfl⟩
theorem Ah (fmt:Int)(hf:fmt=1\/fmt=2\/fmt=3)(s:BA)(w:World)(hs:s.size<=9223372036854775807):Calls Tryz.prog 39 #[.int .i64 fmt,.string s] w fun e w'=>e=.returned (.bool (pG fmt s))/\Below w.heap.size w w':=by
 have key:∀ n:Nat,Jh fmt=n->pG fmt s=(decide (s.size=n)&&th (bl s)):=fun n J=>by unfold pG;rw[J]
 rcases hf with rfl | rfl | rfl
 ·have K:=iV (key 32 (by decide));clear key;by_cases y:s.size=32
  ·have z:((s.size:Int)==32)=true:=oV y;have E:Hid (pG 1 s=th (bl s)):=by show _=_;rw[K.out,dT y];rfl
   clear y;go_in;go_wp2_with fail;refine(ti s _ hs).mono ?_;rintro e I ⟨⟨t,rfl,ht⟩,D⟩;have H:=iV ht;have F:=iV D;clear ht D;go_wp2;go_ret;exact⟨iW (by rw[E.out];exact H.out),F.out⟩
  ·have z:((s.size:Int)==32)=false:=om y;have E:Hid (pG 1 s=false):=by show _=_;rw[K.out,dF y];rfl
   clear y;go_in;go_wp2;go_ret;exact⟨iW (by rw[E.out]),bR⟩
 ·have K:=iV (key 64 (by decide));clear key;by_cases y:s.size=64
  ·have z:((s.size:Int)==64)=true:=oV y;have E:Hid (pG 2 s=th (bl s)):=by show _=_;rw[K.out,dT y];rfl
   clear y;go_in;go_wp2_with fail;refine(ti s _ hs).mono ?_;rintro e I ⟨⟨t,rfl,ht⟩,D⟩;have H:=iV ht;have F:=iV D;clear ht D;go_wp2;go_ret;exact⟨iW (by rw[E.out];exact H.out),F.out⟩
  ·have z:((s.size:Int)==64)=false:=om y;have E:Hid (pG 2 s=false):=by show _=_;rw[K.out,dF y];rfl
   clear y;go_in;go_wp2;go_ret;exact⟨iW (by rw[E.out]),bR⟩
 ·have K:=iV (key 40 (by decide));clear key;by_cases y:s.size=40
  ·have z:((s.size:Int)==40)=true:=oV y;have E:Hid (pG 3 s=th (bl s)):=by show _=_;rw[K.out,dT y];rfl
   clear y;go_in;go_wp2_with fail;refine(ti s _ hs).mono ?_;rintro e I ⟨⟨t,rfl,ht⟩,D⟩;have H:=iV ht;have F:=iV D;clear ht D;go_wp2;go_ret;exact⟨iW (by rw[E.out];exact H.out),F.out⟩
  ·have z:((s.size:Int)==40)=false:=om y;have E:Hid (pG 3 s=false):=by show _=_;rw[K.out,dF y];rfl
   clear y;go_in;go_wp2;go_ret;exact⟨iW (by rw[E.out]),bR⟩
theorem xo (fmt n:Int)(hfmt:fmt=1\/fmt=2\/fmt=3)(w:World):Calls Tryz.prog 55 #[.int .i64 fmt,.int .i64 n] w fun e w'=>e=.returned (.bool (zD fmt n))/\w=w':=by
 by_cases y:1<=n
 ·by_cases D:n<=4
  ·have E:Hid (zD fmt n=true):=dT (.inl ⟨y,D⟩);have K:decide (n<=4)=true:=dT D;have I:decide (n<=6)=true:=dT (by omega);have F:decide (1<=n)=true:=dT y;rcases hfmt with rfl | rfl | rfl
   all_goals
    go_in;go_wp2;go_ret;exact⟨iW (by rw[E.out]),rfl⟩
  ·have K:decide (n<=4)=false:=dF D;have F:decide (1<=n)=true:=dT y;rcases hfmt with rfl | rfl | rfl
   ·by_cases z:n=7
    ·have E:Hid (zD 1 n=true):=dT (by omega);have J:(n==7)=true:=by simpa using z
     clear z;go_in;go_wp2;go_ret;exact⟨iW (by rw[E.out]),rfl⟩
    ·have E:Hid (zD 1 n=false):=dF (by omega);have J:(n==7)=false:=by simpa using z
     clear z;go_in;go_wp2;go_ret;exact⟨iW (by rw[E.out]),rfl⟩
   ·have E:Hid (zD 2 n=false):=dF (by omega);go_in;go_wp2;go_ret;exact⟨iW (by rw[E.out]),rfl⟩
   ·by_cases H:n<=6
    ·have E:Hid (zD 3 n=true):=dT (by omega);have I:decide (n<=6)=true:=dT H;go_in;go_wp2;go_ret;exact⟨iW (by rw[E.out]),rfl⟩
    ·have E:Hid (zD 3 n=false):=dF (by omega);have I:decide (n<=6)=false:=dF H;go_in;go_wp2;go_ret;exact⟨iW (by rw[E.out]),rfl⟩
 ·have E:Hid (zD fmt n=false):=dF (by omega);have F:decide (1<=n)=false:=dF y;have J:(n==7)=false:=by simp;omega
  rcases hfmt with rfl | rfl | rfl
  all_goals
   go_in;go_wp2;go_ret;exact⟨iW (by rw[E.out]),rfl⟩
end
end Go.Proofs.YtkmjcombhjombaaGreatDoor
