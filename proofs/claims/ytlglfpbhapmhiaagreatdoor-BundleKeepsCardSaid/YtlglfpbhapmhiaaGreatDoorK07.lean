/- A part of the proof. -/
import Derived.Deep.Fields
import Derived.Deep.Slices
import Derived.Test.YtlglfpbhapmhiaaGreatDoorK04
import Derived.Test.YtlglfpbhapmhiaaGreatDoorK05
set_option maxRecDepth 100000
set_option maxHeartbeats 20000000
set_option linter.unusedVariables false
set_option linter.unusedSimpArgs false
namespace Go.Proofs.YtlglfpbhapmhiaaGreatDoor
def cG:LU→List (LU)
 | []=>[[]]
 | c::r=>if c=47 then []::cG r else ((c::(cG r).headD [])::(cG r).tail)
theorem C8:∀ l,cG l≠[]
 | []=>by simp[cG]
 | c::r=>by unfold cG;split<;>simp
theorem iD {c:UInt8}(h:c≠47)(r:LU):∃ p ps,cG r=p::ps∧cG (c::r)=(c::p)::ps:=by
 cases hr:cG r with
 | nil=>exact absurd hr (C8 r)
 | cons p ps=>exact⟨p,ps,rfl,by rw[cG,if_neg h,hr];rfl⟩
theorem pm:∀ (l:LU),(47:UInt8) ∉ l→cG l=[l]
 | [],_=>rfl
 | c::r,h=>by
  have hc:c≠47:=fun e=>h (by rw[e];simp)
  obtain⟨p,ps,h1,h2⟩:=iD hc r
  rw[pm r (fun hm=>h (List.mem_cons_of_mem _ hm))] at h1
  injection h1 with h3 h4
  rw[h2,←h3,←h4]
theorem qE:∀ (k:Nat)(l:LU),(47:UInt8) ∉ l.take k→l[k]?=some 47→cG l=l.take k::cG (l.drop (k+1))
 | k,[],_,h=>by simp at h
 | 0,c::r,_,h=>by
  simp at h;subst h
  simp[cG]
 | k+1,c::r,hn,h=>by
  have hc:c≠47:=fun e=>hn (by rw[e];simp)
  obtain⟨p,ps,h1,h2⟩:=iD hc r
  rw[qE k r (fun hm=>hn (by rw[List.take_succ_cons];exact List.mem_cons_of_mem _ hm)) (by simpa using h)] at h1
  injection h1 with h3 h4
  rw[h2,←h3,←h4];simp
theorem lV:∀ (n:Nat)(l:LU),l.count 47=n→Lib.splitK [47] 0 n l=cG l
 | 0,l,h=>by
  rw[pm l (List.count_eq_zero.1 h)];rfl
 | n+1,l,h=>by
  have hm:(47:UInt8)∈l:=List.count_pos_iff.1 (by omega)
  unfold Lib.splitK
  rw[Lib.index_one]
  obtain⟨k,hk,hn,hg⟩:=indexByte_mem 47 l hm
  rw[hk,if_neg (by simp;try omega),qE k l hn hg]
  have e:((k:Int)).toNat=k:=by omega
  rw[e]
  congr 1
  simp only[List.length_singleton]
  refine lV n (l.drop (k+1)) ?_
  have hkl:k<l.length:=(gS hg).1
  have hd:l=l.take k++47::l.drop (k+1):=by
   have h47:l[k]=47:=(gS hg).2
   rw[←h47,←List.drop_eq_getElem_cons hkl,List.take_append_drop]
  rw[hd,List.count_append,List.count_eq_zero.2 hn,List.count_cons_self] at h
  simp at h ⊢
  omega
 where
 indexByte_mem (c:UInt8):∀ (l:LU),c∈l→∃ k:Nat,Lib.indexByte l c=k∧c ∉ l.take k∧l[k]?=some c
  | [],h=>by simp at h
  | b::r,h=>by
   by_cases hb:b=c
   ·subst hb;exact⟨0,by simp[Lib.indexByte],by simp,by simp⟩
   ·have hr:c∈r:=by rcases List.mem_cons.1 h with h | h;exact absurd h.symm hb;exact h
    obtain⟨k,h1,h2,h3⟩:=indexByte_mem c r hr
    refine⟨k+1,?_,?_,by simpa using h3⟩
    ·have:(b==c)=false:=by simp[hb]
     simp only[Lib.indexByte,this,h1]
     rw[if_neg (by simp),if_neg (by simp;try omega)];rfl
    ·rw[List.take_succ_cons];intro hm;rcases List.mem_cons.1 hm with hm | hm;exact hb hm.symm;exact h2 hm
def xo (p:LU):Bool:=!(decide (p=[])||decide (p=[46])||decide (p=[46,46]))
def eh (l:LU):Bool:=decide (1≤l.length)&&decide (l.length≤200) && !l.contains 0&&(cG l).all xo
def fK (l:LU):Option (LU):=if eh l then (dB 47 l).map (l.take ·) else none
section
open Go.RowKit
theorem Rd.reads {w:World}{sz n:Nat}{A:OA}{xs:LV}(h:Rd w sz A n xs)(hsz:0<sz):ji w w.heap.size sz A n xs:=by
 refine⟨h.1,fun hn=>?_⟩
 obtain⟨b,off,e,hc⟩:=h.2 hn
 have hl:0<xs.length:=by rw[h.1];exact Nat.mul_pos hn hsz
 have h0:=hc 0 _ (gG hl)
 refine⟨_,e,World.block_lt_of_cell? _ _ h0,fun j u hu=>?_⟩
 have:=hc j u hu
 unfold Addr.add
 split
 ·rename_i h;subst h;exact this
 ·exact this
def fy (w:World)(E:TypeId)(sz n:Nat)(xs:LV)(e:Ending)(w':World):Prop:=∃ v,e=.returned v∧w'.ownsRow w.heap.size E sz v n xs∧Below w.heap.size w w'
theorem vK:(Tryz.prog.info? 27).map (fun i=>(i.zero,i.size,i.bytes))=some (some (.agg #[.string ⟨#[]⟩,.string ⟨#[]⟩,.string ⟨#[]⟩,.string ⟨#[]⟩,.slice none 0 0,.slice none 0 0,.slice none 0 0,.slice none 0 0,.slice none 0 0]),9,184):=by kernel_rfl
theorem tE (A:OA)(n c:Nat)(xs:LV)(w:World)(hr:Rd w 9 A n xs)(h1:∀ u∈xs,u.oneCell'=true)(hn:n≤100000):
  Calls Tryz.prog 92 #[.slice A n c] w (fy w 27 9 n xs):=by
 obtain⟨i0,hi0,hz0,hz1,hz2⟩:=info_parts vK
 have HR:=ae hr;clear hr
 have H1:=ae h1;clear h1
 go_enter Tryz.func92,Tryz.ntmps92
 go_wp2_with (at_builtin;refine au _ rfl (.const (.slice none 0 0)) (.tmp 3) _ rfl w.heap.size 27 i0 _ 9 184 Tryz.underlying71 hi0 hz0 hz1 hz2 rfl (by omega) (.slice none 0 0) 0 [] rfl ⟨by simp,.inl ⟨rfl,rfl⟩⟩ w.heap.size A n c xs rfl (HR.out.reads (by omega)) H1.out (by simp only[maxLen];omega) (by omega) lr ?_;intro v1 w1 hown1 hg1 hat1)
 go_ret
 exact⟨v1,rfl,by simpa using hown1,bR.grown hg1 lr (by simp[Value.ownBlock])⟩
theorem kK:(Tryz.prog.info? 9).map (fun i=>(i.zero,i.size,i.bytes))=some (some (.string ⟨#[]⟩),1,16):=by kernel_rfl
theorem uy (A:OA)(n c:Nat)(xs:LV)(w:World)(hr:Rd w 1 A n xs)(h1:∀ u∈xs,u.oneCell'=true)(hn:n≤100000):
  Calls Tryz.prog 93 #[.slice A n c] w (fy w 9 1 n xs):=by
 obtain⟨i0,hi0,hz0,hz1,hz2⟩:=info_parts kK
 have HR:=ae hr;clear hr
 have H1:=ae h1;clear h1
 go_enter Tryz.func93,Tryz.ntmps93
 go_wp2_with (at_builtin;refine au _ rfl (.const (.slice none 0 0)) (.tmp 3) _ rfl w.heap.size 9 i0 _ 1 16 Tryz.underlying22 hi0 hz0 hz1 hz2 rfl (by omega) (.slice none 0 0) 0 [] rfl ⟨by simp,.inl ⟨rfl,rfl⟩⟩ w.heap.size A n c xs rfl (HR.out.reads (by omega)) H1.out (by simp only[maxLen];omega) (by omega) lr ?_;intro v1 w1 hown1 hg1 hat1)
 go_ret
 exact⟨v1,rfl,by simpa using hown1,bR.grown hg1 lr (by simp[Value.ownBlock])⟩
theorem Df:(Tryz.prog.info? 81).map (fun i=>(i.zero,i.size,i.bytes))=some (some (.agg #[.string ⟨#[]⟩,.int .i64 0,.string ⟨#[]⟩]),3,40):=by kernel_rfl
theorem zM (A:OA)(n c:Nat)(xs:LV)(w:World)(hr:Rd w 3 A n xs)(h1:∀ u∈xs,u.oneCell'=true)(hn:n≤100000):
  Calls Tryz.prog 94 #[.slice A n c] w (fy w 81 3 n xs):=by
 obtain⟨i0,hi0,hz0,hz1,hz2⟩:=info_parts Df
 have HR:=ae hr;clear hr
 have H1:=ae h1;clear h1
 go_enter Tryz.func94,Tryz.ntmps94
 go_wp2_with (at_builtin;refine au _ rfl (.const (.slice none 0 0)) (.tmp 3) _ rfl w.heap.size 81 i0 _ 3 40 Tryz.underlying23 hi0 hz0 hz1 hz2 rfl (by omega) (.slice none 0 0) 0 [] rfl ⟨by simp,.inl ⟨rfl,rfl⟩⟩ w.heap.size A n c xs rfl (HR.out.reads (by omega)) H1.out (by simp only[maxLen];omega) (by omega) lr ?_;intro v1 w1 hown1 hg1 hat1)
 go_ret
 exact⟨v1,rfl,by simpa using hown1,bR.grown hg1 lr (by simp[Value.ownBlock])⟩
theorem Dg:(Tryz.prog.info? 56).map (fun i=>(i.zero,i.size,i.bytes))=some (some (.agg #[.string ⟨#[]⟩,.int .i64 0,.int .i64 0,.string ⟨#[]⟩,.string ⟨#[]⟩,.string ⟨#[]⟩,.string ⟨#[]⟩,.bool false]),8,104):=by kernel_rfl
theorem zN (A:OA)(n c:Nat)(xs:LV)(w:World)(hr:Rd w 8 A n xs)(h1:∀ u∈xs,u.oneCell'=true)(hn:n≤100000):
  Calls Tryz.prog 95 #[.slice A n c] w (fy w 56 8 n xs):=by
 obtain⟨i0,hi0,hz0,hz1,hz2⟩:=info_parts Dg
 have HR:=ae hr;clear hr
 have H1:=ae h1;clear h1
 go_enter Tryz.func95,Tryz.ntmps95
 go_wp2_with (at_builtin;refine au _ rfl (.const (.slice none 0 0)) (.tmp 3) _ rfl w.heap.size 56 i0 _ 8 104 Tryz.underlying24 hi0 hz0 hz1 hz2 rfl (by omega) (.slice none 0 0) 0 [] rfl ⟨by simp,.inl ⟨rfl,rfl⟩⟩ w.heap.size A n c xs rfl (HR.out.reads (by omega)) H1.out (by simp only[maxLen];omega) (by omega) lr ?_;intro v1 w1 hown1 hg1 hat1)
 go_ret
 exact⟨v1,rfl,by simpa using hown1,bR.grown hg1 lr (by simp[Value.ownBlock])⟩
theorem xE:(Tryz.prog.info? 44).map (fun i=>(i.zero,i.size,i.bytes))=some (some (.agg #[.int .i64 0,.string ⟨#[]⟩]),2,24):=by kernel_rfl
theorem vL (A:OA)(n c:Nat)(xs:LV)(w:World)(hr:Rd w 2 A n xs)(h1:∀ u∈xs,u.oneCell'=true)(hn:n≤100000):
  Calls Tryz.prog 96 #[.slice A n c] w (fy w 44 2 n xs):=by
 obtain⟨i0,hi0,hz0,hz1,hz2⟩:=info_parts xE
 have HR:=ae hr;clear hr
 have H1:=ae h1;clear h1
 go_enter Tryz.func96,Tryz.ntmps96
 go_wp2_with (at_builtin;refine au _ rfl (.const (.slice none 0 0)) (.tmp 3) _ rfl w.heap.size 44 i0 _ 2 24 Tryz.underlying25 hi0 hz0 hz1 hz2 rfl (by omega) (.slice none 0 0) 0 [] rfl ⟨by simp,.inl ⟨rfl,rfl⟩⟩ w.heap.size A n c xs rfl (HR.out.reads (by omega)) H1.out (by simp only[maxLen];omega) (by omega) lr ?_;intro v1 w1 hown1 hg1 hat1)
 go_ret
 exact⟨v1,rfl,by simpa using hown1,bR.grown hg1 lr (by simp[Value.ownBlock])⟩
theorem vN (l:List BA):∀ u∈az l,u.oneCell'=true:=by
 intro u hu;simp only[az,List.mem_map] at hu;obtain⟨x,_,rfl⟩:=hu;rfl
theorem kL {α:Type}{f:α→LV}(hf:∀ x,∀ u∈f x,u.oneCell'=true)(l:List α):∀ u∈l.flatMap f,u.oneCell'=true:=by
 intro u hu;simp only[List.mem_flatMap] at hu;obtain⟨x,_,h⟩:=hu;exact hf x u h
theorem Gk (x:cM):∀ u∈x.cells,u.oneCell'=true:=by intro u hu;simp only[cM.cells,List.mem_cons,List.not_mem_nil,or_false] at hu;rcases hu with rfl | rfl | rfl<;>rfl
theorem qO (x:ax):∀ u∈x.cells,u.oneCell'=true:=by intro u hu;simp only[ax.cells,List.mem_cons,List.not_mem_nil,or_false] at hu;rcases hu with rfl | rfl | rfl | rfl | rfl | rfl | rfl | rfl<;>rfl
theorem zP (x:aT):∀ u∈x.cells,u.oneCell'=true:=by intro u hu;simp only[aT.cells,List.mem_cons,List.not_mem_nil,or_false] at hu;rcases hu with rfl | rfl<;>rfl
theorem Lf (x:bN):∀ u∈x.cells,u.oneCell'=true:=by intro u hu;simp only[bN.cells,List.mem_cons,List.not_mem_nil,or_false] at hu;rcases hu with rfl | rfl | rfl | rfl | rfl | rfl | rfl | rfl | rfl<;>rfl
structure bN.few (p:bN):Prop where
 needs:p.needs.length≤100000
 bars:p.bars.length≤100000
 gives:p.gives.length≤100000
 files:p.files.length≤100000
 scripts:p.scripts.length≤100000
def xF (l:List bN)(w:World)(e:Ending)(w':World):Prop:=
 ∃ (A:OA)(c g0:Nat)(l':List bN),e=.returned (.slice A l.length c)∧l'.length=l.length∧(∀ (i:Nat)(p q:bN),l[i]?=some p→l'[i]?=some q→p.alike q)∧Mq w' w.heap.size g0 (.slice A l.length c) l'∧Below w.heap.size w w'
theorem zQ (A:OA)(c:Nat)(l:List bN)(w:World)(hd:Mp w A l)(hl:l.length≤100000)(hf:∀ p∈l,p.few):
  Calls Tryz.prog 52 #[.slice A l.length c] w (xF l w):=by
 have HD:=ae hd;clear hd
 have HF:=ae hf;clear hf
 go_enter Tryz.func52,Tryz.ntmps52
 go_wp2_with fail
 refine(tE A l.length c _ _ HD.out.row (kL Lf l) hl).mono ?_
 rintro e w1 ⟨v,rfl,hown,hb1⟩
 obtain⟨A0,c0,rfl⟩:=aL hown
 have HO:=ae hown;clear hown
 have HB:=ae hb1;clear hb1
 by_cases hz:l=[]
 ·subst hz
  go_wp2_with fail
  refine wp_loop_rounds 1 ?_
  rw[rounds_succ]
  go_wp2_with fail
  go_ret
  exact⟨A0,c0,0,[],rfl,rfl,(fun i p q hp hq=>by simp at hp),⟨HO.out,(fun h=>by simp at h),(fun q hq=>by simp at hq),.nil⟩,HB.out⟩
 ·have hpos:0<l.length:=List.length_pos_iff.2 hz
  clear hz
  obtain⟨g0,cap,hv,hg,hg'⟩:=HO.out.form hpos
  obtain⟨rfl,rfl⟩:A0=some ⟨g0,0,none⟩∧c0=cap:=by injection hv with h1 _ h2;exact⟨h1,h2⟩
  clear hv
  go_wp2_with fail
  go_loopw [10] (fun i wr=>∃ (k:Nat)(qs:List bN),k≤l.length∧i=.int .i64 k∧Hid (qs.length=k∧(∀ (i:Nat)(p q:bN),l[i]?=some p→qs[i]?=some q→p.alike q)∧wr.ownsRow w.heap.size 27 9 (.slice (some ⟨g0,0,none⟩) l.length c0) l.length ((qs++l.drop k).flatMap bN.cells)∧((∀ q∈qs,fP q wr (g0+1))∧qs.Pairwise Gi)∧Below w.heap.size w wr)) (fun i _=>l.length-(intOf i).toNat)
  case atStart=>exact⟨0,[],z0,rfl,rfl,(fun i p q _ hq=>by simp at hq),(by simpa using HO.out),⟨(fun q hq=>by simp at hq),.nil⟩,HB.out⟩
  case round=>
   obtain⟨k,qs,hk,rfl,HR⟩:=hrel
   by_cases hlt:k<l.length
   ·obtain⟨p,hp⟩:∃ p,l[k]?=some p:=⟨_,gG hlt⟩
    have hpm:p∈l:=gM hp
    obtain⟨h1,h2,h3,h4,h5⟩:=HR.out
    obtain⟨b,off,hA,he⟩:=(HD.out.row.below h5).elem iF k p hp
    have e0:=he 0 _ rfl
    have e1:=he 1 _ rfl
    have e2:=he 2 _ rfl
    have e3:=he 3 _ rfl
    have e4:=he 4 _ rfl
    have e5:=he 5 _ rfl
    have e6:=he 6 _ rfl
    have e7:=he 7 _ rfl
    have e8:=he 8 _ rfl
    simp only[Nat.add_zero] at e0
    have hix:=fun W=>aH (T:=71) (E:=27) (sz:=9) (c:=c) Tryz.underlying71 rfl Tryz.sizeOf27 hA hlt W
    have hdrop:l.drop k=p::l.drop (k+1):=by rw[List.drop_eq_getElem_cons hlt];congr 1;exact(gS hp).2
    have hgw:g0<wr.heap.size:=(h3.lt g0 rfl).2
    have hkk:k*9+9≤l.length*9:=by omega
    rw[hdrop] at h3
    have O:=bN.ok.below ((HD.out.all p hpm).below h5) (bR.alloc lr (.cells #[.string p.nm,.string p.ver,.string p.ar,.string p.sm,.slice p.na p.needs.length p.nc,.slice p.ba p.bars.length p.bc,.slice p.ga p.gives.length p.gc,.slice p.fa p.files.length p.fc,.slice p.sa p.scripts.length p.sc] 27))
    have few:=HF.out p hpm
    have H1:=ae h1;have H2:=ae h2;have R0:=ae h3;have H4:=ae h4;have H5:=ae h5;have HDR:=ae hdrop;have HP:=ae hp;have OK:=ae O;have FEW:=ae few;have HPM:=ae hpm
    clear h1 h2 h3 h4 h5 hdrop hp hA he O few hpm HR
    have hn1:¬ g0=wr.heap.size:=by omega
    have hn2:¬ wr.heap.size=g0:=by omega
    go_wp2_with fail
    refine(uy p.na p.needs.length p.nc (az p.needs) _ (by exact OK.out.needs) (vN _) FEW.out.needs).mono ?_
    rintro e w2 ⟨v1,rfl,o1,b1⟩
    obtain⟨a1,c1,rfl⟩:=aL o1
    have R1:=ae (aD (R0.out.alloc _) b1)
    have G1:=ae (bh (World.grownBy.refl (wr.alloc (.cells #[.string p.nm,.string p.ver,.string p.ar,.string p.sm,.slice p.na p.needs.length p.nc,.slice p.ba p.bars.length p.bc,.slice p.ga p.gives.length p.gc,.slice p.fa p.files.length p.fc,.slice p.sa p.scripts.length p.sc] 27)) (some g0)) b1)
    have O1:=ae o1;have B1:=ae b1;clear o1 b1
    have kb:∀ j:Nat,w2.cell? ⟨wr.heap.size,j,none⟩=(wr.alloc (.cells #[.string p.nm,.string p.ver,.string p.ar,.string p.sm,.slice p.na p.needs.length p.nc,.slice p.ba p.bars.length p.bc,.slice p.ga p.gives.length p.gc,.slice p.fa p.files.length p.fc,.slice p.sa p.scripts.length p.sc] 27)).cell? ⟨wr.heap.size,j,none⟩:=fun j=>World.cell?_of_block (G1.out.block wr.heap.size (by simp) (by intro h;injection h with h;omega))
    have x1:w2.cell? ⟨wr.heap.size,5,none⟩=some _:=(kb 5).trans (by simp;rfl)
    clear kb
    have y1:w2.cell? ⟨g0,k*9+4,none⟩=some (.slice p.na p.needs.length p.nc):=by
     rw[R1.out.cellAt (k*9+4) (by omega)]
     exact La qs (l.drop (k+1)) p k H1.out
    have z1:=R1.out.frozenAt (k*9+4)
    have RS1:=ae (R1.out.stored (k*9+4) (.slice a1 p.needs.length c1)).1
    have GS1:=ae (an G1.out (p:=⟨g0,k*9+4,none⟩) (.inl rfl) (.slice a1 p.needs.length c1))
    have OKb1:Hid (p.ok (w2.setCell ⟨g0,k*9+4,none⟩ (.slice a1 p.needs.length c1))):=vM (HD.out.all p HPM.out) H5.out ((World.grownBy.refl wr (some g0) |> fun h=>dG h _) |> fun h=>aj h GS1.out) (by have:=H5.out.size;omega)
    go_wp2_with fail
    refine(uy p.ba p.bars.length p.bc (az p.bars) _ (by exact(OKb1.out.bars)) (vN _) FEW.out.bars).mono ?_
    rintro e w3 ⟨v2,rfl,o2,b2⟩
    obtain⟨a2,c2,rfl⟩:=aL o2
    have R2:=ae (aD RS1.out b2)
    have G2:=ae (bh GS1.out b2)
    have O2:=ae o2;have B2:=ae b2;clear o2 b2
    have kb:∀ j:Nat,w3.cell? ⟨wr.heap.size,j,none⟩=(wr.alloc (.cells #[.string p.nm,.string p.ver,.string p.ar,.string p.sm,.slice p.na p.needs.length p.nc,.slice p.ba p.bars.length p.bc,.slice p.ga p.gives.length p.gc,.slice p.fa p.files.length p.fc,.slice p.sa p.scripts.length p.sc] 27)).cell? ⟨wr.heap.size,j,none⟩:=fun j=>World.cell?_of_block (G2.out.block wr.heap.size (by simp) (by intro h;injection h with h;omega))
    have x2:w3.cell? ⟨wr.heap.size,6,none⟩=some _:=(kb 6).trans (by simp;rfl)
    clear kb
    have y2:w3.cell? ⟨g0,k*9+5,none⟩=some (.slice p.ba p.bars.length p.bc):=by
     rw[R2.out.cellAt (k*9+5) (by omega)]
     exact Lb qs (l.drop (k+1)) p k H1.out (.slice a1 p.needs.length c1)
    have z2:=R2.out.frozenAt (k*9+5)
    have RS2:=ae (R2.out.stored (k*9+5) (.slice a2 p.bars.length c2)).1
    have GS2:=ae (an G2.out (p:=⟨g0,k*9+5,none⟩) (.inl rfl) (.slice a2 p.bars.length c2))
    have OKb2:Hid (p.ok (w3.setCell ⟨g0,k*9+5,none⟩ (.slice a2 p.bars.length c2))):=vM (HD.out.all p HPM.out) H5.out ((World.grownBy.refl wr (some g0) |> fun h=>dG h _) |> fun h=>aj h GS2.out) (by have:=H5.out.size;omega)
    clear x1
    go_wp2_with fail
    refine(zM p.ga p.gives.length p.gc (p.gives.flatMap cM.cells) _ (by exact(OKb2.out.gives)) (kL Gk _) FEW.out.gives).mono ?_
    rintro e w4 ⟨v3,rfl,o3,b3⟩
    obtain⟨a3,c3,rfl⟩:=aL o3
    have R3:=ae (aD RS2.out b3)
    have G3:=ae (bh GS2.out b3)
    have O3:=ae o3;have B3:=ae b3;clear o3 b3
    have kb:∀ j:Nat,w4.cell? ⟨wr.heap.size,j,none⟩=(wr.alloc (.cells #[.string p.nm,.string p.ver,.string p.ar,.string p.sm,.slice p.na p.needs.length p.nc,.slice p.ba p.bars.length p.bc,.slice p.ga p.gives.length p.gc,.slice p.fa p.files.length p.fc,.slice p.sa p.scripts.length p.sc] 27)).cell? ⟨wr.heap.size,j,none⟩:=fun j=>World.cell?_of_block (G3.out.block wr.heap.size (by simp) (by intro h;injection h with h;omega))
    have x3:w4.cell? ⟨wr.heap.size,7,none⟩=some _:=(kb 7).trans (by simp;rfl)
    clear kb
    have y3:w4.cell? ⟨g0,k*9+6,none⟩=some (.slice p.ga p.gives.length p.gc):=by
     rw[R3.out.cellAt (k*9+6) (by omega)]
     exact Lc qs (l.drop (k+1)) p k H1.out (.slice a1 p.needs.length c1) (.slice a2 p.bars.length c2)
    have z3:=R3.out.frozenAt (k*9+6)
    have RS3:=ae (R3.out.stored (k*9+6) (.slice a3 p.gives.length c3)).1
    have GS3:=ae (an G3.out (p:=⟨g0,k*9+6,none⟩) (.inl rfl) (.slice a3 p.gives.length c3))
    have OKb3:Hid (p.ok (w4.setCell ⟨g0,k*9+6,none⟩ (.slice a3 p.gives.length c3))):=vM (HD.out.all p HPM.out) H5.out ((World.grownBy.refl wr (some g0) |> fun h=>dG h _) |> fun h=>aj h GS3.out) (by have:=H5.out.size;omega)
    clear x2
    go_wp2_with fail
    refine(zN p.fa p.files.length p.fc (p.files.flatMap ax.cells) _ (by exact(OKb3.out.files)) (kL qO _) FEW.out.files).mono ?_
    rintro e w5 ⟨v4,rfl,o4,b4⟩
    obtain⟨a4,c4,rfl⟩:=aL o4
    have R4:=ae (aD RS3.out b4)
    have G4:=ae (bh GS3.out b4)
    have O4:=ae o4;have B4:=ae b4;clear o4 b4
    have kb:∀ j:Nat,w5.cell? ⟨wr.heap.size,j,none⟩=(wr.alloc (.cells #[.string p.nm,.string p.ver,.string p.ar,.string p.sm,.slice p.na p.needs.length p.nc,.slice p.ba p.bars.length p.bc,.slice p.ga p.gives.length p.gc,.slice p.fa p.files.length p.fc,.slice p.sa p.scripts.length p.sc] 27)).cell? ⟨wr.heap.size,j,none⟩:=fun j=>World.cell?_of_block (G4.out.block wr.heap.size (by simp) (by intro h;injection h with h;omega))
    have x4:w5.cell? ⟨wr.heap.size,8,none⟩=some _:=(kb 8).trans (by simp;rfl)
    clear kb
    have y4:w5.cell? ⟨g0,k*9+7,none⟩=some (.slice p.fa p.files.length p.fc):=by
     rw[R4.out.cellAt (k*9+7) (by omega)]
     exact Ld qs (l.drop (k+1)) p k H1.out (.slice a1 p.needs.length c1) (.slice a2 p.bars.length c2) (.slice a3 p.gives.length c3)
    have z4:=R4.out.frozenAt (k*9+7)
    have RS4:=ae (R4.out.stored (k*9+7) (.slice a4 p.files.length c4)).1
    have GS4:=ae (an G4.out (p:=⟨g0,k*9+7,none⟩) (.inl rfl) (.slice a4 p.files.length c4))
    have OKb4:Hid (p.ok (w5.setCell ⟨g0,k*9+7,none⟩ (.slice a4 p.files.length c4))):=vM (HD.out.all p HPM.out) H5.out ((World.grownBy.refl wr (some g0) |> fun h=>dG h _) |> fun h=>aj h GS4.out) (by have:=H5.out.size;omega)
    clear x3
    go_wp2_with fail
    refine(vL p.sa p.scripts.length p.sc (p.scripts.flatMap aT.cells) _ (by exact(OKb4.out.scripts)) (kL zP _) FEW.out.scripts).mono ?_
    rintro e w6 ⟨v5,rfl,o5,b5⟩
    obtain⟨a5,c5,rfl⟩:=aL o5
    have R5:=ae (aD RS4.out b5)
    have G5:=ae (bh GS4.out b5)
    have O5:=ae o5;have B5:=ae b5;clear o5 b5
    have kb:∀ j:Nat,w6.cell? ⟨wr.heap.size,j,none⟩=(wr.alloc (.cells #[.string p.nm,.string p.ver,.string p.ar,.string p.sm,.slice p.na p.needs.length p.nc,.slice p.ba p.bars.length p.bc,.slice p.ga p.gives.length p.gc,.slice p.fa p.files.length p.fc,.slice p.sa p.scripts.length p.sc] 27)).cell? ⟨wr.heap.size,j,none⟩:=fun j=>World.cell?_of_block (G5.out.block wr.heap.size (by simp) (by intro h;injection h with h;omega))
    clear kb
    have y5:w6.cell? ⟨g0,k*9+8,none⟩=some (.slice p.sa p.scripts.length p.sc):=by
     rw[R5.out.cellAt (k*9+8) (by omega)]
     exact Le qs (l.drop (k+1)) p k H1.out (.slice a1 p.needs.length c1) (.slice a2 p.bars.length c2) (.slice a3 p.gives.length c3) (.slice a4 p.files.length c4)
    have z5:=R5.out.frozenAt (k*9+8)
    have RS5:=ae (R5.out.stored (k*9+8) (.slice a5 p.scripts.length c5)).1
    have GS5:=ae (an G5.out (p:=⟨g0,k*9+8,none⟩) (.inl rfl) (.slice a5 p.scripts.length c5))
    clear x4
    go_wp2_with fail
    have D5:=an (World.grownBy.refl w6 (some g0)) (p:=⟨g0,k*9+8,none⟩) (.inl rfl) (.slice a5 p.scripts.length c5)
    have D4:=aj (bh (an (World.grownBy.refl w5 (some g0)) (p:=⟨g0,k*9+7,none⟩) (.inl rfl) (.slice a4 p.files.length c4)) B5.out) D5
    have D3:=aj (bh (an (World.grownBy.refl w4 (some g0)) (p:=⟨g0,k*9+6,none⟩) (.inl rfl) (.slice a3 p.gives.length c3)) B4.out) D4
    have D2:=aj (bh (an (World.grownBy.refl w3 (some g0)) (p:=⟨g0,k*9+5,none⟩) (.inl rfl) (.slice a2 p.bars.length c2)) B3.out) D3
    have D1:=aj (bh (an (World.grownBy.refl w2 (some g0)) (p:=⟨g0,k*9+4,none⟩) (.inl rfl) (.slice a1 p.needs.length c1)) B2.out) D2
    have GE:=aj (dG (World.grownBy.refl wr (some g0)) _) GS5.out
    have sz1:=G1.out.size;have sz2:=G2.out.size;have sz3:=G3.out.size;have sz4:=G4.out.size
    have hq:fP { p with na:=a1,nc:=c1,ba:=a2,bc:=c2,ga:=a3,gc:=c3,fa:=a4,fc:=c4,sa:=a5,sc:=c5 } _ (g0+1):=⟨aJ (aN O1.out (by simp;omega)) (Nat.lt_succ_self _) D1,aJ (aN O2.out (by simp at *;omega)) (Nat.lt_succ_self _) D2,aJ (aN O3.out (by simp at *;omega)) (Nat.lt_succ_self _) D3,aJ (aN O4.out (by simp at *;omega)) (Nat.lt_succ_self _) D4,aJ (aN O5.out (by simp at *;omega)) (Nat.lt_succ_self _) D5⟩
    have F1:(qs++[({ p with na:=a1,nc:=c1,ba:=a2,bc:=c2,ga:=a3,gc:=c3,fa:=a4,fc:=c4,sa:=a5,sc:=c5 }:bN)]).length=k+1:=by rw[List.length_append,H1.out];rfl
    have F2:=zO (q:={ p with na:=a1,nc:=c1,ba:=a2,bc:=c2,ga:=a3,gc:=c3,fa:=a4,fc:=c4,sa:=a5,sc:=c5 }) H1.out H2.out HP.out ⟨rfl,rfl,rfl,rfl,rfl,rfl,rfl,rfl,rfl⟩
    have F3:=RS5.out
    rw[Gj qs (l.drop (k+1)) p k H1.out a1 a2 a3 a4 a5 c1 c2 c3 c4 c5] at F3
    have F4:=cY H5.out GE hg
    have F5:∀ q∈qs++[({ p with na:=a1,nc:=c1,ba:=a2,bc:=c2,ga:=a3,gc:=c3,fa:=a4,fc:=c4,sa:=a5,sc:=c5 }:bN)],fP q _ (g0+1):=fun q hqm=>(List.mem_append.1 hqm).elim (fun h=>(H4.out.1 q h).kept (Nat.lt_succ_self _) GE) (fun h=>by rw[List.mem_singleton.1 h];exact hq)
    have F6:(qs++[({ p with na:=a1,nc:=c1,ba:=a2,bc:=c2,ga:=a3,gc:=c3,fa:=a4,fc:=c4,sa:=a5,sc:=c5 }:bN)]).Pairwise Gi:=by
     refine List.pairwise_append.2 ⟨H4.out.2,List.pairwise_singleton ..,fun x hx y hy=>?_⟩
     rw[List.mem_singleton.1 hy]
     have hx1:=H4.out.1 x hx
     exact⟨fun g g' h h'=>by have:=(hx1.gives.lt g h).2;have:=(O3.out.lt g' h').1;simp at *;omega,fun g g' h h'=>by have:=(hx1.files.lt g h).2;have:=(O4.out.lt g' h').1;simp at *;omega⟩
    have K6:=ae F6
    clear F6
    have K1:=ae F1;have K2:=ae F2;have K3:=ae F3;have K4:=ae F4;have K5:=ae F5
    clear F1 F2 F3 F4 F5 hq D1 D2 D3 D4 D5 GE sz1 sz2 sz3 sz4
    go_roundw
    case rel=>exact⟨k+1,_,by omega,by go_num,K1.out,K2.out,K3.out,⟨K5.out,K6.out⟩,K4.out⟩
    case measure=>simp[intOf];omega
   ·go_wp2_with fail
    go_ret
    obtain⟨h1,h2,h3,h4,h5⟩:=HR.out
    have hkl:k=l.length:=by omega
    exact⟨_,_,g0,qs,rfl,by omega,h2,⟨by rw[List.drop_of_length_le (by omega),List.append_nil] at h3;rw[h1,hkl];exact h3,fun _=>rfl,h4.1,h4.2⟩,h5⟩
def vP (l:LU):Bool:=decide (1≤l.length)&&decide (l.length≤100)&&qK 32 l&&l.head? != some 32&&l.getLast? != some 32
theorem Jq (s:BA)(h:0<s.size):(bl s).head?=some s[0]:=by rw[fI s h];rfl
theorem Jr (s:BA)(h:0<s.size):(bl s).getLast?=some (s[s.size-1]):=by
 rw[List.getLast?_eq_getElem?,ah,dD s (s.size-1) (by omega)]
theorem Cg (a:UInt8):(((a.toNat:Nat):Int) != 32)=(some a != some 32):=by
 rw[bI];simp[←UInt8.toNat_inj];omega
theorem mH (s:BA)(w:World)(hs:s.size≤9223372036854775807):
  Calls Tryz.prog 46 #[.string s] w fun e w'=>e=.returned (.bool (vP (bl s)))∧w=w':=by
 have HB:=ae (ah s)
 by_cases h1:1≤s.size
 ·by_cases h2:s.size≤100
  ·have hh:=ae (Jq s (by omega))
   have hl:=ae (Jr s (by omega))
   cases hw:qK 32 (bl s)
   ·go_enter Tryz.func46,Tryz.ntmps46
    go_wp2_with (go_at_call 78;refine(ki _ 32 _ hs).mono ?_;rintro e w' ⟨rfl,rfl⟩)
    go_ret
    exact⟨af (by unfold vP;rw[hw];simp),rfl⟩
   ·go_enter Tryz.func46,Tryz.ntmps46
    go_wp2_with (go_at_call 78;refine(ki _ 32 _ hs).mono ?_;rintro e w' ⟨rfl,rfl⟩)
    all_goals go_ret
    all_goals (refine⟨af ?_,rfl⟩;unfold vP;rw[hw,HB.out,dT h1,dT h2,hh.out,hl.out])
    ·rw[←Cg,←Cg];simp[‹_=(32:Int)›]
    ·rw[←Cg,←Cg];simp
  ·go_enter Tryz.func46,Tryz.ntmps46
   go_wp2_with fail
   go_ret
   exact⟨af (by unfold vP;rw[HB.out,dF h2];simp),rfl⟩
 ·go_enter Tryz.func46,Tryz.ntmps46
  go_wp2_with fail
  go_ret
  exact⟨af (by unfold vP;rw[HB.out,dF h1];simp),rfl⟩
def Ch (r:Option (LU×LU×LU)):Int:=if r.isSome then 0 else 3
theorem iI {n:Nat}{W w1:World}(hb:Below n W w1):(∀ b o,b<n→w1.cell? ⟨b,o,none⟩=W.cell? ⟨b,o,none⟩)∧(∀ b o,b<n→w1.frozen? ⟨b,o,none⟩=W.frozen? ⟨b,o,none⟩):=
 ⟨fun b o h=>hb.cell (p:=⟨b,o,none⟩) h,fun b o h=>hb.frozen (p:=⟨b,o,none⟩) h⟩
def dq (a b:BA)(c:Int):Value:=.agg #[.string a,.string b,.int .i64 c]
theorem aX (what nm:BA)(c:Int)(a:Addr)(w:World)(ha:w.cell? a=some (.string nm))(hs:a.spot=none)(hlt:a.block<w.heap.size):
  Calls Tryz.prog 40 #[.string what,.int .i64 c,.pointer (some a)] w fun e w'=>e=.returned (dq nm what c)∧Below w.heap.size w w':=by
 obtain⟨b,o,sp⟩:=a
 subst hs
 simp only at hlt
 go_enter Tryz.func40,Tryz.ntmps40
 go_wp2
 refine bodyPost_ret (v:=dq nm what c) (by simp[results,Tryz.results40,go_sem,dq]) rfl ⟨rfl,?_⟩
 exact bR.alloc lr _
def qP (n:Int)(x:BA):Bool:=decide (aw n 0=x∨aw n 1=x∨aw n 2=x)
theorem tF (b:Nat)(n:Int)(x:BA)(w:World)(h0:w.cell? ⟨b,0,none⟩=some (.string (aw n 0)))(h1:w.cell? ⟨b,1,none⟩=some (.string (aw n 1)))(h2:w.cell? ⟨b,2,none⟩=some (.string (aw n 2))):
  Calls Tryz.prog 45 #[.slice (some ⟨b,0,none⟩) 3 3,.string x] w fun e w'=>e=.returned (.bool (qP n x))∧w'=w:=
 (Tryz.slices_Contains_string b 0 3 3 [aw n 0,aw n 1,aw n 2] x w (by simp) (by omega) (fun j hj=>by
  simp at hj
  rcases(by omega:j=0∨j=1∨j=2) with rfl | rfl | rfl<;>simpa)).mono fun _ _ ⟨he,hw⟩=>⟨by
   rw[he];congr 2;rw[bI,Lib.containsS_iff];simp only[qP,decide_eq_true_iff,List.take,List.mem_cons,List.not_mem_nil,or_false]
   exact⟨fun h=>by rcases h with h | h | h<;>simp[h],fun h=>by rcases h with h | h | h<;>simp[h]⟩,hw⟩
def jl (nm:BA)(fo no:Bool)(ev:Int)(ao so ndo bo go:Bool)(fw:BA)(fe se:Int):Value:=
 if fo=false then dq nm ⟨#[102,111,114,109,97,116]⟩ 9 else if no=false then dq nm ⟨#[110,97,109,101]⟩ 10 else if ev≠0 then dq nm ⟨#[118,101,114,115,105,111,110]⟩ ev
 else if ao=false then dq nm ⟨#[97,114,99,104]⟩ 1 else if so=false then dq nm ⟨#[115,117,109,109,97,114,121]⟩ 3 else if ndo=false then dq nm ⟨#[110,101,101,100,115]⟩ 3
 else if bo=false then dq nm ⟨#[98,97,114,115]⟩ 3 else if go=false then dq nm ⟨#[103,105,118,101,115]⟩ 3 else if fe≠0 then dq nm fw fe
 else if se≠0 then dq nm ⟨#[115,99,114,105,112,116,115]⟩ se else dq ⟨#[]⟩ ⟨#[]⟩ 0
structure nx (w w1:World) (nm ver ar sm:BA) (nd br gv fs sp:Value):Prop where
 bel:Below w.heap.size w w1
 sz:w.heap.size+1<w1.heap.size
 c0:w1.cell? ⟨w.heap.size,0,none⟩=some (.string nm)
 c1:w1.cell? ⟨w.heap.size,1,none⟩=some (.string ver)
 c2:w1.cell? ⟨w.heap.size,2,none⟩=some (.string ar)
 c3:w1.cell? ⟨w.heap.size,3,none⟩=some (.string sm)
 c4:w1.cell? ⟨w.heap.size,4,none⟩=some nd
 c5:w1.cell? ⟨w.heap.size,5,none⟩=some br
 c6:w1.cell? ⟨w.heap.size,6,none⟩=some gv
 c7:w1.cell? ⟨w.heap.size,7,none⟩=some fs
 c8:w1.cell? ⟨w.heap.size,8,none⟩=some sp
 r0:w1.cell? ⟨w.heap.size+1,0,none⟩=some (.string ⟨#[]⟩)
 r1:w1.cell? ⟨w.heap.size+1,1,none⟩=some (.string ⟨#[]⟩)
 r2:w1.cell? ⟨w.heap.size+1,2,none⟩=some (.int .i64 0)
 f0:w1.frozen? ⟨w.heap.size+1,0,none⟩=false
 f1:w1.frozen? ⟨w.heap.size+1,1,none⟩=false
 f2:w1.frozen? ⟨w.heap.size+1,2,none⟩=false
theorem nx.step {w w1 w2:World}{nm ver ar sm:BA}{nd br gv fs sp:Value}(h:nx w w1 nm ver ar sm nd br gv fs sp)(hb:Below w1.heap.size w1 w2):nx w w2 nm ver ar sm nd br gv fs sp:=by
 have hz:=h.sz
 have k0:∀ o,w2.cell? ⟨w.heap.size,o,none⟩=w1.cell? ⟨w.heap.size,o,none⟩:=fun o=>hb.cell (p:=⟨w.heap.size,o,none⟩) (by show w.heap.size<_;omega)
 have k1:∀ o,w2.cell? ⟨w.heap.size+1,o,none⟩=w1.cell? ⟨w.heap.size+1,o,none⟩:=fun o=>hb.cell (p:=⟨w.heap.size+1,o,none⟩) hz
 have k2:∀ o,w2.frozen? ⟨w.heap.size+1,o,none⟩=w1.frozen? ⟨w.heap.size+1,o,none⟩:=fun o=>hb.frozen (p:=⟨w.heap.size+1,o,none⟩) hz
 exact⟨ap h.bel hb,Nat.lt_of_lt_of_le hz hb.size,(k0 _).trans h.c0,(k0 _).trans h.c1,(k0 _).trans h.c2,(k0 _).trans h.c3,(k0 _).trans h.c4,(k0 _).trans h.c5,(k0 _).trans h.c6,(k0 _).trans h.c7,(k0 _).trans h.c8,
  (k1 _).trans h.r0,(k1 _).trans h.r1,(k1 _).trans h.r2,(k2 _).trans h.f0,(k2 _).trans h.f1,(k2 _).trans h.f2⟩
theorem nx.start (w:World)(nm ver ar sm:BA)(nd br gv fs sp:Value){w1:World}
  (hb:Below ((w.alloc (.cells #[.string nm,.string ver,.string ar,.string sm,nd,br,gv,fs,sp] 27)).alloc (.cells #[.string ⟨#[]⟩,.string ⟨#[]⟩,.int .i64 0] 38)).heap.size ((w.alloc (.cells #[.string nm,.string ver,.string ar,.string sm,nd,br,gv,fs,sp] 27)).alloc (.cells #[.string ⟨#[]⟩,.string ⟨#[]⟩,.int .i64 0] 38)) w1):nx w w1 nm ver ar sm nd br gv fs sp:=by
 have hz:=hb.size
 simp at hz
 have k0:∀ o,w1.cell? ⟨w.heap.size,o,none⟩=_:=fun o=>hb.cell (p:=⟨w.heap.size,o,none⟩) (by simp;omega)
 have k1:∀ o,w1.cell? ⟨w.heap.size+1,o,none⟩=_:=fun o=>hb.cell (p:=⟨w.heap.size+1,o,none⟩) (by simp)
 have k2:∀ o,w1.frozen? ⟨w.heap.size+1,o,none⟩=_:=fun o=>hb.frozen (p:=⟨w.heap.size+1,o,none⟩) (by simp)
 exact⟨((bR.alloc lr _).alloc (by simp) _).trans (hb.mono (by simp;omega)),by omega,(k0 _).trans (by simp),(k0 _).trans (by simp),(k0 _).trans (by simp),(k0 _).trans (by simp),(k0 _).trans (by simp),(k0 _).trans (by simp),(k0 _).trans (by simp),(k0 _).trans (by simp),(k0 _).trans (by simp),
  (k1 _).trans (by simp),(k1 _).trans (by simp),(k1 _).trans (by simp),(k2 _).trans (by simp),(k2 _).trans (by simp),(k2 _).trans (by simp)⟩
theorem cT (tmps:Array Value){w w2:World}{nm ver ar sm:BA}{nd br gv fs sp:Value}(h:nx w w2 nm ver ar sm nd br gv fs sp)(ht:tmps[4]?=some (.pointer (some ⟨w.heap.size+1,0,none⟩)))(a b:BA)(c:Int):
  (results Tryz.f15 tmps).run Tryz.prog (((w2.setCell ⟨w.heap.size+1,0,none⟩ (.string a)).setCell ⟨w.heap.size+1,1,none⟩ (.string b)).setCell ⟨w.heap.size+1,2,none⟩ (.int .i64 c)) =
   .ok (dq a b c) (((w2.setCell ⟨w.heap.size+1,0,none⟩ (.string a)).setCell ⟨w.heap.size+1,1,none⟩ (.string b)).setCell ⟨w.heap.size+1,2,none⟩ (.int .i64 c)):=by
 obtain⟨bel,sz,c0,c1,c2,c3,c4,c5,c6,c7,c8,r0,r1,r2,f0,f1,f2⟩:=h
 simp[results,Tryz.results15,ht,go_sem,dq,r0,r1,r2]
theorem dM {w w2:World}{nm ver ar sm:BA}{nd br gv fs sp:Value}(h:nx w w2 nm ver ar sm nd br gv fs sp)(a b c:Value):
  Below w.heap.size w (((w2.setCell ⟨w.heap.size+1,0,none⟩ a).setCell ⟨w.heap.size+1,1,none⟩ b).setCell ⟨w.heap.size+1,2,none⟩ c):=
 ((h.bel.setCell (p:=⟨w.heap.size+1,0,none⟩) (by simp) a).setCell (p:=⟨w.heap.size+1,1,none⟩) (by simp) b).setCell (p:=⟨w.heap.size+1,2,none⟩) (by simp) c
theorem kO (s:BA)(w:World)(hs:s.size≤9223372036854775807):
  Calls Tryz.prog 46 #[.string s] w fun e w'=>e=.returned (.bool (vP (bl s)))∧Below w.heap.size w w':=
 (mH s w hs).mono fun _ _ ⟨he,hw⟩=>⟨he,by rw[←hw];exact bR⟩
theorem jG (n:Int)(w:World):
  Calls Tryz.prog 41 #[.int .i64 n] w fun e w'=>e=.returned (.bool (tA n))∧Below w.heap.size w w':=
 (qJ n w).mono fun _ _ ⟨he,hw⟩=>⟨he,by rw[←hw];exact bR⟩
theorem mI (n:Int)(nm ver ar sm:BA)(na ba ga fa sa:OA)(nl nc bl' bc gl gc fl fc sl sc:Nat)(w:World)
  (ev fe se:Int)(ndo bo go:Bool)(fw:BA)(hs1:nm.size≤9223372036854775807)(hs2:sm.size≤9223372036854775807)
  (hV:Hid (∀ w1,Below w.heap.size w w1→Calls Tryz.prog 43 #[.int .i64 n,.string ver] w1 fun e w2=>e=.returned (.int .i64 ev)∧Below w1.heap.size w1 w2))
  (hN:Hid (∀ w1,Below w.heap.size w w1→Calls Tryz.prog 47 #[.int .i64 n,.slice na nl nc,.bool false] w1 fun e w2=>e=.returned (.bool ndo)∧Below w1.heap.size w1 w2))
  (hB:Hid (∀ w1,Below w.heap.size w w1→Calls Tryz.prog 47 #[.int .i64 n,.slice ba bl' bc,.bool true] w1 fun e w2=>e=.returned (.bool bo)∧Below w1.heap.size w1 w2))
  (hGv:Hid (∀ w1,Below w.heap.size w w1→Calls Tryz.prog 48 #[.int .i64 n,.slice ga gl gc] w1 fun e w2=>e=.returned (.bool go)∧Below w1.heap.size w1 w2))
  (hF:Hid (∀ w1,Below w.heap.size w w1→Calls Tryz.prog 49 #[.int .i64 n,.slice fa fl fc] w1 fun e w2=>e=.returned (.tuple #[.string fw,.int .i64 fe])∧Below w1.heap.size w1 w2))
  (hS:Hid (∀ w1,Below w.heap.size w w1→Calls Tryz.prog 50 #[.int .i64 n,.slice sa sl sc] w1 fun e w2=>e=.returned (.int .i64 se)∧Below w1.heap.size w1 w2)):
  Calls Tryz.prog 15 #[.int .i64 n,.agg #[.string nm,.string ver,.string ar,.string sm,.slice na nl nc,.slice ba bl' bc,.slice ga gl gc,.slice fa fl fc,.slice sa sl sc]] w
   fun e w'=>e=.returned (jl nm (tA n) (dX (bl nm)) ev (qP n ar) (vP (bl sm)) ndo bo go fw fe se)∧Below w.heap.size w w':=by
 go_enter Tryz.func15,Tryz.ntmps15
 go_wp2_with fail
 refine(jG _ _).mono ?_;rintro e w1 ⟨rfl,hb1⟩
 have B1:=nx.start w nm ver ar sm (.slice na nl nc) (.slice ba bl' bc) (.slice ga gl gc) (.slice fa fl fc) (.slice sa sl sc) hb1
 clear hb1
 obtain⟨-,sz,c0,c1,c2,c3,c4,c5,c6,c7,c8,-,-,-,-,-,-⟩:=ae B1
 have HB1:=ae B1;clear B1
 cases h0:tA n
 ·have K0:=ae h0;clear h0
  go_wp2_with fail
  refine(aX _ nm _ _ _ HB1.out.c0 rfl (by have:=HB1.out.sz;show w.heap.size<_;omega)).mono ?_;rintro e wx ⟨rfl,hbx⟩
  have bx:=HB1.out.step hbx
  clear c0 c1 c2 c3 c4 c5 c6 c7 c8 sz
  obtain⟨-,sz,c0,c1,c2,c3,c4,c5,c6,c7,c8,r0,r1,r2,f0,f1,f2⟩:=ae bx
  have HX:=ae bx;clear bx hbx
  unfold dq
  go_wp2_with fail
  refine bodyPost_ret (cT _ HX.out rfl _ _ _) rfl ⟨?_,dM HX.out _ _ _⟩
  congr 1;simp[jl,K0.out]
 have K0:=ae h0;clear h0
 go_wp2_with fail
 refine(lD nm _ hs1).mono ?_;rintro e w1' ⟨rfl,rfl⟩
 cases h1:dX (bl nm)
 ·have K1:=ae h1;clear h1
  go_wp2_with fail
  refine(aX _ nm _ _ _ HB1.out.c0 rfl (by have:=HB1.out.sz;show w.heap.size<_;omega)).mono ?_;rintro e wx ⟨rfl,hbx⟩
  have bx:=HB1.out.step hbx
  clear c0 c1 c2 c3 c4 c5 c6 c7 c8 sz
  obtain⟨-,sz,c0,c1,c2,c3,c4,c5,c6,c7,c8,r0,r1,r2,f0,f1,f2⟩:=ae bx
  have HX:=ae bx;clear bx hbx
  unfold dq
  go_wp2_with fail
  refine bodyPost_ret (cT _ HX.out rfl _ _ _) rfl ⟨?_,dM HX.out _ _ _⟩
  congr 1;simp[jl,K0.out,K1.out]
 have K1:=ae h1;clear h1
 go_wp2_with fail
 refine(hV.out _ HB1.out.bel).mono ?_;rintro e w2 ⟨rfl,hb2⟩
 have B2:=HB1.out.step hb2
 clear hb2;clear c0 c1 c2 c3 c4 c5 c6 c7 c8 sz
 obtain⟨-,sz,c0,c1,c2,c3,c4,c5,c6,c7,c8,-,-,-,-,-,-⟩:=ae B2
 have HB2:=ae B2;clear B2
 by_cases h2:¬ ev=0
 ·have h2':(ev != 0)=true:=by simpa using h2
  have K2:=ae h2;clear h2
  go_wp2_with fail
  refine(aX _ nm _ _ _ HB2.out.c0 rfl (by have:=HB2.out.sz;show w.heap.size<_;omega)).mono ?_;rintro e wx ⟨rfl,hbx⟩
  have bx:=HB2.out.step hbx
  clear c0 c1 c2 c3 c4 c5 c6 c7 c8 sz
  obtain⟨-,sz,c0,c1,c2,c3,c4,c5,c6,c7,c8,r0,r1,r2,f0,f1,f2⟩:=ae bx
  have HX:=ae bx;clear bx hbx
  unfold dq
  go_wp2_with fail
  refine bodyPost_ret (cT _ HX.out rfl _ _ _) rfl ⟨?_,dM HX.out _ _ _⟩
  congr 1;simp[jl,K0.out,K1.out,K2.out]
 obtain rfl:ev=0:=Decidable.not_not.1 h2
 clear h2
 go_wp2_with fail
 refine(xx _ _).mono ?_;rintro e w3 ⟨rfl,hb3⟩
 have B3:=HB2.out.step hb3
 clear hb3;clear c0 c1 c2 c3 c4 c5 c6 c7 c8 sz
 obtain⟨-,sz,c0,c1,c2,c3,c4,c5,c6,c7,c8,-,-,-,-,-,-⟩:=ae B3
 have HB3:=ae B3;clear B3
 have sz0:w.heap.size<w3.heap.size:=by omega
 go_wp2_with fail
 go_quiet ((go_at_call 45;exact Calls.quiet_of_same (tF _ n _ _ (by simp) (by simp) (by simp))))
 cases h3:qP n ar
 ·have K3:=ae h3;clear h3
  go_wp2_with fail
  refine(aX _ nm _ _ _ (by exact(HB3.out.step (aq (bR.alloc lr _) _)).c0) rfl (by exact Nat.lt_trans (Nat.lt_succ_self _) (HB3.out.step (aq (bR.alloc lr _) _)).sz)).mono ?_;rintro e wx ⟨rfl,hbx⟩
  have bx:=(HB3.out.step (aq (bR.alloc lr _) _)).step hbx
  clear c0 c1 c2 c3 c4 c5 c6 c7 c8 sz sz0
  obtain⟨-,sz,c0,c1,c2,c3,c4,c5,c6,c7,c8,r0,r1,r2,f0,f1,f2⟩:=ae bx
  have HX:=ae bx;clear bx hbx
  unfold dq
  go_wp2_with fail
  refine bodyPost_ret (cT _ HX.out rfl _ _ _) rfl ⟨?_,dM HX.out _ _ _⟩
  congr 1;simp[jl,K0.out,K1.out,K3.out]
 have K3:=ae h3;clear h3
 go_wp2_with fail
 refine(kO sm _ hs2).mono ?_;rintro e w4 ⟨rfl,hb4⟩
 have B4:=(HB3.out.step (aq (bR.alloc lr _) _)).step hb4
 clear hb4;clear c0 c1 c2 c3 c4 c5 c6 c7 c8 sz sz0
 obtain⟨-,sz,c0,c1,c2,c3,c4,c5,c6,c7,c8,-,-,-,-,-,-⟩:=ae B4
 have HB4:=ae B4;clear B4
 cases h4:vP (bl sm)
 ·have K4:=ae h4;clear h4
  go_wp2_with fail
  refine(aX _ nm _ _ _ HB4.out.c0 rfl (by have:=HB4.out.sz;show w.heap.size<_;omega)).mono ?_;rintro e wx ⟨rfl,hbx⟩
  have bx:=HB4.out.step hbx
  clear c0 c1 c2 c3 c4 c5 c6 c7 c8 sz
  obtain⟨-,sz,c0,c1,c2,c3,c4,c5,c6,c7,c8,r0,r1,r2,f0,f1,f2⟩:=ae bx
  have HX:=ae bx;clear bx hbx
  unfold dq
  go_wp2_with fail
  refine bodyPost_ret (cT _ HX.out rfl _ _ _) rfl ⟨?_,dM HX.out _ _ _⟩
  congr 1;simp[jl,K0.out,K1.out,K3.out,K4.out]
 have K4:=ae h4;clear h4
 go_wp2_with fail
 refine(hN.out _ HB4.out.bel).mono ?_;rintro e w5 ⟨rfl,hb5⟩
 have B5:=HB4.out.step hb5
 clear hb5;clear c0 c1 c2 c3 c4 c5 c6 c7 c8 sz
 obtain⟨-,sz,c0,c1,c2,c3,c4,c5,c6,c7,c8,-,-,-,-,-,-⟩:=ae B5
 have HB5:=ae B5;clear B5
 cases ndo
 ·skip
  go_wp2_with fail
  refine(aX _ nm _ _ _ HB5.out.c0 rfl (by have:=HB5.out.sz;show w.heap.size<_;omega)).mono ?_;rintro e wx ⟨rfl,hbx⟩
  have bx:=HB5.out.step hbx
  clear c0 c1 c2 c3 c4 c5 c6 c7 c8 sz
  obtain⟨-,sz,c0,c1,c2,c3,c4,c5,c6,c7,c8,r0,r1,r2,f0,f1,f2⟩:=ae bx
  have HX:=ae bx;clear bx hbx
  unfold dq
  go_wp2_with fail
  refine bodyPost_ret (cT _ HX.out rfl _ _ _) rfl ⟨?_,dM HX.out _ _ _⟩
  congr 1;simp[jl,K0.out,K1.out,K3.out,K4.out]
 go_wp2_with fail
 refine(hB.out _ HB5.out.bel).mono ?_;rintro e w6 ⟨rfl,hb6⟩
 have B6:=HB5.out.step hb6
 clear hb6;clear c0 c1 c2 c3 c4 c5 c6 c7 c8 sz
 obtain⟨-,sz,c0,c1,c2,c3,c4,c5,c6,c7,c8,-,-,-,-,-,-⟩:=ae B6
 have HB6:=ae B6;clear B6
 cases bo
 ·skip
  go_wp2_with fail
  refine(aX _ nm _ _ _ HB6.out.c0 rfl (by have:=HB6.out.sz;show w.heap.size<_;omega)).mono ?_;rintro e wx ⟨rfl,hbx⟩
  have bx:=HB6.out.step hbx
  clear c0 c1 c2 c3 c4 c5 c6 c7 c8 sz
  obtain⟨-,sz,c0,c1,c2,c3,c4,c5,c6,c7,c8,r0,r1,r2,f0,f1,f2⟩:=ae bx
  have HX:=ae bx;clear bx hbx
  unfold dq
  go_wp2_with fail
  refine bodyPost_ret (cT _ HX.out rfl _ _ _) rfl ⟨?_,dM HX.out _ _ _⟩
  congr 1;simp[jl,K0.out,K1.out,K3.out,K4.out]
 go_wp2_with fail
 refine(hGv.out _ HB6.out.bel).mono ?_;rintro e w7 ⟨rfl,hb7⟩
 have B7:=HB6.out.step hb7
 clear hb7;clear c0 c1 c2 c3 c4 c5 c6 c7 c8 sz
 obtain⟨-,sz,c0,c1,c2,c3,c4,c5,c6,c7,c8,-,-,-,-,-,-⟩:=ae B7
 have HB7:=ae B7;clear B7
 cases go
 ·skip
  go_wp2_with fail
  refine(aX _ nm _ _ _ HB7.out.c0 rfl (by have:=HB7.out.sz;show w.heap.size<_;omega)).mono ?_;rintro e wx ⟨rfl,hbx⟩
  have bx:=HB7.out.step hbx
  clear c0 c1 c2 c3 c4 c5 c6 c7 c8 sz
  obtain⟨-,sz,c0,c1,c2,c3,c4,c5,c6,c7,c8,r0,r1,r2,f0,f1,f2⟩:=ae bx
  have HX:=ae bx;clear bx hbx
  unfold dq
  go_wp2_with fail
  refine bodyPost_ret (cT _ HX.out rfl _ _ _) rfl ⟨?_,dM HX.out _ _ _⟩
  congr 1;simp[jl,K0.out,K1.out,K3.out,K4.out]
 go_wp2_with fail
 refine(hF.out _ HB7.out.bel).mono ?_;rintro e w8 ⟨rfl,hb8⟩
 have B8:=HB7.out.step hb8
 clear hb8;clear c0 c1 c2 c3 c4 c5 c6 c7 c8 sz
 obtain⟨-,sz,c0,c1,c2,c3,c4,c5,c6,c7,c8,-,-,-,-,-,-⟩:=ae B8
 have HB8:=ae B8;clear B8
 by_cases h5:¬ fe=0
 ·have h5':(fe != 0)=true:=by simpa using h5
  have K5:=ae h5;clear h5
  go_wp2_with fail
  refine(aX _ nm _ _ _ HB8.out.c0 rfl (by have:=HB8.out.sz;show w.heap.size<_;omega)).mono ?_;rintro e wx ⟨rfl,hbx⟩
  have bx:=HB8.out.step hbx
  clear c0 c1 c2 c3 c4 c5 c6 c7 c8 sz
  obtain⟨-,sz,c0,c1,c2,c3,c4,c5,c6,c7,c8,r0,r1,r2,f0,f1,f2⟩:=ae bx
  have HX:=ae bx;clear bx hbx
  unfold dq
  go_wp2_with fail
  refine bodyPost_ret (cT _ HX.out rfl _ _ _) rfl ⟨?_,dM HX.out _ _ _⟩
  congr 1;simp[jl,K0.out,K1.out,K3.out,K4.out,K5.out]
 obtain rfl:fe=0:=Decidable.not_not.1 h5
 clear h5
 go_wp2_with fail
 refine(hS.out _ HB8.out.bel).mono ?_;rintro e w9 ⟨rfl,hb9⟩
 have B9:=HB8.out.step hb9
 clear hb9;clear c0 c1 c2 c3 c4 c5 c6 c7 c8 sz
 obtain⟨-,sz,c0,c1,c2,c3,c4,c5,c6,c7,c8,-,-,-,-,-,-⟩:=ae B9
 have HB9:=ae B9;clear B9
 by_cases h6:¬ se=0
 ·have h6':(se != 0)=true:=by simpa using h6
  have K6:=ae h6;clear h6
  go_wp2_with fail
  refine(aX _ nm _ _ _ HB9.out.c0 rfl (by have:=HB9.out.sz;show w.heap.size<_;omega)).mono ?_;rintro e wx ⟨rfl,hbx⟩
  have bx:=HB9.out.step hbx
  clear c0 c1 c2 c3 c4 c5 c6 c7 c8 sz
  obtain⟨-,sz,c0,c1,c2,c3,c4,c5,c6,c7,c8,r0,r1,r2,f0,f1,f2⟩:=ae bx
  have HX:=ae bx;clear bx hbx
  unfold dq
  go_wp2_with fail
  refine bodyPost_ret (cT _ HX.out rfl _ _ _) rfl ⟨?_,dM HX.out _ _ _⟩
  congr 1;simp[jl,K0.out,K1.out,K3.out,K4.out,K6.out]
 obtain rfl:se=0:=Decidable.not_not.1 h6
 clear h6 c0 c1 c2 c3 c4 c5 c6 c7 c8 sz
 have HX:=HB9
 obtain⟨-,sz,c0,c1,c2,c3,c4,c5,c6,c7,c8,r0,r1,r2,f0,f1,f2⟩:=ae HX.out
 go_wp2_with fail
 refine bodyPost_ret (cT _ HX.out rfl _ _ _) rfl ⟨?_,dM HX.out _ _ _⟩
 congr 1;simp[jl,K0.out,K1.out,K3.out,K4.out]
end
section
open Go.RowKit Go.Maps
def RV (v:Value):Option (DataW Value×List MemPlace):=some (.held v,[])
theorem nC {a b:Value}(h:(DataW.held a:DataW Value)=.held b):a=b:=by injection h
theorem nD:Keyed Tryz.prog 9:=string_keyed Tryz.underlying9
def kl (s:BA):Lit:=.string s.data.toList
theorem Ky {s t:BA}(h:s≠t):kl s≠kl t:=by
 intro he;apply h;unfold kl at he;injection he with he;exact eM he
def aZ (w:World)(b n:Nat)(f:BA→Option Value):Prop:=
 ∃ D:DataW Value,w.ownsMap Tryz.prog 9 RV b n D∧∀ s:BA,s.size≤maxLen→(Maps.has D (kl s)=(f s).isSome∧∀ z v,f s=some v→D.atKey (kl s) z=.held v)
theorem aZ.made (w:World):aZ (w.alloc (.map #[] 0)) w.heap.size 0 (fun _=>none):=
 ⟨.map [],World.ownsMap_made _ _ _ _,fun s _=>⟨rfl,fun z v h=>by cases h⟩⟩
theorem aZ.kept {w w':World}{b n:Nat}{f:BA→Option Value}{row:Option Nat}(h:aZ w b n f)(hg:w.grownBy w' row)(hne:some b≠row):aZ w' b n f:=by
 obtain⟨D,h1,h2⟩:=h
 exact⟨D,h1.kept hg hne,h2⟩
theorem aZ.below {w w':World}{b n:Nat}{f:BA→Option Value}(h:aZ w b n f)(hb:Below w.heap.size w w'):aZ w' b n f:=by
 obtain⟨D,h1,h2⟩:=h
 exact⟨D,h1.kept (row:=none) ⟨hb.os,hb.tape,hb.output,hb.size,fun i hi _=>hb.block i hi⟩ (by simp),h2⟩
theorem aZ.lt {w:World}{b n:Nat}{f:BA→Option Value}(h:aZ w b n f):b<w.heap.size:=by
 obtain⟨D,h1,_⟩:=h;exact h1.lt
theorem zT (s:BA)(h:s.size≤maxLen):keyOf Tryz.prog 9 (.string s)=some (kl s):=Go.WideMaps.keyOf_string_mk Tryz.underlying9 h
theorem aZ.look_ok {w:World}{b n:Nat}{f:BA→Option Value}(h:aZ w b n f){t e:TypeId}(ht:Tryz.prog.underlying t=some (.map 9 e)){z:Value}(hz:∀ w,(zeroValue e).run Tryz.prog w=.ok z w)(s:BA)(hs:s.size≤maxLen):
  (Instr.lookup t (.map (some b)) (.string s) true).run Tryz.prog w=.ok (.tuple #[(f s).getD z,.bool (f s).isSome]) w:=by
 obtain⟨D,h1,h2⟩:=h
 obtain⟨v,ps,hrun,hv⟩:=h1.look_ok nD ht (hz w) (show RV z=some (.held z,[]) from rfl) (zT s hs)
 obtain⟨h3,h4⟩:=h2 s hs
 rw[hrun,h3]
 have:DataW.held v=D.atKey (kl s) (.held z):=congrArg Prod.fst (Option.some.inj hv)
 cases hf:f s with
 | none=>
  rw[hf] at h3
  rw[atKey_of_not_has (by simpa using h3)] at this
  rw[nC this];rfl
 | some u=>
  rw[h4 (.held z) u hf] at this
  rw[nC this];rfl
theorem aZ.look {w:World}{b n:Nat}{f:BA→Option Value}(h:aZ w b n f){t e:TypeId}(ht:Tryz.prog.underlying t=some (.map 9 e)){z:Value}(hz:∀ w,(zeroValue e).run Tryz.prog w=.ok z w)(s:BA)(hs:s.size≤maxLen):
  (Instr.lookup t (.map (some b)) (.string s) false).run Tryz.prog w=.ok ((f s).getD z) w:=by
 obtain⟨D,h1,h2⟩:=h
 obtain⟨v,ps,hrun,hv⟩:=h1.lookup nD ht (hz w) (show RV z=some (.held z,[]) from rfl) (zT s hs)
 obtain⟨h3,h4⟩:=h2 s hs
 rw[hrun]
 have:DataW.held v=D.atKey (kl s) (.held z):=congrArg Prod.fst (Option.some.inj hv)
 cases hf:f s with
 | none=>
  rw[hf] at h3
  rw[atKey_of_not_has (by simpa using h3)] at this
  rw[nC this];rfl
 | some u=>
  rw[h4 (.held z) u hf] at this
  rw[nC this];rfl
theorem aZ.put {w:World}{b n:Nat}{f:BA→Option Value}(h:aZ w b n f){t e:TypeId}(ht:Tryz.prog.underlying t=some (.map 9 e))(hn:n<maxLen)(s:BA)(hs:s.size≤maxLen)(v:Value):
  ∃ w',(Instr.mapUpdate t (.map (some b)) (.string s) v).run Tryz.prog w=.ok () w'∧aZ w' b (n+1) (fun x=>if x=s then some v else f x)∧w.grownBy w' (some b):=by
 obtain⟨D,h1,h2⟩:=h
 obtain⟨w',hrun,hown,hg⟩:=h1.update nD ht hn (zT s hs) (show RV v=some (.held v,[]) from rfl)
 have hm:=(h1.tidy nD).isMap
 refine⟨w',hrun,⟨_,hown,fun x hx=>?_⟩,hg⟩
 by_cases hxs:x=s
 ·subst hxs
  have hk:WideAt.IsKeyLit (kl x):=trivial
  simp only[if_pos]
  exact⟨by rw[has_put_same hm hk];rfl,fun z u hu=>by have hu:=Option.some.inj hu;subst hu;exact atKey_put_same hm hk _ _⟩
 ·simp only[if_neg hxs]
  obtain⟨h3,h4⟩:=h2 x hx
  exact⟨by rw[has_put_other (Ky hxs)];exact h3,fun z u hu=>by rw[atKey_put_other (Ky hxs)];exact h4 z u hu⟩
end
section
open Go.RowKit
theorem eK {p:UInt8→Bool}{a:UInt8}{r:LU}(h:p a=false):aA p (a::r)=0:=by simp[aA,h]
theorem lE {p:UInt8→Bool}:∀ (l:LU),aA p l<l.length→∃ a r,l.drop (aA p l)=a::r∧p a=false
 | [],h=>by simp at h
 | a::r,h=>by
  cases hp:p a with
  | false=>exact⟨a,r,by rw[eK hp];rfl,hp⟩
  | true=>
   have e:aA p (a::r)=aA p r+1:=by simp[aA,hp]
   rw[e] at h ⊢
   simpa using lE r (by simpa using h)
end
section
open Go.RowKit
open Classical
def iS (l:List ax):List BA:=l.map (·.path)
end
section
open Go.RowKit Go.Maps
theorem aZ.alloc {w:World}{b n:Nat}{f:BA→Option Value}(h:aZ w b n f)(o:Obj):aZ (w.alloc o) b n f:=h.kept (World.grownBy_alloc w o none) (by simp)
theorem AF {W:World}{base:Nat}{e t:TypeId}{size n b:Nat}{v:Value}{xs:LV}{cs:Array Value}{fr:Nat×Nat}(h:W.ownsRow base e size v n xs)(hb:W.heap[b]?=some (.cells cs t fr))(hne:t≠e):some b≠v.ownBlock:=by
 intro he
 rcases h.2 with⟨rfl,_⟩ | ⟨g,cap,cur,rfl,_,hg,_⟩
 ·simp[Value.ownBlock] at he
 ·simp[Value.ownBlock] at he
  subst he
  rw[hb] at hg
  injection hg with hg
  injection hg with _ h2 _
  exact hne h2
end
section
open Go.RowKit
def nW {α:Type}(eq:α→α→Bool):List α→List α→Bool
 | [],[]=>true
 | a::r,b::s=>eq a b&&nW eq r s
 | _,_=>false
theorem iT {α:Type}(eq:α→α→Bool):∀ (l m:List α),l.length≠m.length→nW eq l m=false
 | [],[],h=>absurd rfl h
 | [],_::_,_=>rfl
 | _::_,[],_=>rfl
 | a::r,b::s,h=>by simp only[nW];rw[iT eq r s (by simpa using h)];simp
theorem nX {α:Type}(eq:α→α→Bool):∀ (l m:List α)(k:Nat)(x y:α),l[k]?=some x→m[k]?=some y→eq x y=false→nW eq l m=false
 | [],_,k,x,y,h,_,_=>by simp at h
 | _::_,[],k,x,y,_,h,_=>by simp at h
 | a::r,b::s,0,x,y,h,h',he=>by simp at h h';subst h h';simp[nW,he]
 | a::r,b::s,k+1,x,y,h,h',he=>by
  simp only[nW];rw[nX eq r s k x y (by simpa using h) (by simpa using h') he];simp
theorem kZ {α:Type}(eq:α→α→Bool):∀ (l m:List α),l.length=m.length→(∀ (i:Nat)(x y:α),l[i]?=some x→m[i]?=some y→eq x y=true)→nW eq l m=true
 | [],[],_,_=>rfl
 | [],_::_,h,_=>by simp at h
 | _::_,[],h,_=>by simp at h
 | a::r,b::s,h,hi=>by
  simp only[nW]
  rw[hi 0 a b rfl rfl,kZ eq r s (by simpa using h) (fun i x y hx hy=>hi (i+1) x y (by simpa using hx) (by simpa using hy))]
  rfl
def iU (a b:BA):Bool:=a.toList==b.toList
theorem Lu {x y:BA}(h:iU x y=true):x=y:=by unfold iU at h;rw[fi] at h;exact dO h
theorem eU (x:BA):iU x x=true:=by unfold iU;simp
def ig (x y:cM):Bool:=iU x.nm y.nm&&(x.op==y.op)&&iU x.ver y.ver
theorem G9 (x y:cM)(w:World):(binOp .neq 81 (.agg #[.string x.nm,.int .i64 x.op,.string x.ver]) (.agg #[.string y.nm,.int .i64 y.op,.string y.ver])).run Tryz.prog w=.ok (.bool (!ig x y)) w:=by
 go_simp
 unfold ig iU
 (repeat' split)<;>simp_all
def ii (x y:ax):Bool:=iU x.path y.path&&(x.kind==y.kind)&&(x.mode==y.mode)&&iU x.owner y.owner&&iU x.group y.group&&iU x.link y.link&&iU x.sum y.sum&&(x.conf==y.conf)
theorem Ha (x y:ax)(w:World):(binOp .neq 56 (.agg #[.string x.path,.int .i64 x.kind,.int .i64 x.mode,.string x.owner,.string x.group,.string x.link,.string x.sum,.bool x.conf]) (.agg #[.string y.path,.int .i64 y.kind,.int .i64 y.mode,.string y.owner,.string y.group,.string y.link,.string y.sum,.bool y.conf])).run Tryz.prog w=.ok (.bool (!ii x y)) w:=by
 go_simp
 unfold ii iU
 (repeat' split)<;>simp_all
def dP (x y:aT):Bool:=(x.phase==y.phase)&&iU x.body y.body
theorem AG (x y:aT)(w:World):(binOp .neq 44 (.agg #[.int .i64 x.phase,.string x.body]) (.agg #[.int .i64 y.phase,.string y.body])).run Tryz.prog w=.ok (.bool (!dP x y)) w:=by
 go_simp
 unfold dP iU
 (repeat' split)<;>simp_all
def gy (p q:bN):Bool:=iU p.nm q.nm&&iU p.ver q.ver&&iU p.ar q.ar&&iU p.sm q.sm&&nW iU p.needs q.needs&&nW iU p.bars q.bars&&nW ig p.gives q.gives&&nW ii p.files q.files&&nW dP p.scripts q.scripts
theorem uV {p q:bN}(h0:iU p.nm q.nm=true)(h1:iU p.ver q.ver=true)(h2:iU p.ar q.ar=true)(h3:iU p.sm q.sm=true)(h4:nW iU p.needs q.needs=true)(h5:nW iU p.bars q.bars=true)(h6:nW ig p.gives q.gives=true)(h7:nW ii p.files q.files=true)(h8:nW dP p.scripts q.scripts=true):gy p q=true:=by
 simp[gy,h0,h1,h2,h3,h4,h5,h6,h7,h8]
theorem AH {W:World}{b1 b2:Nat}{e1 e2:TypeId}{s1 s2 n1 n2:Nat}{v1 v2:Value}{x1 x2:LV}(h1:W.ownsRow b1 e1 s1 v1 n1 x1)(h2:W.ownsRow b2 e2 s2 v2 n2 x2)(hne:e1≠e2):v1.ownBlock=none∨v1.ownBlock≠v2.ownBlock:=by
 rcases h1.2 with⟨rfl,_⟩ | ⟨g,cap,cur,rfl,_,hg,_⟩
 ·exact .inl rfl
 ·exact .inr (AF h2 hg hne)
end
section
open Go.RowKit Go.Maps
def LH (x y:ax):Bool:=(x.kind==y.kind)&&((x.mode==y.mode)&&((x.owner.toList==y.owner.toList)&&((x.group.toList==y.group.toList)&&(x.link.toList==y.link.toList))))
def MB (fs:List ax)(s:BA):Option ax:=fs.find? fun y=>decide (y.path=s)
def MC (q:bN)(x:ax):Bool:=match MB q.files x.path with
 | none=>false
 | some y=>!LH y x
def conf (pre:List bN)(x:ax):Bool:=pre.any fun q=>MC q x
end
section
open Go.ChangeShapes Go.WideShapes Go.Deep Go.RowKit
section
variable {H : Type} {enc : TypeId × Value → H} {P : Program} {w : World} {base : Nat} {spare : Nat → Bool} {held : Bool}
theorem ov {t e:TypeId}{fs:Array Field}{fuel:Nat}{cs:LV}{x:DataW H×List MemPlace}(ht:P.underlying t=some (.slice e))(he:P.underlying e=some (.struct fs))
  (hone:oneCellFields P fs=true)(hC:P.cellsOf e=fs.size)(h:DataW.trod enc P w base spare held fuel t cs=some x):
  (cs=[.slice none 0 0]∧x=(.nil,[])) ∨
  ∃ (a:Addr) (len cap m:Nat) (D:Nat→DataW H) (Pl:Nat→List MemPlace),cs=[.slice (some a) len cap]∧base≤a.block∧len≤cap∧cap≤maxLen∧m=(if spare a.block then cap else len) ∧
   x=(.slice ((List.range len).map D) ((List.range (m-len)).map fun j=>D (len+j)),MemPlace.row a (m*fs.size)++(List.range m).flatMap Pl) ∧
   ∀ i,i<m→∃ (ys:List (DataW H×List MemPlace)) (n:Nat),D i=.agg (ys.map (·.1))∧Pl i=ys.flatMap (·.2)∧ys.length=fs.size ∧
    ∀ (j:Nat)(f:Field),fs[j]?=some f→∃ (v:Value)(y:DataW H×List MemPlace),w.cell? (a.add (i*fs.size+j))=some v∧ys[j]?=some y∧DataW.trod enc P w base spare held n f.type [v]=some y:=by
 rcases open_slice ht h with h0 | ⟨a,len,cap,m,n,D,Pl,hcs,hb,hl,hm,hmm,hx,hi⟩
 ·exact .inl h0
 ·refine .inr ⟨a,len,cap,m,D,Pl,hcs,hb,hl,hm,hmm,by rw[hC] at hx;exact hx,fun i him=>?_⟩
  obtain⟨cs',hc,ht'⟩:=hi i him
  rw[hC] at hc
  obtain⟨ys,n',hn',hy,hlen,hyl,hf⟩:=DataW.trod_struct he ht'
  obtain⟨_,hcl,hat⟩:=World.cells?_some hc
  simp only[Prod.mk.injEq] at hy
  refine⟨ys,n',hy.1,hy.2,hyl,fun j f hj=>?_⟩
  obtain⟨ho,hk⟩:=hone_of hone j f hj
  have hjl:j<fs.size:=(Array.getElem?_eq_some_iff.1 hj).1
  have hcell:=hat j hjl
  have hv:cs'[j]?=some (cs'[j]'(by omega)):=gG (by omega)
  have h1:=hf j f hj
  rw[ho,hk] at h1
  have hone':(cs'.drop j).take 1=[cs'[j]'(by omega)]:=by
   rw[List.drop_eq_getElem_cons (by omega)]
   rfl
  rw[hone'] at h1
  have hys:ys[j]?=some (ys[j]'(by omega)):=gG (by omega)
  refine⟨_,_,?_,hys,h1.trans hys⟩
  rw[←Go.Deep.add_add,hcell,hv]
end
theorem qB {α:Type}{Q:Nat→α→Prop}:∀ n:Nat,(∀ i,i<n→∃ x,Q i x)→∃ l:List α,l.length=n∧∀ (i:Nat)(x:α),l[i]?=some x→Q i x
 | 0,_=>⟨[],rfl,fun i x h=>by simp at h⟩
 | n+1,h=>by
  obtain⟨l,hl,hq⟩:=qB n (fun i hi=>h i (by omega))
  obtain⟨x,hx⟩:=h n (by omega)
  refine⟨l++[x],by simp[hl],fun i y hy=>?_⟩
  by_cases hi:i<l.length
  ·rw[List.getElem?_append_left hi] at hy;exact hq i y hy
  ·rw[List.getElem?_append_right (by omega)] at hy
   have:i=n:=by have:=(gS hy).1;simp at this;omega
   subst this;rw[hl,Nat.sub_self] at hy;simp at hy;subst hy;exact hx
theorem BZ {α:Type}{f:α→LV}{sz:Nat}(hf:∀ x,(f x).length=sz)(hsz:0<sz)(l:List α)(j:Nat)(u:Value)(h:(l.flatMap f)[j]?=some u):∃ (i k:Nat)(x:α),l[i]?=some x∧k<sz∧j=i*sz+k∧(f x)[k]?=some u:=by
 have hj:j<l.length*sz:=by rw[←cX hf];exact(gS h).1
 have hi:j / sz<l.length:=Nat.div_lt_of_lt_mul (by rw[Nat.mul_comm];exact hj)
 have hk:j % sz<sz:=Nat.mod_lt _ hsz
 have e:j=j / sz*sz+j % sz:=by rw[Nat.mul_comm];exact(Nat.div_add_mod j sz).symm
 refine⟨j / sz,j % sz,l[j / sz],gG hi,hk,e,?_⟩
 rw[←ei hf l (j / sz) (j % sz) _ (gG hi) hk,←e,h]
theorem lR {w:World}{a:Addr}{n:Nat}{v:Value}(h:w.cell? (a.add n)=some v):a.add n=⟨a.block,a.off+n,none⟩:=by
 unfold Addr.add at *
 split at h
 ·rename_i h0;subst h0
  simp only[if_pos]
  cases a with | mk b o s=>
   unfold World.cell? at h
   split at h
   ·split at h
    ·cases h
    ·rename_i hs;simp at hs;simp[hs]
   ·cases h
 ·rename_i h0;rw[if_neg h0]
section
variable {H : Type} {enc : TypeId × Value → H} {w : World} {spare : Nat → Bool}
theorem lS {T E:TypeId}{fs:Array Field}(hT:Tryz.prog.underlying T=some (.slice E))(hE:Tryz.prog.underlying E=some (.struct fs))(hone:oneCellFields Tryz.prog fs=true)(hC:Tryz.prog.cellsOf E=fs.size)(hpos:0<fs.size)
  {α:Type}(f:α→LV)(Pr:α→Prop)(hf:∀ x,(f x).length=fs.size)
  (hel:∀ (n:Nat)(vs:Nat→Value),(∀ (j:Nat)(fd:Field),fs[j]?=some fd→∃ y,DataW.trod enc Tryz.prog w 0 spare true n fd.type [vs j]=some y)→∃ x:α,Pr x∧∀ j,j<fs.size→(f x)[j]?=some (vs j))
  {fuel:Nat}{v:Value}{d:DataW H×List MemPlace}(h:DataW.trod enc Tryz.prog w 0 spare true fuel T [v]=some d):
  ∃ (A:OA) (c:Nat) (l:List α),v=.slice A l.length c∧Rd w fs.size A l.length (l.flatMap f)∧(∀ x∈l,Pr x)∧l.length≤9223372036854775807∧l.length≤c:=by
 rcases ov hT hE hone hC h with⟨hcs,_⟩ | ⟨a,len,cap,m,D,Pl,hcs,_,hl,hm,hmm,_,hi⟩
 ·injection hcs with hcs _
  exact⟨none,0,[],hcs,Rd.nil _ _ _,fun x hx=>by simp at hx,z0,z0⟩
 ·injection hcs with hcs _
  have hlen:len≤m:=by rw[hmm];split<;>omega
  have key:∀ i,i<len→∃ x:α,Pr x∧∀ j u,(f x)[j]?=some u→w.cell? ⟨a.block,a.off+(i*fs.size+j),none⟩=some u:=by
   intro i hi'
   obtain⟨ys,n,_,_,hyl,hj⟩:=hi i (by omega)
   have hv:∀ j,∃ v,(∀ fd,fs[j]?=some fd→w.cell? (a.add (i*fs.size+j))=some v∧∃ y,DataW.trod enc Tryz.prog w 0 spare true n fd.type [v]=some y):=by
    intro j
    cases hfd:fs[j]? with
    | none=>exact⟨default,fun fd h=>by cases h⟩
    | some fd=>
     obtain⟨v,y,h1,_,h3⟩:=hj j fd hfd
     exact⟨v,fun fd' h=>by injection h with h;subst h;exact⟨h1,y,h3⟩⟩
   have hvs:∃ vs:Nat→Value,∀ j fd,fs[j]?=some fd→w.cell? (a.add (i*fs.size+j))=some (vs j)∧∃ y,DataW.trod enc Tryz.prog w 0 spare true n fd.type [vs j]=some y:=
    ⟨fun j=>Classical.choose (hv j),fun j fd h=>Classical.choose_spec (hv j) fd h⟩
   obtain⟨vs,hvs⟩:=hvs
   obtain⟨x,hx,hc⟩:=hel n vs (fun j fd h=>(hvs j fd h).2)
   refine⟨x,hx,fun j u hu=>?_⟩
   have hjs:j<fs.size:=by rw[←hf x];exact(gS hu).1
   have h1:=hc j hjs
   rw[hu] at h1
   have h1:=Option.some.inj h1
   subst h1
   have h2:=(hvs j _ (Array.getElem?_eq_getElem hjs)).1
   rw[lR h2] at h2
   exact h2
  obtain⟨l,hll,hlq⟩:=qB len key
  refine⟨some a,cap,l,by rw[hll];exact hcs,⟨cX hf l,fun hn=>?_⟩,fun x hx=>?_,by rw[hll];unfold maxLen at hm;omega,by rw[hll];exact hl⟩
  ·obtain⟨x0,hx0⟩:∃ x,l[0]?=some x:=⟨_,gG hn⟩
   obtain⟨u0,hu0⟩:∃ u,(f x0)[0]?=some u:=⟨_,gG (by rw[hf];exact hpos)⟩
   refine⟨a.block,a.off,?_,fun j u hu=>?_⟩
   ·obtain⟨ys,n,_,_,_,hj⟩:=hi 0 (by omega)
    obtain⟨v0,y0,h1,_,_⟩:=hj 0 _ (Array.getElem?_eq_getElem hpos)
    have h2:=lR h1
    simp only[Nat.zero_mul,Nat.zero_add,Addr.add,if_pos,Nat.add_zero] at h2
    rw[←h2]
   ·obtain⟨i,k,x,hx,hk,rfl,hu'⟩:=BZ hf hpos l j u hu
    exact(hlq i x hx).2 k u hu'
  ·obtain⟨i,hi',rfl⟩:=List.getElem_of_mem hx
   exact(hlq i _ (gG hi')).1
theorem pj {T E:TypeId}(hT:Tryz.prog.underlying T=some (.slice E))(hE:Tryz.prog.underlying E=some .string)(hC:Tryz.prog.cellsOf E=1)
  {fuel:Nat}{v:Value}{d:DataW H×List MemPlace}(h:DataW.trod enc Tryz.prog w 0 spare true fuel T [v]=some d):
  ∃ (A:OA) (c:Nat) (l:List BA),v=.slice A l.length c∧Rd w 1 A l.length (az l)∧(∀ x∈l,x.size≤9223372036854775807)∧l.length≤9223372036854775807∧l.length≤c:=by
 rcases open_slice hT h with⟨hcs,_⟩ | ⟨a,len,cap,m,n,D,Pl,hcs,_,hl,hm,hmm,_,hi⟩
 ·injection hcs with hcs _
  exact⟨none,0,[],hcs,Rd.nil _ _ _,fun x hx=>by simp at hx,z0,z0⟩
 ·injection hcs with hcs _
  have hlen:len≤m:=by rw[hmm];split<;>omega
  have key:∀ i,i<len→∃ x:BA,x.size≤9223372036854775807∧w.cell? ⟨a.block,a.off+i,none⟩=some (.string x)∧a.add i=⟨a.block,a.off+i,none⟩:=by
   intro i hi'
   obtain⟨cs',hc,ht'⟩:=hi i (by omega)
   rw[hC] at hc
   obtain⟨_,hcl,hat⟩:=World.cells?_some hc
   obtain⟨s,hs,_,hsz⟩:=DataW.trod_string hE ht'
   have h0:=hat 0 (by omega)
   rw[hs,Nat.mul_one] at h0
   have h1:w.cell? (a.add i)=some (.string s):=by
    have e:(a.add i).add 0=a.add i:=by simp[Addr.add]
    rw[e] at h0;simpa using h0
   have h2:=lR h1
   refine⟨s,by unfold maxLen at hsz;omega,by rw[←h2];exact h1,h2⟩
  obtain⟨l,hll,hlq⟩:=qB len key
  refine⟨some a,cap,l,by rw[hll];exact hcs,⟨by simp[az],fun hn=>?_⟩,fun x hx=>?_,by rw[hll];unfold maxLen at hm;omega,by rw[hll];exact hl⟩
  ·refine⟨a.block,a.off,?_,fun j u hu=>?_⟩
   ·have h2:=(hlq 0 _ (gG hn)).2.2
    simp only[Addr.add,if_pos,Nat.add_zero] at h2
    rw[←h2]
   ·simp only[az,List.getElem?_map,Option.map_eq_some_iff] at hu
    obtain⟨x,hx,rfl⟩:=hu
    exact(hlq j x hx).2.1
  ·obtain⟨i,hi',rfl⟩:=List.getElem_of_mem hx
   exact(hlq i _ (gG hi')).1
end
end
section
open Go.ChangeShapes Go.WideShapes Go.Deep Go.RowKit
section
variable {H : Type} {enc : TypeId × Value → H} {w : World} {spare : Nat → Bool}
def Jc (x:cM):Prop:=x.nm.size≤9223372036854775807∧x.ver.size≤9223372036854775807∧(Lit.int .i64 x.op).wf=true
def Jd (x:ax):Prop:=x.path.size≤9223372036854775807∧x.owner.size≤9223372036854775807∧x.group.size≤9223372036854775807∧x.link.size≤9223372036854775807∧x.sum.size≤9223372036854775807∧(Lit.int .i64 x.kind).wf=true∧(Lit.int .i64 x.mode).wf=true
def zD (x:aT):Prop:=x.body.size≤9223372036854775807∧(Lit.int .i64 x.phase).wf=true
theorem cK {n:Nat}{v:Value}{y:DataW H×List MemPlace}(h:DataW.trod enc Tryz.prog w 0 spare true n 9 [v]=some y):∃ s:BA,v=.string s∧s.size≤9223372036854775807:=by
 obtain⟨s,hs,_,hz⟩:=DataW.trod_string Tryz.underlying9 h
 injection hs with hs _
 exact⟨s,hs,by unfold maxLen at hz;omega⟩
theorem gd {n:Nat}{v:Value}{y:DataW H×List MemPlace}(h:DataW.trod enc Tryz.prog w 0 spare true n 3 [v]=some y):∃ z:Int,v=.int .i64 z∧(Lit.int .i64 z).wf=true:=by
 obtain⟨z,hz,_,hw⟩:=DataW.trod_int Tryz.underlying3 h
 injection hz with hz _
 exact⟨z,hz,hw⟩
theorem FM {n:Nat}{v:Value}{y:DataW H×List MemPlace}(h:DataW.trod enc Tryz.prog w 0 spare true n 4 [v]=some y):∃ z:Bool,v=.bool z:=by
 obtain⟨z,hz,_⟩:=DataW.trod_bool Tryz.underlying4 h
 injection hz with hz _
 exact⟨z,hz⟩
theorem Ca {fuel:Nat}{v:Value}{d:DataW H×List MemPlace}(h:DataW.trod enc Tryz.prog w 0 spare true fuel 23 [v]=some d):
  ∃ (A:OA) (c:Nat) (l:List cM),v=.slice A l.length c∧Rd w 3 A l.length (l.flatMap cM.cells)∧(∀ x∈l,Jc x)∧l.length≤9223372036854775807∧l.length≤c:=by
 refine lS Tryz.underlying23 Tryz.underlying81 (by kernel_rfl) (by kernel_rfl) (by decide) cM.cells Jc (fun _=>rfl) (fun n vs hv=>?_) h
 obtain⟨y0,h0⟩:=hv 0 _ rfl
 obtain⟨y1,h1⟩:=hv 1 _ rfl
 obtain⟨y2,h2⟩:=hv 2 _ rfl
 obtain⟨s0,e0,z0⟩:=cK h0
 obtain⟨s1,e1,z1⟩:=gd h1
 obtain⟨s2,e2,z2⟩:=cK h2
 refine⟨⟨s0,s1,s2⟩,⟨z0,z2,z1⟩,fun j hj=>?_⟩
 have hj':j<3:=hj
 rcases(by omega:j=0∨j=1∨j=2) with rfl | rfl | rfl
 ·rw[e0];rfl
 ·rw[e1];rfl
 ·rw[e2];rfl
theorem Cb {fuel:Nat}{v:Value}{d:DataW H×List MemPlace}(h:DataW.trod enc Tryz.prog w 0 spare true fuel 24 [v]=some d):
  ∃ (A:OA) (c:Nat) (l:List ax),v=.slice A l.length c∧Rd w 8 A l.length (l.flatMap ax.cells)∧(∀ x∈l,Jd x)∧l.length≤9223372036854775807∧l.length≤c:=by
 refine lS Tryz.underlying24 Tryz.underlying56 (by kernel_rfl) (by kernel_rfl) (by decide) ax.cells Jd (fun _=>rfl) (fun n vs hv=>?_) h
 obtain⟨y0,h0⟩:=hv 0 _ rfl
 obtain⟨y1,h1⟩:=hv 1 _ rfl
 obtain⟨y2,h2⟩:=hv 2 _ rfl
 obtain⟨y3,h3⟩:=hv 3 _ rfl
 obtain⟨y4,h4⟩:=hv 4 _ rfl
 obtain⟨y5,h5⟩:=hv 5 _ rfl
 obtain⟨y6,h6⟩:=hv 6 _ rfl
 obtain⟨y7,h7⟩:=hv 7 _ rfl
 obtain⟨s0,e0,z0⟩:=cK h0
 obtain⟨s1,e1,z1⟩:=gd h1
 obtain⟨s2,e2,z2⟩:=gd h2
 obtain⟨s3,e3,z3⟩:=cK h3
 obtain⟨s4,e4,z4⟩:=cK h4
 obtain⟨s5,e5,z5⟩:=cK h5
 obtain⟨s6,e6,z6⟩:=cK h6
 obtain⟨s7,e7⟩:=FM h7
 refine⟨⟨s0,s1,s2,s3,s4,s5,s6,s7⟩,⟨z0,z3,z4,z5,z6,z1,z2⟩,fun j hj=>?_⟩
 have hj':j<8:=hj
 rcases(by omega:j=0∨j=1∨j=2∨j=3∨j=4∨j=5∨j=6∨j=7) with rfl | rfl | rfl | rfl | rfl | rfl | rfl | rfl
 ·rw[e0];rfl
 ·rw[e1];rfl
 ·rw[e2];rfl
 ·rw[e3];rfl
 ·rw[e4];rfl
 ·rw[e5];rfl
 ·rw[e6];rfl
 ·rw[e7];rfl
theorem xf {fuel:Nat}{v:Value}{d:DataW H×List MemPlace}(h:DataW.trod enc Tryz.prog w 0 spare true fuel 25 [v]=some d):
  ∃ (A:OA) (c:Nat) (l:List aT),v=.slice A l.length c∧Rd w 2 A l.length (l.flatMap aT.cells)∧(∀ x∈l,zD x)∧l.length≤9223372036854775807∧l.length≤c:=by
 refine lS Tryz.underlying25 Tryz.underlying44 (by kernel_rfl) (by kernel_rfl) (by decide) aT.cells zD (fun _=>rfl) (fun n vs hv=>?_) h
 obtain⟨y0,h0⟩:=hv 0 _ rfl
 obtain⟨y1,h1⟩:=hv 1 _ rfl
 obtain⟨s0,e0,z0⟩:=gd h0
 obtain⟨s1,e1,z1⟩:=cK h1
 refine⟨⟨s0,s1⟩,⟨z1,z0⟩,fun j hj=>?_⟩
 have hj':j<2:=hj
 rcases(by omega:j=0∨j=1) with rfl | rfl
 ·rw[e0];rfl
 ·rw[e1];rfl
theorem Ks (n:Nat)(vs:Nat→Value)
  (hv:∀ (j:Nat)(t:TypeId),[(9:TypeId),9,9,9,22,22,23,24,25][j]?=some t→∃ y,DataW.trod enc Tryz.prog w 0 spare true n t [vs j]=some y):
  ∃ p:bN,(p.ok w∧p.fits∧p.files.length≤p.fc∧p.needs.length≤p.nc∧p.bars.length≤p.bc∧p.gives.length≤p.gc∧p.scripts.length≤p.sc)∧∀ j,j<9→p.cells[j]?=some (vs j):=by
 obtain⟨y0,h0⟩:=hv 0 _ rfl
 obtain⟨y1,h1⟩:=hv 1 _ rfl
 obtain⟨y2,h2⟩:=hv 2 _ rfl
 obtain⟨y3,h3⟩:=hv 3 _ rfl
 obtain⟨y4,h4⟩:=hv 4 _ rfl
 obtain⟨y5,h5⟩:=hv 5 _ rfl
 obtain⟨y6,h6⟩:=hv 6 _ rfl
 obtain⟨y7,h7⟩:=hv 7 _ rfl
 obtain⟨y8,h8⟩:=hv 8 _ rfl
 obtain⟨s0,e0,z0⟩:=cK h0
 obtain⟨s1,e1,z1⟩:=cK h1
 obtain⟨s2,e2,z2⟩:=cK h2
 obtain⟨s3,e3,z3⟩:=cK h3
 obtain⟨a4,c4,l4,e4,r4,x4,n4,k4⟩:=pj Tryz.underlying22 Tryz.underlying9 (by kernel_rfl) h4
 obtain⟨a5,c5,l5,e5,r5,x5,n5,k5⟩:=pj Tryz.underlying22 Tryz.underlying9 (by kernel_rfl) h5
 obtain⟨a6,c6,l6,e6,r6,x6,n6,k6⟩:=Ca h6
 obtain⟨a7,c7,l7,e7,r7,x7,n7,k7⟩:=Cb h7
 obtain⟨a8,c8,l8,e8,r8,x8,n8,k8⟩:=xf h8
 refine⟨⟨s0,s1,s2,s3,a4,c4,l4,a5,c5,l5,a6,c6,l6,a7,c7,l7,a8,c8,l8⟩,⟨⟨r4,r5,r6,r7,r8⟩,⟨z0,z1,z2,z3,n4,n5,n6,n7,n8,x4,x5,x6,x7,x8⟩,k7,k4,k5,k6,k8⟩,fun j hj=>?_⟩
 rcases(by omega:j=0∨j=1∨j=2∨j=3∨j=4∨j=5∨j=6∨j=7∨j=8) with rfl | rfl | rfl | rfl | rfl | rfl | rfl | rfl | rfl
 ·rw[e0];rfl
 ·rw[e1];rfl
 ·rw[e2];rfl
 ·rw[e3];rfl
 ·rw[e4];rfl
 ·rw[e5];rfl
 ·rw[e6];rfl
 ·rw[e7];rfl
 ·rw[e8];rfl
end
end
end Go.Proofs.YtlglfpbhapmhiaaGreatDoor
