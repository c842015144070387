/- A part of the proof. -/
import Derived.Test.YtlglfpbhapmhiaaGreatDoorL47
set_option maxRecDepth 100000
set_option maxHeartbeats 20000000
set_option linter.unusedVariables false
set_option linter.unusedSimpArgs false
namespace Go.Proofs.YtlglfpbhapmhiaaGreatDoor
variable{new old:BA}{c f g k n q:Nat}{W w:World}
section
open Go.RowKit Go.Maps
theorem Gz (w:World)(t:TypeId)(y:ag):eQ (w.alloc (.cells #[.string y.path,.int .i64 y.kind,.int .i64 y.mode,.int .i64 y.uid,.int .i64 y.gid,.string y.owner,.string y.group,.int .i64 y.mtime,.string y.link,.slice y.da y.data.length y.dc] t)) (w.heap.size+1) 10 (some ⟨w.heap.size,0,none⟩) 1 y.cells:=by
 refine⟨rfl,fun _=>⟨_,rfl,by simp,fun j u hu=>?_⟩⟩;rw[show Addr.add ⟨w.heap.size,0,none⟩ j=⟨w.heap.size,j,none⟩ by unfold Addr.add;split<;>simp_all];exact(ax.new w y.cells t).cell j u hu
structure Ib (w W:World) (o:Value) (n:Nat) (qs:List ag):Prop where
 row:W.ownsRow w.heap.size 35 10 o n (qs.flatMap ag.cells)
 len:qs.length=n
 bel:Below w.heap.size w W
theorem Ib.below {W':World}{o:Value}{qs:List ag}(h:Ib w W o n qs)(hb:Below W.heap.size W W'):Ib w W' o n qs:=⟨aL h.row hb,h.len,aq h.bel hb⟩
theorem Ib.cell {qs:List ag}(h:Ib w W (.slice (some ⟨g,0,none⟩) n c) n qs){y:ag}(hy:qs[k]?=some y)(j:Nat)(u:Value)(hu:y.cells[j]?=some u):W.cell? ⟨g,k*10+j,none⟩=some u/\W.frozen? ⟨g,k*10+j,none⟩=false:=by
 have hj:j<10:=by rw[<-bi y];exact(gS hu).1
 have hk:=(gS hy).1;refine⟨?_,h.row.frozenAt _⟩;rw[h.row.cellAt (k*10+j) (by rw[<-h.len];omega),ft bi qs k j y hy hj];exact hu
theorem Ib.set {qs:List ag}(h:Ib w W (.slice (some ⟨g,0,none⟩) n c) n qs){y y':ag}(hy:qs[k]?=some y){j:Nat}{u:Value}(hj:j<10)(hs:y.cells.set j u=y'.cells):
  Ib w (W.setCell ⟨g,k*10+j,none⟩ u) (.slice (some ⟨g,0,none⟩) n c) n (qs.set k y'):=by
 obtain⟨hk,he⟩:=gS hy;have hb:w.heap.size<=g:=(h.row.lt g rfl).1;refine⟨?_,by rw[List.length_set];exact h.len,ai h.bel hb _⟩;have:=(h.row.stored (k*10+j) u).1;have e1:qs=qs.take k++y::qs.drop (k+1):=by rw[<-he,<-List.drop_eq_getElem_cons hk,List.take_append_drop]
 have e2:qs.set k y'=qs.take k++y'::qs.drop (k+1):=by rw[List.set_eq_take_append_cons_drop,if_pos hk]
 rw[e2];rw[e1,rx bi (qs.take k) (qs.drop (k+1)) y y' k j u (by simp;omega) hj hs] at this;exact this
structure GA (base out:List ag) (old new:BA) (f q:Nat):Prop where
 len:out.length=base.length
 at_:∀ (k:Nat)(v v':ag),base[k]?=some v->out[k]?=some v'->v'=if k<q then my old new f k v else v
theorem GA.zero (base:List ag)(old new:BA)(f:Nat):GA base base old new f 0:=⟨rfl,fun k v v' h h'=>by rw[h] at h';injection h' with h';rw[if_neg (Nat.not_lt_zero _),h']⟩
theorem GA.skip {base out:List ag}{v:ag}(h:GA base out old new f q)(hv:out[q]?=some v)(hn:¬ (q≠f/\v.kind=4/\v.link=old)):GA base out old new f (q+1):=by
 refine⟨h.len,fun k a b ha hb=>?_⟩;have:=h.at_ k a b ha hb;by_cases hkq:k=q
 ·subst hkq;rw[if_neg (Nat.lt_irrefl _)] at this;rw[hv] at hb;injection hb with hb;rw[if_pos (by omega),<-this];unfold my;rw[<-hb,if_neg hn]
 ·rw[this];by_cases hk:k<q
  ·rw[if_pos hk,if_pos (by omega)]
  ·rw[if_neg hk,if_neg (by omega)]
theorem GA.put {base out:List ag}{v:ag}(h:GA base out old new f q)(hv:out[q]?=some v)(hy:q≠f/\v.kind=4/\v.link=old):GA base (out.set q { v with link:=new }) old new f (q+1):=by
 refine⟨by rw[List.length_set];exact h.len,fun k a b ha hb=>?_⟩;by_cases hkq:k=q
 ·subst hkq;have:=h.at_ k a v ha hv;rw[if_neg (Nat.lt_irrefl _)] at this;have hk:=(gS hv).1;rw[List.getElem?_set_self hk] at hb;injection hb with hb;rw[if_pos (by omega),<-this];unfold my;rw[if_pos hy,hb]
 ·rw[List.getElem?_set_ne (fun e=>hkq e.symm)] at hb;have:=h.at_ k a b ha hb;rw[this];by_cases hk:k<q
  ·rw[if_pos hk,if_pos (by omega)]
  ·rw[if_neg hk,if_neg (by omega)]
theorem GA.path {base out:List ag}{v v':ag}(h:GA base out old new f q)(hv:base[k]?=some v)(hv':out[k]?=some v'):v'.path=v.path/\v'.da=v.da/\v'.dc=v.dc/\v'.data=v.data:=by
 have:=h.at_ k v v' hv hv';rw[this];split
 ·unfold my;split<;>exact⟨rfl,rfl,rfl,rfl⟩
 ·exact⟨rfl,rfl,rfl,rfl⟩
theorem GA.done {out o:List ag}{i:Nat}{y u:ag}(hn:out.length<=n)(hif:i≠f)(hy:out[i]?=some y)(hu:out[f]?=some u)(h:GA ((out.set i (jL y u)).set f (po y u)) o y.link y.path f n):
  o.length=out.length/\∀ (k:Nat)(v v':ag),out[k]?=some v->o[k]?=some v'->v'=if k=i then jL y u else if k=f then po y u else my y.link y.path f k v:=by
 refine⟨by rw[h.len];simp,fun k v v' hv hv'=>?_⟩;have hk:=(gS hv).1;have hib:k<n:=by omega
 by_cases hkf:k=f
 ·subst hkf;have hb:((out.set i (jL y u)).set k (po y u))[k]?=some (po y u):=by rw[List.getElem?_set_self (by simpa using hk)]
  have:=h.at_ k _ v' hb hv';rw[if_pos hib] at this;rw[if_neg (fun e=>hif e.symm),if_pos rfl,this];unfold my;rw[if_neg (fun e=>e.1 rfl)]
 ·by_cases hki:k=i
  ·subst hki;have hb:((out.set k (jL y u)).set f (po y u))[k]?=some (jL y u):=by rw[List.getElem?_set_ne (fun e=>hkf e.symm),List.getElem?_set_self hk]
   have:=h.at_ k _ v' hb hv';rw[if_pos hib] at this;rw[if_pos rfl,this];unfold my jL;rw[if_neg (fun e=>by have:=e.2.1;cases this)]
  ·have hb:((out.set i (jL y u)).set f (po y u))[k]?=some v:=by rw[List.getElem?_set_ne (fun e=>hkf e.symm),List.getElem?_set_ne (fun e=>hki e.symm)];exact hv
   have:=h.at_ k v v' hb hv';rw[if_pos hib] at this;rw[if_neg hki,if_neg hkf,this]
def Dw (w:World)(qs:List ag):Prop:=∀ y∈qs,Rd w 1 y.da y.data.length (y.data.map vb)
theorem Dw.set {qs:List ag}(h:Dw w qs){y:ag}(hy:Rd w 1 y.da y.data.length (y.data.map vb)):Dw w (qs.set k y):=by
 intro z hz;rcases List.mem_or_eq_of_mem_set hz with hz | rfl
 ·exact h z hz
 ·exact hy
theorem Dx (A:OA)(cap:Nat)(l:List ag)(w:World)(hE:cV w A l)(hF:dn l)(hs:∀ x∈l,x.small)(hl:l.length<=4096)(hcap:l.length<=cap):Calls Tryz.prog 12 #[.slice A l.length cap] w fun e w'=>∃ (A':OA) (c':Nat) (m:List ag),e=.returned (.tuple #[.slice A' l.length c',.int .i64 0])/\m.length=l.length/\rz l m/\cV w' A' m/\Below w.heap.size w w':=by
 have HE0:=ae hE;have HF:=ae hF;have HS:=ae hs;clear hE hF hs;go_in;go_wp2_with fail;refine(qx A cap l w HE0.out HF.out HS.out hl hcap).mono ?_;rintro e w1 ⟨rfl,hb1⟩;have L1:=ae hb1;have HE:=ae (HE0.out.below hb1);clear hb1 HE0;go_wp2;go_loopw [6,7] (fun o i wr=>∃ (k:Nat) (qs:List ag),k<=l.length/\i=.int .i64 k/\Hid (Ib w1 wr o k qs)/\Hid (qs.Perm (l.take k))/\Hid (qs.Pairwise (fun x y=>¬ bl y.path<bl x.path))) (fun _ i _=>l.length-(intOf i).toNat)
 case atStart=>exact⟨0,[],z0,rfl,⟨World.ownsRow_nil _ _ _ _,rfl,bR⟩,by simp[Hid],by simp[Hid]⟩
 case round=>
  obtain⟨k,qs,hk,rfl,HR,HP,HO⟩:=hrel;by_cases hlt:k<l.length
  case pos=>
   obtain⟨x,hx⟩:∃ x,l[k]?=some x:=⟨_,gG hlt⟩
   have HX:=ae hx;obtain⟨b,off,hA,hel⟩:=(HE.out.below HR.out.bel).row.elem bi k x hx;have hix:=fun W=>aB (T:=28) (E:=35) (sz:=10) (c:=cap) Tryz.underlying28 rfl Tryz.sizeOf35 hA hlt W;have e0:=hel 0 _ rfl;simp only[Nat.add_zero] at e0;have HEL:=ae hel;have hbl:b<wr.heap.size:=World.block_lt_of_cell? _ _ e0;clear hx hA hel;obtain⟨Ao,co,rfl⟩:=aN HR.out.row;have QL:Hid (qs.length=k):=HR.out.len;go_upto_block 2 with(fail)
   go_cut [8] (fun s8 wx=>∃ a:Nat,s8=.int .i64 a/\a<=k/\Hid (∀ (j:Nat)(z:ag),j<a->qs[j]?=some z->bl z.path<bl x.path)/\Hid (∀ z,qs[a]?=some z->¬ bl z.path<bl x.path)/\Hid (Below wr.heap.size wr wx))
   case first=>
    go_wp2;go_loopw [8] (fun s wx=>∃ a:Nat,a<=k/\s=.int .i64 a/\Hid (∀ (j:Nat)(z:ag),j<a->qs[j]?=some z->bl z.path<bl x.path)/\Hid (Below wr.heap.size wr wx)) (fun s _=>k-(intOf s).toNat)
    case atStart=>exact⟨0,z0,rfl,fun j z hj=>by omega,bR⟩
    case round=>
     obtain⟨a,ha,rfl,HL,BX⟩:=hrel
     rename World=>wx
     have e0':wx.cell? ⟨b,off+k*10,none⟩=some (.string x.path):=(BX.out.cell (p:=⟨b,off+k*10,none⟩) hbl).trans e0;by_cases hal:a<k
     case neg=>
      have q1:decide ((a:Int)<(k:Int))=false:=dF (by omega);have HN:Hid (∀ z,qs[a]?=some z->¬ bl z.path<bl x.path):=fun z hz=>by have:=(gS hz).1;have:=QL.out;omega
      clear e0;go_wp2;go_quiet (fail);go_wp2;go_meet;exact⟨a,rfl,ha,HL,HN,aq BX.out (am bR _)⟩
     obtain⟨y,hy⟩:∃ y,qs[a]?=some y:=⟨_,gG (by rw[QL.out];exact hal)⟩
     obtain⟨g,og,hAg,heg⟩:=(bD (QL.out.symm ▸ (HR.out.below BX.out).row)).elem bi a y hy;have q0:=heg 0 _ rfl;simp only[Nat.add_zero] at q0;have hiy:=fun W=>aB (T:=28) (E:=35) (sz:=10) (c:=co) Tryz.underlying28 rfl Tryz.sizeOf35 hAg hal W;have HY:=ae hy;have q1:(a:Int)<(k:Int):=by omega
     have q2:(k:Int)<(l.length:Int):=by omega
     clear hy heg hAg e0;cases hlt2:Op.bytesLess y.path.toList x.path.toList
     case false=>
      have HN:Hid (∀ z,qs[a]?=some z->¬ bl z.path<bl x.path):=fun z hz h=>by
       rw[HY.out] at hz;injection hz with hz;subst hz;rw[(Hm _ _).2 h] at hlt2;cases hlt2
      go_wp2;go_quiet (fail);go_wp2;go_meet;exact⟨a,rfl,ha,HL,HN,aq BX.out (am bR _)⟩
     case true=>
      have HL2:Hid (∀ (j:Nat)(z:ag),j<a+1->qs[j]?=some z->bl z.path<bl x.path):=fun j z hj hz=>by
       by_cases hja:j=a
       ·subst hja;rw[HY.out] at hz;injection hz with hz;subst hz;exact(Hm _ _).1 hlt2
       ·exact HL.out j z (by omega) hz
      go_wp2;go_quiet (fail);go_wp2;go_roundw
      case rel=>exact⟨a+1,by omega,by go_num,HL2,aq BX.out (am bR _)⟩
      case measure=>simp[intOf];omega
   case rest=>
    obtain⟨a,rfl,ha,HL,HN,BX⟩:=hcut;have HR2:=ae (HR.out.below BX.out);have BL0:Hid (Below w1.heap.size w1 wc):=HR2.out.bel;have HXE:=ae (fun (j:Nat) (u:Value) (hu:x.cells[j]?=some u)=>(BX.out.cell (p:=⟨b,off+k*10+j,none⟩) hbl).trans (HEL.out j u hu));clear HR BX HEL e0;have hsl1:=fun W=>BR (T:=28) (E:=35) (sz:=10) (A:=Ao) (n:=k) (c:=co) (k:=a) Tryz.underlying28 rfl Tryz.sizeOf35 (by have:=ri HR2.out.row;omega) W;have hsl2:=fun W=>E9 (T:=28) (E:=35) (sz:=10) (A:=Ao) (n:=k) (c:=co) (k:=a) Tryz.underlying28 rfl Tryz.sizeOf35 (by omega) W;obtain⟨Bd,hBd⟩:∃ Bd,Bd=(if co=a then Ao else Ao.map (·.add (a*10))):=⟨_,rfl⟩
    rw[<-hBd] at hsl2;have RDQ:Rd wc 10 Ao qs.length (qs.flatMap ag.cells):=bD (QL.out.symm ▸ HR2.out.row);have RD1:Hid (eQ wc wc.heap.size 10 Ao a ((qs.take a).flatMap ag.cells)):=by
     have h:=(RDQ.take bi a).reads (by have:=QL.out;omega);rw[show(qs.take a).length=a by have:=QL.out;simp;omega] at h;exact h
    have RD2:Hid (eQ wc wc.heap.size 10 Bd (k-a) ((qs.drop a).flatMap ag.cells)):=by
     have h:=(RDQ.reads (by have:=QL.out;omega)).cut (k:=a) (cap:=co) (by rw[QL.out];exact ha) (by rw[QL.out];exact ri HR2.out.row);rw[<-hBd,yE bi,QL.out] at h;exact h
    have HBD:=ae hBd;clear hBd RDQ;obtain⟨i1,hi1,hy0,hy1,hy2⟩:=info_parts Dj;go_upto_region 12 with(fail)
    go_upto_region 13 with(at_builtin;refine au _ rfl _ _ _ rfl wc.heap.size 35 i1 _ 10 128 Tryz.underlying28 hi1 hy0 hy1 hy2 rfl (by omega) (.slice none 0 0) 0 [] rfl (World.ownsRow_nil _ _ _ _) wc.heap.size Ao a co ((qs.take a).flatMap ag.cells) rfl RD1.out (jW qt _) (by simp only[maxLen];omega) (by omega) lr ?_;intro v1 w2 o1 g1 a1)
    simp only[Nat.zero_add,List.nil_append] at o1;obtain⟨A1,c1,rfl⟩:=aN o1;have O1:=ae o1;have BLx:Hid (Below wc.heap.size wc w2):=bR.grown g1 lr (fun j hj=>by cases hj);clear o1 g1 a1;have e0:w2.cell? ⟨b,off+k*10,none⟩=some (.string x.path):=(BLx.out.cell (p:=⟨b,off+k*10,none⟩) (World.block_lt_of_cell? _ _ (HXE.out 0 _ rfl))).trans (HXE.out 0 _ rfl);have e1:w2.cell? ⟨b,off+k*10+1,none⟩=some (.int .i64 x.kind):=(BLx.out.cell (p:=⟨b,off+k*10+1,none⟩) (World.block_lt_of_cell? _ _ (HXE.out 1 _ rfl))).trans (HXE.out 1 _ rfl);have e2:w2.cell? ⟨b,off+k*10+2,none⟩=some (.int .i64 x.mode):=(BLx.out.cell (p:=⟨b,off+k*10+2,none⟩) (World.block_lt_of_cell? _ _ (HXE.out 2 _ rfl))).trans (HXE.out 2 _ rfl);have e3:w2.cell? ⟨b,off+k*10+3,none⟩=some (.int .i64 x.uid):=(BLx.out.cell (p:=⟨b,off+k*10+3,none⟩) (World.block_lt_of_cell? _ _ (HXE.out 3 _ rfl))).trans (HXE.out 3 _ rfl);have e4:w2.cell? ⟨b,off+k*10+4,none⟩=some (.int .i64 x.gid):=(BLx.out.cell (p:=⟨b,off+k*10+4,none⟩) (World.block_lt_of_cell? _ _ (HXE.out 4 _ rfl))).trans (HXE.out 4 _ rfl);have e5:w2.cell? ⟨b,off+k*10+5,none⟩=some (.string x.owner):=(BLx.out.cell (p:=⟨b,off+k*10+5,none⟩) (World.block_lt_of_cell? _ _ (HXE.out 5 _ rfl))).trans (HXE.out 5 _ rfl);have e6:w2.cell? ⟨b,off+k*10+6,none⟩=some (.string x.group):=(BLx.out.cell (p:=⟨b,off+k*10+6,none⟩) (World.block_lt_of_cell? _ _ (HXE.out 6 _ rfl))).trans (HXE.out 6 _ rfl);have e7:w2.cell? ⟨b,off+k*10+7,none⟩=some (.int .i64 x.mtime):=(BLx.out.cell (p:=⟨b,off+k*10+7,none⟩) (World.block_lt_of_cell? _ _ (HXE.out 7 _ rfl))).trans (HXE.out 7 _ rfl);have e8:w2.cell? ⟨b,off+k*10+8,none⟩=some (.string x.link):=(BLx.out.cell (p:=⟨b,off+k*10+8,none⟩) (World.block_lt_of_cell? _ _ (HXE.out 8 _ rfl))).trans (HXE.out 8 _ rfl);have e9:w2.cell? ⟨b,off+k*10+9,none⟩=some (.slice x.da x.data.length x.dc):=(BLx.out.cell (p:=⟨b,off+k*10+9,none⟩) (World.block_lt_of_cell? _ _ (HXE.out 9 _ rfl))).trans (HXE.out 9 _ rfl);go_upto_region 14 with(at_builtin;refine au _ rfl _ _ _ rfl wc.heap.size 35 i1 _ 10 128 Tryz.underlying28 hi1 hy0 hy1 hy2 rfl (by omega) (.slice A1 a c1) a _ rfl (O1.out.alloc _) (w2.heap.size+1) (some ⟨w2.heap.size,0,none⟩) 1 1 x.cells rfl (Gz w2 _ x) (qt x) (by simp only[maxLen];omega) (by omega) (by simp;have:=BLx.out.size;omega) ?_;intro v2 w3 o2 g2 a2)
    obtain⟨A2,c2,rfl⟩:=aN o2;have O2:=ae o2;have BL2:Hid (Below wc.heap.size wc w3):=((BLx.out.alloc BLx.out.size _).grown g2 (by simp;have:=BLx.out.size;omega) (fun j hj=>(O1.out.lt j hj).1))
    clear o2 g2 a2 e0 e1 e2 e3 e4 e5 e6 e7 e8 e9;go_wp2_with (at_builtin;refine au _ rfl _ _ _ rfl wc.heap.size 35 i1 _ 10 128 Tryz.underlying28 hi1 hy0 hy1 hy2 rfl (by omega) (.slice A2 (a+1) c2) (a+1) _ rfl O2.out wc.heap.size Bd (k-a) (co-a) ((qs.drop a).flatMap ag.cells) rfl (RD2.out.below BL2.out) (jW qt _) (by simp only[maxLen];omega) (by omega) BL2.out.size ?_;intro v3 w4 o3 g3 a3);have BL3:Below wc.heap.size wc w4:=BL2.out.grown g3 BL2.out.size (fun j hj=>(O2.out.lt j hj).1);rw[show a+1+(k-a)=k+1 by omega] at o3;obtain⟨HP2,HO2⟩:=Gy HX.out HP.out HO.out HL.out HN.out;have HC:Hid (Ib w1 w4 v3 (k+1) (qs.take a++x::qs.drop a)):=⟨aY (by rw[List.flatMap_append,List.flatMap_cons,<-List.append_assoc];exact o3) BL0.out.size,by have:=QL.out;simp;omega,aq BL0.out BL3⟩
    have HP3:=ae HP2;have HO3:=ae HO2;clear HP2 HO2 o3 g3 a3;go_roundw
    case rel=>exact⟨k+1,_,by omega,by go_num,HC,HP3,HO3⟩
    case measure=>simp[intOf];omega
  case neg=>
   obtain rfl:k=l.length:=by omega
   have SR:Hid (NP l qs):=⟨by have:=HP.out;rwa [List.take_length] at this,HO.out⟩
   have D0:Hid (Dw w1 qs):=fun y hy=>HE.out.all y (SR.out.perm.mem_iff.1 hy);obtain⟨Ao,co,rfl⟩:=aN HR.out.row;clear HP HO;go_wp2;go_loopw [10] (fun s wx=>∃ (i:Nat) (out:List ag),i<=l.length/\s=.int .i64 i/\Hid (Ib w1 wx (.slice Ao l.length co) l.length out)/\Hid (qw l qs i out)/\Hid (Dw w1 out)) (fun s _=>l.length-(intOf s).toNat)
   case atStart=>exact⟨0,qs,z0,rfl,HR,NV l qs,D0⟩
   case round=>
    have QL:Hid (qs.length=l.length):=HR.out.len;clear HR D0;obtain⟨i,out,hi,rfl,HC,HRS,HD⟩:=hrel
    rename World=>wx
    by_cases hil:i<l.length
    case neg=>
     have CE:=ae (PV HF.out SR.out (by rw[QL.out];omega) HRS.out);have OL:Hid (out.length=l.length):=HC.out.len;have EO:Hid (cV wx Ao out):=⟨bD (OL.out.symm ▸ HC.out.row),fun y hy=>(HD.out y hy).below HC.out.bel⟩
     have BE:Hid (Below w.heap.size w wx):=aq L1.out HC.out.bel;go_wp2;go_ret2;exact⟨Ao,co,out,rfl,OL.out,CE.out,EO.out,BE.out⟩
    obtain⟨y,hy⟩:∃ y,out[i]?=some y:=⟨_,gG (by rw[HC.out.len];exact hil)⟩
    obtain⟨x,hx⟩:∃ x,qs[i]?=some x:=⟨_,gG (by rw[QL.out];exact hil)⟩
    have HY:=ae hy;have HX:=ae hx;obtain⟨g,hAg⟩:∃ g,Ao=some ⟨g,0,none⟩:=by obtain⟨g,h,_⟩:=iR HC.out.row (show 0<l.length by omega);exact⟨g,h⟩
    subst hAg;have hixo:=fun W=>aB (T:=28) (E:=35) (sz:=10) (c:=co) (A:=some ⟨g,0,none⟩) Tryz.underlying28 rfl Tryz.sizeOf35 rfl hil W;simp only[Nat.zero_add] at hixo;have z1:=(HC.out.cell hy 1 _ rfl).1;have z8:=(HC.out.cell hy 8 _ rfl).1;clear hy hx;by_cases h4:y.kind=4
    case neg=>
     have q:(y.kind != 4)=true:=by simpa using h4
     have NR:Hid (qw l qs (i+1) out):=by
      show qw _ _ _ _;refine Dv HF.out SR.out HRS.out HX.out (fun _ _=>trivial) (fun x4 e=>?_);have hs:=HRS.out.st i x y HX.out HY.out;have hn:¬ (iq x=true/\jF qs i (dd l x)=true):=fun c=>by rw[e,rF HF.out SR.out HX.out] at c;exact absurd c.2 (by simp)
      unfold nV at hs;rw[if_neg hn] at hs;exact h4 (hs.kind.symm.trans x4)
     clear h4;go_wp2;go_roundw
     case rel=>exact⟨i+1,out,by omega,by go_num,HC,NR,HD⟩
     case measure=>simp[intOf];omega
    have q:(y.kind != 4)=false:=by simp[h4]
    have OL:Hid (out.length=l.length):=HC.out.len;have FN:=ae fun (f:Nat) (u:ag) (hu:out[f]?=some u) (hp:u.path=y.link) (W:World) (hb:cV W (some ⟨g,0,none⟩) out)=>lk (some ⟨g,0,none⟩) co l.length out OL.out y.link W hb (by have:=OL.out;omega) (f:Int) (by have:=Ia (l:=out) (s:=y.link) (f:=f) (u:=u) 0 (NS HF.out SR.out HRS.out) hu hp;rw[this];omega);have EO:Hid (cV wx (some ⟨g,0,none⟩) out):=⟨bD (OL.out.symm ▸ HC.out.row),fun y hy=>(HD.out y hy).below HC.out.bel⟩
    rcases PU HF.out SR.out HRS.out HX.out HY.out h4 with⟨hne,f,u,hfi,hu,hup⟩ | ⟨hle,hsm,f,g0,u,hif,hg0,hu,hgu,gk,gp,ggr⟩
    ·have NR:Hid (qw l qs (i+1) out):=Dv HF.out SR.out HRS.out HX.out (fun _ _=>trivial) (fun _=>hne);have FF:=FN.out f u hu hup wx EO.out;have q1:(f:Int)<(i:Int):=by omega
     clear h4 hne hu hup;go_wp2_with fail;refine FF.mono ?_;rintro e w5 ⟨rfl,rfl⟩;clear FF;go_wp2;go_roundw
     case rel=>exact⟨i+1,out,by omega,by go_num,HC,NR,HD⟩
     case measure=>simp[intOf];omega
    have x4:x.kind=4:=hsm.kind.trans h4;have hup:u.path=y.link:=by rw[<-hgu.path,gp,hsm.link]
    have FF:=FN.out f u hu hup wx EO.out;have HU:=ae hu;have RL:=ae (fun out' h1 h2=>NU HF.out SR.out HRS.out HX.out HY.out hsm hle hif hg0 HU.out hgu gk gp ggr x4 (out':=out') h1 h2);have UK:u.kind=1:=hgu.kind.symm.trans gk;have hfl:f<l.length:=by rw[<-OL.out];exact(gS hu).1
    have hixf:=fun W=>aB (T:=28) (E:=35) (sz:=10) (c:=co) (A:=some ⟨g,0,none⟩) Tryz.underlying28 rfl Tryz.sizeOf35 rfl hfl W;simp only[Nat.zero_add] at hixf;have y1:=(HC.out.cell hu 1 _ rfl).1;rw[UK] at y1;have DU:=ae (HD.out u (gM hu));have DY:=ae (HD.out y (gM HY.out));have q1:¬ (f:Int)<(i:Int):=by omega
    have IF:=ae hif;have H4:=ae h4;clear h4 hle hsm hg0 hgu gk gp ggr x4 hup hu UK hif;go_wp2_with fail;refine FF.mono ?_;rintro e w5 ⟨rfl,rfl⟩;clear FF FN EO;have f1:=(HC.out.cell HY.out 1 _ rfl).2;go_upto_region 23 with(fail)
    have C1:=ae (HC.out.set HY.out (j:=1) (u:=.int .i64 1) (y':={ y with kind:=1 }) (by omega) rfl);generalize (w5.setCell ⟨g,i*10+1,none⟩ (.int .i64 1))=wA at *;clear HC z1 z8 y1 f1;have hiA:(out.set i { y with kind:=1 })[i]?=some { y with kind:=1 }:=List.getElem?_set_self (by rw[OL.out];exact hil);obtain⟨g8,f8⟩:=C1.out.cell hiA 8 _ rfl;go_upto_region 24 with(fail)
    have C2:=ae (C1.out.set hiA (j:=8) (u:=.string ⟨#[]⟩) (y':={ y with kind:=1,link:=⟨#[]⟩ }) (by omega) rfl);rw[List.set_set] at C2;generalize (wA.setCell ⟨g,i*10+8,none⟩ (.string ⟨#[]⟩))=wB at *;clear C1 hiA f8 g8;have hiB:(out.set i { y with kind:=1,link:=⟨#[]⟩ })[i]?=some { y with kind:=1,link:=⟨#[]⟩ }:=List.getElem?_set_self (by rw[OL.out];exact hil);have hfB:(out.set i { y with kind:=1,link:=⟨#[]⟩ })[f]?=some u:=by rw[List.getElem?_set_ne (by have:=IF.out;omega)];exact HU.out
    obtain⟨g9,f9⟩:=C2.out.cell hiB 9 _ rfl;have u9:=(C2.out.cell hfB 9 _ rfl).1;go_upto_region 25 with(fail)
    have C3:Hid (Ib w1 (wB.setCell ⟨g,i*10+9,none⟩ (.slice u.da u.data.length u.dc)) (.slice (some ⟨g,0,none⟩) l.length co) l.length (out.set i (jL y u))):=by
     have h:=C2.out.set hiB (j:=9) (u:=.slice u.da u.data.length u.dc) (y':=jL y u) (by omega) rfl;rw[List.set_set] at h;exact h
    generalize (wB.setCell ⟨g,i*10+9,none⟩ (.slice u.da u.data.length u.dc))=wC at *;clear C2 hiB hfB f9 g9 u9;have hfC:(out.set i (jL y u))[f]?=some u:=by rw[List.getElem?_set_ne (by have:=IF.out;omega)];exact HU.out
    obtain⟨g1,f1⟩:=C3.out.cell hfC 1 _ rfl;go_upto_region 26 with(fail)
    have C4:=ae (C3.out.set hfC (j:=1) (u:=.int .i64 4) (y':={ u with kind:=4 }) (by omega) rfl);generalize (wC.setCell ⟨g,f*10+1,none⟩ (.int .i64 4))=wD at *;clear C3 f1 g1 hfC;have OL2:Hid ((out.set i (jL y u)).length=l.length):=by show _=_;rw[List.length_set];exact OL.out
    have hfD:((out.set i (jL y u)).set f { u with kind:=4 })[f]?=some { u with kind:=4 }:=List.getElem?_set_self (by rw[OL2.out];exact hfl);have hiD:((out.set i (jL y u)).set f { u with kind:=4 })[i]?=some (jL y u):=by rw[List.getElem?_set_ne (by have:=IF.out;omega),List.getElem?_set_self (by rw[OL.out];exact hil)]
    obtain⟨g8,f8⟩:=C4.out.cell hfD 8 _ rfl;have y0:wD.cell? ⟨g,i*10,none⟩=some (.string y.path):=(C4.out.cell hiD 0 _ rfl).1;go_upto_region 27 with(fail)
    have C5:=ae (C4.out.set hfD (j:=8) (u:=.string y.path) (y':={ u with kind:=4,link:=y.path }) (by omega) rfl);rw[List.set_set] at C5;generalize (wD.setCell ⟨g,f*10+8,none⟩ (.string y.path))=wE at *;clear C4 hfD hiD f8 g8 y0;have hfE:((out.set i (jL y u)).set f { u with kind:=4,link:=y.path })[f]?=some { u with kind:=4,link:=y.path }:=List.getElem?_set_self (by rw[OL2.out];exact hfl);obtain⟨g9,f9⟩:=C5.out.cell hfE 9 _ rfl;go_upto_region 28 with(fail)
    have C6:Hid (Ib w1 (wE.setCell ⟨g,f*10+9,none⟩ (.slice none 0 0)) (.slice (some ⟨g,0,none⟩) l.length co) l.length ((out.set i (jL y u)).set f (po y u))):=by
     have h:=C5.out.set hfE (j:=9) (u:=.slice none 0 0) (y':=po y u) (by omega) rfl;rw[List.set_set] at h;exact h
    generalize (wE.setCell ⟨g,f*10+9,none⟩ (.slice none 0 0))=wF at *;clear C5 hfE f9 g9;have D6:Hid (Dw w1 ((out.set i (jL y u)).set f (po y u))):=(HD.out.set (k:=i) (y:=jL y u) DU.out).set (k:=f) (y:=po y u) (Rd.nil _ _ _);have BI:Hid (((out.set i (jL y u)).set f (po y u))[i]?=some (jL y u)):=by show _=_;rw[List.getElem?_set_ne (by have:=IF.out;omega),List.getElem?_set_self (by rw[OL.out];exact hil)]
    have BL:Hid (((out.set i (jL y u)).set f (po y u)).length=l.length):=by show _=_;rw[List.length_set];exact OL2.out
    obtain⟨bs,hbs⟩:∃ bs,(out.set i (jL y u)).set f (po y u)=bs:=⟨_,rfl⟩
    have HBS:=ae hbs;rw[hbs] at C6 D6 BI BL;clear hbs HD DU;go_wp2;go_loopw [13] (fun s wy=>∃ (q:Nat) (o:List ag),q<=l.length/\s=.int .i64 q/\Hid (Ib w1 wy (.slice (some ⟨g,0,none⟩) l.length co) l.length o)/\Hid (GA bs o y.link y.path f q)/\Hid (Dw w1 o)) (fun s _=>l.length-(intOf s).toNat)
    case atStart=>exact⟨0,bs,z0,rfl,C6,GA.zero _ _ _ _,D6⟩
    case round=>
     clear C6 D6;obtain⟨j,o,hj,rfl,HC2,HRL,HD2⟩:=hrel
     rename World=>wy
     by_cases hjl:j<l.length
     case neg=>
      obtain rfl:j=l.length:=by omega
      have NX:Hid (qw l qs (i+1) o):=by
       obtain⟨h1,h2⟩:=GA.done (n:=l.length) (Nat.le_of_eq OL.out) (by have:=IF.out;omega) HY.out HU.out (HBS.out.symm ▸ HRL.out);exact RL.out o h1 h2
      go_wp2;go_roundw
      case rel=>exact⟨i+1,o,by omega,by go_num,HC2,NX,HD2⟩
      case measure=>simp[intOf];omega
     obtain⟨v,hv⟩:∃ v,o[j]?=some v:=⟨_,gG (by rw[HC2.out.len];exact hjl)⟩
     have hixj:=fun W=>aB (T:=28) (E:=35) (sz:=10) (c:=co) (A:=some ⟨g,0,none⟩) Tryz.underlying28 rfl Tryz.sizeOf35 rfl hjl W;simp only[Nat.zero_add] at hixj;have HV:=ae hv;have v1:=(HC2.out.cell hv 1 _ rfl).1;have v8:=(HC2.out.cell hv 8 _ rfl).1;have fv8:=(HC2.out.cell hv 8 _ rfl).2;clear hv;by_cases hjf:j=f
     case pos=>
      have t1:((j:Int) != (f:Int))=false:=by simp[hjf]
      have NX:=ae (HRL.out.skip HV.out (fun c=>c.1 hjf));clear hjf;go_wp2;go_roundw
      case rel=>exact⟨j+1,o,by omega,by go_num,HC2,NX,HD2⟩
      case measure=>simp[intOf];omega
     have t1:((j:Int) != (f:Int))=true:=by simp;omega
     by_cases hvk:v.kind=4
     case neg=>
      have t2:(v.kind==4)=false:=by simpa using hvk
      have NX:=ae (HRL.out.skip HV.out (fun c=>hvk c.2.1));clear hvk hjf;go_wp2;go_roundw
      case rel=>exact⟨j+1,o,by omega,by go_num,HC2,NX,HD2⟩
      case measure=>simp[intOf];omega
     have t2:(v.kind==4)=true:=by simpa using hvk
     by_cases hvl:v.link=y.link
     case neg=>
      have t3:(v.link.toList==y.link.toList)=false:=by rw[et];exact dF hvl
      have NX:=ae (HRL.out.skip HV.out (fun c=>hvl c.2.2));clear hvk hjf hvl;go_wp2;go_roundw
      case rel=>exact⟨j+1,o,by omega,by go_num,HC2,NX,HD2⟩
      case measure=>simp[intOf];omega
     have t3:(v.link.toList==y.link.toList)=true:=by rw[hvl];simp
     have NX:=ae (HRL.out.put HV.out ⟨hjf,hvk,hvl⟩);have C7:=ae (HC2.out.set HV.out (j:=8) (u:=.string y.path) (y':={ v with link:=y.path }) (by omega) rfl);have D7:Hid (Dw w1 (o.set j { v with link:=y.path })):=HD2.out.set (HD2.out v (gM HV.out));obtain⟨vi,hvi⟩:∃ vi,o[i]?=some vi:=⟨_,gG (by rw[HC2.out.len];exact hil)⟩
     have vp:wy.cell? ⟨g,i*10,none⟩=some (.string y.path):=by
      have h:=(HC2.out.cell hvi 0 _ rfl).1;rw[(HRL.out.path BI.out hvi).1] at h;exact h
     clear hvk hjf hvl hvi;go_wp2;go_roundw
     case rel=>exact⟨j+1,_,by omega,by go_num,C7,NX,D7⟩
     case measure=>simp[intOf];omega
end
end Go.Proofs.YtlglfpbhapmhiaaGreatDoor
