/- A part of the proof. -/
import Derived.Test.YtlglfpbhapmhiaaGreatDoorL44
set_option maxRecDepth 100000
set_option maxHeartbeats 20000000
set_option linter.unusedVariables false
set_option linter.unusedSimpArgs false
namespace Go.Proofs.YtlglfpbhapmhiaaGreatDoor
variable{W w:World}
section
open Go.RowKit Go.Maps
theorem yU {A:OA}{l:List ag}(h:cV w A l)(k:Nat):cV w A (l.take k):=⟨h.row.take bi k,fun x hx=>h.all x (List.mem_of_mem_take hx)⟩
theorem lk (A:OA)(c n:Nat)(l:List ag)(hl:l.length=n)(s:BA)(w:World)(hE:cV w A l)(hn:l.length<=100000)(v:Int)(hv:iU l s 0=v):Calls Tryz.prog 38 #[.slice A n c,.string s] w fun e w'=>e=.returned (.int .i64 v)/\w'=w:=by
 subst hl;subst hv;exact(Gv A c l s w hE hn).mono fun e w' h=>⟨h.1,h.2.symm⟩
theorem AE (x:ag)(w:World)(g:vY x)(hs:x.small):Calls Tryz.prog 116 #[.agg #[.string x.path,.int .i64 x.kind,.int .i64 x.mode,.int .i64 x.uid,.int .i64 x.gid,.string x.owner,.string x.group,.int .i64 x.mtime,.string x.link,.slice x.da x.data.length x.dc]] w fun e w'=>e=.returned (.int .i64 0)/\Below w.heap.size w w':=we x w g hs
theorem wq (a b:BA)(w:World)(ha:a.size<=9223372036854775807)(hb:b.size<=9223372036854775807)(v:Bool)(hv:jm (aV b) a=v):Calls Tryz.prog 117 #[.string a,.string b] w fun e w'=>e=.returned (.bool v)/\w'=w:=by
 subst hv;exact(KE a b w ha hb).mono fun e w' h=>⟨h.1,h.2.symm⟩
theorem EB.lim {x:ag}(h:EB w W x):W.cell? ⟨w.heap.size,0,none⟩=some (.string x.path)/\W.cell? ⟨w.heap.size,1,none⟩=some (.int .i64 x.kind)/\W.cell? ⟨w.heap.size,2,none⟩=some (.int .i64 x.mode)/\W.cell? ⟨w.heap.size,3,none⟩=some (.int .i64 x.uid)/\W.cell? ⟨w.heap.size,4,none⟩=some (.int .i64 x.gid)/\W.cell? ⟨w.heap.size,5,none⟩=some (.string x.owner)/\W.cell? ⟨w.heap.size,6,none⟩=some (.string x.group)/\W.cell? ⟨w.heap.size,7,none⟩=some (.int .i64 x.mtime)/\W.cell? ⟨w.heap.size,8,none⟩=some (.string x.link)/\W.cell? ⟨w.heap.size,9,none⟩=some (.slice x.da x.data.length x.dc):=⟨h.blk.cell 0 _ rfl,h.blk.cell 1 _ rfl,h.blk.cell 2 _ rfl,h.blk.cell 3 _ rfl,h.blk.cell 4 _ rfl,h.blk.cell 5 _ rfl,h.blk.cell 6 _ rfl,h.blk.cell 7 _ rfl,h.blk.cell 8 _ rfl,h.blk.cell 9 _ rfl⟩
theorem vS.lim10 {b o:Nat}{x:ag}(h:vS W b o x):W.cell? ⟨b,o,none⟩=some (.string x.path)/\W.cell? ⟨b,o+1,none⟩=some (.int .i64 x.kind)/\W.cell? ⟨b,o+2,none⟩=some (.int .i64 x.mode)/\W.cell? ⟨b,o+3,none⟩=some (.int .i64 x.uid)/\W.cell? ⟨b,o+4,none⟩=some (.int .i64 x.gid)/\W.cell? ⟨b,o+5,none⟩=some (.string x.owner)/\W.cell? ⟨b,o+6,none⟩=some (.string x.group)/\W.cell? ⟨b,o+7,none⟩=some (.int .i64 x.mtime)/\W.cell? ⟨b,o+8,none⟩=some (.string x.link)/\W.cell? ⟨b,o+9,none⟩=some (.slice x.da x.data.length x.dc):=⟨h.cell 0 _ rfl,h.cell 1 _ rfl,h.cell 2 _ rfl,h.cell 3 _ rfl,h.cell 4 _ rfl,h.cell 5 _ rfl,h.cell 6 _ rfl,h.cell 7 _ rfl,h.cell 8 _ rfl,h.cell 9 _ rfl⟩
theorem AF (A:OA)(cap:Nat)(l:List ag)(i:Nat)(x:ag)(w:World)(hx:l[i]?=some x)(hE:cV w A l)(hF:dn l)(hs:∀ x∈l,x.small)(hl:l.length<=100000)(hcap:l.length<=cap):Calls Tryz.prog 80 #[.slice A l.length cap,.int .i64 i] w fun e w'=>e=.returned (.int .i64 0)/\Below w.heap.size w w':=by
 have HE:=ae hE;have HF:=ae hF;have HS:=ae hs;have hlt:i<l.length:=(gS hx).1;have hxm:=gM hx;have SX:=ae (hs x hxm);have GX:=ae (fO.1 (hF.err x hxm));obtain⟨b,off,hA,hel⟩:=hE.row.elem bi i x hx;have hix:=fun W=>aB (T:=28) (E:=35) (sz:=10) (c:=cap) Tryz.underlying28 rfl Tryz.sizeOf35 hA hlt W;have e0:=hel 0 _ rfl;have e1:=hel 1 _ rfl;have e2:=hel 2 _ rfl;have e3:=hel 3 _ rfl;have e4:=hel 4 _ rfl;have e5:=hel 5 _ rfl;have e6:=hel 6 _ rfl;have e7:=hel 7 _ rfl;have e8:=hel 8 _ rfl;have e9:=hel 9 _ rfl;simp only[Nat.add_zero] at e0;have HX:=ae hx;clear hE hF hs hx hA hel hxm;obtain⟨W3,hW3⟩:∃ W3,w.alloc (.cells #[.string x.path,.int .i64 x.kind,.int .i64 x.mode,.int .i64 x.uid,.int .i64 x.gid,.string x.owner,.string x.group,.int .i64 x.mtime,.string x.link,.slice x.da x.data.length x.dc] 35)=W3:=⟨_,rfl⟩
 have B3:Hid (EB w W3 x):=by show EB _ _ _;rw[<-hW3];exact EB.start w x
 have c0:=B3.out.blk.cell 0 _ rfl;have c1:=B3.out.blk.cell 1 _ rfl;have c2:=B3.out.blk.cell 2 _ rfl;have c3:=B3.out.blk.cell 3 _ rfl;have c4:=B3.out.blk.cell 4 _ rfl;have c5:=B3.out.blk.cell 5 _ rfl;have c6:=B3.out.blk.cell 6 _ rfl;have c7:=B3.out.blk.cell 7 _ rfl;have c8:=B3.out.blk.cell 8 _ rfl;have c9:=B3.out.blk.cell 9 _ rfl;go_in;go_wp2_with fail;clear hW3 e0 e1 e2 e3 e4 e5 e6 e7 e8 e9 c0 c1 c2 c3 c4 c5 c6 c7 c8 c9;refine(AE x _ GX.out SX.out).mono ?_;rintro e w4 ⟨rfl,hb4⟩;have B4:=ae (B3.out.step hb4);clear hb4 B3 hix;have c0:=B4.out.blk.cell 0 _ rfl;have hst:=fun W=>BR (T:=28) (E:=35) (sz:=10) (A:=A) (n:=l.length) (c:=cap) (k:=i) Tryz.underlying28 rfl Tryz.sizeOf35 (by omega) W;have F1:Hid (iU (l.take i) x.path 0=-1):=KK 0 fun y hy e=>by
  obtain⟨k,hk,hy'⟩:=jj hy;have:=HF.out.nd k i y x hy' HX.out e;omega
 have hic:(i:Int)<=(cap:Int):=by omega
 go_wp2;go_quiet ((go_at_call 38;exact Calls.quiet_of_same (lk A cap i (l.take i) (by simp;omega) x.path _ (yU (HE.out.below (am B4.out.bel _)) i) (by simp;omega) _ F1.out)));have B5:Hid (EB w (w4.drewN nq) x):=B4.out.step (am bR _);generalize w4.drewN nq=w5 at *;clear B4 c0 F1;have c1:=B5.out.blk.cell 1 _ rfl;go_upto_if 27 with(fail)
 go_cut [] (fun wx=>Hid (EB w wx x))
 case first=>
  by_cases h4:x.kind=4
  case neg=>
   have q:(x.kind==4)=false:=by simpa using h4
   clear h4;go_wp2;go_meet;exact B5
  have q:(x.kind==4)=true:=by simpa using h4
  obtain⟨k,y,hk,hy,hyp,hy1,hyc⟩:=HF.out.hard i x HX.out h4;have F2:Hid (iU (l.take i) x.link 0=(k:Int)):=by
   have hn:((l.take i).map ag.path).Nodup:=by rw[List.map_take];exact(fP HF.out.nd).sublist (List.take_sublist _ _)
   have:=Ia (l:=l.take i) (s:=x.link) (f:=k) (u:=y) 0 hn (by rw[List.getElem?_take,if_pos hk];exact hy) hyp;show _=_;rw[this];omega
  clear h4 hyp;have HK:=ae hk;have HYC:=ae hyc;have hkl:k<l.length:=by omega
  obtain⟨b2,off2,hA2,hel2⟩:=(HE.out.below B5.out.bel).row.elem bi k y hy;have hixk:=fun W=>aB (T:=28) (E:=35) (sz:=10) (c:=cap) Tryz.underlying28 rfl Tryz.sizeOf35 hA2 hkl W;have Y5:Hid (vS w5 b2 (off2+k*10) y):=⟨hel2,(HE.out.below B5.out.bel).all y (gM hy)⟩
  clear hy hA2 hel2 hk hyc;have c8:=B5.out.blk.cell 8 _ rfl;go_wp2;go_quiet ((go_at_call 38;exact Calls.quiet_of_same (lk A cap i (l.take i) (by simp;omega) x.link _ (yU (HE.out.below (am B5.out.bel _)) i) (by simp;omega) _ F2.out)));have B6:Hid (EB w (w5.drewN nq) x):=B5.out.step (am bR _);have Y6:Hid (vS (w5.drewN nq) b2 (off2+k*10) y):=Y5.out.below (am bR _);generalize w5.drewN nq=w6 at *;clear B5 Y5 c1 c8 F2 q;have y1:w6.cell? ⟨b2,off2+k*10+1,none⟩=some (.int .i64 y.kind):=Y6.out.cell 1 _ rfl;rw[hy1] at y1;clear hy1;have hk0:¬ (k:Int)<0:=by omega
  go_wp2_with fail;refine Kz (Ky fun O hO=>?_);have p0:=az (k:=0) hO rfl;have p1:=az (k:=1) hO rfl;have p2:=az (k:=2) hO rfl;have p3:=az (k:=3) hO rfl;have p4:=az (k:=4) hO rfl;have p5:=az (k:=5) hO rfl;have p6:=az (k:=6) hO rfl;have ok:∀ k,k<7->pn O k=true:=by
   have h:(List.range 7).all (pn O)=true:=by rw[hO];kernel_rfl
   intro k hk;exact List.all_eq_true.1 h k (List.mem_range.2 hk)
  have hns:Region.noSelect O=true:=by rw[hO];kernel_rfl
  have r5:Region.ready .any O (kE O.size 5)=[5]:=by rw[hO];kernel_rfl
  have r7:Region.ready .any O (kE O.size 7)=[]:=by rw[hO];kernel_rfl
  have hsz:O.size=7:=by rw[hO];rfl
  clear hO y1;have B7:=ae (B6.out.step (bS (Below.refl _ w6)));have Y7:=ae (Y6.out.below (bS (Below.refl _ w6)));clear B6 Y6;refine rB (S:=fun w'=>(w'.cell? ⟨w.heap.size,0,none⟩=some (.string x.path)/\w'.cell? ⟨w.heap.size,1,none⟩=some (.int .i64 x.kind)/\w'.cell? ⟨w.heap.size,2,none⟩=some (.int .i64 x.mode)/\w'.cell? ⟨w.heap.size,3,none⟩=some (.int .i64 x.uid)/\w'.cell? ⟨w.heap.size,4,none⟩=some (.int .i64 x.gid)/\w'.cell? ⟨w.heap.size,5,none⟩=some (.string x.owner)/\w'.cell? ⟨w.heap.size,6,none⟩=some (.string x.group)/\w'.cell? ⟨w.heap.size,7,none⟩=some (.int .i64 x.mtime)/\w'.cell? ⟨w.heap.size,8,none⟩=some (.string x.link)/\w'.cell? ⟨w.heap.size,9,none⟩=some (.slice x.da x.data.length x.dc))/\(w'.cell? ⟨b2,off2+k*10,none⟩=some (.string y.path)/\w'.cell? ⟨b2,off2+k*10+1,none⟩=some (.int .i64 y.kind)/\w'.cell? ⟨b2,off2+k*10+2,none⟩=some (.int .i64 y.mode)/\w'.cell? ⟨b2,off2+k*10+3,none⟩=some (.int .i64 y.uid)/\w'.cell? ⟨b2,off2+k*10+4,none⟩=some (.int .i64 y.gid)/\w'.cell? ⟨b2,off2+k*10+5,none⟩=some (.string y.owner)/\w'.cell? ⟨b2,off2+k*10+6,none⟩=some (.string y.group)/\w'.cell? ⟨b2,off2+k*10+7,none⟩=some (.int .i64 y.mtime)/\w'.cell? ⟨b2,off2+k*10+8,none⟩=some (.string y.link)/\w'.cell? ⟨b2,off2+k*10+9,none⟩=some (.slice y.da y.data.length y.dc))) (by kernel_rfl) ⟨B7.out.lim,Y7.out.lim10⟩ (fun hHeld=>?_);rw[show wpAnyH _ _ O _ _ O.size=wpAnyH _ _ O _ _ 7 by rw[hsz]];refine' aH ok hns p0 ?_
  (try simp only[sA,sB,sC])
  refine' aH ok hns p1 ?_
  (try simp only[sA,sB,sC])
  refine' aH ok hns p2 ?_
  (try simp only[sA,sB,sC])
  refine' aH ok hns p3 ?_
  (try simp only[sA,sB,sC])
  refine' aH ok hns p4 ?_
  (try simp only[sA,sB,sC])
  refine' wi (fun w'=>Below w6.drew.heap.size w6.drew w') (k:=5) (j:=49) (v:=.bool true) r5 p5 rfl (by unfold Region.wanted;rfl) (fun w' h=>⟨(B7.out.step h).lim,(Y7.out.below h).lim10⟩) ?hc5 (fun w7 hb7 hS7=>?rr5)
  case hc5=>
   intro K hK;go_simp;refine(wg y x _).mono ?_;rintro e w2 ⟨rfl,hb2⟩;rw[show gh y x=true from kC.2 (by have:=kC.1 HYC.out;obtain⟨a1,a2,a3,a4,a5,a6⟩:=this;exact⟨a1.symm,a2.symm,a3.symm,a4.symm,a5.symm,a6.symm⟩)]
   (try go_simp)
   exact hK w2 hb2
  have B8:=ae (B7.out.step hb7);clear hHeld hb7 B7 Y7
  (try simp only[sA,sB,sC])
  refine' aH ok hns p6 ?_
  (try simp only[sA,sB,sC])
  refine lS r7 ?_;clear ok hns r5 r7 hsz p0 p1 p2 p3 p4 p5 p6 hS7 hixk;go_wp2;go_meet;exact B8
 case rest=>
  have B9:=hcut;clear hcut B5 c1;go_wp2;go_loopw [8] (fun s wr=>∃ k:Nat,k<=i/\s=.int .i64 k/\Hid (EB w wr x)) (fun s _=>i-(intOf s).toNat)
  case atStart=>exact⟨0,z0,rfl,B9⟩
  case round=>
   clear B9;obtain⟨k,hk,rfl,B1⟩:=hrel;by_cases hki:k<i
   case neg=>
    have hki2:¬ (k:Int)<(i:Int):=by omega
    clear hki;go_wp2;go_ret;exact⟨rfl,B1.out.bel⟩
   have hki2:(k:Int)<(i:Int):=by omega
   have hkl:k<l.length:=by omega
   obtain⟨y,hy⟩:∃ y,l[k]?=some y:=⟨_,gG hkl⟩
   obtain⟨b2,off2,hA2,hel2⟩:=(HE.out.below B1.out.bel).row.elem bi k y hy;have hixk:=fun W=>aB (T:=28) (E:=35) (sz:=10) (c:=cap) Tryz.underlying28 rfl Tryz.sizeOf35 hA2 hkl W;have y0:=hel2 0 _ rfl;have y1:=hel2 1 _ rfl;simp only[Nat.add_zero] at y0;have hym:=gM hy;have hxm:=gM HX.out;have SY:=(HS.out y hym).path;have SX':=SX.out.path;have c0:=B1.out.blk.cell 0 _ rfl;have c1:=B1.out.blk.cell 1 _ rfl;obtain⟨va,hva⟩:∃ v,jm (aV x.path) y.path=v:=⟨_,rfl⟩
   obtain⟨vb,hvb⟩:∃ v,jm (aV y.path) x.path=v:=⟨_,rfl⟩
   have A1:=ae fun W=>wq y.path x.path W (by omega) (by omega) va hva;have A2:=ae fun W=>wq x.path y.path W (by omega) (by omega) vb hvb;have Z1:va=true->(y.kind != 2)=false:=fun e=>by have:=HF.out.up x hxm y hym (jU.1 (hva.trans e));simp[this]
   have Z2:vb=true->(x.kind != 2)=false:=fun e=>by have:=HF.out.up y hym x hxm (jU.1 (hvb.trans e));simp[this]
   have Z1':=ae Z1;have Z2':=ae Z2;clear hy hA2 hel2 hym hxm hva hvb Z1 Z2;go_upto_region 16 with(fail)
   go_cut [86] (fun v wx=>v=.bool false/\Hid (EB w wx x))
   case first=>
    cases va
    case false=>
     cases vb
     case false=>
      go_quiet (first | (go_at_call 117;with_reducible exact Calls.quiet_of_same (A1.out _)) | (go_at_call 117;with_reducible exact Calls.quiet_of_same (A2.out _)));go_wp2;go_meet;exact⟨rfl,B1.out.step (am bR _)⟩
     case true=>
      have z2:=Z2'.out rfl;go_quiet (first | (go_at_call 117;with_reducible exact Calls.quiet_of_same (A1.out _)) | (go_at_call 117;with_reducible exact Calls.quiet_of_same (A2.out _)));go_wp2;go_meet;exact⟨rfl,B1.out.step (am bR _)⟩
    case true=>
     have z1:=Z1'.out rfl;cases vb
     case false=>
      go_quiet (first | (go_at_call 117;with_reducible exact Calls.quiet_of_same (A1.out _)) | (go_at_call 117;with_reducible exact Calls.quiet_of_same (A2.out _)));go_wp2;go_meet;exact⟨rfl,B1.out.step (am bR _)⟩
     case true=>
      have z2:=Z2'.out rfl;go_quiet (first | (go_at_call 117;with_reducible exact Calls.quiet_of_same (A1.out _)) | (go_at_call 117;with_reducible exact Calls.quiet_of_same (A2.out _)));go_wp2;go_meet;exact⟨rfl,B1.out.step (am bR _)⟩
   case rest=>
    obtain⟨rfl,B2⟩:=hcut;clear B1 c0 c1 y0 y1 A1 A2 Z1' Z2';go_wp2;go_roundw
    case rel=>exact⟨k+1,by omega,by go_num,B2⟩
    case measure=>simp[intOf];omega
theorem qx (A:OA)(cap:Nat)(l:List ag)(w:World)(hE:cV w A l)(hF:dn l)(hs:∀ x∈l,x.small)(hl:l.length<=4096)(hcap:l.length<=cap):Calls Tryz.prog 37 #[.slice A l.length cap] w fun e w'=>e=.returned (.tuple #[.int .i64 0,.int .i64 0])/\Below w.heap.size w w':=by
 have HE:=ae hE;have HF:=ae hF;have HS:=ae hs;clear hE hF hs;go_in;have hl2:¬ (4096:Int)<(l.length:Int):=by omega
 go_wp2;go_loopw [4] (fun s wr=>∃ k:Nat,k<=l.length/\s=.int .i64 k/\Hid (Below w.heap.size w wr)) (fun s _=>l.length-(intOf s).toNat)
 case atStart=>exact⟨0,z0,rfl,bR⟩
 case round=>
  obtain⟨k,hk,rfl,B1⟩:=hrel;by_cases hlt:k<l.length
  case neg=>
   go_wp2;go_ret2;exact⟨rfl,B1.out⟩
  obtain⟨x,hx⟩:∃ x,l[k]?=some x:=⟨_,gG hlt⟩
  go_wp2_with fail;refine(AF A cap l k x _ hx (HE.out.below B1.out) HF.out HS.out (by omega) hcap).mono ?_;rintro e w2 ⟨rfl,hb2⟩;have B2:Hid (Below w.heap.size w w2):=aq B1.out hb2;clear hb2 hx;go_wp2;go_roundw
  case rel=>exact⟨k+1,by omega,by go_num,B2⟩
  case measure=>simp[intOf];omega
end
end Go.Proofs.YtlglfpbhapmhiaaGreatDoor
