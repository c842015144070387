/- A part of the proof. -/
import Derived.Test.YtlglfpbhapmhiaaGreatDoorL34
set_option maxRecDepth 100000
set_option maxHeartbeats 20000000
set_option linter.unusedVariables false
set_option linter.unusedSimpArgs false
namespace Go.Proofs.YtlglfpbhapmhiaaGreatDoor
variable{tmps:Array Value}{w wr:World}
section
open Go.RowKit Go.Maps
theorem eZ (what nm:BA)(c:Int)(b:Nat)(w:World)(ha:w.cell? ⟨b,0,none⟩=some (.string nm))(hlt:b<w.heap.size):Calls Tryz.prog 32 #[.string what,.int .i64 c,.pointer (some ⟨b,0,none⟩)] w fun e w'=>e=.returned (eh nm what c)/\Below w.heap.size w w':=by
 go_in;go_wp2;refine bodyPost_ret (v:=eh nm what c) (by simp[results,Tryz.results32,go_sem,eh]) rfl ⟨rfl,?_⟩;exact bR.alloc lr _
structure wG (w wr:World) (b:dH):Prop where
 bu:ax wr w.heap.size b.cells
 rs:ax wr (w.heap.size+1) [.string ⟨#[]⟩,.string ⟨#[]⟩,.int .i64 0]
 bel:Below w.heap.size w wr
theorem wG.step {w':World}{b:dH}(h:wG w wr b)(hb:Below wr.heap.size wr w'):wG w w' b:=⟨h.bu.below hb,h.rs.below hb,aq h.bel hb⟩
theorem wG.alloc {b:dH}(h:wG w wr b)(o:Obj):wG w (wr.alloc o) b:=h.step (bR.alloc lr o)
theorem wG.start (w:World)(b:dH):wG w ((w.alloc (.cells #[.string b.pk.nm,.string b.pk.ver,.string b.pk.ar,.string b.pk.sm,.slice b.pk.na b.pk.needs.length b.pk.nc,.slice b.pk.ba b.pk.bars.length b.pk.bc,.slice b.pk.ga b.pk.gives.length b.pk.gc,.slice b.pk.fa b.pk.files.length b.pk.fc,.slice b.pk.sa b.pk.scripts.length b.pk.sc,.slice b.ca b.conf.length b.cc,.slice b.ea b.ents.length b.ec] 30)).alloc (.cells #[.string ⟨#[]⟩,.string ⟨#[]⟩,.int .i64 0] 38)) b:=by
 refine⟨(ax.new w b.cells _).alloc _,?_,(bR.alloc lr _).alloc (by simp) _⟩;have:=ax.new (w.alloc (.cells #[.string b.pk.nm,.string b.pk.ver,.string b.pk.ar,.string b.pk.sm,.slice b.pk.na b.pk.needs.length b.pk.nc,.slice b.pk.ba b.pk.bars.length b.pk.bc,.slice b.pk.ga b.pk.gives.length b.pk.gc,.slice b.pk.fa b.pk.files.length b.pk.fc,.slice b.pk.sa b.pk.scripts.length b.pk.sc,.slice b.ca b.conf.length b.cc,.slice b.ea b.ents.length b.ec] 30)) [.string ⟨#[]⟩,.string ⟨#[]⟩,.int .i64 0] 38;simp only[World.size_alloc] at this;exact this
theorem wG.six {b:dH}(h:wG w wr b):wr.cell? ⟨w.heap.size+1,0,none⟩=some (.string ⟨#[]⟩)/\wr.cell? ⟨w.heap.size+1,1,none⟩=some (.string ⟨#[]⟩)/\wr.cell? ⟨w.heap.size+1,2,none⟩=some (.int .i64 0)/\wr.frozen? ⟨w.heap.size+1,0,none⟩=false/\wr.frozen? ⟨w.heap.size+1,1,none⟩=false/\wr.frozen? ⟨w.heap.size+1,2,none⟩=false:=
 ⟨h.rs.cell 0 _ rfl,h.rs.cell 1 _ rfl,h.rs.cell 2 _ rfl,h.rs.free 0 (by simp),h.rs.free 1 (by simp),h.rs.free 2 (by simp)⟩
theorem wG.done {b:dH}(h:wG w wr b)(x y z:Value):Below w.heap.size w (((wr.setCell ⟨w.heap.size+1,0,none⟩ x).setCell ⟨w.heap.size+1,1,none⟩ y).setCell ⟨w.heap.size+1,2,none⟩ z):=
 ((h.bel.setCell (p:=⟨w.heap.size+1,0,none⟩) (by simp) x).setCell (p:=⟨w.heap.size+1,1,none⟩) (by simp) y).setCell (p:=⟨w.heap.size+1,2,none⟩) (by simp) z
theorem pm {b:dH}(h:wG w wr b)(ht:tmps[4]?=some (.pointer (some ⟨w.heap.size+1,0,none⟩)))(x y:BA)(z:Int):
  (results Tryz.f11 tmps).run Tryz.prog (((wr.setCell ⟨w.heap.size+1,0,none⟩ (.string x)).setCell ⟨w.heap.size+1,1,none⟩ (.string y)).setCell ⟨w.heap.size+1,2,none⟩ (.int .i64 z)) =
   .ok (.agg #[.string x,.string y,.int .i64 z]) (((wr.setCell ⟨w.heap.size+1,0,none⟩ (.string x)).setCell ⟨w.heap.size+1,1,none⟩ (.string y)).setCell ⟨w.heap.size+1,2,none⟩ (.int .i64 z)):=by
 obtain⟨r0,r1,r2,fr0,fr1,fr2⟩:=h.six;simp[results,Tryz.results11,ht,go_sem,r0,r1,r2]
theorem Ps {b:dH}(h:wG w wr b)(ht:tmps[4]?=some (.pointer (some ⟨w.heap.size+1,0,none⟩)))(x y:BA)(z:Int)(o:Obj):
  (results Tryz.f11 tmps).run Tryz.prog ((((wr.setCell ⟨w.heap.size+1,0,none⟩ (.string x)).setCell ⟨w.heap.size+1,1,none⟩ (.string y)).setCell ⟨w.heap.size+1,2,none⟩ (.int .i64 z)).alloc o) =
   .ok (.agg #[.string x,.string y,.int .i64 z]) ((((wr.setCell ⟨w.heap.size+1,0,none⟩ (.string x)).setCell ⟨w.heap.size+1,1,none⟩ (.string y)).setCell ⟨w.heap.size+1,2,none⟩ (.int .i64 z)).alloc o):=by
 obtain⟨r0,r1,r2,fr0,fr1,fr2⟩:=h.six;have hz:=h.rs.sz;simp[results,Tryz.results11,ht,go_sem,r0,r1,r2,hz]
theorem wG.doneA {b:dH}(h:wG w wr b)(x y z:Value)(o:Obj):Below w.heap.size w ((((wr.setCell ⟨w.heap.size+1,0,none⟩ x).setCell ⟨w.heap.size+1,1,none⟩ y).setCell ⟨w.heap.size+1,2,none⟩ z).alloc o):=
 (h.done x y z).alloc (by have:=h.bel.size;simpa using this) o
theorem Ht:∀ (l pre:List ag),(fX pre l).2≠0->∃ x,(pre++l)[(fX pre l).1]?=some x
 | [],pre,h=>by simp[fX] at h
 | x::r,pre,h=>by
  unfold fX at h |-;split
  ·rename_i h0;rw[if_pos h0] at h;have:=Ht r (pre++[x]) h;simpa using this
  ·exact⟨x,by simp⟩
theorem Rp {l:List ag}(hn:¬ 512<l.length)(h:(nF l).2≠0):∃ x,l[(nF l).1]?=some x:=by
 unfold nF at h |-;rw[if_neg (by omega)] at h |-;have:=Ht l [] h;simpa using this
def tf (fmt:Int)(b:dH):Value:=Hn b.pk.nm (mA fmt b)
theorem ja {fmt:Int}{b:dH}{a:BA}{c:Int}(h:mA fmt b=(a,c))(hc:c≠0):tf fmt b=.agg #[.string b.pk.nm,.string a,.int .i64 c]:=by unfold tf;rw[h];exact CG _ _ hc
theorem jK (fmt:Int)(b:dH)(w:World)(hG:zL w)(hb:b.ok w)(hs:b.small):Calls Tryz.prog 11 #[.int .i64 fmt,b.val] w fun e w'=>e=.returned (tf fmt b)/\Below w.heap.size w w':=by
 have HG:=ae hG;have HO:=ae hb;have HS:=ae hs;clear hG hb hs;obtain⟨W0,hW0⟩:∃ W0,(w.alloc (.cells #[.string b.pk.nm,.string b.pk.ver,.string b.pk.ar,.string b.pk.sm,.slice b.pk.na b.pk.needs.length b.pk.nc,.slice b.pk.ba b.pk.bars.length b.pk.bc,.slice b.pk.ga b.pk.gives.length b.pk.gc,.slice b.pk.fa b.pk.files.length b.pk.fc,.slice b.pk.sa b.pk.scripts.length b.pk.sc,.slice b.ca b.conf.length b.cc,.slice b.ea b.ents.length b.ec] 30)).alloc (.cells #[.string ⟨#[]⟩,.string ⟨#[]⟩,.int .i64 0] 38)=W0:=⟨_,rfl⟩
 have R0:Hid (wG w W0 b):=by show wG _ _ _;rw[<-hW0];exact wG.start w b
 have b7:=R0.out.bu.cell 7 _ rfl;by_cases h1:0<b.pk.files.length
 ·have E:Hid (tf fmt b=_):=ja (a:=⟨#[102,105,108,101,115]⟩) (c:=1) (by unfold mA;rw[if_pos h1]) (by decide);have h1i:(0:Int)<(b.pk.files.length:Int):=by omega
  unfold dH.val;go_in;go_wp2_with fail;clear hW0;refine(eZ _ b.pk.nm _ _ _ (R0.out.bu.cell 0 _ rfl) R0.out.bu.sz).mono ?_;rintro e w1 ⟨rfl,hb1⟩;have R1:=ae (R0.out.step hb1);clear hb1 b7;obtain⟨r0,r1,r2,f0,f1,f2⟩:=R1.out.six;unfold eh;go_wp2_with fail;exact bodyPost_ret (pm R1.out rfl _ _ _) rfl ⟨by rw[E.out],R1.out.done _ _ _⟩
 have h1i:¬ (0:Int)<(b.pk.files.length:Int):=by omega
 have CP:=qj fmt b.pk W0 (HG.out.below R0.out.bel) (HO.out.pk.below R0.out.bel) HS.out.pk;obtain⟨⟨wh,code⟩,hq⟩:∃ r,il fmt b.pk=r:=⟨_,rfl⟩
 rw[hq] at CP;have HQ:=ae hq;have H1:=ae h1;clear hq h1;have b0:=R0.out.bu.cell 0 _ rfl;have b1:=R0.out.bu.cell 1 _ rfl;have b2:=R0.out.bu.cell 2 _ rfl;have b3:=R0.out.bu.cell 3 _ rfl;have b4:=R0.out.bu.cell 4 _ rfl;have b5:=R0.out.bu.cell 5 _ rfl;have b6:=R0.out.bu.cell 6 _ rfl;have b8:=R0.out.bu.cell 8 _ rfl;unfold dH.val;go_in;go_wp2_with fail;clear hW0 b0 b1 b2 b3 b4 b5 b6 b7 b8;unfold bK.val at CP;refine CP.mono ?_;rintro e w1 ⟨rfl,hb1⟩;have R1:=ae (R0.out.step hb1);clear hb1 CP R0;by_cases hc:code=0
 case neg=>
  rw[CG _ _ hc];have E:Hid (tf fmt b=_):=ja (a:=wh) (c:=code) (by unfold mA;rw[if_neg H1.out,HQ.out,if_pos hc]) hc;have q:(code != 0)=true:=by simpa using hc
  clear hc;obtain⟨r0,r1,r2,f0,f1,f2⟩:=R1.out.six;have hz:=R1.out.rs.sz;have hz2:=R1.out.bu.sz;go_wp2_with fail;exact bodyPost_ret (Ps R1.out rfl _ _ _ _) rfl ⟨by rw[E.out],R1.out.doneA _ _ _ _⟩
 subst hc;rw[MH];have R2:=ae (R1.out.alloc (.cells #[.string ⟨#[]⟩,.string ⟨#[]⟩,.int .i64 0] 38));have b10:=R1.out.bu.cell 10 _ rfl;have hz2:=R1.out.bu.sz;have HQ2:Hid ((il fmt b.pk).2=0):=by show _=_;rw[HQ.out]
 by_cases h5:512<b.ents.length
 case pos=>
  have E:Hid (tf fmt b=_):=ja (a:=⟨#[101,110,116,114,105,101,115]⟩) (c:=4) (by unfold mA;rw[if_neg H1.out,if_neg (by rw[HQ2.out];decide),if_pos h5]) (by decide);have h5i:(512:Int)<(b.ents.length:Int):=by omega
  go_wp2_with fail;refine(eZ _ b.pk.nm _ _ _ (R2.out.bu.cell 0 _ rfl) R2.out.bu.sz).mono ?_;rintro e w3 ⟨rfl,hb3⟩;have R3:=ae (R2.out.step hb3);clear hb3 b10 hz2;obtain⟨r0,r1,r2,f0,f1,f2⟩:=R3.out.six;unfold eh;go_wp2_with fail;exact bodyPost_ret (pm R3.out rfl _ _ _) rfl ⟨by rw[E.out],R3.out.done _ _ _⟩
 have h5i:¬ (512:Int)<(b.ents.length:Int):=by omega
 go_wp2_with fail;have CA:=ns b.ea b.ec b.ents _ (HG.out.1.below R2.out.bel) (HO.out.ents.below R2.out.bel) HS.out.ents HS.out.ents_;unfold Pq at CA;refine CA.mono ?_;rintro e w3 ⟨rfl,hb3⟩;have R3:=ae (R2.out.step hb3);clear hb3 CA R1 R2 b10 hz2;by_cases h6:(nF b.ents).2=0
 case neg=>
  obtain⟨x,hx⟩:=Rp h5 h6;have E:Hid (tf fmt b=_):=ja (a:=x.path) (c:=(nF b.ents).2) (by unfold mA;rw[if_neg H1.out,if_neg (by rw[HQ2.out];decide),if_neg h5,if_pos h6,hx];rfl) h6;have q:((nF b.ents).2 != 0)=true:=by simpa using h6
  obtain⟨bq,off,hA,hel⟩:=((HO.out.ents.below R3.out.bel).row).elem bi (nF b.ents).1 x hx;have hlt:(nF b.ents).1<b.ents.length:=(gS hx).1;have hix:=fun W=>aB (T:=28) (E:=35) (sz:=10) (c:=b.ec) Tryz.underlying28 rfl Tryz.sizeOf35 hA hlt W;have e0:=hel 0 _ rfl;simp only[Nat.add_zero] at e0;have b10:=R3.out.bu.cell 10 _ rfl;clear h6 hx hA hel;generalize (nF b.ents).2=code at *;generalize (nF b.ents).1=at_ at *;go_wp2_with fail;refine(eZ _ b.pk.nm _ _ _ (R3.out.bu.cell 0 _ rfl) R3.out.bu.sz).mono ?_;rintro e w4 ⟨rfl,hb4⟩;have R4:=ae (R3.out.step hb4);clear hb4 e0 b10;obtain⟨r0,r1,r2,f0,f1,f2⟩:=R4.out.six;unfold eh;go_wp2_with fail;exact bodyPost_ret (pm R4.out rfl _ _ _) rfl ⟨by rw[E.out],R4.out.done _ _ _⟩
 rw[h6];have H6:=ae h6;have H5:=ae h5;clear h6 h5;have b10:=R3.out.bu.cell 10 _ rfl;have hel:b.ents.length<=9223372036854775807:=by have:=HS.out.ents;omega
 go_wp2_with fail;clear b10;go_loopw [53] (fun i wr=>∃ k:Nat,k<=b.ents.length/\i=.int .i64 k/\Hid (fB fmt b.ents=fB fmt (b.ents.drop k))/\Hid (wG w wr b)) (fun i _=>b.ents.length-(intOf i).toNat)
 case atStart=>exact⟨0,z0,rfl,rfl,R3⟩
 case round=>
  obtain⟨k,hk,rfl,HA,HR⟩:=hrel;clear R3;by_cases hlt:k<b.ents.length
  case neg=>
   have H7:Hid (fB fmt b.ents=(⟨#[]⟩,0)):=Kf (by omega) HA.out;have b9:=HR.out.bu.cell 9 _ rfl;have b10:=HR.out.bu.cell 10 _ rfl;go_wp2_with fail;refine(ru fmt b.ca b.ea b.cc b.ec b.conf b.ents _ (HO.out.conf.below HR.out.bel) (HO.out.ents.below HR.out.bel) HS.out.ents HS.out.conf HS.out.conf_ HS.out.ents_).mono ?_;rintro e w4 ⟨rfl,hb4⟩;have R4:=ae (HR.out.step hb4);clear hb4 b9 b10;have EE:mA fmt b=if tD fmt b.conf b.ents=false then (⟨#[99,111,110,102]⟩,1) else (⟨#[]⟩,0):=by
    unfold mA;rw[if_neg H1.out,if_neg (by rw[HQ2.out];decide),if_neg H5.out,if_neg (by rw[H6.out];decide),if_neg (by rw[H7.out];decide)]
   cases hcf:tD fmt b.conf b.ents
   ·have E:Hid (tf fmt b=_):=ja (a:=⟨#[99,111,110,102]⟩) (c:=1) (by rw[EE,if_pos hcf]) (by decide);clear hcf EE;go_wp2_with fail;refine(eZ _ b.pk.nm _ _ _ (R4.out.bu.cell 0 _ rfl) R4.out.bu.sz).mono ?_;rintro e w5 ⟨rfl,hb5⟩;have R5:=ae (R4.out.step hb5);clear hb5;obtain⟨r0,r1,r2,f0,f1,f2⟩:=R5.out.six;unfold eh;go_wp2_with fail;exact bodyPost_ret (pm R5.out rfl _ _ _) rfl ⟨by rw[E.out],R5.out.done _ _ _⟩
   ·have E:Hid (tf fmt b=.agg #[.string ⟨#[]⟩,.string ⟨#[]⟩,.int .i64 0]):=by show _=_;unfold tf;rw[EE,if_neg (by rw[hcf];decide)];rfl
    clear hcf EE;obtain⟨r0,r1,r2,f0,f1,f2⟩:=R4.out.six;go_wp2_with fail;exact bodyPost_ret (pm R4.out rfl _ _ _) rfl ⟨by rw[E.out],R4.out.done _ _ _⟩
  obtain⟨x,hx⟩:∃ x,b.ents[k]?=some x:=⟨_,gG hlt⟩
  obtain⟨bq,off,hA,hel2⟩:=((HO.out.ents.below HR.out.bel).row).elem bi k x hx;have hix:=fun W=>aB (T:=28) (E:=35) (sz:=10) (c:=b.ec) Tryz.underlying28 rfl Tryz.sizeOf35 hA hlt W;have e0:=hel2 0 _ rfl;have e1:=hel2 1 _ rfl;have e2:=hel2 2 _ rfl;have e3:=hel2 3 _ rfl;have e4:=hel2 4 _ rfl;have e5:=hel2 5 _ rfl;have e6:=hel2 6 _ rfl;have e7:=hel2 7 _ rfl;have e8:=hel2 8 _ rfl;have e9:=hel2 9 _ rfl;simp only[Nat.add_zero] at e0;have HX:=ae hx;have SX:=ae (HS.out.ents_ x (gM hx));have hxp:x.path.size<=9223372036854775807:=by have:=SX.out.path;omega
  clear hx hA hel2;obtain⟨W4,hW4⟩:∃ W4,wr.alloc (.cells #[.string x.path,.int .i64 x.kind,.int .i64 x.mode,.int .i64 x.uid,.int .i64 x.gid,.string x.owner,.string x.group,.int .i64 x.mtime,.string x.link,.slice x.da x.data.length x.dc] 35)=W4:=⟨_,rfl⟩
  have B4:Hid (EB wr W4 x):=by show EB _ _ _;rw[<-hW4];exact EB.start wr x
  have R4:Hid (wG w W4 b):=by show wG _ _ _;rw[<-hW4];exact HR.out.alloc _
  have c0:=B4.out.blk.cell 0 _ rfl;have HW4:=ae hW4;clear hW4;go_wp2_with fail;rw[HW4.out];clear HW4 hix e0 e1 e2 e3 e4 e5 e6 e7 e8 e9;refine(kF x.path _ hxp).mono ?_;rintro e w' ⟨rfl,rfl⟩;cases hpl:fY (bl x.path)
  ·have OE:li fmt x=10:=by unfold li;rw[if_pos hpl]
   have E:Hid (tf fmt b=_):=ja (a:=x.path) (c:=10) (by unfold mA;rw[if_neg H1.out,if_neg (by rw[HQ2.out];decide),if_neg H5.out,if_neg (by rw[H6.out];decide),yK HX.out HA.out (by rw[OE];decide),OE];rfl) (by decide);clear hpl OE;go_wp2_with fail;refine(eZ _ b.pk.nm _ _ _ (R4.out.bu.cell 0 _ rfl) R4.out.bu.sz).mono ?_;rintro e w5 ⟨rfl,hb5⟩;have R5:=ae (R4.out.step hb5);clear hb5 c0;obtain⟨r0,r1,r2,f0,f1,f2⟩:=R5.out.six;unfold eh;go_wp2_with fail;exact bodyPost_ret (pm R5.out rfl _ _ _) rfl ⟨by rw[E.out],R5.out.done _ _ _⟩
  have PL:=ae hpl;clear hpl;have c1:=B4.out.blk.cell 1 _ rfl;have c2:=B4.out.blk.cell 2 _ rfl;have c3:=B4.out.blk.cell 3 _ rfl;have c4:=B4.out.blk.cell 4 _ rfl;have c5:=B4.out.blk.cell 5 _ rfl;have c6:=B4.out.blk.cell 6 _ rfl;have c7:=B4.out.blk.cell 7 _ rfl;have c8:=B4.out.blk.cell 8 _ rfl;have c9:=B4.out.blk.cell 9 _ rfl;go_wp2_with fail;have ER:=qr fmt x W4 SX.out;unfold ag.val at ER;refine ER.mono ?_;rintro e w5 ⟨rfl,hb5⟩;have R5:=ae (R4.out.step hb5);have B5:=ae (B4.out.step hb5);clear hb5 ER c0 c1 c2 c3 c4 c5 c6 c7 c8 c9 R4 B4;cases hen:cP fmt x
  ·have OE:li fmt x=1:=by unfold li;rw[if_neg (by rw[PL.out];decide),if_pos hen]
   have E:Hid (tf fmt b=_):=ja (a:=x.path) (c:=1) (by unfold mA;rw[if_neg H1.out,if_neg (by rw[HQ2.out];decide),if_neg H5.out,if_neg (by rw[H6.out];decide),yK HX.out HA.out (by rw[OE];decide),OE];rfl) (by decide);have c0:=B5.out.blk.cell 0 _ rfl;clear hen OE;go_wp2_with fail;refine(eZ _ b.pk.nm _ _ _ (R5.out.bu.cell 0 _ rfl) R5.out.bu.sz).mono ?_;rintro e w6 ⟨rfl,hb6⟩;have R6:=ae (R5.out.step hb6);clear hb6 c0;obtain⟨r0,r1,r2,f0,f1,f2⟩:=R6.out.six;unfold eh;go_wp2_with fail;exact bodyPost_ret (pm R6.out rfl _ _ _) rfl ⟨by rw[E.out],R6.out.done _ _ _⟩
  have NX:Hid (fB fmt b.ents=fB fmt (b.ents.drop (k+1))):=Gf HX.out HA.out (by unfold li;rw[if_neg (by rw[PL.out];decide),if_neg (by rw[hen];decide)]);clear hen;go_wp2;go_roundw
  case rel=>exact⟨k+1,by omega,by go_num,NX,R5⟩
  case measure=>simp[intOf];omega
end
end Go.Proofs.YtlglfpbhapmhiaaGreatDoor
