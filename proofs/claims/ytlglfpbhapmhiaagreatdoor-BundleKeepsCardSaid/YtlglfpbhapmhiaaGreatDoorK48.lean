/- A part of the proof. -/
import Derived.Test.YtlglfpbhapmhiaaGreatDoorK46
import Derived.Test.YtlglfpbhapmhiaaGreatDoorK47
set_option maxRecDepth 100000
set_option maxHeartbeats 20000000
set_option linter.unusedVariables false
set_option linter.unusedSimpArgs false
namespace Go.Proofs.YtlglfpbhapmhiaaGreatDoor
section
open Go.RowKit Go.Maps
theorem FG (w:World)(t:TypeId)(y:am):ji (w.alloc (.cells #[.string y.path,.int .i64 y.kind,.int .i64 y.mode,.int .i64 y.uid,.int .i64 y.gid,.string y.owner,.string y.group,.int .i64 y.mtime,.string y.link,.slice y.da y.data.length y.dc] t)) (w.heap.size+1) 10 (some ⟨w.heap.size,0,none⟩) 1 y.cells:=by
 refine⟨rfl,fun _=>⟨_,rfl,by simp,fun j u hu=>?_⟩⟩
 rw[show Addr.add ⟨w.heap.size,0,none⟩ j=⟨w.heap.size,j,none⟩ by unfold Addr.add;split<;>simp_all]
 exact(av.new w y.cells t).cell j u hu
structure xb (w wr:World) (b:dt) (n1:Nat) (v:Value) (m:List am):Prop where
 bu:av wr w.heap.size b.cells
 wa:av wr n1 [.string b.pk.nm,.string b.pk.ver,.string b.pk.ar,.string b.pk.sm,.slice b.pk.na b.pk.needs.length b.pk.nc,.slice b.pk.ba b.pk.bars.length b.pk.bc,.slice b.pk.ga b.pk.gives.length b.pk.gc,.slice b.pk.fa b.pk.files.length b.pk.fc,.slice b.pk.sa b.pk.scripts.length b.pk.sc,.slice b.ca b.conf.length b.cc,v]
 er:wr.ownsRow (n1+1) 35 10 v m.length (m.flatMap am.cells)
 eo:∀ y∈m,y.own wr (n1+1)
 bel:Below w.heap.size w wr
 lo:w.heap.size<n1
theorem xb.step {w wr w':World}{b:dt}{n1:Nat}{v:Value}{m:List am}(h:xb w wr b n1 v m)(hb:Below wr.heap.size wr w'):xb w w' b n1 v m:=
 ⟨h.bu.below hb,h.wa.below hb,aD h.er hb,fun y hy=>aD (h.eo y hy) hb,ap h.bel hb,h.lo⟩
theorem xb.app {w wa w1:World}{b:dt}{n1:Nat}{v v1:Value}{m:List am}{y:am}(h:xb w wa b n1 v m)(hy:y.own wa (n1+1))(o1:w1.ownsRow (n1+1) 35 10 v1 (m.length+1) (m.flatMap am.cells++y.cells))(g1:wa.grownBy w1 v.ownBlock):
  xb w (w1.setCell ⟨n1,10,none⟩ v1) b n1 v1 (m++[y]):=by
 have hlo:=h.lo
 have low:∀ c,c<n1+1→v.ownBlock≠some c:=fun c hc e=>by have:=(h.er.lt c e).1;omega
 have hg:w1.grownBy (w1.setCell ⟨n1,10,none⟩ v1) (some n1):=an (World.grownBy.refl w1 (some n1)) (.inl rfl) _
 have hk:∀ z:am,z.own wa (n1+1)→z.own (w1.setCell ⟨n1,10,none⟩ v1) (n1+1):=fun z hz=>
  aJ (World.ownsRow.kept hz g1 (fF hz h.er (by decide))) (by omega) hg
 refine⟨(h.bu.grownO g1 (low _ (by omega))).far (by omega) _,(h.wa.grownO g1 (low _ (by omega))).set 10 (by simp) v1,?_,?_,ag (h.bel.grown g1 h.bel.size (fun j hj=>by have:=(h.er.lt j hj).1;omega)) (by omega) _,hlo⟩
 ·have:=aJ o1 (show n1<n1+1 by omega) hg
  rw[List.length_append,List.flatMap_append]
  simpa using this
 ·intro z hz
  rcases List.mem_append.1 hz with hz | hz
  ·exact hk z (h.eo z hz)
  ·rw[List.mem_singleton.1 hz];exact hk y hy
theorem Md (v:UInt8):bits .xor .u8 (v.toNat:Int) 255=((255-v).toNat:Int):=by
 have h:(List.range 256).all (fun n=>bits .xor .u8 (n:Int) 255==((255-UInt8.ofNat n).toNat:Int))=true:=by kernel_rfl
 have:=List.all_eq_true.1 h v.toNat (List.mem_range.2 v.toNat_lt)
 simpa using this
theorem FH {l m:List am}{k:Nat}{x y:am}(hx:l[k]?=some x)(hl:m.length=k)(h:∀ (i:Nat)(x y:am),l[i]?=some x→m[i]?=some y→x.same y)(hs:x.same y):∀ (i:Nat)(x' y':am),l[i]?=some x'→(m++[y])[i]?=some y'→x'.same y':=by
 intro i x' y' h1 h2
 rcases Nat.lt_or_ge i m.length with hi | hi
 ·rw[List.getElem?_append_left hi] at h2;exact h i x' y' h1 h2
 ·rw[List.getElem?_append_right hi] at h2
  have:i=m.length:=by
   rcases Nat.lt_or_ge (i-m.length) 1 with h3 | h3
   ·omega
   ·rw[List.getElem?_eq_none (by simpa using h3)] at h2;cases h2
  subst this
  rw[hl] at h1
  rw[hx] at h1
  simp at h2
  injection h1 with h1
  rw[←h1,←h2];exact hs
theorem FI (fmt:Int)(b:dt)(w:World)(hG:wn w)(hT:qj w)(hb:b.ok w)(hf:b.fits)(hc:b.caps):Calls Tryz.prog 3 #[.int .i64 fmt,b.val] w fun e w'=>e=.returned (.bool true)∧Below w.heap.size w w':=by
 have HG:=ae hG
 have HT:=ae hT
 have HO:=ae hb
 have HF:=ae hf
 have HC:=ae hc
 clear hG hT hb hf hc
 have B0:Hid (Bx w (w.alloc (.cells #[.string b.pk.nm,.string b.pk.ver,.string b.pk.ar,.string b.pk.sm,.slice b.pk.na b.pk.needs.length b.pk.nc,.slice b.pk.ba b.pk.bars.length b.pk.bc,.slice b.pk.ga b.pk.gives.length b.pk.gc,.slice b.pk.fa b.pk.files.length b.pk.fc,.slice b.pk.sa b.pk.scripts.length b.pk.sc,.slice b.ca b.conf.length b.cc,.slice b.ea b.ents.length b.ec] 30)) b.cells):=Bx.start w b.cells _
 have BL:=It b
 unfold dt.val at BL ⊢
 go_enter Tryz.func3,Tryz.ntmps3
 go_wp2_with fail
 refine(FD _ (HG.out.below B0.out.bel) (HT.out.below B0.out.bel)).mono ?_;rintro e w1 ⟨rfl,hb1⟩
 have B1:=ae (B0.out.step hb1)
 clear hb1 B0
 have b0:=B1.out.cell 0 _ rfl
 have b1:=B1.out.cell 1 _ rfl
 have b2:=B1.out.cell 2 _ rfl
 have b3:=B1.out.cell 3 _ rfl
 have b4:=B1.out.cell 4 _ rfl
 have b5:=B1.out.cell 5 _ rfl
 have b6:=B1.out.cell 6 _ rfl
 have b7:=B1.out.cell 7 _ rfl
 have b8:=B1.out.cell 8 _ rfl
 have b9:=B1.out.cell 9 _ rfl
 have b10:=B1.out.cell 10 _ rfl
 go_wp2_with fail
 refine(BL w1 (HO.out.below B1.out.bel) HF.out).mono ?_;rintro e w2 ⟨⟨lb,rfl,hlb⟩,hb2⟩
 have B2:=ae (B1.out.step hb2)
 clear hb2 BL B1 b0 b1 b2 b3 b4 b5 b6 b7 b8 b9 b10
 cases lb
 case false=>
  clear hlb
  go_wp2_with fail
  go_ret
  exact⟨rfl,B2.out.bel⟩
 have HL:=ae (hlb rfl)
 have HS:=ae (HL.out.small HC.out)
 clear hlb
 have b0:=B2.out.cell 0 _ rfl
 have b1:=B2.out.cell 1 _ rfl
 have b2:=B2.out.cell 2 _ rfl
 have b3:=B2.out.cell 3 _ rfl
 have b4:=B2.out.cell 4 _ rfl
 have b5:=B2.out.cell 5 _ rfl
 have b6:=B2.out.cell 6 _ rfl
 have b7:=B2.out.cell 7 _ rfl
 have b8:=B2.out.cell 8 _ rfl
 have b9:=B2.out.cell 9 _ rfl
 have b10:=B2.out.cell 10 _ rfl
 have hz2:=B2.out.sz
 go_upto_region 7 with(fail)
 clear b0 b1 b2 b3 b4 b5 b6 b7 b8 b9 b10
 have S3:Hid (xb w (w2.alloc (.cells #[.string b.pk.nm,.string b.pk.ver,.string b.pk.ar,.string b.pk.sm,.slice b.pk.na b.pk.needs.length b.pk.nc,.slice b.pk.ba b.pk.bars.length b.pk.bc,.slice b.pk.ga b.pk.gives.length b.pk.gc,.slice b.pk.fa b.pk.files.length b.pk.fc,.slice b.pk.sa b.pk.scripts.length b.pk.sc,.slice b.ca b.conf.length b.cc,.slice none 0 0] 30)) b w2.heap.size (.slice none 0 0) []):=by
  have hb2:av w2 w.heap.size b.cells:=⟨B2.out.sz,B2.out.cell,B2.out.free⟩
  exact⟨hb2.alloc _,av.new w2 _ _,World.ownsRow_nil _ _ _ _,(fun y hy=>by simp at hy),B2.out.bel.alloc B2.out.bel.size _,B2.out.sz⟩
 clear B2 hz2
 have hne:b.ents.length≤30:=HL.out.ents
 go_wp2_with fail
 go_loopw [6] (fun i wr=>∃ (k:Nat)(A:OA)(c:Nat)(m:List am),k≤b.ents.length∧i=.int .i64 k∧Hid (m.length=k∧∀ (i:Nat)(x y:am),b.ents[i]?=some x→m[i]?=some y→x.same y)∧Hid (xb w wr b w2.heap.size (.slice A k c) m)) (fun i _=>b.ents.length-(intOf i).toNat)
 case atStart=>exact⟨0,none,0,[],z0,rfl,⟨rfl,fun i x y _ h=>by simp at h⟩,S3⟩
 case round=>
  obtain⟨k,A,c,m,hk,rfl,HM,S⟩:=hrel
  clear S3
  have b10:=S.out.bu.cell 10 _ rfl
  by_cases hlt:k<b.ents.length
  case pos=>
   obtain⟨x,hx⟩:∃ x,b.ents[k]?=some x:=⟨_,gG hlt⟩
   have EO:=(HO.out.below S.out.bel).ents
   obtain⟨bb,off,hA,hel⟩:=EO.row.elem bP k x hx
   have DX:Hid (Rd wr 1 x.da x.data.length (x.data.map vb)):=EO.all x (gM hx)
   have hix:=fun W=>aH (T:=28) (E:=35) (sz:=10) (c:=b.ec) Tryz.underlying28 rfl Tryz.sizeOf35 hA hlt W
   have e0:=hel 0 _ rfl
   have e1:=hel 1 _ rfl
   have e2:=hel 2 _ rfl
   have e3:=hel 3 _ rfl
   have e4:=hel 4 _ rfl
   have e5:=hel 5 _ rfl
   have e6:=hel 6 _ rfl
   have e7:=hel 7 _ rfl
   have e8:=hel 8 _ rfl
   have e9:=hel 9 _ rfl
   simp only[Nat.add_zero] at e0
   have hdx:=(HL.out.ents_ x (gM hx)).data
   have HX:=ae hx
   clear hx hA hel EO
   go_upto_region 11 with(fail)
   clear b10 hix e0 e1 e2 e3 e4 e5 e6 e7 e8 e9
   have L1:Hid (Below wr.heap.size wr (wr.alloc (.cells #[.string x.path,.int .i64 x.kind,.int .i64 x.mode,.int .i64 x.uid,.int .i64 x.gid,.string x.owner,.string x.group,.int .i64 x.mtime,.string x.link,.slice x.da x.data.length x.dc] 35))):=bR.alloc lr _
   have E1:Hid (av (wr.alloc (.cells #[.string x.path,.int .i64 x.kind,.int .i64 x.mode,.int .i64 x.uid,.int .i64 x.gid,.string x.owner,.string x.group,.int .i64 x.mtime,.string x.link,.slice x.da x.data.length x.dc] 35)) wr.heap.size x.cells):=av.new wr x.cells _
   have S1:=ae (S.out.step L1.out)
   have D1:=ae (DX.out.below L1.out)
   have hne1:w2.heap.size<wr.heap.size:=S.out.wa.sz
   generalize (wr.alloc (.cells #[.string x.path,.int .i64 x.kind,.int .i64 x.mode,.int .i64 x.uid,.int .i64 x.gid,.string x.owner,.string x.group,.int .i64 x.mtime,.string x.link,.slice x.da x.data.length x.dc] 35))=wa at *
   clear DX
   have e9:=E1.out.cell 9 _ rfl
   have L2:Hid (Below wa.heap.size wa (wa.alloc (.cells #[] 5))):=bR.alloc lr _
   have RL:=ae ((D1.out.below L2.out).reads (by decide))
   have e9':=(E1.out.below L2.out).cell 9 _ rfl
   have hza:=E1.out.sz
   obtain⟨i0,hi0,hz0,hz1,hz2⟩:=info_parts zt
   go_upto_region 12 with(
    at_builtin
    refine au _ rfl _ _ 33 rfl wa.heap.size 5 i0 _ 1 1 Tryz.underlying33 hi0 hz0 hz1 hz2 rfl (by omega) (.slice (some ⟨wa.heap.size,0,none⟩) 0 0) 0 [] rfl (World.ownsRow_made wa #[] 0 lr z0 rfl) _ x.da x.data.length x.dc _ rfl RL.out (IE x.data) (by simp only[maxLen];omega) (by omega) (by simp) ?_
    intro v1 w4 o1 g1 a1
    obtain⟨a2,c2,rfl⟩:=aL o1
    have B4:Hid (Below wa.heap.size wa w4):=((Below.refl _ wa).alloc lr _).grown g1 (by simp) (by intro k hk;simp[Value.ownBlock] at hk;omega)
    have S4:=ae (S1.out.step B4.out)
    have E4:=ae (E1.out.below B4.out)
    have O4:Hid (w4.ownsRow wa.heap.size 5 1 (.slice a2 x.data.length c2) x.data.length (x.data.map vb)):=by simpa [Hid] using o1
    clear o1 g1 a1 e9 e9'
    have k9:=E4.out.cell 9 _ rfl
    have k9f:=E4.out.free 9 (by show 9<10;decide))
   have B5:Hid (Below wr.heap.size wr (w4.setCell ⟨wr.heap.size,9,none⟩ (.slice a2 x.data.length c2))):=ag (ap L1.out B4.out) lr _
   have S5:=ae (S.out.step B5.out)
   obtain⟨y,hy⟩:∃ y:am,{ x with da:=a2,dc:=c2 }=y:=⟨_,rfl⟩
   have E5:Hid (av (w4.setCell ⟨wr.heap.size,9,none⟩ (.slice a2 x.data.length c2)) wr.heap.size y.cells):=by show av _ _ _;rw[←hy];exact E4.out.set 9 (by show 9<10;decide) _
   have O5:Hid (y.own (w4.setCell ⟨wr.heap.size,9,none⟩ (.slice a2 x.data.length c2)) (w2.heap.size+1)):=by
    show am.own _ _ _
    rw[←hy]
    exact aN (aJ O4.out (show wr.heap.size<wa.heap.size by omega) (an (World.grownBy.refl w4 (some wr.heap.size)) (p:=⟨wr.heap.size,9,none⟩) (.inl rfl) _)) (by omega)
   have SM:Hid (x.same y):=by show am.same _ _;rw[←hy];exact⟨rfl,rfl,rfl,rfl,rfl,rfl,rfl,rfl,rfl,rfl⟩
   clear S S1 E1 E4 S4 O4 B4 L1 L2 D1 RL hy k9 k9f B5 hza hne1
   generalize (w4.setCell ⟨wr.heap.size,9,none⟩ (.slice a2 x.data.length c2))=w5 at *
   have LC:Hid (Below w5.heap.size w5 (w5.alloc (.cells #[.string y.path,.int .i64 y.kind,.int .i64 y.mode,.int .i64 y.uid,.int .i64 y.gid,.string y.owner,.string y.group,.int .i64 y.mtime,.string y.link,.slice y.da y.data.length y.dc] 35))):=bR.alloc lr _
   have S6:=ae (S5.out.step LC.out)
   have O6:Hid (y.own (w5.alloc (.cells #[.string y.path,.int .i64 y.kind,.int .i64 y.mode,.int .i64 y.uid,.int .i64 y.gid,.string y.owner,.string y.group,.int .i64 y.mtime,.string y.link,.slice y.da y.data.length y.dc] 35)) (w2.heap.size+1)):=aD O5.out LC.out
   have z0:=E5.out.cell 0 _ rfl
   have z1:=E5.out.cell 1 _ rfl
   have z2:=E5.out.cell 2 _ rfl
   have z3:=E5.out.cell 3 _ rfl
   have z4:=E5.out.cell 4 _ rfl
   have z5:=E5.out.cell 5 _ rfl
   have z6:=E5.out.cell 6 _ rfl
   have z7:=E5.out.cell 7 _ rfl
   have z8:=E5.out.cell 8 _ rfl
   have z9:=E5.out.cell 9 _ rfl
   have d10:=S5.out.wa.cell 10 _ rfl
   have hz5:=S5.out.wa.sz
   obtain⟨i1,gi0,gz0,gz1,gz2⟩:=info_parts zr
   have hmk:Hid (m.length=k):=HM.out.1
   have hno:(Value.slice A k c).ownBlock≠some w2.heap.size:=fun e=>by have:=(S5.out.er.lt _ e).1;omega
   go_wp2_with (
    at_builtin
    refine au _ rfl _ _ 28 rfl (w2.heap.size+1) 35 i1 _ 10 128 Tryz.underlying28 gi0 gz0 gz1 gz2 rfl (by omega) (.slice A k c) k _ rfl (by have h:=S6.out.er;rw[hmk.out] at h;exact h) (w5.heap.size+1) (some ⟨w5.heap.size,0,none⟩) 1 1 y.cells rfl (FG w5 _ y) (wW y) (by simp only[maxLen];omega) (by omega) (by simp;omega) ?_
    intro v9 w9 o9 g9 a9
    obtain⟨A9,c9,rfl⟩:=aL o9
    have P9:Hid (xb w (w9.setCell ⟨w2.heap.size,10,none⟩ (.slice A9 (k+1) c9)) b w2.heap.size (.slice A9 (k+1) c9) (m++[y])):=S6.out.app O6.out (by rw[hmk.out];exact o9) g9
    have K9:=ae (S6.out.wa.grownO g9 hno)
    have k9:=K9.out.cell 10 _ rfl
    have k9f:=K9.out.free 10 (by simp)
    clear o9 g9 a9 d10 hno z0 z1 z2 z3 z4 z5 z6 z7 z8 z9)
   go_roundw
   case rel=>exact⟨k+1,A9,c9,m++[y],by omega,by go_num,⟨by rw[List.length_append,hmk.out];rfl,FH HX.out hmk.out HM.out.2 SM.out⟩,P9⟩
   case measure=>simp[intOf];omega
  obtain rfl:k=b.ents.length:=by omega
  rename World=>wB
  have b0:=S.out.bu.cell 0 _ rfl
  have b1:=S.out.bu.cell 1 _ rfl
  have b2:=S.out.bu.cell 2 _ rfl
  have b3:=S.out.bu.cell 3 _ rfl
  have b4:=S.out.bu.cell 4 _ rfl
  have b5:=S.out.bu.cell 5 _ rfl
  have b6:=S.out.bu.cell 6 _ rfl
  have b7:=S.out.bu.cell 7 _ rfl
  have b8:=S.out.bu.cell 8 _ rfl
  have b9:=S.out.bu.cell 9 _ rfl
  have CP:=up fmt b wB (HG.out.below S.out.bel) (HT.out.below S.out.bel) (HO.out.below S.out.bel) HS.out
  unfold dt.val at CP
  go_wp2_with fail
  clear b10 b0 b1 b2 b3 b4 b5 b6 b7 b8 b9
  refine CP.mono ?_;rintro e w5 ⟨hb5,q,rn,rs,rc,rfl,ond,osc,lnd,lsc,hnd⟩
  have B5:=ae hb5
  have OND:=ae ond
  have OSC:=ae osc
  have HND:=ae hnd
  clear CP hb5 ond osc hnd
  unfold bN.val
  go_upto_region 14 with(fail)
  have L6:Hid (Below w5.heap.size w5 ((w5.alloc (.cells #[.string q.nm,.string q.ver,.string q.ar,.string q.sm,.slice q.na q.needs.length q.nc,.slice q.ba q.bars.length q.bc,.slice q.ga q.gives.length q.gc,.slice q.fa q.files.length q.fc,.slice q.sa q.scripts.length q.sc] 27)).alloc (.cells #[.string rn,.string rs,.int .i64 rc] 38))):=(bR.alloc lr _).alloc (by simp) _
  have K6:Hid (av ((w5.alloc (.cells #[.string q.nm,.string q.ver,.string q.ar,.string q.sm,.slice q.na q.needs.length q.nc,.slice q.ba q.bars.length q.bc,.slice q.ga q.gives.length q.gc,.slice q.fa q.files.length q.fc,.slice q.sa q.scripts.length q.sc] 27)).alloc (.cells #[.string rn,.string rs,.int .i64 rc] 38)) w5.heap.size [.string q.nm,.string q.ver,.string q.ar,.string q.sm,.slice q.na q.needs.length q.nc,.slice q.ba q.bars.length q.bc,.slice q.ga q.gives.length q.gc,.slice q.fa q.files.length q.fc,.slice q.sa q.scripts.length q.sc]):=(av.new w5 [.string q.nm,.string q.ver,.string q.ar,.string q.sm,.slice q.na q.needs.length q.nc,.slice q.ba q.bars.length q.bc,.slice q.ga q.gives.length q.gc,.slice q.fa q.files.length q.fc,.slice q.sa q.scripts.length q.sc] _).alloc _
  have hz6:w5.heap.size+2=((w5.alloc (.cells #[.string q.nm,.string q.ver,.string q.ar,.string q.sm,.slice q.na q.needs.length q.nc,.slice q.ba q.bars.length q.bc,.slice q.ga q.gives.length q.gc,.slice q.fa q.files.length q.fc,.slice q.sa q.scripts.length q.sc] 27)).alloc (.cells #[.string rn,.string rs,.int .i64 rc] 38)).heap.size:=by simp
  generalize ((w5.alloc (.cells #[.string q.nm,.string q.ver,.string q.ar,.string q.sm,.slice q.na q.needs.length q.nc,.slice q.ba q.bars.length q.bc,.slice q.ga q.gives.length q.gc,.slice q.fa q.files.length q.fc,.slice q.sa q.scripts.length q.sc] 27)).alloc (.cells #[.string rn,.string rs,.int .i64 rc] 38))=w6 at *
  have S6:=ae (S.out.step (ap B5.out L6.out))
  have CC:=zz fmt b w6 (HG.out.below S6.out.bel) (HO.out.below S6.out.bel) HS.out
  unfold dt.val at CC
  have b0:=S6.out.bu.cell 0 _ rfl
  have b1:=S6.out.bu.cell 1 _ rfl
  have b2:=S6.out.bu.cell 2 _ rfl
  have b3:=S6.out.bu.cell 3 _ rfl
  have b4:=S6.out.bu.cell 4 _ rfl
  have b5:=S6.out.bu.cell 5 _ rfl
  have b6:=S6.out.bu.cell 6 _ rfl
  have b7:=S6.out.bu.cell 7 _ rfl
  have b8:=S6.out.bu.cell 8 _ rfl
  have b9:=S6.out.bu.cell 9 _ rfl
  have b10:=S6.out.bu.cell 10 _ rfl
  go_wp2_with fail
  clear b0 b1 b2 b3 b4 b5 b6 b7 b8 b9 b10
  refine CC.mono ?_;rintro e w7 ⟨hb7,r,tn,ts,tc,rfl,ocf,oer,oeo,lcf,ler,leo⟩
  have B7:=ae hb7
  have OCF:=ae ocf
  have OER:=ae oer
  have OEO:=ae oeo
  have LEO:=ae leo
  clear CC hb7 ocf oer oeo leo
  unfold dt.val
  go_upto_region 15 with(fail)
  have L8:Hid (Below w7.heap.size w7 ((w7.alloc (.cells #[.string r.pk.nm,.string r.pk.ver,.string r.pk.ar,.string r.pk.sm,.slice r.pk.na r.pk.needs.length r.pk.nc,.slice r.pk.ba r.pk.bars.length r.pk.bc,.slice r.pk.ga r.pk.gives.length r.pk.gc,.slice r.pk.fa r.pk.files.length r.pk.fc,.slice r.pk.sa r.pk.scripts.length r.pk.sc,.slice r.ca r.conf.length r.cc,.slice r.ea r.ents.length r.ec] 30)).alloc (.cells #[.string tn,.string ts,.int .i64 tc] 38))):=(bR.alloc lr _).alloc (by simp) _
  have K8:Hid (av ((w7.alloc (.cells #[.string r.pk.nm,.string r.pk.ver,.string r.pk.ar,.string r.pk.sm,.slice r.pk.na r.pk.needs.length r.pk.nc,.slice r.pk.ba r.pk.bars.length r.pk.bc,.slice r.pk.ga r.pk.gives.length r.pk.gc,.slice r.pk.fa r.pk.files.length r.pk.fc,.slice r.pk.sa r.pk.scripts.length r.pk.sc,.slice r.ca r.conf.length r.cc,.slice r.ea r.ents.length r.ec] 30)).alloc (.cells #[.string tn,.string ts,.int .i64 tc] 38)) w7.heap.size r.cells):=(av.new w7 r.cells _).alloc _
  have hz8:w7.heap.size+2=((w7.alloc (.cells #[.string r.pk.nm,.string r.pk.ver,.string r.pk.ar,.string r.pk.sm,.slice r.pk.na r.pk.needs.length r.pk.nc,.slice r.pk.ba r.pk.bars.length r.pk.bc,.slice r.pk.ga r.pk.gives.length r.pk.gc,.slice r.pk.fa r.pk.files.length r.pk.fc,.slice r.pk.sa r.pk.scripts.length r.pk.sc,.slice r.ca r.conf.length r.cc,.slice r.ea r.ents.length r.ec] 30)).alloc (.cells #[.string tn,.string ts,.int .i64 tc] 38)).heap.size:=by simp
  generalize ((w7.alloc (.cells #[.string r.pk.nm,.string r.pk.ver,.string r.pk.ar,.string r.pk.sm,.slice r.pk.na r.pk.needs.length r.pk.nc,.slice r.pk.ba r.pk.bars.length r.pk.bc,.slice r.pk.ga r.pk.gives.length r.pk.gc,.slice r.pk.fa r.pk.files.length r.pk.fc,.slice r.pk.sa r.pk.scripts.length r.pk.sc,.slice r.ca r.conf.length r.cc,.slice r.ea r.ents.length r.ec] 30)).alloc (.cells #[.string tn,.string ts,.int .i64 tc] 38))=w8 at *
  have B68:Hid (Below w6.heap.size w6 w8):=ap B7.out L8.out
  have B58:Hid (Below w5.heap.size w5 w8):=ap L6.out B68.out
  have hz5:=B5.out.size
  have hz7:=B7.out.size
  have KP:Hid (FF wB w8 w5.heap.size w7.heap.size q r):=by
   refine⟨ap B5.out B58.out,K6.out.below B68.out,K8.out,fun hn=>?_,fun hn=>?_,fun hn=>?_,hz5,by omega⟩
   ·obtain⟨g,a,b,c,d⟩:=ot OND.out hn;exact⟨g,a,b,c,d.below c B58.out⟩
   ·obtain⟨g,a,b,c,d⟩:=ot OSC.out hn;exact⟨g,a,b,c,d.below c B58.out⟩
   ·obtain⟨g,a,b,c,d⟩:=ot OCF.out hn;exact⟨g,a,by omega,c,d.below c L8.out⟩
  have HEX:∃ ge,(0<r.ents.length→r.ea=some ⟨ge,0,none⟩∧xl w8 w5.heap.size w7.heap.size ge r):=by
   by_cases hn:0<r.ents.length
   ·obtain⟨g,hgA,hg1,hg2,_⟩:=ot OER.out hn
    have hr:=OER.out
    rw[hgA] at hr
    refine⟨g,fun _=>⟨hgA,⟨by omega,hg2,by omega⟩,(vy hr hg2 hn).below L8.out,fun y hy hd=>?_⟩⟩
    obtain⟨h,ha,h1,h2,h3⟩:=IX (OEO.out y hy) hd
    have hyo:=OEO.out y hy
    unfold am.own at hyo
    rw[ha] at hyo
    refine⟨h,ha,by omega,h2,fun e=>?_,h3.below h2 L8.out⟩
    rcases fF hyo hr (by decide) with k | k
    ·cases k
    ·rw[e] at k;exact k rfl
   ·exact⟨0,fun h=>absurd h hn⟩
  obtain⟨ge,hge⟩:=HEX
  have HEA:Hid (0<r.ents.length→r.ea=some ⟨ge,0,none⟩):=fun h=>(hge h).1
  have ER:Hid (0<r.ents.length→xl w8 w5.heap.size w7.heap.size ge r):=fun h=>(hge h).2
  clear hge OND OSC OCF OER OEO L6 K6 L8 K8 B68 B58 B5 B7 S6 hz5 hz6 hz7 hz8
  generalize w5.heap.size=np at *
  generalize w7.heap.size=nc at *
  go_wp2_with fail
  go_loopw [12] (fun i wr=>∃ (k:Nat),k≤q.needs.length∧i=.int .i64 k∧Hid (FF wB wr np nc q r)∧Hid (0<r.ents.length→xl wr np nc ge r)) (fun i _=>q.needs.length-(intOf i).toNat)
  case atStart=>exact⟨0,z0,rfl,KP,ER⟩
  case round=>
   obtain⟨k2,hk2,rfl,K2,E2⟩:=hrel
   clear KP ER
   have c4:=K2.out.pk.cell 4 _ rfl
   by_cases hlt2:k2<q.needs.length
   case pos=>
    obtain⟨g,hA,g1,g2,g3⟩:=K2.out.nd (by omega)
    have hix:=fun W=>aH (T:=22) (E:=9) (sz:=1) (c:=q.nc) (b:=g) (off:=0) Tryz.underlying22 rfl Tryz.sizeOf9 hA hlt2 W
    simp only[Nat.mul_one,Nat.zero_add] at hix
    obtain⟨v,hv⟩:=g3.1 k2 (by omega)
    have hfr:=g3.2 k2
    have K3:=ae (K2.out.set (j:=k2) g1 (by omega) (by have:=K2.out.hi;omega) (.string ⟨#[33]⟩))
    have E3:Hid (0<r.ents.length→xl (wr.setCell ⟨g,k2,none⟩ (.string ⟨#[33]⟩)) np nc ge r):=fun h=>(E2.out h).low g2 _
    clear hA g1 g2 g3 K2 E2
    go_wp2_with fail
    go_roundw
    case rel=>exact⟨k2+1,by omega,by go_num,K3,E3⟩
    case measure=>simp[intOf];omega
   go_upto_region 19 with(fail)
   clear c4
   have c8:=K2.out.pk.cell 8 _ rfl
   go_wp2_with fail
   clear c8
   go_loopw [13] (fun i wr=>∃ (k:Nat),k≤q.scripts.length∧i=.int .i64 k∧Hid (FF wB wr np nc q r)∧Hid (0<r.ents.length→xl wr np nc ge r)) (fun i _=>q.scripts.length-(intOf i).toNat)
   case atStart=>exact⟨0,z0,rfl,K2,E2⟩
   case round=>
    obtain⟨k3,hk3,rfl,K3,E3⟩:=hrel
    clear K2 E2
    have c8:=K3.out.pk.cell 8 _ rfl
    by_cases hlt3:k3<q.scripts.length
    case pos=>
     obtain⟨g,hA,g1,g2,g3⟩:=K3.out.sc (by omega)
     have hix:=fun W=>aH (T:=25) (E:=44) (sz:=2) (c:=q.sc) (b:=g) (off:=0) Tryz.underlying25 rfl Tryz.sizeOf44 hA hlt3 W
     simp only[Nat.zero_add] at hix
     obtain⟨v,hv⟩:=g3.1 (k3*2+1) (by omega)
     have hfr:=g3.2 (k3*2+1)
     have K4:=ae (K3.out.set (j:=k3*2+1) g1 (by omega) (by have:=K3.out.hi;omega) (.string ⟨#[33]⟩))
     have E4:Hid (0<r.ents.length→xl (wr.setCell ⟨g,k3*2+1,none⟩ (.string ⟨#[33]⟩)) np nc ge r):=fun h=>(E3.out h).low g2 _
     clear hA g1 g2 g3 K3 E3
     go_wp2_with fail
     go_roundw
     case rel=>exact⟨k3+1,by omega,by go_num,K4,E4⟩
     case measure=>simp[intOf];omega
    go_upto_region 23 with(fail)
    clear c8
    have c10:=K3.out.cn.cell 10 _ rfl
    go_wp2_with fail
    clear c10
    go_loopw [14] (fun i wr=>∃ (k:Nat),k≤r.ents.length∧i=.int .i64 k∧Hid (FF wB wr np nc q r)∧Hid (0<r.ents.length→xl wr np nc ge r)) (fun i _=>r.ents.length-(intOf i).toNat)
    case atStart=>exact⟨0,z0,rfl,K3,E3⟩
    case round=>
     obtain⟨k4,hk4,rfl,K4,E4⟩:=hrel
     clear K3 E3
     have c10:=K4.out.cn.cell 10 _ rfl
     by_cases hlt4:k4<r.ents.length
     case pos=>
      have hre:0<r.ents.length:=by omega
      have hea:=HEA.out hre
      obtain⟨y,hy⟩:∃ y,r.ents[k4]?=some y:=⟨_,gG hlt4⟩
      have hixe:=fun W=>aH (T:=28) (E:=35) (sz:=10) (c:=r.ec) (b:=ge) (off:=0) Tryz.underlying28 rfl Tryz.sizeOf35 hea hlt4 W
      simp only[Nat.zero_add] at hixe
      have FLT:=ae (ei bP r.ents k4 9 y hy (by omega))
      have HY:=ae (gM hy)
      have hyd:=LEO.out y HY.out
      have e9:wr.cell? ⟨ge,k4*10+9,none⟩=some (.slice y.da y.data.length y.dc):=(E4.out hre).er.cell _ _ FLT.out
      clear hea hy
      go_upto_region 26 with(fail)
      go_wp2_with fail
      clear c10 e9
      go_loopw [15] (fun i wr=>∃ (k:Nat),k≤y.data.length∧i=.int .i64 k∧Hid (FF wB wr np nc q r)∧Hid (0<r.ents.length→xl wr np nc ge r)) (fun i _=>y.data.length-(intOf i).toNat)
      case atStart=>exact⟨0,z0,rfl,K4,E4⟩
      case round=>
       obtain⟨k5,hk5,rfl,K5,E5⟩:=hrel
       clear K4 E4
       have c10:=K5.out.cn.cell 10 _ rfl
       have e9:wr.cell? ⟨ge,k4*10+9,none⟩=some (.slice y.da y.data.length y.dc):=(E5.out hre).er.cell _ _ FLT.out
       by_cases hlt5:k5<y.data.length
       case pos=>
        obtain⟨h,hA,h1,h2,h3,h4⟩:=(E5.out hre).da y HY.out (by omega)
        have hixd:=fun W=>aH (T:=33) (E:=5) (sz:=1) (c:=y.dc) (b:=h) (off:=0) Tryz.underlying33 rfl Tryz.sizeOf5 hA hlt5 W
        simp only[Nat.mul_one,Nat.zero_add] at hixd
        obtain⟨v,hv⟩:=h4.1 k5 hlt5
        have hfr:=h4.2 k5
        unfold vb at hv
        have H1:=ae h1;have H2:=ae h2;have H3:=ae h3
        clear hA h1 h2 h3 h4
        go_wp2_with fail
        go_region
        rw[Md v]
        have K6:Hid (FF wB (wr.setCell ⟨h,k5,none⟩ (.int .u8 ((255-v).toNat:Int))).drew np nc q r):=(K5.out.set (by have:=K5.out.lo;have:=H1.out;omega) (by have:=H1.out;omega) (by have:=H2.out;omega) _).step (ci bR)
        have E6:Hid (0<r.ents.length→xl (wr.setCell ⟨h,k5,none⟩ (.int .u8 ((255-v).toNat:Int))).drew np nc ge r):=fun hn=>((E5.out hn).set H3.out (255-v)).step (ci bR)
        clear K5 E5 c10 e9 hv hfr
        go_wp2_with fail
        go_roundw
        case rel=>exact⟨k5+1,by omega,by go_num,K6,E6⟩
        case measure=>simp[intOf];omega
       go_wp2_with fail
       go_roundw
       case rel=>exact⟨k4+1,by omega,by go_num,K5,E5⟩
       case measure=>simp[intOf];omega
     go_upto_region 30 with(fail)
     clear c10 E4
     go_wp2_with fail
     go_loopw [16] (fun i wr=>∃ (k:Nat),k≤r.conf.length∧i=.int .i64 k∧Hid (FF wB wr np nc q r)) (fun i _=>r.conf.length-(intOf i).toNat)
     case atStart=>exact⟨0,z0,rfl,K4⟩
     case round=>
      obtain⟨k6,hk6,rfl,K6⟩:=hrel
      clear K4
      have c9:=K6.out.cn.cell 9 _ rfl
      by_cases hlt6:k6<r.conf.length
      case pos=>
       obtain⟨g,hA,g1,g2,g3⟩:=K6.out.cf (by omega)
       have hix:=fun W=>aH (T:=22) (E:=9) (sz:=1) (c:=r.cc) (b:=g) (off:=0) Tryz.underlying22 rfl Tryz.sizeOf9 hA hlt6 W
       simp only[Nat.mul_one,Nat.zero_add] at hix
       obtain⟨v,hv⟩:=g3.1 k6 (by omega)
       have hfr:=g3.2 k6
       have K7:=ae (K6.out.set (g:=g) (j:=k6) (by have:=K6.out.lo;omega) (by omega) (by omega) (.string ⟨#[33]⟩))
       clear hA g1 g2 g3 K6
       go_wp2_with fail
       go_roundw
       case rel=>exact⟨k6+1,by omega,by go_num,K7⟩
       case measure=>simp[intOf];omega
      go_upto_region 34 with(fail)
      clear c9
      have S7:=ae (S.out.step K6.out.bel)
      have c4:=K6.out.pk.cell 4 _ rfl
      have b4:=S7.out.bu.cell 4 _ rfl
      have HE7:Hid (fL wr A m):=⟨by have h:=cP (by have h:=S7.out.er;rw[HM.out.1] at h;exact h);rwa [←HM.out.1] at h,fun y hy=>cP (S7.out.eo y hy)⟩
      have CS:=Ke b A c m wr (HO.out.below S7.out.bel) HF.out HE7.out HM.out.1 HM.out.2 (by omega)
      unfold dt.val at CS
      clear S K6
      by_cases hq:0<q.needs.length
      case pos=>
       obtain⟨hqn,hok⟩:=HND.out hq
       obtain⟨s,rest,hs⟩:∃ s rest,b.pk.needs=s::rest:=by rw[hqn] at hq;cases h:b.pk.needs with | nil=>rw[h] at hq;simp at hq | cons s rest=>exact⟨s,rest,rfl⟩
       have hne7:=BU hok hs
       have q7:(s.toList == [33])=false:=by have h:=fi s ⟨#[33]⟩;have t:(⟨#[33]⟩:BA).toList=[33]:=(ai _).trans rfl;rw[t] at h;exact h.trans (dF hne7)
       obtain⟨bb,o,hA,he⟩:=((HO.out.below S7.out.bel).pk.needs).str 0 s (by rw[hs];rfl)
       have hbn:0<b.pk.needs.length:=by rw[hs];simp
       have hix:∀ W,(Instr.indexAt 22 (.slice b.pk.na b.pk.needs.length b.pk.nc) (.int .i64 0)).run Tryz.prog W=.ok (.pointer (some ⟨bb,o,none⟩)) W:=fun W=>by
        have h:=aH (T:=22) (E:=9) (sz:=1) (c:=b.pk.nc) Tryz.underlying22 rfl Tryz.sizeOf9 hA hbn W
        simpa using h
       simp only[Nat.add_zero] at he
       clear hqn hok hs hne7 hA
       go_upto_region 36 with(fail)
       clear c4 b4 he hix q7
       have b0:=S7.out.bu.cell 0 _ rfl
       have b1:=S7.out.bu.cell 1 _ rfl
       have b2:=S7.out.bu.cell 2 _ rfl
       have b3:=S7.out.bu.cell 3 _ rfl
       have b4:=S7.out.bu.cell 4 _ rfl
       have b5:=S7.out.bu.cell 5 _ rfl
       have b6:=S7.out.bu.cell 6 _ rfl
       have b7:=S7.out.bu.cell 7 _ rfl
       have b8:=S7.out.bu.cell 8 _ rfl
       have b9:=S7.out.bu.cell 9 _ rfl
       have b10:=S7.out.bu.cell 10 _ rfl
       have d0:=S7.out.wa.cell 0 _ rfl
       have d1:=S7.out.wa.cell 1 _ rfl
       have d2:=S7.out.wa.cell 2 _ rfl
       have d3:=S7.out.wa.cell 3 _ rfl
       have d4:=S7.out.wa.cell 4 _ rfl
       have d5:=S7.out.wa.cell 5 _ rfl
       have d6:=S7.out.wa.cell 6 _ rfl
       have d7:=S7.out.wa.cell 7 _ rfl
       have d8:=S7.out.wa.cell 8 _ rfl
       have d9:=S7.out.wa.cell 9 _ rfl
       have d10:=S7.out.wa.cell 10 _ rfl
       go_wp2_with fail
       refine CS.mono ?_;rintro e w9 ⟨rfl,hb9⟩
       go_wp2_with fail
       go_ret
       exact⟨rfl,ap S7.out.bel hb9⟩
      have hq0:q.needs.length=0:=by omega
      rw[hq0] at c4
      go_upto_region 36 with(fail)
      clear c4 b4
      have b0:=S7.out.bu.cell 0 _ rfl
      have b1:=S7.out.bu.cell 1 _ rfl
      have b2:=S7.out.bu.cell 2 _ rfl
      have b3:=S7.out.bu.cell 3 _ rfl
      have b4:=S7.out.bu.cell 4 _ rfl
      have b5:=S7.out.bu.cell 5 _ rfl
      have b6:=S7.out.bu.cell 6 _ rfl
      have b7:=S7.out.bu.cell 7 _ rfl
      have b8:=S7.out.bu.cell 8 _ rfl
      have b9:=S7.out.bu.cell 9 _ rfl
      have b10:=S7.out.bu.cell 10 _ rfl
      have d0:=S7.out.wa.cell 0 _ rfl
      have d1:=S7.out.wa.cell 1 _ rfl
      have d2:=S7.out.wa.cell 2 _ rfl
      have d3:=S7.out.wa.cell 3 _ rfl
      have d4:=S7.out.wa.cell 4 _ rfl
      have d5:=S7.out.wa.cell 5 _ rfl
      have d6:=S7.out.wa.cell 6 _ rfl
      have d7:=S7.out.wa.cell 7 _ rfl
      have d8:=S7.out.wa.cell 8 _ rfl
      have d9:=S7.out.wa.cell 9 _ rfl
      have d10:=S7.out.wa.cell 10 _ rfl
      go_wp2_with fail
      refine CS.mono ?_;rintro e w9 ⟨rfl,hb9⟩
      go_wp2_with fail
      go_ret
      exact⟨rfl,ap S7.out.bel hb9⟩
end
end Go.Proofs.YtlglfpbhapmhiaaGreatDoor
