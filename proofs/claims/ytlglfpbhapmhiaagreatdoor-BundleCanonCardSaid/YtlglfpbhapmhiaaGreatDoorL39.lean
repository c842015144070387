/- A part of the proof. -/
import Derived.Test.YtlglfpbhapmhiaaGreatDoorL34
import Derived.Test.YtlglfpbhapmhiaaGreatDoorL37
set_option maxRecDepth 100000
set_option maxHeartbeats 20000000
set_option linter.unusedVariables false
set_option linter.unusedSimpArgs false
namespace Go.Proofs.YtlglfpbhapmhiaaGreatDoor
section
open Go.RowKit Go.Maps
theorem kP (x:ag)(w:World):Calls Tryz.prog 62 #[.agg #[.string x.path,.int .i64 x.kind,.int .i64 x.mode,.int .i64 x.uid,.int .i64 x.gid,.string x.owner,.string x.group,.int .i64 x.mtime,.string x.link,.slice x.da x.data.length x.dc]] w fun e w'=>e=.returned (.string (grp x))/\Below w.heap.size w w':=Gq x w
theorem Dn (A:OA)(cap:Nat)(l:List ag)(w:World)(hG:Gl w)(hE:cV w A l)(hl:l.length<=100000)(hs:∀ x∈l,x.small):Calls Tryz.prog 27 #[.slice A l.length cap] w (Hx l w):=by
 have HG:=ae hG;have HE:=ae hE;have HS:=ae hs;clear hG hE hs;go_in;go_wp2_with fail;have CA:=ns A cap l w HG.out HE.out hl HS.out;unfold Pq at CA;refine CA.mono ?_;rintro e w1 ⟨rfl,hb1⟩;have L1:=ae hb1;clear hb1 CA;by_cases hc:(nF l).2=0
 case neg=>
  have q:((nF l).2 != 0)=true:=by simpa using hc
  have C:=ae hc;clear hc;go_wp2;go_ret2;exact⟨L1.out,.inl ⟨C.out,rfl⟩⟩
 rw[hc];have C:=ae hc;clear hc;go_wp2_with fail;refine(Gp A cap l w1 (HE.out.below L1.out) hl HS.out).mono ?_;rintro e w2 ⟨Ao,co,m,rfl,hml,hms,hmo,hmd,hb2⟩;have ML:=ae hml;have MS:=ae hms;have MO:=ae hmo;have MD:=ae hmd;have L2:=ae (aq L1.out hb2);have L12:=ae hb2.size;clear hml hms hmo hmd hb2;have hmm:=@run_makeMap Tryz.prog;go_wp2_with fail;clear hmm;go_loopw [31] (fun i wr=>∃ (k n1 n2:Nat),k<=l.length/\n1<=k/\n2<=k/\i=.int .i64 k/\Hid (bm wr w2.heap.size n1 (wH l k))/\Hid (bm wr (w2.heap.size+1) n2 (DK l k))/\Hid (Below w2.heap.size w2 wr)) (fun i _=>l.length-(intOf i).toNat)
 case atStart=>
  refine⟨0,0,0,z0,lr,lr,rfl,(bm.made w2).alloc _,?_,(bR.alloc lr _).alloc (by simp) _⟩;have h:=bm.made (w2.alloc (.map #[] 0));simp only[World.size_alloc] at h;exact h
 case round=>
  obtain⟨k,n1,n2,hk,hn1,hn2,rfl,HM1,HM2,HB⟩:=hrel;by_cases hlt:k<l.length
  case pos=>
   obtain⟨x,hx⟩:∃ x,l[k]?=some x:=⟨_,gG hlt⟩
   obtain⟨b,off,hA,hel⟩:=((HE.out.below (aq L2.out HB.out)).row).elem bi k x hx;have hix:=fun W=>aB (T:=28) (E:=35) (sz:=10) (c:=cap) Tryz.underlying28 rfl Tryz.sizeOf35 hA hlt W;have e0:=hel 0 _ rfl;have e1:=hel 1 _ rfl;have e2:=hel 2 _ rfl;have e3:=hel 3 _ rfl;have e4:=hel 4 _ rfl;have e5:=hel 5 _ rfl;have e6:=hel 6 _ rfl;have e7:=hel 7 _ rfl;have e8:=hel 8 _ rfl;have e9:=hel 9 _ rfl;simp only[Nat.add_zero] at e0;have HX:=ae hx;have SX:=ae (HS.out x (gM hx));have hz:w2.heap.size+1<wr.heap.size:=HM2.out.lt;obtain⟨wo,rfl⟩:∃ wo:World,wo=wr:=⟨_,rfl⟩
   clear hx hA hel;obtain⟨W3,hW3⟩:∃ W3,wo.alloc (.cells #[.string x.path,.int .i64 x.kind,.int .i64 x.mode,.int .i64 x.uid,.int .i64 x.gid,.string x.owner,.string x.group,.int .i64 x.mtime,.string x.link,.slice x.da x.data.length x.dc] 35)=W3:=⟨_,rfl⟩
   have B3:Hid (EB wo W3 x):=by show EB _ _ _;rw[<-hW3];exact EB.start wo x
   have M13:=ae (HM1.out.below B3.out.bel);have M23:=ae (HM2.out.below B3.out.bel);have L3:Hid (Below w2.heap.size w2 W3):=aq HB.out B3.out.bel;have c1:=B3.out.blk.cell 1 _ rfl;by_cases hg:iq x=true
   case neg=>
    have g1:¬ x.kind=1:=fun h=>hg (dT (.inl h));have g4:¬ x.kind=4:=fun h=>hg (dT (.inr h));have q1:(x.kind != 1)=true:=by simpa using g1
    have q4:(x.kind != 4)=true:=by simpa using g4
    have N1:Hid (bm W3 w2.heap.size n1 (wH l (k+1))):=by show bm _ _ _ _;rw[Py HX.out (by simpa using hg)];exact M13.out
    have N2:Hid (bm W3 (w2.heap.size+1) n2 (DK l (k+1))):=by show bm _ _ _ _;rw[Hw HX.out g1];exact M23.out
    clear hg g1 g4;go_wp2;go_roundw
    case rel=>exact⟨k+1,n1,n2,by omega,by omega,by omega,by go_num,N1,N2,L3⟩
    case measure=>simp[intOf];omega
   have hk14:x.kind=1\/x.kind=4:=dO hg;have HGX:=ae hg;clear hg;have c0:=B3.out.blk.cell 0 _ rfl;go_upto_region 11 with(fail)
   clear hW3 hix e0 e1 e2 e3 e4 e5 e6 e7 e8 e9;go_cut [43] (fun v wx=>v=.bool false/\wx=W3)
   case first=>
    rcases hk14 with h1 | h4
    ·have q1:(x.kind != 1)=false:=by simp[h1]
     clear h1;go_wp2;go_meet;exact⟨rfl,rfl⟩
    ·have q1:(x.kind != 1)=true:=by simp[h4]
     have q4:(x.kind != 4)=false:=by simp[h4]
     clear h4;go_wp2;go_meet;exact⟨rfl,rfl⟩
   case rest=>
   obtain⟨rfl,hwc⟩:=hcut;have hwc':=hwc.symm;subst hwc';go_upto_if 46 with(fail)
   clear c0 c1;go_cut [] (fun wx=>∃ m2:Nat,m2<=k+1/\Hid (ax wx wo.heap.size x.cells)/\Hid (bm wx w2.heap.size n1 (wH l k))/\Hid (bm wx (w2.heap.size+1) m2 (DK l (k+1)))/\Hid (Below w2.heap.size w2 wx))
   case first=>
    have c0:=B3.out.blk.cell 0 _ rfl;rcases hk14 with h1 | h4
    ·have q1:(x.kind==1)=true:=by simpa using h1
     obtain⟨w4,hrun,hm,hg4⟩:=M23.out.put Tryz.underlying104 (by unfold maxLen;omega) x.path (by have:=SX.out.path;unfold maxLen;omega) (.int .i64 k);have N2:Hid (bm w4 (w2.heap.size+1) (n2+1) (DK l (k+1))):=by show bm _ _ _ _;rw[Pz HX.out h1];exact hm
     have N1:Hid (bm w4 w2.heap.size n1 (wH l k)):=M13.out.kept hg4 (by intro e;injection e with e;omega);have B4:Hid (ax w4 wo.heap.size x.cells):=B3.out.blk.grownC hg4 (by omega);have L4:Hid (Below w2.heap.size w2 w4):=L3.out.grown hg4 L3.out.size (fun j hj=>by injection hj with hj;omega);clear h1 hm hg4;go_wp2;go_meet;exact⟨n2+1,by omega,B4,N1,N2,L4⟩
    ·have q1:(x.kind==1)=false:=by simp[h4]
     have N2:Hid (bm W3 (w2.heap.size+1) n2 (DK l (k+1))):=by show bm _ _ _ _;rw[Hw HX.out (by omega)];exact M23.out
     clear h4;go_wp2;go_meet;exact⟨n2,by omega,ae B3.out.blk,M13,N2,L3⟩
   case rest=>
    obtain⟨m2,hm2,B4,N1,N2,L4⟩:=hcut;clear B3 M13 M23 L3 HM1 HM2 HB;have c0:=B4.out.cell 0 _ rfl;have c1:=B4.out.cell 1 _ rfl;have c2:=B4.out.cell 2 _ rfl;have c3:=B4.out.cell 3 _ rfl;have c4:=B4.out.cell 4 _ rfl;have c5:=B4.out.cell 5 _ rfl;have c6:=B4.out.cell 6 _ rfl;have c7:=B4.out.cell 7 _ rfl;have c8:=B4.out.cell 8 _ rfl;have c9:=B4.out.cell 9 _ rfl;go_wp2_with fail;refine(kP x _).mono ?_;rintro e w5 ⟨rfl,hb5⟩;have B5:=ae (B4.out.below hb5);have M15:=ae (N1.out.below hb5);have M25:=ae (N2.out.below hb5);have L5:Hid (Below w2.heap.size w2 w5):=aq L4.out hb5;clear hb5 B4 N1 N2 L4 c0 c1 c2 c3 c4 c5 c6 c7 c8 c9;have hgs:(grp x).size<=maxLen:=by have:=Dm SX.out;unfold maxLen;omega
    have hlk:=M15.out.look_ok Tryz.underlying104 mw (grp x) hgs;obtain⟨ol,hol⟩:∃ ol,dK l k (grp x)=ol:=⟨_,rfl⟩
    have hlv:(wH l k (grp x)).getD (.int .i64 0)=.int .i64 ((ol.getD 0:Nat):Int)/\(wH l k (grp x)).isSome=ol.isSome:=by
     unfold wH;rw[hol];cases ol<;>exact⟨rfl,rfl⟩
    rw[hlv.1,hlv.2] at hlk;have OL:=ae hol;clear hol hlv;have c0:=B5.out.cell 0 _ rfl;go_wp2;go_upto_region 16 with(fail)
    obtain⟨lv,hlv⟩:∃ lv,Dl l x ol=lv:=⟨_,rfl⟩
    have LV:=ae hlv;clear hlv;go_cut [70] (fun v wx=>v=.bool lv/\Hid (Below w5.heap.size w5 wx))
    case first=>
     cases ol with
     | none=>
      have hl:lv=true:=LV.out.symm;subst hl;simp only[Option.isSome_none,Option.getD_none];go_quiet (fail);go_wp2;go_meet;exact⟨rfl,am bR _⟩
     | some i=>
      have hik:i<k:=nT l k (grp x) i OL.out;obtain⟨y,hy⟩:∃ y,l[i]?=some y:=⟨_,gG (by omega)⟩
      obtain⟨by_,oy,hAy,hey⟩:=((HE.out.below (aq L2.out L5.out)).row).elem bi i y hy;have hiy:=fun W=>aB (T:=28) (E:=35) (sz:=10) (c:=cap) Tryz.underlying28 rfl Tryz.sizeOf35 hAy (show i<l.length by omega) W;have y0:=hey 0 _ rfl;simp only[Nat.add_zero] at y0;have hbl:Op.bytesLess x.path.toList y.path.toList=lv:=by
       rw[<-LV.out,dA,aj,aj];have e:du l i=y.path:=by unfold du;rw[hy];rfl
       show _=decide (bl x.path<bl (du l i));rw[e]
      have hil:(i:Int)<(l.length:Int):=by omega
      clear hy hAy hey;simp only[Option.isSome_some,Option.getD_some];go_quiet (fail);go_wp2;go_meet;exact⟨rfl,am bR _⟩
    case rest=>
     obtain⟨rfl,hbc⟩:=hcut;have B6:=ae (B5.out.below hbc.out);have M16:=ae (M15.out.below hbc.out);have M26:=ae (M25.out.below hbc.out);have L6:Hid (Below w2.heap.size w2 wc):=aq L5.out hbc.out;clear hbc B5 M15 M25 L5 c0 hlk;cases lv with
     | false=>
      have N1:Hid (bm wc w2.heap.size n1 (wH l (k+1))):=by show bm _ _ _ _;rw[Nv HX.out (by rw[OL.out];exact LV.out)];exact M16.out
      go_wp2;go_roundw
      case rel=>exact⟨k+1,n1,m2,by omega,by omega,by omega,by go_num,N1,M26,L6⟩
      case measure=>simp[intOf];omega
     | true=>
      have c0:=B6.out.cell 0 _ rfl;have c1:=B6.out.cell 1 _ rfl;have c2:=B6.out.cell 2 _ rfl;have c3:=B6.out.cell 3 _ rfl;have c4:=B6.out.cell 4 _ rfl;have c5:=B6.out.cell 5 _ rfl;have c6:=B6.out.cell 6 _ rfl;have c7:=B6.out.cell 7 _ rfl;have c8:=B6.out.cell 8 _ rfl;have c9:=B6.out.cell 9 _ rfl;go_wp2_with fail;refine(kP x _).mono ?_;rintro e w7 ⟨rfl,hb7⟩;obtain⟨w8,hrun,hm,hg8⟩:=(M16.out.below hb7).put Tryz.underlying104 (by unfold maxLen;omega) (grp x) hgs (.int .i64 k);have N1:Hid (bm w8 w2.heap.size (n1+1) (wH l (k+1))):=by show bm _ _ _ _;rw[PB HX.out HGX.out (by rw[OL.out];exact LV.out)];exact hm
      have N2:Hid (bm w8 (w2.heap.size+1) m2 (DK l (k+1))):=(M26.out.below hb7).kept hg8 (by intro e;injection e with e;omega);have L7:Below w2.heap.size w2 w7:=aq L6.out hb7;have L8:Hid (Below w2.heap.size w2 w8):=L7.grown hg8 L7.size (fun j hj=>by injection hj with hj;omega);clear hm hg8 hb7 L7;go_wp2;go_roundw
      case rel=>exact⟨k+1,n1+1,m2,by omega,by omega,by omega,by go_num,N1,N2,L8⟩
      case measure=>simp[intOf];omega
  case neg=>
   obtain rfl:k=l.length:=by omega
   have S0:Hid (RP w wr w1.heap.size w2.heap.size n1 n2 l Ao co 0 [] m):=
    ⟨rfl,by simpa using ML.out,fun i a b _ hb=>by simp at hb,fun i a b ha hb=>MS.out i a b (by simpa using ha) hb,by simpa using aL MO.out HB.out,fun z hz=>aL (MD.out z (by simpa using hz)) HB.out,HM1.out,HM2.out,aq L2.out HB.out,L1.out.size,fun g hg=>(MO.out.lt g hg).2⟩
   clear HM1 HM2 HB MO MD MS ML;go_wp2;go_loopw [79] (fun i wr=>∃ (k:Nat) (qs rs:List ag),k<=l.length/\i=.int .i64 k/\Hid (RP w wr w1.heap.size w2.heap.size n1 n2 l Ao co k qs rs)) (fun i _=>l.length-(intOf i).toNat)
   case atStart=>exact⟨0,[],m,z0,rfl,S0⟩
   case round=>
    obtain⟨k,qs,rs,hk,rfl,HS2⟩:=hrel;clear S0;by_cases hlt2:k<l.length
    case neg=>
     obtain rfl:k=l.length:=by omega
     have hrs:rs=[]:=List.eq_nil_of_length_eq_zero (by have:=HS2.out.rl;omega);subst hrs;have QL:Hid (qs.length=l.length):=HS2.out.ql;have RW:Hid (wr.ownsRow w1.heap.size 35 10 (.slice Ao l.length co) l.length (qs.flatMap ag.cells)):=by have h:=HS2.out.row;rw[List.append_nil] at h;exact h
     go_wp2_with fail;refine(Kt Ao co w1.heap.size l.length qs QL _ RW.out hl).mono ?_;rintro e w5 ⟨rfl,l',hp',hs',ho',hg'⟩;have CP:Hid (Hx l w (.returned (.tuple #[.slice Ao l.length co,.int .i64 0])) w5):=by
      have hlo:=HS2.out.lo;refine⟨HS2.out.bel.grown hg' HS2.out.bel.size (fun j hj=>by have:=(RW.out.lt j hj).1;omega),.inr ⟨C.out,Ao,co,qs,l',rfl,QL.out,HS2.out.qsame,hp',hs',?_,fun z hz=>?_⟩⟩
      ·rw[QL.out] at ho';exact aY ho' hlo
      ·have hz2:=HS2.out.own z (by rw[List.append_nil];exact hp'.mem_iff.1 hz);exact aY (hz2.kept hg' (jO hz2 RW.out (by decide))) hlo
     clear hp' hs' ho' hg';go_wp2;go_ret2;exact CP.out
    obtain⟨x,hx⟩:∃ x,l[k]?=some x:=⟨_,gG hlt2⟩
    obtain⟨b,off,hA,hel⟩:=((HE.out.below HS2.out.bel).row).elem bi k x hx;have hix:=fun W=>aB (T:=28) (E:=35) (sz:=10) (c:=cap) Tryz.underlying28 rfl Tryz.sizeOf35 hA hlt2 W;have e0:=hel 0 _ rfl;have e1:=hel 1 _ rfl;have e2:=hel 2 _ rfl;have e3:=hel 3 _ rfl;have e4:=hel 4 _ rfl;have e5:=hel 5 _ rfl;have e6:=hel 6 _ rfl;have e7:=hel 7 _ rfl;have e8:=hel 8 _ rfl;have e9:=hel 9 _ rfl;simp only[Nat.add_zero] at e0;obtain⟨y,r,rfl,hM,hsm⟩:=HS2.out.next hlt2;have HX:=ae hx;have SX:=ae (HS.out x (gM hx));have XY:=ae (hsm x hx);have hAo:∃ g,Ao=some ⟨g,0,none⟩:=by obtain⟨g,h,_⟩:=iR hM.row (show 0<l.length by omega);exact⟨g,h⟩
    have hz0:w2.heap.size+1<wr.heap.size:=HS2.out.m2.lt;obtain⟨wo,rfl⟩:∃ wo:World,wo=wr:=⟨_,rfl⟩
    obtain⟨W3,hW3⟩:∃ W3,wo.alloc (.cells #[.string x.path,.int .i64 x.kind,.int .i64 x.mode,.int .i64 x.uid,.int .i64 x.gid,.string x.owner,.string x.group,.int .i64 x.mtime,.string x.link,.slice x.da x.data.length x.dc] 35)=W3:=⟨_,rfl⟩
    have B3:Hid (EB wo W3 x):=by show EB _ _ _;rw[<-hW3];exact EB.start wo x
    have M3:=ae (hM.below B3.out.bel);have c1:=B3.out.blk.cell 1 _ rfl;clear hx hA hel hM hsm HS2;by_cases hg:iq x=true
    case neg=>
     have g1:¬ x.kind=1:=fun h=>hg (dT (.inl h));have g4:¬ x.kind=4:=fun h=>hg (dT (.inr h));have q1:(x.kind != 1)=true:=by simpa using g1
     have q4:(x.kind != 4)=true:=by simpa using g4
     have NX:Hid (RP w W3 w1.heap.size w2.heap.size n1 n2 l Ao co (k+1) (qs++[y]) r):=M3.out.done HX.out (by rw[Ny (by simpa using hg)];exact XY.out);clear hg g1 g4 hAo;go_wp2;go_roundw
     case rel=>exact⟨k+1,qs++[y],r,by omega,by go_num,NX⟩
     case measure=>simp[intOf];omega
    have hk14:x.kind=1\/x.kind=4:=dO hg;have HGX:=ae hg;clear hg;go_upto_region 21 with(fail)
    clear hW3 hix e0 e1 e2 e3 e4 e5 e6 e7 e8 e9;go_cut [91] (fun v wx=>v=.bool false/\wx=W3)
    case first=>
     rcases hk14 with h1 | h4
     ·have q1:(x.kind != 1)=false:=by simp[h1]
      clear h1;go_wp2;go_meet;exact⟨rfl,rfl⟩
     ·have q1:(x.kind != 1)=true:=by simp[h4]
      have q4:(x.kind != 4)=false:=by simp[h4]
      clear h4;go_wp2;go_meet;exact⟨rfl,rfl⟩
    case rest=>
    obtain⟨rfl,hwc⟩:=hcut;have hwc':=hwc.symm;subst hwc';have B4:Hid (ax W3 wo.heap.size x.cells):=B3.out.blk;clear c1 hwc B3 hk14;have c0:=B4.out.cell 0 _ rfl;have c1:=B4.out.cell 1 _ rfl;have c2:=B4.out.cell 2 _ rfl;have c3:=B4.out.cell 3 _ rfl;have c4:=B4.out.cell 4 _ rfl;have c5:=B4.out.cell 5 _ rfl;have c6:=B4.out.cell 6 _ rfl;have c7:=B4.out.cell 7 _ rfl;have c8:=B4.out.cell 8 _ rfl;have c9:=B4.out.cell 9 _ rfl;go_wp2_with fail;refine(kP x _).mono ?_;rintro e w5 ⟨rfl,hb5⟩;have B5:=ae (B4.out.below hb5);have M5:=ae (M3.out.below hb5);clear hb5 B4 M3 c0 c1 c2 c3 c4 c5 c6 c7 c8 c9;have hgs:(grp x).size<=maxLen:=by have:=Dm SX.out;unfold maxLen;omega
    have hlk:=M5.out.m1.look Tryz.underlying104 mw (grp x) hgs;rw[Kr] at hlk;have hfl:bH l x<l.length:=Kp (by omega);have hdl:cJ l x<l.length:=Kq (by omega);obtain⟨g,hAo⟩:=hAo;have hixo:=fun W=>aB (T:=28) (E:=35) (sz:=10) (c:=co) Tryz.underlying28 rfl Tryz.sizeOf35 hAo hlt2 W;simp only[Nat.zero_add] at hixo;have HAo:=ae hAo;clear hAo;have z1:=M5.out.cell HAo.out 1 _ rfl;have z8:=M5.out.cell HAo.out 8 _ rfl;have z9:=M5.out.cell HAo.out 9 _ rfl;obtain⟨z1,f1⟩:=z1;obtain⟨z8,f8⟩:=z8;obtain⟨z9,f9⟩:=z9;by_cases hkf:k=bH l x
    case neg=>
     have qk:((k:Int)==(bH l x:Int))=false:=by simp;omega
     obtain⟨fe,hfe⟩:∃ fe,l[bH l x]?=some fe:=⟨_,gG hfl⟩
     obtain⟨bf,of_,hAf,hef⟩:=((HE.out.below M5.out.bel).row).elem bi (bH l x) fe hfe;have hixf:=fun W=>aB (T:=28) (E:=35) (sz:=10) (c:=cap) Tryz.underlying28 rfl Tryz.sizeOf35 hAf hfl W;have x0:=hef 0 _ rfl;simp only[Nat.add_zero] at x0;have PA:Hid (du l (bH l x)=fe.path):=by show _=_;unfold du;rw[hfe];rfl
     have OE:=ae (Ks HGX.out hkf);clear hfe hAf hef hkf;generalize bH l x=fp at *;have N1:=M5.out.set (y':={ y with kind:=4 }) (j:=1) (u:=.int .i64 4) HAo.out (by omega) rfl (M5.out.own y (by simp));have N2:=N1.set (y':={ y with kind:=4,link:=fe.path }) (j:=8) (u:=.string fe.path) HAo.out (by omega) rfl (N1.own { y with kind:=4 } (by simp));have N3:=N2.set (y':={ y with kind:=4,link:=fe.path,da:=none,dc:=0,data:=[] }) (j:=9) (u:=.slice none 0 0) HAo.out (by omega) rfl (World.ownsRow_nil _ _ _ _);have NX:=ae (N3.done HX.out (by rw[OE.out,PA.out];have h:=XY.out;exact⟨h.path,rfl,h.mode,h.uid,h.gid,h.owner,h.group,h.mtime,rfl,rfl⟩));clear N1 N2 N3;go_wp2;go_roundw
     case rel=>exact⟨k+1,_,r,by omega,by go_num,NX⟩
     case measure=>simp[intOf];omega
    have qk:((k:Int)==(bH l x:Int))=true:=by simp;omega
    have OE:=ae (Gr HGX.out hkf);have N1:=M5.out.set (y':={ y with kind:=1 }) (j:=1) (u:=.int .i64 1) HAo.out (by omega) rfl (M5.out.own y (by simp));have N2:=ae (N1.set (y':={ y with kind:=1,link:=⟨#[]⟩ }) (j:=8) (u:=.string ⟨#[]⟩) HAo.out (by omega) rfl (N1.own { y with kind:=1 } (by simp)));have hgw:g≠wo.heap.size:=by have:=M5.out.hi g (by rw[HAo.out];rfl);omega
    have B6:Hid (ax ((w5.setCell ⟨g,k*10+1,none⟩ (.int .i64 1)).setCell ⟨g,k*10+8,none⟩ (.string ⟨#[]⟩)) wo.heap.size x.cells):=(B5.out.far hgw _).far hgw _;clear N1 hkf;have c0:=B6.out.cell 0 _ rfl;have c1:=B6.out.cell 1 _ rfl;have c2:=B6.out.cell 2 _ rfl;have c3:=B6.out.cell 3 _ rfl;have c4:=B6.out.cell 4 _ rfl;have c5:=B6.out.cell 5 _ rfl;have c6:=B6.out.cell 6 _ rfl;have c7:=B6.out.cell 7 _ rfl;have c8:=B6.out.cell 8 _ rfl;have c9:=B6.out.cell 9 _ rfl;go_wp2_with fail;refine(kP x _).mono ?_;rintro e w7 ⟨rfl,hb7⟩;have M7:=ae (N2.out.below hb7);clear hb7 N2 B6 B5 M5 z1 z8 z9 f1 f8 f9 hlk c0 c1 c2 c3 c4 c5 c6 c7 c8 c9;have hld:=M7.out.m2.look Tryz.underlying104 mw (grp x) hgs;rw[Nw] at hld;obtain⟨fe,hfe⟩:∃ fe,l[cJ l x]?=some fe:=⟨_,gG hdl⟩
    obtain⟨bf,of_,hAf,hef⟩:=((HE.out.below M7.out.bel).row).elem bi (cJ l x) fe hfe;have hixf:=fun W=>aB (T:=28) (E:=35) (sz:=10) (c:=cap) Tryz.underlying28 rfl Tryz.sizeOf35 hAf hdl W;have x9:=hef 9 _ rfl;have DX:Hid (Rd w7 1 fe.da fe.data.length (fe.data.map vb)):=(HE.out.all fe (gM hfe)).below M7.out.bel;have hxd:=(HS.out fe (gM hfe)).data;have DO:Hid (fN l (cJ l x)=fe.data):=by show _=_;unfold fN;rw[hfe];rfl
    clear hfe hAf hef;generalize cJ l x=dp at *;go_wp2_with fail;refine(sf fe.da fe.dc fe.data.length fe.data _ DX.out (by omega)).mono ?_;rintro e w8 ⟨v8,rfl,o8,b8⟩;obtain⟨a8,c8,rfl⟩:=aN o8;have M8:=ae (M7.out.below b8);obtain⟨z9,f9⟩:=M8.out.cell HAo.out 9 _ rfl;have O8:ag.own { y with kind:=1,link:=⟨#[]⟩,da:=a8,dc:=c8,data:=fe.data } w8 w1.heap.size:=aY o8 (Nat.le_trans L12.out (Nat.le_trans (by have:=M7.out.m1.lt;omega) lr));have N9:=M8.out.set (y':={ y with kind:=1,link:=⟨#[]⟩,da:=a8,dc:=c8,data:=fe.data }) (j:=9) (u:=.slice a8 fe.data.length c8) HAo.out (by omega) rfl O8;have NX:=ae (N9.done HX.out (by rw[OE.out,DO.out];have h:=XY.out;exact⟨h.path,rfl,h.mode,h.uid,h.gid,h.owner,h.group,h.mtime,rfl,rfl⟩));clear o8 b8 O8 N9 M8 x9;go_wp2;go_roundw
    case rel=>exact⟨k+1,_,r,by omega,by go_num,NX⟩
    case measure=>simp[intOf];omega
end
end Go.Proofs.YtlglfpbhapmhiaaGreatDoor
