/- A part of the proof. -/
import Derived.Outline
import Derived.Test.YtlglfpbhapmhiaaGreatDoorL32
import Derived.Test.YtlglfpbhapmhiaaGreatDoorL33
set_option maxRecDepth 100000
set_option maxHeartbeats 20000000
set_option linter.unusedVariables false
set_option linter.unusedSimpArgs false
namespace Go.Proofs.YtlglfpbhapmhiaaGreatDoor
variable{v:Value}{w w' wr:World}
section
open Go.RowKit Go.Maps
structure dH.fits (b:dH):Prop where
 pk:b.pk.fits
 conf:b.conf.length<=9223372036854775807
 conf_:∀ s∈b.conf,s.size<=9223372036854775807
 ents:b.ents.length<=9223372036854775807
 ents_:∀ x∈b.ents,x.fits
structure dH.lite (b:dH):Prop where
 pk:DP b.pk<=10000
 conf:b.conf.length<=40
 conf_:∀ s∈b.conf,s.size<=500
 ents:b.ents.length<=30
 ents_:∀ x∈b.ents,x.lite
def Rm (b:dH)(w:World)(e:Ending)(w':World):Prop:=(∃ bb:Bool,e=.returned (.bool bb)/\(bb=true->b.lite))/\Below w.heap.size w w'
theorem De (b:dH)(w:World)(hb:b.ok w)(hf:b.fits):Calls Tryz.prog 6 #[b.val] w (Rm b w):=by
 have HO:=ae hb;have HF:=ae hf;clear hb hf;obtain⟨W0,hW0⟩:∃ W0,w.alloc (.cells #[.string b.pk.nm,.string b.pk.ver,.string b.pk.ar,.string b.pk.sm,.slice b.pk.na b.pk.needs.length b.pk.nc,.slice b.pk.ba b.pk.bars.length b.pk.bc,.slice b.pk.ga b.pk.gives.length b.pk.gc,.slice b.pk.fa b.pk.files.length b.pk.fc,.slice b.pk.sa b.pk.scripts.length b.pk.sc,.slice b.ca b.conf.length b.cc,.slice b.ea b.ents.length b.ec] 30)=W0:=⟨_,rfl⟩
 have B0:Hid (Bx w W0 b.cells):=by show Bx _ _ _;rw[<-hW0];exact Bx.start w b.cells _
 have b0:=B0.out.cell 0 _ rfl;have b1:=B0.out.cell 1 _ rfl;have b2:=B0.out.cell 2 _ rfl;have b3:=B0.out.cell 3 _ rfl;have b4:=B0.out.cell 4 _ rfl;have b5:=B0.out.cell 5 _ rfl;have b6:=B0.out.cell 6 _ rfl;have b7:=B0.out.cell 7 _ rfl;have b8:=B0.out.cell 8 _ rfl;have b9:=B0.out.cell 9 _ rfl;have b10:=B0.out.cell 10 _ rfl;have CW:=(DQ b.pk 10000 (by omega) (by omega) W0 (HO.out.pk.below B0.out.bel) HF.out.pk)
 unfold dH.val;unfold bK.val at CW;have hcl:=HF.out.conf;go_in;go_wp2_with fail;clear hW0 b0 b1 b2 b3 b4 b5 b6 b7 b8 b9 b10;refine CW.mono ?_;rintro e w1 ⟨⟨m,rfl,hm⟩,hb1⟩;have B1:=ae (B0.out.step hb1);clear CW hb1 B0;have c9:=B1.out.cell 9 _ rfl;have WI:=ae hm;clear hm;by_cases hw:m<=10000
 case neg=>
  have q:(10000:Int)<m:=by omega
  go_wp2;go_ret;exact⟨⟨false,rfl,fun h=>by cases h⟩,B1.out.bel⟩
 have HW:Hid (DP b.pk<=10000):=by have:=WI.out.2.2 hw;show _<=_;omega
 by_cases hc:b.conf.length<=40
 case neg=>
  have q:(40:Int)<(b.conf.length:Int):=by omega
  go_wp2;go_ret;exact⟨⟨false,rfl,fun h=>by cases h⟩,B1.out.bel⟩
 go_wp2;go_loopw [3] (fun i wr=>∃ (k:Nat),k<=b.conf.length/\i=.int .i64 k/\Hid (∀ s∈b.conf.take k,s.size<=500)/\Hid (Bx w wr b.cells)) (fun i _=>b.conf.length-(intOf i).toNat)
 case atStart=>exact⟨0,z0,rfl,(fun x hx=>by simp at hx),B1⟩
 case round=>
  clear c9;obtain⟨k,hk,rfl,U,B⟩:=hrel;have c9:=B.out.cell 9 _ rfl;by_cases hlt:k<b.conf.length
  ·obtain⟨x,hx⟩:∃ x,b.conf[k]?=some x:=⟨_,gG hlt⟩
   obtain⟨bb,off,hA,he⟩:=(HO.out.conf.below B.out.bel).str k x hx;have hix:=fun W=>aB (T:=22) (E:=9) (sz:=1) (c:=b.cc) Tryz.underlying22 rfl Tryz.sizeOf9 hA hlt W;simp only[Nat.mul_one] at hix;have hsx:=HF.out.conf_ x (gM hx);have HX:=ae hx;clear hx hA;by_cases hs:x.size<=500
   ·go_wp2;go_roundw
    case rel=>
     refine⟨k+1,by omega,by go_num,fun y hy=>?_,B⟩;rw[ul HX.out] at hy;rcases List.mem_append.1 hy with hy | hy
     ·exact U.out y hy
     ·rw[List.mem_singleton.1 hy];exact hs
    case measure=>simp[intOf];omega
   ·have q:(500:Int)<(x.size:Int):=by omega
    go_wp2;go_ret;exact⟨⟨false,rfl,fun h=>by cases h⟩,B.out.bel⟩
  ·have hkl:k=b.conf.length:=by omega
   subst hkl;have U2:Hid (∀ s∈b.conf,s.size<=500):=by have:=U.out;rwa [List.take_length] at this
   have HC:=ae hc;have c10:=B.out.cell 10 _ rfl;go_wp2_with fail;refine(IE b.ea b.ec b.ents _ (HO.out.ents.below B.out.bel) HF.out.ents HF.out.ents_).mono ?_;rintro e w2 ⟨⟨bb,rfl,hbb⟩,hb2⟩;have B2:=ae (B.out.step hb2);have HB:=ae hbb;clear hbb hb2 c9 c10;go_wp2;go_ret;exact⟨⟨_,rfl,fun h=>⟨HW.out,HC.out,U2.out,(HB.out h).1,(HB.out h).2⟩⟩,B2.out.bel⟩
def Do:ag:=⟨⟨#[97]⟩,1,0,0,0,⟨#[]⟩,⟨#[114,111,111,116]⟩,0,⟨#[]⟩,none,0,[]⟩
def Dp:ag:=⟨⟨#[97]⟩,1,0,0,0,⟨#[114,111,111,116]⟩,⟨#[114,111,111,116]⟩,0,⟨#[]⟩,none,0,[]⟩
def SE:bK:={ nm:=⟨#[97,97]⟩,ver:=⟨#[49,45,49]⟩,ar:=⟨#[97,108,108]⟩,sm:=⟨#[115]⟩,needs:=[],bars:=[],gives:=[],files:=[],scripts:=[],na:=none,nc:=0,ba:=none,bc:=0,ga:=none,gc:=0,fa:=none,fc:=0,sa:=none,sc:=0 }
def Ay (x:ag)(g:Nat):dH:=⟨SE,none,0,[],some ⟨g,0,none⟩,1,[x]⟩
theorem PG (g:Nat):mA 1 (Ay Do g)=(⟨#[97]⟩,1):=by kernel_rfl
theorem Rw (g:Nat):(mA 1 (Ay Dp g)).2=0:=by kernel_rfl
theorem PH:(bz 1 [] [Dp]).map av.sum=[⟨#[100,52,49,100,56,99,100,57,56,102,48,48,98,50,48,52,101,57,56,48,48,57,57,56,101,99,102,56,52,50,55,101]⟩]:=by kernel_rfl
theorem ND {p:bK}(h:DP p<=10000):p.few:=by
 unfold DP eu cX fZ iH gi at h;have a1:=ik (fun s:BA=>1+s.size) (fun _=>by omega) p.needs;have a2:=ik (fun s:BA=>1+s.size) (fun _=>by omega) p.bars;have a3:=ik (fun x:cS=>1+x.nm.size+x.ver.size) (fun _=>by omega) p.gives;have a4:=ik (fun x:av=>1+x.path.size+x.owner.size+x.group.size+x.link.size+x.sum.size) (fun _=>by omega) p.files;have a5:=ik (fun x:aT=>1+x.body.size) (fun _=>by omega) p.scripts;exact⟨by omega,by omega,by omega,by omega,by omega⟩
def dH.caps (b:dH):Prop:=∀ x∈b.ents,x.data.length<=x.dc/\x.dc<=9223372036854775807
theorem dH.lite.small {b:dH}(h:b.lite)(hc:b.caps):b.small:=
 ⟨bK.small_of (by have:=h.pk;omega),ND h.pk,by have:=h.conf;omega,fun s hs=>by have:=h.conf_ s hs;omega,by have:=h.ents;omega,fun x hx=>
  have k:=h.ents_ x hx
  ⟨by have:=k.path;omega,by have:=k.owner;omega,by have:=k.group;omega,by have:=k.link;omega,by have:=k.data;omega,(hc x hx).1,(hc x hx).2⟩⟩
def Qr:bK:={ nm:=⟨#[]⟩,ver:=⟨#[]⟩,ar:=⟨#[]⟩,sm:=⟨#[]⟩,needs:=[],bars:=[],gives:=[],files:=[],scripts:=[],na:=none,nc:=0,ba:=none,bc:=0,ga:=none,gc:=0,fa:=none,fc:=0,sa:=none,sc:=0 }
theorem NZ (l:LU):bl (Rs l)=l:=by
 have h:∀ l:LU,(l.map fun c=>(c.toNat:Int)).map (fun n=>UInt8.ofNat n.toNat)=l:=by
  intro l;rw[List.map_map]
  induction l with
  | nil=>rfl
  | cons c r ih=>rw[List.map_cons,ih];simp
 show(strOfNums _).data.toList=l;unfold strOfNums;simpa using h l
theorem N4 (l m:LU):((Rs l).toList==(Rs m).toList)=decide (l=m):=by
 rw[et,bI,decide_eq_true_eq,decide_eq_true_eq];exact⟨fun h=>by rw[<-NZ l,h,NZ],fun h=>by rw[h]⟩
def nA (x y:ag):Bool:=(x.path.toList==y.path.toList)&&((x.kind==y.kind)&&(gh x y&&((x.link.toList==y.link.toList)&&decide (x.data=y.data))))
theorem yV (A B:OA)(c d:Nat)(l m:List ag)(w:World)(hE:cV w A l)(hF:cV w B m)(hn:l.length<=100000)(hn':m.length<=100000)(hd:∀ x∈l,x.data.length<=9223372036854775807)(hd':∀ x∈m,x.data.length<=9223372036854775807):Calls Tryz.prog 13 #[.slice A l.length c,.slice B m.length d] w fun e w'=>e=.returned (.bool (iA nA l m))/\Below w.heap.size w w':=by
 have HE:=ae hE;have HF:=ae hF;have HD:=ae hd;have HD':=ae hd';clear hE hF hd hd';by_cases hl:l.length=m.length
 case neg=>
  have E:Hid (iA nA l m=false):=dj _ _ _ hl;have q:((l.length:Int) != (m.length:Int))=true:=by simp;omega
  go_in;go_wp2;go_ret;exact⟨congrArg (fun b=>Ending.returned (Value.bool b)) E.out.symm,bR⟩
 rw[<-hl];have HL:=ae hl;clear hl;go_in;go_wp2;go_loopw [5] (fun i wr=>∃ (k:Nat),k<=l.length/\i=.int .i64 k/\Hid (Below w.heap.size w wr)/\Hid (∀ (i:Nat)(x y:ag),i<k->l[i]?=some x->m[i]?=some y->nA x y=true)) (fun i _=>l.length-(intOf i).toNat)
 case atStart=>exact⟨0,z0,rfl,bR,fun i x y h=>by omega⟩
 case round=>
  obtain⟨k,hk,rfl,B1,U⟩:=hrel;by_cases hlt:k<l.length
  case neg=>
   have E:Hid (iA nA l m=true):=eD _ _ _ HL.out (fun i x y hx hy=>U.out i x y (by have:=(gS hx).1;omega) hx hy);go_wp2;go_ret;exact⟨congrArg (fun b=>Ending.returned (Value.bool b)) E.out.symm,B1.out⟩
  obtain⟨x,hx⟩:∃ x,l[k]?=some x:=⟨_,gG hlt⟩
  have hlm:k<m.length:=by rw[<-HL.out];exact hlt
  obtain⟨y,hy⟩:∃ y,m[k]?=some y:=⟨_,gG hlm⟩
  obtain⟨b,off,hA,hel⟩:=((HE.out.below B1.out).row).elem bi k x hx;obtain⟨b2,off2,hA2,hel2⟩:=((HF.out.below B1.out).row).elem bi k y hy;have hix:=fun W=>aB (T:=28) (E:=35) (sz:=10) (c:=c) Tryz.underlying28 rfl Tryz.sizeOf35 hA hlt W;have hix2:=fun W=>aB (T:=28) (E:=35) (sz:=10) (c:=d) Tryz.underlying28 rfl Tryz.sizeOf35 hA2 hlt W;have X1:Hid (vS wr b (off+k*10) x):=⟨hel,(HE.out.below B1.out).all x (gM hx)⟩
  have Y1:Hid (vS wr b2 (off2+k*10) y):=⟨hel2,(HF.out.below B1.out).all y (gM hy)⟩
  have hdx:=HD.out x (gM hx);have hdy:=HD'.out y (gM hy);have NO:Hid (nA x y=false->iA nA l m=false):=fun e=>gE _ _ _ k x y hx hy e;have YES:Hid (nA x y=true->∀ (i:Nat)(x y:ag),i<k+1->l[i]?=some x->m[i]?=some y->nA x y=true):=fun e i x' y' hi h1 h2=>by
   by_cases hik:i=k
   ·subst hik;rw[hx] at h1;rw[hy] at h2;injection h1 with h1;injection h2 with h2;rw[<-h1,<-h2];exact e
   ·exact U.out i x' y' (by omega) h1 h2
  clear hx hy hA hA2 hel hel2 hlm;obtain⟨vp,hp⟩:∃ v,(x.path.toList==y.path.toList)=v:=⟨_,rfl⟩
  obtain⟨vn,hnn⟩:∃ v,(x.kind==y.kind)=v:=⟨_,rfl⟩
  obtain⟨vc,hcc⟩:∃ v,gh x y=v:=⟨_,rfl⟩
  obtain⟨vk,hkk⟩:∃ v,(x.link.toList==y.link.toList)=v:=⟨_,rfl⟩
  obtain⟨vd,hdd⟩:∃ v,decide (x.data=y.data)=v:=⟨_,rfl⟩
  have EQ:Hid (nA x y=(vp&&(vn&&(vc&&(vk&&vd))))):=by show _=_;unfold nA;rw[hp,hnn,hcc,hkk,hdd]
  have hds:=N4 x.data y.data;rw[hdd] at hds;have hnk:(x.kind != y.kind)=!vn:=by rw[<-hnn];rfl
  have CC:=ae hcc;clear hcc hdd;cases vp
  case false=>
   have e0:wr.cell? ⟨b,off+k*10,none⟩=some (.string x.path):=X1.out.cell 0 _ rfl;have g0:wr.cell? ⟨b2,off2+k*10,none⟩=some (.string y.path):=Y1.out.cell 0 _ rfl;go_wp2;go_quiet (fail);go_wp2;go_ret;exact⟨congrArg (fun b=>Ending.returned (Value.bool b)) (NO.out (by rw[EQ.out];rfl)).symm,am B1.out _⟩
  cases vn
  case false=>
   have e0:wr.cell? ⟨b,off+k*10,none⟩=some (.string x.path):=X1.out.cell 0 _ rfl;have g0:wr.cell? ⟨b2,off2+k*10,none⟩=some (.string y.path):=Y1.out.cell 0 _ rfl;have e1:wr.cell? ⟨b,off+k*10+1,none⟩=some (.int .i64 x.kind):=X1.out.cell 1 _ rfl;have g1:wr.cell? ⟨b2,off2+k*10+1,none⟩=some (.int .i64 y.kind):=Y1.out.cell 1 _ rfl;go_wp2;go_quiet (fail);go_wp2;go_ret;exact⟨congrArg (fun b=>Ending.returned (Value.bool b)) (NO.out (by rw[EQ.out];rfl)).symm,am B1.out _⟩
  go_wp2_with fail;have X2:=ae (X1.out.below (bS (Below.refl _ wr)));have Y2:=ae (Y1.out.below (bS (Below.refl _ wr)));have AL:=ae (fun W=>wg x y W);refine Kz (Ky fun O hO=>?_);have p0:=az (k:=0) hO rfl;have p1:=az (k:=1) hO rfl;have p2:=az (k:=2) hO rfl;have p3:=az (k:=3) hO rfl;have p4:=az (k:=4) hO rfl;have p5:=az (k:=5) hO rfl;have p6:=az (k:=6) hO rfl;have p7:=az (k:=7) hO rfl;have p8:=az (k:=8) hO rfl;have p9:=az (k:=9) hO rfl;have p10:=az (k:=10) hO rfl;have p11:=az (k:=11) hO rfl;have p12:=az (k:=12) hO rfl;have p13:=az (k:=13) hO rfl;have p14:=az (k:=14) hO rfl;have p15:=az (k:=15) hO rfl;have p16:=az (k:=16) hO rfl;have p17:=az (k:=17) hO rfl;have p18:=az (k:=18) hO rfl;have p19:=az (k:=19) hO rfl;have p20:=az (k:=20) hO rfl;have p21:=az (k:=21) hO rfl;have p22:=az (k:=22) hO rfl;have p23:=az (k:=23) hO rfl;have p24:=az (k:=24) hO rfl;have p25:=az (k:=25) hO rfl;have p26:=az (k:=26) hO rfl;have p27:=az (k:=27) hO rfl;have p28:=az (k:=28) hO rfl;have p29:=az (k:=29) hO rfl;have p30:=az (k:=30) hO rfl;have p31:=az (k:=31) hO rfl;have p32:=az (k:=32) hO rfl;have p33:=az (k:=33) hO rfl;have p34:=az (k:=34) hO rfl;have p35:=az (k:=35) hO rfl;have p36:=az (k:=36) hO rfl;have p37:=az (k:=37) hO rfl;have p38:=az (k:=38) hO rfl;have p39:=az (k:=39) hO rfl;have p40:=az (k:=40) hO rfl;have p41:=az (k:=41) hO rfl;have p42:=az (k:=42) hO rfl;have p43:=az (k:=43) hO rfl;have p44:=az (k:=44) hO rfl;have p45:=az (k:=45) hO rfl;have p46:=az (k:=46) hO rfl;have p47:=az (k:=47) hO rfl;have p48:=az (k:=48) hO rfl;have p49:=az (k:=49) hO rfl;have p50:=az (k:=50) hO rfl;have p51:=az (k:=51) hO rfl;have p52:=az (k:=52) hO rfl;have p53:=az (k:=53) hO rfl;have p54:=az (k:=54) hO rfl;have p55:=az (k:=55) hO rfl;have p56:=az (k:=56) hO rfl;have p57:=az (k:=57) hO rfl;have p58:=az (k:=58) hO rfl;have p59:=az (k:=59) hO rfl;have p60:=az (k:=60) hO rfl;have p61:=az (k:=61) hO rfl;have p62:=az (k:=62) hO rfl;have p63:=az (k:=63) hO rfl;have ok:∀ k,k<64->pn O k=true:=by
   have h:(List.range 64).all (pn O)=true:=by rw[hO];kernel_rfl
   intro k hk;exact List.all_eq_true.1 h k (List.mem_range.2 hk)
  have hns:Region.noSelect O=true:=by rw[hO];kernel_rfl
  have r33:Region.ready .any O (kE O.size 33)=[33]:=by rw[hO];kernel_rfl
  have r64:Region.ready .any O (kE O.size 64)=[]:=by rw[hO];kernel_rfl
  have hsz:O.size=64:=by rw[hO];rfl
  clear hO;refine rB (S:=fun w'=>(w'.cell? ⟨b,off+k*10,none⟩=some (.string x.path)/\w'.cell? ⟨b,off+k*10+1,none⟩=some (.int .i64 x.kind)/\w'.cell? ⟨b,off+k*10+2,none⟩=some (.int .i64 x.mode)/\w'.cell? ⟨b,off+k*10+3,none⟩=some (.int .i64 x.uid)/\w'.cell? ⟨b,off+k*10+4,none⟩=some (.int .i64 x.gid)/\w'.cell? ⟨b,off+k*10+5,none⟩=some (.string x.owner)/\w'.cell? ⟨b,off+k*10+6,none⟩=some (.string x.group)/\w'.cell? ⟨b,off+k*10+7,none⟩=some (.int .i64 x.mtime)/\w'.cell? ⟨b,off+k*10+8,none⟩=some (.string x.link)/\w'.cell? ⟨b,off+k*10+9,none⟩=some (.slice x.da x.data.length x.dc)/\(convert 33 9 (.slice x.da x.data.length x.dc)).run Tryz.prog w'=.ok (.string (Rs x.data)) w')/\(w'.cell? ⟨b2,off2+k*10,none⟩=some (.string y.path)/\w'.cell? ⟨b2,off2+k*10+1,none⟩=some (.int .i64 y.kind)/\w'.cell? ⟨b2,off2+k*10+2,none⟩=some (.int .i64 y.mode)/\w'.cell? ⟨b2,off2+k*10+3,none⟩=some (.int .i64 y.uid)/\w'.cell? ⟨b2,off2+k*10+4,none⟩=some (.int .i64 y.gid)/\w'.cell? ⟨b2,off2+k*10+5,none⟩=some (.string y.owner)/\w'.cell? ⟨b2,off2+k*10+6,none⟩=some (.string y.group)/\w'.cell? ⟨b2,off2+k*10+7,none⟩=some (.int .i64 y.mtime)/\w'.cell? ⟨b2,off2+k*10+8,none⟩=some (.string y.link)/\w'.cell? ⟨b2,off2+k*10+9,none⟩=some (.slice y.da y.data.length y.dc)/\(convert 33 9 (.slice y.da y.data.length y.dc)).run Tryz.prog w'=.ok (.string (Rs y.data)) w')) (by kernel_rfl) ⟨X2.out.lim,Y2.out.lim⟩ (fun hHeld=>?_);rw[show wpAnyH _ _ O _ _ O.size=wpAnyH _ _ O _ _ 64 by rw[hsz]];refine' aH ok hns p0 ?_
  (try simp only[sA,sB,sC])
  refine' aH ok hns p1 ?_
  (try simp only[sA,sB,sC])
  refine' aH ok hns p2 ?_
  (try simp only[sA,sB,sC])
  refine' aH ok hns p3 ?_
  (try simp only[sA,sB,sC])
  refine' aH ok hns p4 ?_
  (try simp only[sA,sB,sC])
  refine' aH ok hns p5 ?_
  (try simp only[sA,sB,sC])
  refine' aH ok hns p6 ?_
  (try simp only[sA,sB,sC])
  refine' aH ok hns p7 ?_
  (try simp only[sA,sB,sC])
  refine' aH ok hns p8 ?_
  (try simp only[sA,sB,sC])
  refine' aH ok hns p9 ?_
  (try simp only[sA,sB,sC])
  refine' aH ok hns p10 ?_
  (try simp only[sA,sB,sC])
  refine' aH ok hns p11 ?_
  (try simp only[sA,sB,sC])
  refine' aD ok hns p12 p11 ?_
  (try simp only[sA,sB,sC])
  refine' aD ok hns p13 p11 ?_
  (try simp only[sA,sB,sC])
  refine' aD ok hns p14 p11 ?_
  (try simp only[sA,sB,sC])
  refine' aD ok hns p15 p11 ?_
  (try simp only[sA,sB,sC])
  refine' aD ok hns p16 p11 ?_
  (try simp only[sA,sB,sC])
  refine' aD ok hns p17 p11 ?_
  (try simp only[sA,sB,sC])
  refine' aD ok hns p18 p11 ?_
  (try simp only[sA,sB,sC])
  refine' aD ok hns p19 p11 ?_
  (try simp only[sA,sB,sC])
  refine' aD ok hns p20 p11 ?_
  (try simp only[sA,sB,sC])
  refine' aD ok hns p21 p11 ?_
  (try simp only[sA,sB,sC])
  refine' aD ok hns p22 p11 ?_
  (try simp only[sA,sB,sC])
  refine' aH ok hns p23 ?_
  (try simp only[sA,sB,sC])
  refine' aH ok hns p24 ?_
  (try simp only[sA,sB,sC])
  refine' aD ok hns p25 p24 ?_
  (try simp only[sA,sB,sC])
  refine' aD ok hns p26 p24 ?_
  (try simp only[sA,sB,sC])
  refine' aD ok hns p27 p24 ?_
  (try simp only[sA,sB,sC])
  refine' aD ok hns p28 p24 ?_
  (try simp only[sA,sB,sC])
  refine' aD ok hns p29 p24 ?_
  (try simp only[sA,sB,sC])
  refine' aD ok hns p30 p24 ?_
  (try simp only[sA,sB,sC])
  refine' aD ok hns p31 p24 ?_
  (try simp only[sA,sB,sC])
  refine' aD ok hns p32 p24 ?_
  (try simp only[sA,sB,sC])
  refine' wi (fun w'=>Below wr.drew.heap.size wr.drew w') (k:=33) (j:=50) (v:=.bool vc) r33 p33 rfl (by rw[gP (g:=24) (b:=false) (d:=41) rfl p24 rfl];kernel_rfl) (fun w' h=>⟨(X2.out.below h).lim,(Y2.out.below h).lim⟩) ?hc33 (fun w3 hb3 hS3=>?rr33)
  case hc33=>
   intro K hK;go_simp;refine(AL.out _).mono ?_;rintro e w2 ⟨rfl,hb2⟩;rw[CC.out]
   (try go_simp)
   exact hK w2 hb2
  clear hHeld
  (try simp only[sA,sB,sC])
  cases vc
  case false=>
   refine' aD ok hns p34 p24 ?_
   (try simp only[sA,sB,sC])
   refine' aH ok hns p35 ?_
   (try simp only[sA,sB,sC])
   refine' aH ok hns p36 ?_
   (try simp only[sA,sB,sC])
   refine' aC ok hns p37 p36 ?_
   (try simp only[sA,sB,sC])
   refine' aC ok hns p38 p36 ?_
   (try simp only[sA,sB,sC])
   refine' aC ok hns p39 p36 ?_
   (try simp only[sA,sB,sC])
   refine' aC ok hns p40 p36 ?_
   (try simp only[sA,sB,sC])
   refine' aC ok hns p41 p36 ?_
   (try simp only[sA,sB,sC])
   refine' aC ok hns p42 p36 ?_
   (try simp only[sA,sB,sC])
   refine' aC ok hns p43 p36 ?_
   (try simp only[sA,sB,sC])
   refine' aC ok hns p44 p36 ?_
   (try simp only[sA,sB,sC])
   refine' aC ok hns p45 p36 ?_
   (try simp only[sA,sB,sC])
   refine' aC ok hns p46 p36 ?_
   (try simp only[sA,sB,sC])
   refine' aC ok hns p47 p36 ?_
   (try simp only[sA,sB,sC])
   refine' aH ok hns p48 ?_
   (try simp only[sA,sB,sC])
   refine' aH ok hns p49 ?_
   (try simp only[sA,sB,sC])
   refine' aC ok hns p50 p49 ?_
   (try simp only[sA,sB,sC])
   refine' aC ok hns p51 p49 ?_
   (try simp only[sA,sB,sC])
   refine' aC ok hns p52 p49 ?_
   (try simp only[sA,sB,sC])
   refine' aC ok hns p53 p49 ?_
   (try simp only[sA,sB,sC])
   refine' aC ok hns p54 p49 ?_
   (try simp only[sA,sB,sC])
   refine' aC ok hns p55 p49 ?_
   (try simp only[sA,sB,sC])
   refine' aC ok hns p56 p49 ?_
   (try simp only[sA,sB,sC])
   refine' aC ok hns p57 p49 ?_
   (try simp only[sA,sB,sC])
   refine' aC ok hns p58 p49 ?_
   (try simp only[sA,sB,sC])
   refine' aC ok hns p59 p49 ?_
   (try simp only[sA,sB,sC])
   refine' aC ok hns p60 p49 ?_
   (try simp only[sA,sB,sC])
   refine' aC ok hns p61 p49 ?_
   (try simp only[sA,sB,sC])
   refine' aC ok hns p62 p49 ?_
   (try simp only[sA,sB,sC])
   refine' aH ok hns p63 ?_
   (try simp only[sA,sB,sC])
   refine lS r64 ?_;have B3:Hid (Below w.heap.size w w3):=aq B1.out (show Below wr.heap.size wr w3 from⟨hb3.os,hb3.tape,hb3.output,hb3.size,hb3.block⟩);clear hb3 hS3 X1 X2 Y1 Y2 B1 ok hns r33 r64 hsz p0 p1 p2 p3 p4 p5 p6 p7 p8 p9 p10 p11 p12 p13 p14 p15 p16 p17 p18 p19 p20 p21 p22 p23 p24 p25 p26 p27 p28 p29 p30 p31 p32 p33 p34 p35 p36 p37 p38 p39 p40 p41 p42 p43 p44 p45 p46 p47 p48 p49 p50 p51 p52 p53 p54 p55 p56 p57 p58 p59 p60 p61 p62 p63;go_wp2;go_ret;exact⟨congrArg (fun b=>Ending.returned (Value.bool b)) (NO.out (by rw[EQ.out];rfl)).symm,B3.out⟩
  case true=>
   refine' aD ok hns p34 p24 ?_
   (try simp only[sA,sB,sC])
   refine' aH ok hns p35 ?_
   (try simp only[sA,sB,sC])
   refine' aH ok hns p36 ?_
   (try simp only[sA,sB,sC])
   cases vk
   case false=>
    refine' aD ok hns p37 p36 ?_
    (try simp only[sA,sB,sC])
    refine' aD ok hns p38 p36 ?_
    (try simp only[sA,sB,sC])
    refine' aD ok hns p39 p36 ?_
    (try simp only[sA,sB,sC])
    refine' aD ok hns p40 p36 ?_
    (try simp only[sA,sB,sC])
    refine' aD ok hns p41 p36 ?_
    (try simp only[sA,sB,sC])
    refine' aD ok hns p42 p36 ?_
    (try simp only[sA,sB,sC])
    refine' aD ok hns p43 p36 ?_
    (try simp only[sA,sB,sC])
    refine' aD ok hns p44 p36 ?_
    (try simp only[sA,sB,sC])
    refine' aD ok hns p45 p36 ?_
    (try simp only[sA,sB,sC])
    refine' aD ok hns p46 p36 ?_
    (try simp only[sA,sB,sC])
    refine' aD ok hns p47 p36 ?_
    (try simp only[sA,sB,sC])
    refine' aH ok hns p48 ?_
    (try simp only[sA,sB,sC])
    refine' aH ok hns p49 ?_
    (try simp only[sA,sB,sC])
    refine' aC ok hns p50 p49 ?_
    (try simp only[sA,sB,sC])
    refine' aC ok hns p51 p49 ?_
    (try simp only[sA,sB,sC])
    refine' aC ok hns p52 p49 ?_
    (try simp only[sA,sB,sC])
    refine' aC ok hns p53 p49 ?_
    (try simp only[sA,sB,sC])
    refine' aC ok hns p54 p49 ?_
    (try simp only[sA,sB,sC])
    refine' aC ok hns p55 p49 ?_
    (try simp only[sA,sB,sC])
    refine' aC ok hns p56 p49 ?_
    (try simp only[sA,sB,sC])
    refine' aC ok hns p57 p49 ?_
    (try simp only[sA,sB,sC])
    refine' aC ok hns p58 p49 ?_
    (try simp only[sA,sB,sC])
    refine' aC ok hns p59 p49 ?_
    (try simp only[sA,sB,sC])
    refine' aC ok hns p60 p49 ?_
    (try simp only[sA,sB,sC])
    refine' aC ok hns p61 p49 ?_
    (try simp only[sA,sB,sC])
    refine' aC ok hns p62 p49 ?_
    (try simp only[sA,sB,sC])
    refine' aH ok hns p63 ?_
    (try simp only[sA,sB,sC])
    refine lS r64 ?_;have B3:Hid (Below w.heap.size w w3):=aq B1.out (show Below wr.heap.size wr w3 from⟨hb3.os,hb3.tape,hb3.output,hb3.size,hb3.block⟩);clear hb3 hS3 X1 X2 Y1 Y2 B1 ok hns r33 r64 hsz p0 p1 p2 p3 p4 p5 p6 p7 p8 p9 p10 p11 p12 p13 p14 p15 p16 p17 p18 p19 p20 p21 p22 p23 p24 p25 p26 p27 p28 p29 p30 p31 p32 p33 p34 p35 p36 p37 p38 p39 p40 p41 p42 p43 p44 p45 p46 p47 p48 p49 p50 p51 p52 p53 p54 p55 p56 p57 p58 p59 p60 p61 p62 p63;go_wp2;go_ret;exact⟨congrArg (fun b=>Ending.returned (Value.bool b)) (NO.out (by rw[EQ.out];rfl)).symm,B3.out⟩
   case true=>
    refine' aD ok hns p37 p36 ?_
    (try simp only[sA,sB,sC])
    refine' aD ok hns p38 p36 ?_
    (try simp only[sA,sB,sC])
    refine' aD ok hns p39 p36 ?_
    (try simp only[sA,sB,sC])
    refine' aD ok hns p40 p36 ?_
    (try simp only[sA,sB,sC])
    refine' aD ok hns p41 p36 ?_
    (try simp only[sA,sB,sC])
    refine' aD ok hns p42 p36 ?_
    (try simp only[sA,sB,sC])
    refine' aD ok hns p43 p36 ?_
    (try simp only[sA,sB,sC])
    refine' aD ok hns p44 p36 ?_
    (try simp only[sA,sB,sC])
    refine' aD ok hns p45 p36 ?_
    (try simp only[sA,sB,sC])
    refine' aD ok hns p46 p36 ?_
    (try simp only[sA,sB,sC])
    refine' aD ok hns p47 p36 ?_
    (try simp only[sA,sB,sC])
    refine' aH ok hns p48 ?_
    (try simp only[sA,sB,sC])
    refine' aH ok hns p49 ?_
    (try simp only[sA,sB,sC])
    cases vd
    case false=>
     refine' aD ok hns p50 p49 ?_
     (try simp only[sA,sB,sC])
     refine' aD ok hns p51 p49 ?_
     (try simp only[sA,sB,sC])
     refine' aD ok hns p52 p49 ?_
     (try simp only[sA,sB,sC])
     refine' aD ok hns p53 p49 ?_
     (try simp only[sA,sB,sC])
     refine' aD ok hns p54 p49 ?_
     (try simp only[sA,sB,sC])
     refine' aD ok hns p55 p49 ?_
     (try simp only[sA,sB,sC])
     refine' aD ok hns p56 p49 ?_
     (try simp only[sA,sB,sC])
     refine' aD ok hns p57 p49 ?_
     (try simp only[sA,sB,sC])
     refine' aD ok hns p58 p49 ?_
     (try simp only[sA,sB,sC])
     refine' aD ok hns p59 p49 ?_
     (try simp only[sA,sB,sC])
     refine' aD ok hns p60 p49 ?_
     (try simp only[sA,sB,sC])
     refine' aD ok hns p61 p49 ?_
     (try simp only[sA,sB,sC])
     refine' aD ok hns p62 p49 ?_
     (try simp only[sA,sB,sC])
     refine' aH ok hns p63 ?_
     (try simp only[sA,sB,sC])
     refine lS r64 ?_;have B3:Hid (Below w.heap.size w w3):=aq B1.out (show Below wr.heap.size wr w3 from⟨hb3.os,hb3.tape,hb3.output,hb3.size,hb3.block⟩);clear hb3 hS3 X1 X2 Y1 Y2 B1 ok hns r33 r64 hsz p0 p1 p2 p3 p4 p5 p6 p7 p8 p9 p10 p11 p12 p13 p14 p15 p16 p17 p18 p19 p20 p21 p22 p23 p24 p25 p26 p27 p28 p29 p30 p31 p32 p33 p34 p35 p36 p37 p38 p39 p40 p41 p42 p43 p44 p45 p46 p47 p48 p49 p50 p51 p52 p53 p54 p55 p56 p57 p58 p59 p60 p61 p62 p63;go_wp2;go_ret;exact⟨congrArg (fun b=>Ending.returned (Value.bool b)) (NO.out (by rw[EQ.out];rfl)).symm,B3.out⟩
    case true=>
     refine' aD ok hns p50 p49 ?_
     (try simp only[sA,sB,sC])
     refine' aD ok hns p51 p49 ?_
     (try simp only[sA,sB,sC])
     refine' aD ok hns p52 p49 ?_
     (try simp only[sA,sB,sC])
     refine' aD ok hns p53 p49 ?_
     (try simp only[sA,sB,sC])
     refine' aD ok hns p54 p49 ?_
     (try simp only[sA,sB,sC])
     refine' aD ok hns p55 p49 ?_
     (try simp only[sA,sB,sC])
     refine' aD ok hns p56 p49 ?_
     (try simp only[sA,sB,sC])
     refine' aD ok hns p57 p49 ?_
     (try simp only[sA,sB,sC])
     refine' aD ok hns p58 p49 ?_
     (try simp only[sA,sB,sC])
     refine' aD ok hns p59 p49 ?_
     (try simp only[sA,sB,sC])
     refine' aD ok hns p60 p49 ?_
     (try simp only[sA,sB,sC])
     refine' aD ok hns p61 p49 ?_
     (try simp only[sA,sB,sC])
     refine' aD ok hns p62 p49 ?_
     (try simp only[sA,sB,sC])
     refine' aH ok hns p63 ?_
     (try simp only[sA,sB,sC])
     refine lS r64 ?_;have B3:Hid (Below w.heap.size w w3):=aq B1.out (show Below wr.heap.size wr w3 from⟨hb3.os,hb3.tape,hb3.output,hb3.size,hb3.block⟩);clear hb3 hS3 X1 X2 Y1 Y2 B1 ok hns r33 r64 hsz p0 p1 p2 p3 p4 p5 p6 p7 p8 p9 p10 p11 p12 p13 p14 p15 p16 p17 p18 p19 p20 p21 p22 p23 p24 p25 p26 p27 p28 p29 p30 p31 p32 p33 p34 p35 p36 p37 p38 p39 p40 p41 p42 p43 p44 p45 p46 p47 p48 p49 p50 p51 p52 p53 p54 p55 p56 p57 p58 p59 p60 p61 p62 p63;go_wp2;go_roundw
     case rel=>exact⟨k+1,by omega,by go_num,B3,YES.out (by rw[EQ.out];rfl)⟩
     case measure=>simp[intOf];omega
def oc (a b:dH):Bool:=cv a.pk b.pk&&(iA gn a.conf b.conf&&iA nA a.ents b.ents)
structure AM (w wr:World) (a b:dH):Prop where
 one:ax wr w.heap.size a.cells
 two:ax wr (w.heap.size+1) b.cells
 bel:Below w.heap.size w wr
theorem AM.step {a b:dH}(h:AM w wr a b)(hb:Below wr.heap.size wr w'):AM w w' a b:=⟨h.one.below hb,h.two.below hb,aq h.bel hb⟩
theorem AM.start (w:World)(a b:dH):AM w ((w.alloc (.cells #[.string a.pk.nm,.string a.pk.ver,.string a.pk.ar,.string a.pk.sm,.slice a.pk.na a.pk.needs.length a.pk.nc,.slice a.pk.ba a.pk.bars.length a.pk.bc,.slice a.pk.ga a.pk.gives.length a.pk.gc,.slice a.pk.fa a.pk.files.length a.pk.fc,.slice a.pk.sa a.pk.scripts.length a.pk.sc,.slice a.ca a.conf.length a.cc,.slice a.ea a.ents.length a.ec] 30)).alloc (.cells #[.string b.pk.nm,.string b.pk.ver,.string b.pk.ar,.string b.pk.sm,.slice b.pk.na b.pk.needs.length b.pk.nc,.slice b.pk.ba b.pk.bars.length b.pk.bc,.slice b.pk.ga b.pk.gives.length b.pk.gc,.slice b.pk.fa b.pk.files.length b.pk.fc,.slice b.pk.sa b.pk.scripts.length b.pk.sc,.slice b.ca b.conf.length b.cc,.slice b.ea b.ents.length b.ec] 30)) a b:=by
 have h2:=ax.new (w.alloc (.cells #[.string a.pk.nm,.string a.pk.ver,.string a.pk.ar,.string a.pk.sm,.slice a.pk.na a.pk.needs.length a.pk.nc,.slice a.pk.ba a.pk.bars.length a.pk.bc,.slice a.pk.ga a.pk.gives.length a.pk.gc,.slice a.pk.fa a.pk.files.length a.pk.fc,.slice a.pk.sa a.pk.scripts.length a.pk.sc,.slice a.ca a.conf.length a.cc,.slice a.ea a.ents.length a.ec] 30)) b.cells 30;simp only[World.size_alloc] at h2;exact⟨(ax.new w a.cells _).alloc _,h2,(bR.alloc lr _).alloc (by simp) _⟩
theorem Dy (a b:dH)(w:World)(ha:a.ok w)(hb:b.ok w)(fa:a.fits)(fb:b.fits)(na:a.ents.length<=100000)(nb:b.ents.length<=100000):Calls Tryz.prog 9 #[a.val,b.val] w fun e w'=>e=.returned (.bool (oc a b))/\Below w.heap.size w w':=by
 have HA:=ae ha;have HB:=ae hb;have FA:=ae fa;have FB:=ae fb;clear ha hb fa fb;obtain⟨W0,hW0⟩:∃ W0,((w.alloc (.cells #[.string a.pk.nm,.string a.pk.ver,.string a.pk.ar,.string a.pk.sm,.slice a.pk.na a.pk.needs.length a.pk.nc,.slice a.pk.ba a.pk.bars.length a.pk.bc,.slice a.pk.ga a.pk.gives.length a.pk.gc,.slice a.pk.fa a.pk.files.length a.pk.fc,.slice a.pk.sa a.pk.scripts.length a.pk.sc,.slice a.ca a.conf.length a.cc,.slice a.ea a.ents.length a.ec] 30)).alloc (.cells #[.string b.pk.nm,.string b.pk.ver,.string b.pk.ar,.string b.pk.sm,.slice b.pk.na b.pk.needs.length b.pk.nc,.slice b.pk.ba b.pk.bars.length b.pk.bc,.slice b.pk.ga b.pk.gives.length b.pk.gc,.slice b.pk.fa b.pk.files.length b.pk.fc,.slice b.pk.sa b.pk.scripts.length b.pk.sc,.slice b.ca b.conf.length b.cc,.slice b.ea b.ents.length b.ec] 30))=W0:=⟨_,rfl⟩
 have P0:Hid (AM w W0 a b):=by show AM _ _ _ _;rw[<-hW0];exact AM.start w a b
 have b0:=P0.out.one.cell 0 _ rfl;have d0:=P0.out.two.cell 0 _ rfl;have b1:=P0.out.one.cell 1 _ rfl;have d1:=P0.out.two.cell 1 _ rfl;have b2:=P0.out.one.cell 2 _ rfl;have d2:=P0.out.two.cell 2 _ rfl;have b3:=P0.out.one.cell 3 _ rfl;have d3:=P0.out.two.cell 3 _ rfl;have b4:=P0.out.one.cell 4 _ rfl;have d4:=P0.out.two.cell 4 _ rfl;have b5:=P0.out.one.cell 5 _ rfl;have d5:=P0.out.two.cell 5 _ rfl;have b6:=P0.out.one.cell 6 _ rfl;have d6:=P0.out.two.cell 6 _ rfl;have b7:=P0.out.one.cell 7 _ rfl;have d7:=P0.out.two.cell 7 _ rfl;have b8:=P0.out.one.cell 8 _ rfl;have d8:=P0.out.two.cell 8 _ rfl;have b9:=P0.out.one.cell 9 _ rfl;have d9:=P0.out.two.cell 9 _ rfl;have b10:=P0.out.one.cell 10 _ rfl;have d10:=P0.out.two.cell 10 _ rfl;have CO:=zP a.pk b.pk W0 (HA.out.pk.below P0.out.bel) (HB.out.pk.below P0.out.bel) FA.out.pk FB.out.pk;unfold bK.val at CO;unfold dH.val;go_in;go_wp2_with fail;clear hW0 b0 d0 b1 d1 b2 d2 b3 d3 b4 d4 b5 d5 b6 d6 b7 d7 b8 d8 b9 d9 b10 d10;refine CO.mono ?_;rintro e w1 ⟨rfl,hb1⟩;have P1:=ae (P0.out.step hb1);clear CO hb1 P0;cases h1:cv a.pk b.pk
 case false=>
  have E:Hid (oc a b=false):=by show _=_;unfold oc;rw[h1];rfl
  clear h1;go_wp2;go_ret;exact⟨af E.out.symm,P1.out.bel⟩
 have b9:=P1.out.one.cell 9 _ rfl;have d9:=P1.out.two.cell 9 _ rfl;go_wp2_with fail;clear b9 d9;refine(bP a.ca b.ca a.cc b.cc a.conf b.conf w1 (HA.out.conf.below P1.out.bel) (HB.out.conf.below P1.out.bel) FA.out.conf FB.out.conf).mono ?_;rintro e w2 ⟨rfl,hb2⟩;have P2:=ae (P1.out.step hb2);clear hb2 P1;cases h2:iA gn a.conf b.conf
 case false=>
  have E:Hid (oc a b=false):=by show _=_;unfold oc;rw[h1,h2];rfl
  clear h1 h2;go_wp2;go_ret;exact⟨af E.out.symm,P2.out.bel⟩
 have E:Hid (oc a b=iA nA a.ents b.ents):=by show _=_;unfold oc;rw[h1,h2];simp
 clear h1 h2;have b10:=P2.out.one.cell 10 _ rfl;have d10:=P2.out.two.cell 10 _ rfl;go_wp2_with fail;clear b10 d10;refine(yV a.ea b.ea a.ec b.ec a.ents b.ents w2 (HA.out.ents.below P2.out.bel) (HB.out.ents.below P2.out.bel) na nb (fun x hx=>(FA.out.ents_ x hx).data) (fun x hx=>(FB.out.ents_ x hx).data)).mono ?_;rintro e w3 ⟨rfl,hb3⟩;have P3:=ae (P2.out.step hb3);clear hb3;go_wp2;go_ret;exact⟨af E.out.symm,P3.out.bel⟩
theorem qy (A B:OA)(c d:Nat)(l m:LU)(w:World)(h1:Rd w 1 A l.length (l.map vb))(h2:Rd w 1 B m.length (m.map vb)):Calls Tryz.prog 75 #[.slice A l.length c,.slice B m.length d] w fun e w'=>e=.returned (.bool (decide (l=m)))/\w=w':=by
 have k1:=ry (c:=c) h1;have k2:=ry (c:=d) h2;go_in;go_wp2;go_ret;exact⟨by rw[<-N4 l m];rfl,rfl⟩
structure Oq (w wr:World) (x y:ag):Prop where
 one:ax wr w.heap.size x.cells
 two:ax wr (w.heap.size+1) y.cells
 dx:Rd wr 1 x.da x.data.length (x.data.map vb)
 dy:Rd wr 1 y.da y.data.length (y.data.map vb)
 bel:Below w.heap.size w wr
theorem Oq.step {x y:ag}(h:Oq w wr x y)(hb:Below wr.heap.size wr w'):Oq w w' x y:=⟨h.one.below hb,h.two.below hb,h.dx.below hb,h.dy.below hb,aq h.bel hb⟩
theorem Oq.start (w:World)(x y:ag)(hx:Rd w 1 x.da x.data.length (x.data.map vb))(hy:Rd w 1 y.da y.data.length (y.data.map vb)):Oq w ((w.alloc (.cells #[.string x.path,.int .i64 x.kind,.int .i64 x.mode,.int .i64 x.uid,.int .i64 x.gid,.string x.owner,.string x.group,.int .i64 x.mtime,.string x.link,.slice x.da x.data.length x.dc] 35)).alloc (.cells #[.string y.path,.int .i64 y.kind,.int .i64 y.mode,.int .i64 y.uid,.int .i64 y.gid,.string y.owner,.string y.group,.int .i64 y.mtime,.string y.link,.slice y.da y.data.length y.dc] 35)) x y:=by
 have h2:=ax.new (w.alloc (.cells #[.string x.path,.int .i64 x.kind,.int .i64 x.mode,.int .i64 x.uid,.int .i64 x.gid,.string x.owner,.string x.group,.int .i64 x.mtime,.string x.link,.slice x.da x.data.length x.dc] 35)) y.cells 35;simp only[World.size_alloc] at h2;have hb:Below w.heap.size w ((w.alloc (.cells #[.string x.path,.int .i64 x.kind,.int .i64 x.mode,.int .i64 x.uid,.int .i64 x.gid,.string x.owner,.string x.group,.int .i64 x.mtime,.string x.link,.slice x.da x.data.length x.dc] 35)).alloc (.cells #[.string y.path,.int .i64 y.kind,.int .i64 y.mode,.int .i64 y.uid,.int .i64 y.gid,.string y.owner,.string y.group,.int .i64 y.mtime,.string y.link,.slice y.da y.data.length y.dc] 35)):=(bR.alloc lr _).alloc (by simp) _;exact⟨(ax.new w x.cells _).alloc _,h2,hx.below hb,hy.below hb,hb⟩
theorem Oq.lim {W:World}{x y:ag}(h:Oq w W x y):(W.cell? ⟨w.heap.size,0,none⟩=some (.string x.path)/\W.cell? ⟨w.heap.size,1,none⟩=some (.int .i64 x.kind)/\W.cell? ⟨w.heap.size,2,none⟩=some (.int .i64 x.mode)/\W.cell? ⟨w.heap.size,3,none⟩=some (.int .i64 x.uid)/\W.cell? ⟨w.heap.size,4,none⟩=some (.int .i64 x.gid)/\W.cell? ⟨w.heap.size,5,none⟩=some (.string x.owner)/\W.cell? ⟨w.heap.size,6,none⟩=some (.string x.group)/\W.cell? ⟨w.heap.size,7,none⟩=some (.int .i64 x.mtime)/\W.cell? ⟨w.heap.size,8,none⟩=some (.string x.link)/\W.cell? ⟨w.heap.size,9,none⟩=some (.slice x.da x.data.length x.dc))/\(W.cell? ⟨w.heap.size+1,0,none⟩=some (.string y.path)/\W.cell? ⟨w.heap.size+1,1,none⟩=some (.int .i64 y.kind)/\W.cell? ⟨w.heap.size+1,2,none⟩=some (.int .i64 y.mode)/\W.cell? ⟨w.heap.size+1,3,none⟩=some (.int .i64 y.uid)/\W.cell? ⟨w.heap.size+1,4,none⟩=some (.int .i64 y.gid)/\W.cell? ⟨w.heap.size+1,5,none⟩=some (.string y.owner)/\W.cell? ⟨w.heap.size+1,6,none⟩=some (.string y.group)/\W.cell? ⟨w.heap.size+1,7,none⟩=some (.int .i64 y.mtime)/\W.cell? ⟨w.heap.size+1,8,none⟩=some (.string y.link)/\W.cell? ⟨w.heap.size+1,9,none⟩=some (.slice y.da y.data.length y.dc)):=
 ⟨⟨h.one.cell 0 _ rfl,h.one.cell 1 _ rfl,h.one.cell 2 _ rfl,h.one.cell 3 _ rfl,h.one.cell 4 _ rfl,h.one.cell 5 _ rfl,h.one.cell 6 _ rfl,h.one.cell 7 _ rfl,h.one.cell 8 _ rfl,h.one.cell 9 _ rfl⟩,⟨h.two.cell 0 _ rfl,h.two.cell 1 _ rfl,h.two.cell 2 _ rfl,h.two.cell 3 _ rfl,h.two.cell 4 _ rfl,h.two.cell 5 _ rfl,h.two.cell 6 _ rfl,h.two.cell 7 _ rfl,h.two.cell 8 _ rfl,h.two.cell 9 _ rfl⟩⟩
theorem Ic (x:ag)(w:World):Calls Tryz.prog 74 #[.agg #[.string x.path,.int .i64 x.kind,.int .i64 x.mode,.int .i64 x.uid,.int .i64 x.gid,.string x.owner,.string x.group,.int .i64 x.mtime,.string x.link,.slice x.da x.data.length x.dc]] w fun e w'=>e=.returned (.agg #[.int .i64 x.mode,.int .i64 x.uid,.int .i64 x.gid,.string x.owner,.string x.group,.int .i64 x.mtime])/\Below w.heap.size w w':=nr x w
theorem GC (x y:ag)(w:World):(binOp .eql 115 (.agg #[.int .i64 x.mode,.int .i64 x.uid,.int .i64 x.gid,.string x.owner,.string x.group,.int .i64 x.mtime]) (.agg #[.int .i64 y.mode,.int .i64 y.uid,.int .i64 y.gid,.string y.owner,.string y.group,.int .i64 y.mtime])).run Tryz.prog w=.ok (.bool (gh x y)) w:=by
 go_simp;unfold gh
 (repeat' split)<;>simp_all
theorem sj (x y:ag)(w:World)(hx:Rd w 1 x.da x.data.length (x.data.map vb))(hy:Rd w 1 y.da y.data.length (y.data.map vb))(fx:x.fits)(fy:y.fits):Calls Tryz.prog 73 #[x.val,y.val] w fun e w'=>e=.returned (.bool (nA x y))/\Below w.heap.size w w':=by
 have fx':=fx.data;have fy':=fy.data;clear fx fy fx' fy';obtain⟨W0,hW0⟩:∃ W0,((w.alloc (.cells #[.string x.path,.int .i64 x.kind,.int .i64 x.mode,.int .i64 x.uid,.int .i64 x.gid,.string x.owner,.string x.group,.int .i64 x.mtime,.string x.link,.slice x.da x.data.length x.dc] 35)).alloc (.cells #[.string y.path,.int .i64 y.kind,.int .i64 y.mode,.int .i64 y.uid,.int .i64 y.gid,.string y.owner,.string y.group,.int .i64 y.mtime,.string y.link,.slice y.da y.data.length y.dc] 35))=W0:=⟨_,rfl⟩
 have P0:Hid (Oq w W0 x y):=by show Oq _ _ _ _;rw[<-hW0];exact Oq.start w x y hx hy
 clear hx hy;obtain⟨vp,hp⟩:∃ v,(x.path.toList==y.path.toList)=v:=⟨_,rfl⟩
 obtain⟨vn,hnn⟩:∃ v,(x.kind==y.kind)=v:=⟨_,rfl⟩
 obtain⟨vc,hcc⟩:∃ v,gh x y=v:=⟨_,rfl⟩
 obtain⟨vk,hkk⟩:∃ v,(x.link.toList==y.link.toList)=v:=⟨_,rfl⟩
 obtain⟨vd,hdd⟩:∃ v,decide (x.data=y.data)=v:=⟨_,rfl⟩
 have EQ:Hid (nA x y=(vp&&(vn&&(vc&&(vk&&vd))))):=by show _=_;unfold nA;rw[hp,hnn,hcc,hkk,hdd]
 have eqc:=fun W=>GC x y W;rw[hcc] at eqc;have DD:=ae hdd;clear hcc hdd;unfold ag.val;go_in;go_wp2_with fail;clear hW0;refine Kz (Ky fun O hO=>?_);have p0:=az (k:=0) hO rfl;have p1:=az (k:=1) hO rfl;have p2:=az (k:=2) hO rfl;have p3:=az (k:=3) hO rfl;have p4:=az (k:=4) hO rfl;have p5:=az (k:=5) hO rfl;have p6:=az (k:=6) hO rfl;have p7:=az (k:=7) hO rfl;have p8:=az (k:=8) hO rfl;have p9:=az (k:=9) hO rfl;have p10:=az (k:=10) hO rfl;have p11:=az (k:=11) hO rfl;have p12:=az (k:=12) hO rfl;have p13:=az (k:=13) hO rfl;have p14:=az (k:=14) hO rfl;have p15:=az (k:=15) hO rfl;have p16:=az (k:=16) hO rfl;have p17:=az (k:=17) hO rfl;have p18:=az (k:=18) hO rfl;have p19:=az (k:=19) hO rfl;have p20:=az (k:=20) hO rfl;have p21:=az (k:=21) hO rfl;have p22:=az (k:=22) hO rfl;have p23:=az (k:=23) hO rfl;have p24:=az (k:=24) hO rfl;have p25:=az (k:=25) hO rfl;have p26:=az (k:=26) hO rfl;have p27:=az (k:=27) hO rfl;have p28:=az (k:=28) hO rfl;have p29:=az (k:=29) hO rfl;have p30:=az (k:=30) hO rfl;have p31:=az (k:=31) hO rfl;have p32:=az (k:=32) hO rfl;have p33:=az (k:=33) hO rfl;have ok:∀ k,k<34->pn O k=true:=by
  have h:(List.range 34).all (pn O)=true:=by rw[hO];kernel_rfl
  intro k hk;exact List.all_eq_true.1 h k (List.mem_range.2 hk)
 have hns:Region.noSelect O=true:=by rw[hO];kernel_rfl
 have r23:Region.ready .any O (kE O.size 23)=[23]:=by rw[hO];kernel_rfl
 have r31:Region.ready .any O (kE O.size 31)=[31]:=by rw[hO];kernel_rfl
 have r21:Region.ready .any O ((kE O.size 21).setIfInBounds 22 true)=[21]:=by rw[hO];kernel_rfl
 have f22:Region.free .any O (kE O.size 21) 22=true:=by rw[hO];kernel_rfl
 have c22:(Region.ready .any O (kE O.size 21)).contains 22=true:=by rw[hO];kernel_rfl
 have r34:Region.ready .any O (kE O.size 34)=[]:=by rw[hO];kernel_rfl
 have hsz:O.size=34:=by rw[hO];rfl
 clear hO;have Q0:=ae (P0.out.step (bS (Below.refl _ W0)));refine rB (S:=fun w'=>(w'.cell? ⟨w.heap.size,0,none⟩=some (.string x.path)/\w'.cell? ⟨w.heap.size,1,none⟩=some (.int .i64 x.kind)/\w'.cell? ⟨w.heap.size,2,none⟩=some (.int .i64 x.mode)/\w'.cell? ⟨w.heap.size,3,none⟩=some (.int .i64 x.uid)/\w'.cell? ⟨w.heap.size,4,none⟩=some (.int .i64 x.gid)/\w'.cell? ⟨w.heap.size,5,none⟩=some (.string x.owner)/\w'.cell? ⟨w.heap.size,6,none⟩=some (.string x.group)/\w'.cell? ⟨w.heap.size,7,none⟩=some (.int .i64 x.mtime)/\w'.cell? ⟨w.heap.size,8,none⟩=some (.string x.link)/\w'.cell? ⟨w.heap.size,9,none⟩=some (.slice x.da x.data.length x.dc))/\(w'.cell? ⟨w.heap.size+1,0,none⟩=some (.string y.path)/\w'.cell? ⟨w.heap.size+1,1,none⟩=some (.int .i64 y.kind)/\w'.cell? ⟨w.heap.size+1,2,none⟩=some (.int .i64 y.mode)/\w'.cell? ⟨w.heap.size+1,3,none⟩=some (.int .i64 y.uid)/\w'.cell? ⟨w.heap.size+1,4,none⟩=some (.int .i64 y.gid)/\w'.cell? ⟨w.heap.size+1,5,none⟩=some (.string y.owner)/\w'.cell? ⟨w.heap.size+1,6,none⟩=some (.string y.group)/\w'.cell? ⟨w.heap.size+1,7,none⟩=some (.int .i64 y.mtime)/\w'.cell? ⟨w.heap.size+1,8,none⟩=some (.string y.link)/\w'.cell? ⟨w.heap.size+1,9,none⟩=some (.slice y.da y.data.length y.dc))) (by kernel_rfl) Q0.out.lim (fun hHeld=>?_);rw[show wpAnyH _ _ O _ _ O.size=wpAnyH _ _ O _ _ 34 by rw[hsz]];refine' aH ok hns p0 ?_
 (try simp only[sA,sB,sC])
 refine' aH ok hns p1 ?_
 (try simp only[sA,sB,sC])
 refine' aH ok hns p2 ?_
 (try simp only[sA,sB,sC])
 refine' aH ok hns p3 ?_
 (try simp only[sA,sB,sC])
 refine' aH ok hns p4 ?_
 (try simp only[sA,sB,sC])
 refine' aH ok hns p5 ?_
 (try simp only[sA,sB,sC])
 cases vp
 case false=>
  refine' aC ok hns p6 p5 ?_
  (try simp only[sA,sB,sC])
  refine' aC ok hns p7 p5 ?_
  (try simp only[sA,sB,sC])
  refine' aC ok hns p8 p5 ?_
  (try simp only[sA,sB,sC])
  refine' aC ok hns p9 p5 ?_
  (try simp only[sA,sB,sC])
  refine' aC ok hns p10 p5 ?_
  (try simp only[sA,sB,sC])
  refine' aH ok hns p11 ?_
  (try simp only[sA,sB,sC])
  refine' aH ok hns p12 ?_
  (try simp only[sA,sB,sC])
  refine' aC ok hns p13 p12 ?_
  (try simp only[sA,sB,sC])
  refine' aC ok hns p14 p12 ?_
  (try simp only[sA,sB,sC])
  refine' aC ok hns p15 p12 ?_
  (try simp only[sA,sB,sC])
  refine' aC ok hns p16 p12 ?_
  (try simp only[sA,sB,sC])
  refine' aC ok hns p17 p12 ?_
  (try simp only[sA,sB,sC])
  refine' aH ok hns p18 ?_
  (try simp only[sA,sB,sC])
  refine' aH ok hns p19 ?_
  (try simp only[sA,sB,sC])
  refine' aC ok hns p20 p19 ?_
  (try simp only[sA,sB,sC])
  refine' aC ok hns p21 p19 ?_
  (try simp only[sA,sB,sC])
  refine' aC ok hns p22 p19 ?_
  (try simp only[sA,sB,sC])
  refine' aC ok hns p23 p19 ?_
  (try simp only[sA,sB,sC])
  refine' aC ok hns p24 p19 ?_
  (try simp only[sA,sB,sC])
  refine' aH ok hns p25 ?_
  (try simp only[sA,sB,sC])
  refine' aH ok hns p26 ?_
  (try simp only[sA,sB,sC])
  refine' aC ok hns p27 p26 ?_
  (try simp only[sA,sB,sC])
  refine' aC ok hns p28 p26 ?_
  (try simp only[sA,sB,sC])
  refine' aC ok hns p29 p26 ?_
  (try simp only[sA,sB,sC])
  refine' aC ok hns p30 p26 ?_
  (try simp only[sA,sB,sC])
  refine' aC ok hns p31 p26 ?_
  (try simp only[sA,sB,sC])
  refine' aH ok hns p32 ?_
  (try simp only[sA,sB,sC])
  refine' aH ok hns p33 ?_
  (try simp only[sA,sB,sC])
  refine lS r34 ?_;have B9:Hid (Below w.heap.size w _):=Q0.out.bel;have ER:Hid (nA x y=false):=by show _=_;simp[EQ.out]
  clear ok hns r21 f22 c22 r23 r31 r34 hsz p0 p1 p2 p3 p4 p5 p6 p7 p8 p9 p10 p11 p12 p13 p14 p15 p16 p17 p18 p19 p20 p21 p22 p23 p24 p25 p26 p27 p28 p29 p30 p31 p32 p33;go_wp2;go_ret;exact⟨af ER.out.symm,B9.out⟩
 case true=>
  refine' aD ok hns p6 p5 ?_
  (try simp only[sA,sB,sC])
  refine' aD ok hns p7 p5 ?_
  (try simp only[sA,sB,sC])
  refine' aD ok hns p8 p5 ?_
  (try simp only[sA,sB,sC])
  refine' aD ok hns p9 p5 ?_
  (try simp only[sA,sB,sC])
  refine' aD ok hns p10 p5 ?_
  (try simp only[sA,sB,sC])
  refine' aH ok hns p11 ?_
  (try simp only[sA,sB,sC])
  refine' aH ok hns p12 ?_
  (try simp only[sA,sB,sC])
  cases vn
  case false=>
   refine' aC ok hns p13 p12 ?_
   (try simp only[sA,sB,sC])
   refine' aC ok hns p14 p12 ?_
   (try simp only[sA,sB,sC])
   refine' aC ok hns p15 p12 ?_
   (try simp only[sA,sB,sC])
   refine' aC ok hns p16 p12 ?_
   (try simp only[sA,sB,sC])
   refine' aC ok hns p17 p12 ?_
   (try simp only[sA,sB,sC])
   refine' aH ok hns p18 ?_
   (try simp only[sA,sB,sC])
   refine' aH ok hns p19 ?_
   (try simp only[sA,sB,sC])
   refine' aC ok hns p20 p19 ?_
   (try simp only[sA,sB,sC])
   refine' aC ok hns p21 p19 ?_
   (try simp only[sA,sB,sC])
   refine' aC ok hns p22 p19 ?_
   (try simp only[sA,sB,sC])
   refine' aC ok hns p23 p19 ?_
   (try simp only[sA,sB,sC])
   refine' aC ok hns p24 p19 ?_
   (try simp only[sA,sB,sC])
   refine' aH ok hns p25 ?_
   (try simp only[sA,sB,sC])
   refine' aH ok hns p26 ?_
   (try simp only[sA,sB,sC])
   refine' aC ok hns p27 p26 ?_
   (try simp only[sA,sB,sC])
   refine' aC ok hns p28 p26 ?_
   (try simp only[sA,sB,sC])
   refine' aC ok hns p29 p26 ?_
   (try simp only[sA,sB,sC])
   refine' aC ok hns p30 p26 ?_
   (try simp only[sA,sB,sC])
   refine' aC ok hns p31 p26 ?_
   (try simp only[sA,sB,sC])
   refine' aH ok hns p32 ?_
   (try simp only[sA,sB,sC])
   refine' aH ok hns p33 ?_
   (try simp only[sA,sB,sC])
   refine lS r34 ?_;have B9:Hid (Below w.heap.size w _):=Q0.out.bel;have ER:Hid (nA x y=false):=by show _=_;simp[EQ.out]
   clear ok hns r21 f22 c22 r23 r31 r34 hsz p0 p1 p2 p3 p4 p5 p6 p7 p8 p9 p10 p11 p12 p13 p14 p15 p16 p17 p18 p19 p20 p21 p22 p23 p24 p25 p26 p27 p28 p29 p30 p31 p32 p33;go_wp2;go_ret;exact⟨af ER.out.symm,B9.out⟩
  case true=>
   refine' aD ok hns p13 p12 ?_
   (try simp only[sA,sB,sC])
   refine' aD ok hns p14 p12 ?_
   (try simp only[sA,sB,sC])
   refine' aD ok hns p15 p12 ?_
   (try simp only[sA,sB,sC])
   refine' aD ok hns p16 p12 ?_
   (try simp only[sA,sB,sC])
   refine' aD ok hns p17 p12 ?_
   (try simp only[sA,sB,sC])
   refine' aH ok hns p18 ?_
   (try simp only[sA,sB,sC])
   refine' aH ok hns p19 ?_
   (try simp only[sA,sB,sC])
   cases vk
   case false=>
    refine' aC ok hns p20 p19 ?_
    (try simp only[sA,sB,sC])
    refine' aC ok hns p21 p19 ?_
    (try simp only[sA,sB,sC])
    refine' aC ok hns p22 p19 ?_
    (try simp only[sA,sB,sC])
    refine' aC ok hns p23 p19 ?_
    (try simp only[sA,sB,sC])
    refine' aC ok hns p24 p19 ?_
    (try simp only[sA,sB,sC])
    refine' aH ok hns p25 ?_
    (try simp only[sA,sB,sC])
    refine' aH ok hns p26 ?_
    (try simp only[sA,sB,sC])
    refine' aC ok hns p27 p26 ?_
    (try simp only[sA,sB,sC])
    refine' aC ok hns p28 p26 ?_
    (try simp only[sA,sB,sC])
    refine' aC ok hns p29 p26 ?_
    (try simp only[sA,sB,sC])
    refine' aC ok hns p30 p26 ?_
    (try simp only[sA,sB,sC])
    refine' aC ok hns p31 p26 ?_
    (try simp only[sA,sB,sC])
    refine' aH ok hns p32 ?_
    (try simp only[sA,sB,sC])
    refine' aH ok hns p33 ?_
    (try simp only[sA,sB,sC])
    refine lS r34 ?_;have B9:Hid (Below w.heap.size w _):=Q0.out.bel;have ER:Hid (nA x y=false):=by show _=_;simp[EQ.out]
    clear ok hns r21 f22 c22 r23 r31 r34 hsz p0 p1 p2 p3 p4 p5 p6 p7 p8 p9 p10 p11 p12 p13 p14 p15 p16 p17 p18 p19 p20 p21 p22 p23 p24 p25 p26 p27 p28 p29 p30 p31 p32 p33;go_wp2;go_ret;exact⟨af ER.out.symm,B9.out⟩
   case true=>
    refine' aD ok hns p20 p19 ?_
    (try simp only[sA,sB,sC])
    refine' PJ hns f22 c22 p22 p19 ?_
    (try simp only[sA,sB,sC])
    refine' Ry (fun w'=>Below W0.drew.heap.size W0.drew w') (k:=21) (j:=26) (v:=.agg #[.int .i64 x.mode,.int .i64 x.uid,.int .i64 x.gid,.string x.owner,.string x.group,.int .i64 x.mtime]) r21 p21 rfl (by rw[gP (g:=19) (b:=true) (d:=24) rfl p19 rfl];kernel_rfl) (fun w' h=>(Q0.out.step h).lim) ?hc1 (fun w3 hb1 hS1=>?rr1)
    case hc1=>
     intro K hK;go_simp;refine(Ic x _).mono ?_;rintro e w2 ⟨rfl,hb2⟩
     (try go_simp)
     exact hK w2 hb2
    have Q1:=ae (Q0.out.step hb1);clear hb1 hHeld
    (try simp only[sA,sB,sC])
    refine' wi (fun w'=>Below w3.heap.size w3 w') (k:=23) (j:=28) (v:=.agg #[.int .i64 y.mode,.int .i64 y.uid,.int .i64 y.gid,.string y.owner,.string y.group,.int .i64 y.mtime]) r23 p23 rfl (by rw[gP (g:=19) (b:=true) (d:=24) rfl p19 rfl];kernel_rfl) (fun w' h=>(Q1.out.step h).lim) ?hc2 (fun w4 hb2 hS2=>?rr2)
    case hc2=>
     intro K hK;go_simp;refine(Ic y _).mono ?_;rintro e w2 ⟨rfl,hb2⟩
     (try go_simp)
     exact hK w2 hb2
    have Q2:=ae (Q1.out.step hb2);clear hb2
    (try simp only[sA,sB,sC])
    refine' aD ok hns p24 p19 ?_
    (try simp only[sA,sB,sC])
    refine' aH ok hns p25 ?_
    (try simp only[sA,sB,sC])
    refine' aH ok hns p26 ?_
    (try simp only[sA,sB,sC])
    cases vc
    case false=>
     refine' aC ok hns p27 p26 ?_
     (try simp only[sA,sB,sC])
     refine' aC ok hns p28 p26 ?_
     (try simp only[sA,sB,sC])
     refine' aC ok hns p29 p26 ?_
     (try simp only[sA,sB,sC])
     refine' aC ok hns p30 p26 ?_
     (try simp only[sA,sB,sC])
     refine' aC ok hns p31 p26 ?_
     (try simp only[sA,sB,sC])
     refine' aH ok hns p32 ?_
     (try simp only[sA,sB,sC])
     refine' aH ok hns p33 ?_
     (try simp only[sA,sB,sC])
     refine lS r34 ?_;have B9:Hid (Below w.heap.size w _):=Q2.out.bel;have ER:Hid (nA x y=false):=by show _=_;simp[EQ.out]
     clear ok hns r21 f22 c22 r23 r31 r34 hsz p0 p1 p2 p3 p4 p5 p6 p7 p8 p9 p10 p11 p12 p13 p14 p15 p16 p17 p18 p19 p20 p21 p22 p23 p24 p25 p26 p27 p28 p29 p30 p31 p32 p33;go_wp2;go_ret;exact⟨af ER.out.symm,B9.out⟩
    case true=>
     refine' aD ok hns p27 p26 ?_
     (try simp only[sA,sB,sC])
     refine' aD ok hns p28 p26 ?_
     (try simp only[sA,sB,sC])
     refine' aD ok hns p29 p26 ?_
     (try simp only[sA,sB,sC])
     refine' aD ok hns p30 p26 ?_
     (try simp only[sA,sB,sC])
     cases vd
     case false=>
      refine' wi (fun w'=>Below w4.heap.size w4 w') (k:=31) (j:=36) (v:=.bool false) r31 p31 rfl (by rw[gP (g:=26) (b:=true) (d:=31) rfl p26 rfl];kernel_rfl) (fun w' h=>(Q2.out.step h).lim) ?hc3 (fun w5 hb3 hS3=>?rr3)
      case hc3=>
       intro K hK;go_simp;refine((qy x.da y.da x.dc y.dc x.data y.data _ Q2.out.dx Q2.out.dy).mono fun e w' (h:e=.returned (.bool (decide (x.data=y.data)))/\w4=w')=>(⟨h.1,by rw[<-h.2];exact bR⟩:e=.returned (.bool (decide (x.data=y.data)))/\Below w4.heap.size w4 w')).mono ?_;rintro e w2 ⟨rfl,hb2⟩;rw[DD.out]
       (try go_simp)
       exact hK w2 hb2
      have Q3:=ae (Q2.out.step hb3);clear hb3
      (try simp only[sA,sB,sC])
      refine' aH ok hns p32 ?_
      (try simp only[sA,sB,sC])
      refine' aH ok hns p33 ?_
      (try simp only[sA,sB,sC])
      refine lS r34 ?_;have B9:Hid (Below w.heap.size w _):=Q3.out.bel;have ER:Hid (nA x y=false):=by show _=_;simp[EQ.out]
      clear ok hns r21 f22 c22 r23 r31 r34 hsz p0 p1 p2 p3 p4 p5 p6 p7 p8 p9 p10 p11 p12 p13 p14 p15 p16 p17 p18 p19 p20 p21 p22 p23 p24 p25 p26 p27 p28 p29 p30 p31 p32 p33;go_wp2;go_ret;exact⟨af ER.out.symm,B9.out⟩
     case true=>
      refine' wi (fun w'=>Below w4.heap.size w4 w') (k:=31) (j:=36) (v:=.bool true) r31 p31 rfl (by rw[gP (g:=26) (b:=true) (d:=31) rfl p26 rfl];kernel_rfl) (fun w' h=>(Q2.out.step h).lim) ?hc4 (fun w5 hb4 hS4=>?rr4)
      case hc4=>
       intro K hK;go_simp;refine((qy x.da y.da x.dc y.dc x.data y.data _ Q2.out.dx Q2.out.dy).mono fun e w' (h:e=.returned (.bool (decide (x.data=y.data)))/\w4=w')=>(⟨h.1,by rw[<-h.2];exact bR⟩:e=.returned (.bool (decide (x.data=y.data)))/\Below w4.heap.size w4 w')).mono ?_;rintro e w2 ⟨rfl,hb2⟩;rw[DD.out]
       (try go_simp)
       exact hK w2 hb2
      have Q3:=ae (Q2.out.step hb4);clear hb4
      (try simp only[sA,sB,sC])
      refine' aH ok hns p32 ?_
      (try simp only[sA,sB,sC])
      refine' aH ok hns p33 ?_
      (try simp only[sA,sB,sC])
      refine lS r34 ?_;have B9:Hid (Below w.heap.size w _):=Q3.out.bel;have ER:Hid (nA x y=true):=by show _=_;simp[EQ.out]
      clear ok hns r21 f22 c22 r23 r31 r34 hsz p0 p1 p2 p3 p4 p5 p6 p7 p8 p9 p10 p11 p12 p13 p14 p15 p16 p17 p18 p19 p20 p21 p22 p23 p24 p25 p26 p27 p28 p29 p30 p31 p32 p33;go_wp2;go_ret;exact⟨af ER.out.symm,B9.out⟩
theorem xD (A B:OA)(c d:Nat)(l m:List ag)(w:World)(h1:cV w A l)(h2:cV w B m)(n1:l.length<=9223372036854775807)(n2:m.length<=9223372036854775807)(f1:∀ p∈l,p.fits)(f2:∀ p∈m,p.fits):Calls Tryz.prog 72 #[.slice A l.length c,.slice B m.length d,.func (.func 73) #[] #[]] w fun e w'=>e=.returned (.bool (iA nA l m))/\Below w.heap.size w w':=by
 have H1:=ae h1;have H2:=ae h2;have F1:=ae f1;have F2:=ae f2;clear h1 h2 f1 f2;by_cases hl:l.length=m.length
 ·have hb:((l.length:Int) != (m.length:Int))=false:=by simp[hl]
  have HL:=ae hl;have hle:l.length<=m.length:=by omega
  clear hl;go_in;go_wp2;go_loopw [17] (fun i wr=>∃ (k:Nat),k<=l.length/\i=.int .i64 k/\Hid (Below w.heap.size w wr)/\Hid (∀ (i:Nat)(x y:ag),i<k->l[i]?=some x->m[i]?=some y->nA x y=true)) (fun i _=>l.length-(intOf i).toNat)
  case atStart=>exact⟨0,z0,rfl,bR,fun i x y h=>absurd h (Nat.not_lt_zero _)⟩
  case round=>
   obtain⟨k,hk,rfl,HB,HK⟩:=hrel;by_cases hlt:k<l.length
   ·obtain⟨x,hx⟩:∃ x,l[k]?=some x:=⟨_,gG hlt⟩
    have hlt2:k<m.length:=by omega
    obtain⟨y,hy⟩:∃ y,m[k]?=some y:=⟨_,gG hlt2⟩
    obtain⟨be,offe,hAe,hee⟩:=(H1.out.row.below HB.out).elem bi k x hx;have e0:=hee 0 _ rfl;have e1:=hee 1 _ rfl;have e2:=hee 2 _ rfl;have e3:=hee 3 _ rfl;have e4:=hee 4 _ rfl;have e5:=hee 5 _ rfl;have e6:=hee 6 _ rfl;have e7:=hee 7 _ rfl;have e8:=hee 8 _ rfl;have e9:=hee 9 _ rfl;simp only[Nat.add_zero] at e0;clear hee;obtain⟨bf,offf,hAf,hef⟩:=(H2.out.row.below HB.out).elem bi k y hy;have f0:=hef 0 _ rfl;have f1:=hef 1 _ rfl;have f2:=hef 2 _ rfl;have f3:=hef 3 _ rfl;have f4:=hef 4 _ rfl;have f5:=hef 5 _ rfl;have f6:=hef 6 _ rfl;have f7:=hef 7 _ rfl;have f8:=hef 8 _ rfl;have f9:=hef 9 _ rfl;simp only[Nat.add_zero] at f0;clear hef;have hix:=fun W=>aB (T:=28) (E:=35) (sz:=10) (c:=c) Tryz.underlying28 rfl Tryz.sizeOf35 hAe hlt W;have hix':=fun W=>aB (T:=28) (E:=35) (sz:=10) (c:=d) Tryz.underlying28 rfl Tryz.sizeOf35 hAf hlt2 W;have be:be<wr.heap.size:=World.block_lt_of_cell? _ _ e0;have bf:bf<wr.heap.size:=World.block_lt_of_cell? _ _ f0;have HX:=ae hx;have HY:=ae hy;have MX:=ae (gM hx);have MY:=ae (gM hy);clear hx hy hAe hAf;cases hxy:nA x y
    ·have HXY:=ae hxy;clear hxy;go_wp2_with fail;refine(sj x y _ (by exact((H1.out.all x MX.out).below HB.out).below ((bR.alloc lr _).alloc (by simp) _)) (by exact((H2.out.all y MY.out).below HB.out).below ((bR.alloc lr _).alloc (by simp) _)) (F1.out x MX.out) (F2.out y MY.out)).mono ?_;rintro e w1 ⟨rfl,hb1⟩;rw[HXY.out];go_wp2;go_ret;exact⟨af (gE nA l m k x y HX.out HY.out HXY.out).symm,aq HB.out (aq ((bR.alloc lr _).alloc (by simp) _) hb1)⟩
    ·have HXY:=ae hxy;clear hxy;go_wp2_with fail;refine(sj x y _ (by exact((H1.out.all x MX.out).below HB.out).below ((bR.alloc lr _).alloc (by simp) _)) (by exact((H2.out.all y MY.out).below HB.out).below ((bR.alloc lr _).alloc (by simp) _)) (F1.out x MX.out) (F2.out y MY.out)).mono ?_;rintro e w1 ⟨rfl,hb1⟩;rw[HXY.out];go_wp2_with fail;have FK:Hid (∀ (i:Nat)(x y:ag),i<k+1->l[i]?=some x->m[i]?=some y->nA x y=true):=by
      intro i x' y' hi hx' hy';rcases Nat.lt_succ_iff_lt_or_eq.1 hi with h | h
      ·exact HK.out i x' y' h hx' hy'
      ·subst h;rw[HX.out] at hx';rw[HY.out] at hy';injection hx' with hx';injection hy' with hy';subst hx' hy';exact HXY.out
     go_roundw
     case rel=>exact⟨k+1,by omega,by go_num,aq HB.out (aq ((bR.alloc lr _).alloc (by simp) _) hb1),FK⟩
     case measure=>simp[intOf];omega
   ·go_wp2;go_ret;exact⟨af (eD nA l m HL.out (fun i x y hx hy=>HK.out i x y (by have:=(gS hx).1;omega) hx hy)).symm,HB.out⟩
 ·have hb:((l.length:Int) != (m.length:Int))=true:=by simp;omega
  have HL:=ae hl;clear hl;go_in;go_wp2;go_ret;exact⟨af (dj nA l m HL.out).symm,bR⟩
theorem GD (A B:OA)(c d:Nat)(l m:List ag)(w:World)(h1:cV w A l)(h2:cV w B m)(n1:l.length<=9223372036854775807)(n2:m.length<=9223372036854775807)(f1:∀ p∈l,p.fits)(f2:∀ p∈m,p.fits):Calls Tryz.prog 31 #[.slice A l.length c,.slice B m.length d] w fun e w'=>e=.returned (.bool (iA nA l m))/\Below w.heap.size w w':=by
 go_in;go_wp2_with fail;refine(xD A B c d l m _ h1 h2 n1 n2 f1 f2).mono ?_;rintro e w1 ⟨rfl,hb1⟩;go_wp2;go_ret;exact⟨rfl,hb1⟩
theorem Id (w:World)(p:bK)(hp:p.ok w):wJ (w.alloc (.cells #[.string p.nm,.string p.ver,.string p.ar,.string p.sm,.slice p.na p.needs.length p.nc,.slice p.ba p.bars.length p.bc,.slice p.ga p.gives.length p.gc,.slice p.fa p.files.length p.fc,.slice p.sa p.scripts.length p.sc] 27)) (some ⟨w.heap.size,0,none⟩) [p]:=by
 have hb:Below w.heap.size w (w.alloc (.cells #[.string p.nm,.string p.ver,.string p.ar,.string p.sm,.slice p.na p.needs.length p.nc,.slice p.ba p.bars.length p.bc,.slice p.ga p.gives.length p.gc,.slice p.fa p.files.length p.fc,.slice p.sa p.scripts.length p.sc] 27)):=bR.alloc lr _;refine⟨⟨rfl,fun _=>⟨_,0,rfl,fun j u hu=>?_⟩⟩,fun q hq=>?_⟩
 ·rw[Nat.zero_add];exact(ax.new w p.cells 27).cell j u (by simpa using hu)
 ·rw[List.mem_singleton.1 hq];exact hp.below hb
theorem KL (a b:dH)(W:World)(ha:a.pk.ok W)(hb:b.pk.ok W)(fa:a.pk.fits)(fb:b.pk.fits):Calls Tryz.prog 29 #[.slice (some ⟨W.heap.size,0,none⟩) 1 1,.slice (some ⟨W.heap.size+1,0,none⟩) 1 1] ((W.alloc (.cells #[.string a.pk.nm,.string a.pk.ver,.string a.pk.ar,.string a.pk.sm,.slice a.pk.na a.pk.needs.length a.pk.nc,.slice a.pk.ba a.pk.bars.length a.pk.bc,.slice a.pk.ga a.pk.gives.length a.pk.gc,.slice a.pk.fa a.pk.files.length a.pk.fc,.slice a.pk.sa a.pk.scripts.length a.pk.sc] 27)).alloc (.cells #[.string b.pk.nm,.string b.pk.ver,.string b.pk.ar,.string b.pk.sm,.slice b.pk.na b.pk.needs.length b.pk.nc,.slice b.pk.ba b.pk.bars.length b.pk.bc,.slice b.pk.ga b.pk.gives.length b.pk.gc,.slice b.pk.fa b.pk.files.length b.pk.fc,.slice b.pk.sa b.pk.scripts.length b.pk.sc] 27)) fun e w'=>e=.returned (.bool (cv a.pk b.pk))/\Below W.heap.size W w':=by
 have b1:Below W.heap.size W (W.alloc (.cells #[.string a.pk.nm,.string a.pk.ver,.string a.pk.ar,.string a.pk.sm,.slice a.pk.na a.pk.needs.length a.pk.nc,.slice a.pk.ba a.pk.bars.length a.pk.bc,.slice a.pk.ga a.pk.gives.length a.pk.gc,.slice a.pk.fa a.pk.files.length a.pk.fc,.slice a.pk.sa a.pk.scripts.length a.pk.sc] 27)):=bR.alloc lr _;have d1:=(Id W a.pk ha).below (w':=((W.alloc (.cells #[.string a.pk.nm,.string a.pk.ver,.string a.pk.ar,.string a.pk.sm,.slice a.pk.na a.pk.needs.length a.pk.nc,.slice a.pk.ba a.pk.bars.length a.pk.bc,.slice a.pk.ga a.pk.gives.length a.pk.gc,.slice a.pk.fa a.pk.files.length a.pk.fc,.slice a.pk.sa a.pk.scripts.length a.pk.sc] 27)).alloc (.cells #[.string b.pk.nm,.string b.pk.ver,.string b.pk.ar,.string b.pk.sm,.slice b.pk.na b.pk.needs.length b.pk.nc,.slice b.pk.ba b.pk.bars.length b.pk.bc,.slice b.pk.ga b.pk.gives.length b.pk.gc,.slice b.pk.fa b.pk.files.length b.pk.fc,.slice b.pk.sa b.pk.scripts.length b.pk.sc] 27))) (bR.alloc lr _);have d2:=Id (W.alloc (.cells #[.string a.pk.nm,.string a.pk.ver,.string a.pk.ar,.string a.pk.sm,.slice a.pk.na a.pk.needs.length a.pk.nc,.slice a.pk.ba a.pk.bars.length a.pk.bc,.slice a.pk.ga a.pk.gives.length a.pk.gc,.slice a.pk.fa a.pk.files.length a.pk.fc,.slice a.pk.sa a.pk.scripts.length a.pk.sc] 27)) b.pk (hb.below b1);rw[World.size_alloc] at d2;have h:=E8 (some ⟨W.heap.size,0,none⟩) (some ⟨W.heap.size+1,0,none⟩) 1 1 [a.pk] [b.pk] _ d1 d2 (by simp) (by simp) (fun p hp=>by rw[List.mem_singleton.1 hp];exact fa) (fun p hp=>by rw[List.mem_singleton.1 hp];exact fb);refine h.mono fun e w' he=>⟨?_,(b1.alloc (by simp) _).trans (he.2.mono (by simp;omega))⟩
 rw[he.1];simp[iA]
theorem Dz (a b:dH)(w:World)(ha:a.ok w)(hb:b.ok w)(fa:a.fits)(fb:b.fits):Calls Tryz.prog 10 #[a.val,b.val] w fun e w'=>e=.returned (.bool (oc a b))/\Below w.heap.size w w':=by
 have HA:=ae ha;have HB:=ae hb;have FA:=ae fa;have FB:=ae fb;clear ha hb fa fb;obtain⟨W0,hW0⟩:∃ W0,((w.alloc (.cells #[.string a.pk.nm,.string a.pk.ver,.string a.pk.ar,.string a.pk.sm,.slice a.pk.na a.pk.needs.length a.pk.nc,.slice a.pk.ba a.pk.bars.length a.pk.bc,.slice a.pk.ga a.pk.gives.length a.pk.gc,.slice a.pk.fa a.pk.files.length a.pk.fc,.slice a.pk.sa a.pk.scripts.length a.pk.sc,.slice a.ca a.conf.length a.cc,.slice a.ea a.ents.length a.ec] 30)).alloc (.cells #[.string b.pk.nm,.string b.pk.ver,.string b.pk.ar,.string b.pk.sm,.slice b.pk.na b.pk.needs.length b.pk.nc,.slice b.pk.ba b.pk.bars.length b.pk.bc,.slice b.pk.ga b.pk.gives.length b.pk.gc,.slice b.pk.fa b.pk.files.length b.pk.fc,.slice b.pk.sa b.pk.scripts.length b.pk.sc,.slice b.ca b.conf.length b.cc,.slice b.ea b.ents.length b.ec] 30))=W0:=⟨_,rfl⟩
 have P0:Hid (AM w W0 a b):=by show AM _ _ _ _;rw[<-hW0];exact AM.start w a b
 have b0:=P0.out.one.cell 0 _ rfl;have d0:=P0.out.two.cell 0 _ rfl;have b1:=P0.out.one.cell 1 _ rfl;have d1:=P0.out.two.cell 1 _ rfl;have b2:=P0.out.one.cell 2 _ rfl;have d2:=P0.out.two.cell 2 _ rfl;have b3:=P0.out.one.cell 3 _ rfl;have d3:=P0.out.two.cell 3 _ rfl;have b4:=P0.out.one.cell 4 _ rfl;have d4:=P0.out.two.cell 4 _ rfl;have b5:=P0.out.one.cell 5 _ rfl;have d5:=P0.out.two.cell 5 _ rfl;have b6:=P0.out.one.cell 6 _ rfl;have d6:=P0.out.two.cell 6 _ rfl;have b7:=P0.out.one.cell 7 _ rfl;have d7:=P0.out.two.cell 7 _ rfl;have b8:=P0.out.one.cell 8 _ rfl;have d8:=P0.out.two.cell 8 _ rfl;have CO:=KL a b W0 (HA.out.pk.below P0.out.bel) (HB.out.pk.below P0.out.bel) FA.out.pk FB.out.pk;have d0':(W0.alloc (.cells #[.string a.pk.nm,.string a.pk.ver,.string a.pk.ar,.string a.pk.sm,.slice a.pk.na a.pk.needs.length a.pk.nc,.slice a.pk.ba a.pk.bars.length a.pk.bc,.slice a.pk.ga a.pk.gives.length a.pk.gc,.slice a.pk.fa a.pk.files.length a.pk.fc,.slice a.pk.sa a.pk.scripts.length a.pk.sc] 27)).cell? ⟨w.heap.size+1,0,none⟩=some (.string b.pk.nm):=(World.cell?_alloc_lt W0 _ ⟨w.heap.size+1,0,none⟩ (World.block_lt_of_cell? _ _ d0)).trans d0;have d1':(W0.alloc (.cells #[.string a.pk.nm,.string a.pk.ver,.string a.pk.ar,.string a.pk.sm,.slice a.pk.na a.pk.needs.length a.pk.nc,.slice a.pk.ba a.pk.bars.length a.pk.bc,.slice a.pk.ga a.pk.gives.length a.pk.gc,.slice a.pk.fa a.pk.files.length a.pk.fc,.slice a.pk.sa a.pk.scripts.length a.pk.sc] 27)).cell? ⟨w.heap.size+1,1,none⟩=some (.string b.pk.ver):=(World.cell?_alloc_lt W0 _ ⟨w.heap.size+1,1,none⟩ (World.block_lt_of_cell? _ _ d1)).trans d1;have d2':(W0.alloc (.cells #[.string a.pk.nm,.string a.pk.ver,.string a.pk.ar,.string a.pk.sm,.slice a.pk.na a.pk.needs.length a.pk.nc,.slice a.pk.ba a.pk.bars.length a.pk.bc,.slice a.pk.ga a.pk.gives.length a.pk.gc,.slice a.pk.fa a.pk.files.length a.pk.fc,.slice a.pk.sa a.pk.scripts.length a.pk.sc] 27)).cell? ⟨w.heap.size+1,2,none⟩=some (.string b.pk.ar):=(World.cell?_alloc_lt W0 _ ⟨w.heap.size+1,2,none⟩ (World.block_lt_of_cell? _ _ d2)).trans d2;have d3':(W0.alloc (.cells #[.string a.pk.nm,.string a.pk.ver,.string a.pk.ar,.string a.pk.sm,.slice a.pk.na a.pk.needs.length a.pk.nc,.slice a.pk.ba a.pk.bars.length a.pk.bc,.slice a.pk.ga a.pk.gives.length a.pk.gc,.slice a.pk.fa a.pk.files.length a.pk.fc,.slice a.pk.sa a.pk.scripts.length a.pk.sc] 27)).cell? ⟨w.heap.size+1,3,none⟩=some (.string b.pk.sm):=(World.cell?_alloc_lt W0 _ ⟨w.heap.size+1,3,none⟩ (World.block_lt_of_cell? _ _ d3)).trans d3;have d4':(W0.alloc (.cells #[.string a.pk.nm,.string a.pk.ver,.string a.pk.ar,.string a.pk.sm,.slice a.pk.na a.pk.needs.length a.pk.nc,.slice a.pk.ba a.pk.bars.length a.pk.bc,.slice a.pk.ga a.pk.gives.length a.pk.gc,.slice a.pk.fa a.pk.files.length a.pk.fc,.slice a.pk.sa a.pk.scripts.length a.pk.sc] 27)).cell? ⟨w.heap.size+1,4,none⟩=some (.slice b.pk.na b.pk.needs.length b.pk.nc):=(World.cell?_alloc_lt W0 _ ⟨w.heap.size+1,4,none⟩ (World.block_lt_of_cell? _ _ d4)).trans d4;have d5':(W0.alloc (.cells #[.string a.pk.nm,.string a.pk.ver,.string a.pk.ar,.string a.pk.sm,.slice a.pk.na a.pk.needs.length a.pk.nc,.slice a.pk.ba a.pk.bars.length a.pk.bc,.slice a.pk.ga a.pk.gives.length a.pk.gc,.slice a.pk.fa a.pk.files.length a.pk.fc,.slice a.pk.sa a.pk.scripts.length a.pk.sc] 27)).cell? ⟨w.heap.size+1,5,none⟩=some (.slice b.pk.ba b.pk.bars.length b.pk.bc):=(World.cell?_alloc_lt W0 _ ⟨w.heap.size+1,5,none⟩ (World.block_lt_of_cell? _ _ d5)).trans d5;have d6':(W0.alloc (.cells #[.string a.pk.nm,.string a.pk.ver,.string a.pk.ar,.string a.pk.sm,.slice a.pk.na a.pk.needs.length a.pk.nc,.slice a.pk.ba a.pk.bars.length a.pk.bc,.slice a.pk.ga a.pk.gives.length a.pk.gc,.slice a.pk.fa a.pk.files.length a.pk.fc,.slice a.pk.sa a.pk.scripts.length a.pk.sc] 27)).cell? ⟨w.heap.size+1,6,none⟩=some (.slice b.pk.ga b.pk.gives.length b.pk.gc):=(World.cell?_alloc_lt W0 _ ⟨w.heap.size+1,6,none⟩ (World.block_lt_of_cell? _ _ d6)).trans d6;have d7':(W0.alloc (.cells #[.string a.pk.nm,.string a.pk.ver,.string a.pk.ar,.string a.pk.sm,.slice a.pk.na a.pk.needs.length a.pk.nc,.slice a.pk.ba a.pk.bars.length a.pk.bc,.slice a.pk.ga a.pk.gives.length a.pk.gc,.slice a.pk.fa a.pk.files.length a.pk.fc,.slice a.pk.sa a.pk.scripts.length a.pk.sc] 27)).cell? ⟨w.heap.size+1,7,none⟩=some (.slice b.pk.fa b.pk.files.length b.pk.fc):=(World.cell?_alloc_lt W0 _ ⟨w.heap.size+1,7,none⟩ (World.block_lt_of_cell? _ _ d7)).trans d7;have d8':(W0.alloc (.cells #[.string a.pk.nm,.string a.pk.ver,.string a.pk.ar,.string a.pk.sm,.slice a.pk.na a.pk.needs.length a.pk.nc,.slice a.pk.ba a.pk.bars.length a.pk.bc,.slice a.pk.ga a.pk.gives.length a.pk.gc,.slice a.pk.fa a.pk.files.length a.pk.fc,.slice a.pk.sa a.pk.scripts.length a.pk.sc] 27)).cell? ⟨w.heap.size+1,8,none⟩=some (.slice b.pk.sa b.pk.scripts.length b.pk.sc):=(World.cell?_alloc_lt W0 _ ⟨w.heap.size+1,8,none⟩ (World.block_lt_of_cell? _ _ d8)).trans d8;unfold dH.val;go_in;go_wp2_with fail;clear hW0 b0 d0 d0' b1 d1 d1' b2 d2 d2' b3 d3 d3' b4 d4 d4' b5 d5 d5' b6 d6 d6' b7 d7 d7' b8 d8 d8';refine CO.mono ?_;rintro e w1 ⟨rfl,hb1⟩;have P1:=ae (P0.out.step hb1);clear CO hb1 P0;cases h1:cv a.pk b.pk
 case false=>
  have E:Hid (oc a b=false):=by show _=_;unfold oc;rw[h1];rfl
  clear h1;go_wp2;go_ret;exact⟨af E.out.symm,P1.out.bel⟩
 have b9:=P1.out.one.cell 9 _ rfl;have d9:=P1.out.two.cell 9 _ rfl;go_wp2_with fail;clear b9 d9;refine(dP a.ca b.ca a.cc b.cc a.conf b.conf w1 (HA.out.conf.below P1.out.bel) (HB.out.conf.below P1.out.bel) FA.out.conf FB.out.conf).mono ?_;rintro e w2 ⟨rfl,hb2⟩;have P2:=ae (P1.out.step hb2);clear hb2 P1;cases h2:iA gn a.conf b.conf
 case false=>
  have E:Hid (oc a b=false):=by show _=_;unfold oc;rw[h1,h2];rfl
  clear h1 h2;go_wp2;go_ret;exact⟨af E.out.symm,P2.out.bel⟩
 have E:Hid (oc a b=iA nA a.ents b.ents):=by show _=_;unfold oc;rw[h1,h2];simp
 clear h1 h2;have b10:=P2.out.one.cell 10 _ rfl;have d10:=P2.out.two.cell 10 _ rfl;go_wp2_with fail;clear b10 d10;refine(GD a.ea b.ea a.ec b.ec a.ents b.ents w2 (HA.out.ents.below P2.out.bel) (HB.out.ents.below P2.out.bel) FA.out.ents FB.out.ents FA.out.ents_ FB.out.ents_).mono ?_;rintro e w3 ⟨rfl,hb3⟩;have P3:=ae (P2.out.step hb3);clear hb3;go_wp2;go_ret;exact⟨af E.out.symm,P3.out.bel⟩
end
section
open Go.ChangeShapes Go.WideShapes Go.Deep Go.RowKit
section
variable {H : Type} {enc : TypeId × Value -> H} {w : World} {spare : Nat -> Bool}
def Qt (w:World)(x:ag):Prop:=x.fits/\Rd w 1 x.da x.data.length (x.data.map vb)/\x.data.length<=x.dc/\x.dc<=9223372036854775807
theorem KY {fuel:Nat}{d:DataW H×List MemPlace}(h:DataW.trod enc Tryz.prog w 0 spare true fuel 28 [v]=some d):
  ∃ (A:OA) (c:Nat) (l:List ag),v=.slice A l.length c/\Rd w 10 A l.length (l.flatMap ag.cells)/\(∀ x∈l,Qt w x)/\l.length<=9223372036854775807/\l.length<=c:=by
 refine nY Tryz.underlying28 Tryz.underlying35 (by kernel_rfl) (by kernel_rfl) (by decide) ag.cells (Qt w) (fun _=>rfl) (fun n vs hv=>?_) h;obtain⟨y0,h0⟩:=hv 0 _ rfl;obtain⟨y1,h1⟩:=hv 1 _ rfl;obtain⟨y2,h2⟩:=hv 2 _ rfl;obtain⟨y3,h3⟩:=hv 3 _ rfl;obtain⟨y4,h4⟩:=hv 4 _ rfl;obtain⟨y5,h5⟩:=hv 5 _ rfl;obtain⟨y6,h6⟩:=hv 6 _ rfl;obtain⟨y7,h7⟩:=hv 7 _ rfl;obtain⟨y8,h8⟩:=hv 8 _ rfl;obtain⟨y9,h9⟩:=hv 9 _ rfl;obtain⟨s0,e0,z0⟩:=dq h0;obtain⟨s1,e1,z1⟩:=ip h1;obtain⟨s2,e2,z2⟩:=ip h2;obtain⟨s3,e3,z3⟩:=ip h3;obtain⟨s4,e4,z4⟩:=ip h4;obtain⟨s5,e5,z5⟩:=dq h5;obtain⟨s6,e6,z6⟩:=dq h6;obtain⟨s7,e7,z7⟩:=ip h7;obtain⟨s8,e8,z8⟩:=dq h8;obtain⟨A,m,c,l,e9,hr,hmc,hc⟩:=GP h9;have hm:m=l.length:=by have:=hr.1;simpa using this.symm
 subst hm;refine⟨⟨s0,s1,s2,s3,s4,s5,s6,s7,s8,A,c,l⟩,⟨⟨z0,z5,z6,z8,by show l.length<=_;omega⟩,hr,hmc,hc⟩,fun j hj=>?_⟩;have hj':j<10:=hj;rcases(by omega:j=0\/j=1\/j=2\/j=3\/j=4\/j=5\/j=6\/j=7\/j=8\/j=9) with rfl | rfl | rfl | rfl | rfl | rfl | rfl | rfl | rfl | rfl
 ·rw[e0];rfl
 ·rw[e1];rfl
 ·rw[e2];rfl
 ·rw[e3];rfl
 ·rw[e4];rfl
 ·rw[e5];rfl
 ·rw[e6];rfl
 ·rw[e7];rfl
 ·rw[e8];rfl
 ·rw[e9];rfl
theorem AJ {n:Nat}{cs:LV}{y:DataW H×List MemPlace}(h:DataW.trod enc Tryz.prog w 0 spare true n 30 cs=some y):∃ b:dH,cs=b.cells/\b.ok w/\b.fits/\(b.caps/\b.ents.length<=b.ec):=by
 have hC:Tryz.prog.cellsOf 30=11:=by kernel_rfl
 have hP:Tryz.prog.cellsOf 27=9:=by kernel_rfl
 have hS:Tryz.prog.cellsOf 22=1:=by kernel_rfl
 have hE:Tryz.prog.cellsOf 28=1:=by kernel_rfl
 obtain⟨xs,n1,_,_,hl,hxl,hf⟩:=DataW.trod_struct Tryz.underlying30 h;rw[hC] at hl
 match cs,hl with
 | [c0,c1,c2,c3,c4,c5,c6,c7,c8,c9,c10],_=>
  have h0:DataW.trod enc Tryz.prog w 0 spare true n1 27 (([c0,c1,c2,c3,c4,c5,c6,c7,c8,c9,c10].drop 0).take (Tryz.prog.cellsOf 27))=xs[0]?:=hf 0 _ rfl;have h1:DataW.trod enc Tryz.prog w 0 spare true n1 22 (([c0,c1,c2,c3,c4,c5,c6,c7,c8,c9,c10].drop 9).take (Tryz.prog.cellsOf 22))=xs[1]?:=hf 1 _ rfl;have h2:DataW.trod enc Tryz.prog w 0 spare true n1 28 (([c0,c1,c2,c3,c4,c5,c6,c7,c8,c9,c10].drop 10).take (Tryz.prog.cellsOf 28))=xs[2]?:=hf 2 _ rfl;have hx3:xs.length=3:=hxl;rw[hP,gG (by omega)] at h0;rw[hS,gG (by omega)] at h1;rw[hE,gG (by omega)] at h2;obtain⟨ca,cc,conf,e9,hcr,hcz,hcl,_⟩:=rG Tryz.underlying22 Tryz.underlying9 (by kernel_rfl) (v:=c9) h1;obtain⟨ea,ec,ents,e10,her,heo,hel,hec⟩:=KY (v:=c10) h2;have h0':DataW.trod enc Tryz.prog w 0 spare true n1 27 [c0,c1,c2,c3,c4,c5,c6,c7,c8]=some xs[0]:=h0;obtain⟨zs,n2,_,_,_,hzl,hz⟩:=DataW.trod_struct Tryz.underlying27 h0';have hz9:zs.length=9:=hzl;have key:∀ (j:Nat)(t:TypeId),j<9->DataW.trod enc Tryz.prog w 0 spare true n2 t ((([c0,c1,c2,c3,c4,c5,c6,c7,c8]:LV).drop j).take 1)=zs[j]?->∃ y,DataW.trod enc Tryz.prog w 0 spare true n2 t [([c0,c1,c2,c3,c4,c5,c6,c7,c8]:LV).getD j .nilIface]=some y:=by
   intro j t hj h1;refine⟨zs[j]'(by omega),?_⟩;rw[gG (by omega)] at h1;rcases(by omega:j=0\/j=1\/j=2\/j=3\/j=4\/j=5\/j=6\/j=7\/j=8) with rfl | rfl | rfl | rfl | rfl | rfl | rfl | rfl | rfl<;>exact h1
  obtain⟨pk,⟨g1,g2,_⟩,g3⟩:=Qd (enc:=enc) (w:=w) (spare:=spare) n2 (fun j=>([c0,c1,c2,c3,c4,c5,c6,c7,c8]:LV).getD j .nilIface) (fun j t ht=>by
   have hj:j<9:=by simpa using(gS ht).1
   refine key j t hj ?_;rcases(by omega:j=0\/j=1\/j=2\/j=3\/j=4\/j=5\/j=6\/j=7\/j=8) with rfl | rfl | rfl | rfl | rfl | rfl | rfl | rfl | rfl
   ·have ht:=Option.some.inj ht;subst ht;exact hz 0 _ rfl
   ·have ht:=Option.some.inj ht;subst ht;exact hz 1 _ rfl
   ·have ht:=Option.some.inj ht;subst ht;exact hz 2 _ rfl
   ·have ht:=Option.some.inj ht;subst ht;exact hz 3 _ rfl
   ·have ht:=Option.some.inj ht;subst ht;exact hz 4 _ rfl
   ·have ht:=Option.some.inj ht;subst ht;exact hz 5 _ rfl
   ·have ht:=Option.some.inj ht;subst ht;exact hz 6 _ rfl
   ·have ht:=Option.some.inj ht;subst ht;exact hz 7 _ rfl
   ·have ht:=Option.some.inj ht;subst ht;exact hz 8 _ rfl)
  refine⟨⟨pk,ca,cc,conf,ea,ec,ents⟩,?_,⟨g1,hcr,⟨her,fun x hx=>(heo x hx).2.1⟩⟩,⟨g2,hcl,hcz,hel,fun x hx=>(heo x hx).1⟩,⟨fun x hx=>(heo x hx).2.2,hec⟩⟩;have k0:pk.cells[0]?=some c0:=g3 0 (by decide);have k1:pk.cells[1]?=some c1:=g3 1 (by decide);have k2:pk.cells[2]?=some c2:=g3 2 (by decide);have k3:pk.cells[3]?=some c3:=g3 3 (by decide);have k4:pk.cells[4]?=some c4:=g3 4 (by decide);have k5:pk.cells[5]?=some c5:=g3 5 (by decide);have k6:pk.cells[6]?=some c6:=g3 6 (by decide);have k7:pk.cells[7]?=some c7:=g3 7 (by decide);have k8:pk.cells[8]?=some c8:=g3 8 (by decide);have k0:=Option.some.inj k0;have k1:=Option.some.inj k1;have k2:=Option.some.inj k2;have k3:=Option.some.inj k3;have k4:=Option.some.inj k4;have k5:=Option.some.inj k5;have k6:=Option.some.inj k6;have k7:=Option.some.inj k7;have k8:=Option.some.inj k8;rw[e9,e10,<-k0,<-k1,<-k2,<-k3,<-k4,<-k5,<-k6,<-k7,<-k8];rfl
theorem su {r:Reach}{base:Nat}{d:DataW H}{p:List MemPlace}(hv:Value.okWide Tryz.prog w r base 30 v)
  (h:DataW.Trod enc Tryz.prog w 0 spare true 30 v d p):∃ b:dH,v=b.val/\b.ok w/\b.fits/\(b.caps/\b.ents.length<=b.ec):=by
 obtain⟨cs,rfl,hcs⟩:=okWide_struct Tryz.underlying30 hv;obtain⟨fuel,hf⟩:=h;have hf':DataW.trod enc Tryz.prog w 0 spare true fuel 30 cs.toList=some (d,p):=hf;obtain⟨b,hb,h1,h2,h3⟩:=AJ hf';refine⟨b,?_,h1,h2,h3⟩;have e2:cs=b.cells.toArray:=by rw[<-hb]
 rw[e2];rfl
end
end
end Go.Proofs.YtlglfpbhapmhiaaGreatDoor
