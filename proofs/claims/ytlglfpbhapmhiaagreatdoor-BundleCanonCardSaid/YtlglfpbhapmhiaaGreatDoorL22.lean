/- A part of the proof. -/
import Derived.Test.YtlglfpbhapmhiaaGreatDoorL21
set_option maxRecDepth 100000
set_option maxHeartbeats 20000000
set_option linter.unusedVariables false
set_option linter.unusedSimpArgs false
namespace Go.Proofs.YtlglfpbhapmhiaaGreatDoor
variable{s x:BA}{l:LU}{f:LU->Bool}{k:Nat}
section
open Go.RowKit Go.Deep
theorem Mk (k:Nat)(hk:k<6):bl (AW k)=Sh k:=by
 rcases(by omega:k=0\/k=1\/k=2\/k=3\/k=4\/k=5) with rfl | rfl | rfl | rfl | rfl | rfl<;>rfl
theorem Hd (k:Nat):(Sh k).length<=2:=by unfold Sh;split<;>simp
def oE (q:LU):LU:=if q.isEmpty then [] else 58::q
def xj (op:Nat)(v:LU):LU:=if op=0 then [] else [32,40]++Sh op++[32]++v++[41]
def uS (a:List (LU)):LU:=if a.isEmpty then [] else [32,91]++Lib.join a [32]++[93]
theorem uT (t:ee):t.text=t.name++oE t.qual++xj t.op t.ver++uS t.archs:=rfl
theorem Cb (op:Nat)(v:LU):(xj op v).length<=v.length+6:=by
 have:=Hd op;unfold xj;split<;>simp;omega
theorem Jn (a:List (LU))(h:∀ x∈a,x.length<=33)(hn:a.length<=1000000):(uS a).length<=34000003:=by
 have:=nJ [32] 33 a h;unfold uS;split
 ·simp
 ·simp at this |-;omega
theorem Jo (t:cU)(h:t.okT)(w:World)(hG:Gl w)(hr:Rd w 1 t.aa t.archs.length (ay t.archs))(hac:t.archs.length<=t.ac):Calls Tryz.prog 173 #[t.val] w fun e w'=>e=.returned (.string (bU t.pl.text))/\Below w.heap.size w w':=by
 rw[uT];unfold cU.val cU.pl;obtain⟨h1,h2,h3,h4,h5,h6,h7,h8,h9,h10,h11⟩:=h;have HG:=ae hG;have HR:=ae hr;have HZ:=ae h10;have HQ:=ae h2;clear hG hr h1 h2 h3 h10 h5 h6;obtain⟨nm,op,ver,qual,aa,ac,archs⟩:=t;simp only at *;have JL:Hid ((Lib.join (archs.map bl) [32]).length<=34000000):=by
  have:=nJ [32] 33 (archs.map bl) (fun x hx=>by obtain⟨y,hy,rfl⟩:=List.mem_map.1 hx;rw[ah];exact HZ.out y hy);rw[List.length_map] at this;show _<=_;simp at this;omega
 have HJ:=ae (fun (W:World) (hb:Below w.heap.size w W)=>pZ aa ac archs ⟨#[32]⟩ W (HR.out.below hb) hac (by omega) (by have:=JL.out;rw[show bl ⟨#[32]⟩=[32] from rfl];omega));obtain⟨W1,hW1⟩:∃ W1,w.alloc (.cells #[.string nm,.int .i64 op,.string ver,.string qual,.slice aa archs.length ac] 211)=W1:=⟨_,rfl⟩
 have K1:Hid (ax W1 w.heap.size [.string nm,.int .i64 op,.string ver,.string qual,.slice aa archs.length ac]):=by rw[<-hW1];exact ax.new w _ _
 have B1:Hid (Below w.heap.size w W1):=by rw[<-hW1];exact bR.alloc lr _
 obtain⟨al,hal⟩:∃ al,archs.length=al:=⟨_,rfl⟩
 rw[hal] at K1 HJ hW1 h11;rw[hal];have HAL:=ae hal;clear hal hac;obtain⟨c0,c1,c2,c3,c4,f0,f1,f2,f3,f4⟩:=K1.out.five;clear f0 f1 f2 f3 f4;go_in;obtain⟨bq,hbq⟩:∃ bq,qual.toList.isEmpty=bq:=⟨_,rfl⟩
 have HBQ:Hid (decide (qual.size=0)=bq):=by show _=_;rw[<-bj,<-aj];exact hbq
 go_upto_if 9 with(fail)
 clear hW1 hbq;go_cut [3] (fun v wx=>∃ S:BA,v=.string S/\S.size<=100/\W1=wx/\Hid (bl S=bl nm++oE (bl qual)))
 case first=>
  cases bq with
  | true=>
   have E:Hid (bl nm=bl nm++oE (bl qual)):=by show _=_;rw[bX qual (dO HBQ.out)];simp[oE]
   go_wp2;go_meet;exact⟨nm,rfl,by omega,rfl,E⟩
  | false=>
   have E:Hid (bl (nm++(⟨#[58]⟩++qual))=bl nm++oE (bl qual)):=by
    show _=_;rw[cK,cK];unfold oE;rw[bj,HBQ.out];rfl
   have hz:(nm++(⟨#[58]⟩++qual)).size<=100:=by rw[<-ah,cK,cK];simp[ah];have:(⟨#[58]⟩:BA).size=1:=rfl;omega
   have HZ2:=ae hz;clear hz;go_wp2;go_meet;exact⟨_,rfl,HZ2.out,rfl,E⟩
 case rest=>
 obtain⟨S,rfl,hS,rfl,ES⟩:=hcut;have hsg:=(HG.out.below B1.out).dsg op (by omega);have hsz:(AW op).size<=2:=by rw[<-ah,Mk op (by omega)];exact Hd _
 go_upto_if 18 with(fail)
 go_cut [3] (fun v wx=>∃ S2:BA,v=.string S2/\S2.size<=200/\Hid (Below w.heap.size w wx)/\Hid (ax wx w.heap.size [.string nm,.int .i64 op,.string ver,.string qual,.slice aa al ac])/\Hid (bl S2=bl S++xj op (bl ver)))
 case first=>
  by_cases o0:op=0
  ·have E:Hid (bl S=bl S++xj op (bl ver)):=by show _=_;simp[xj,o0]
   have o1:((op:Int) != 0)=false:=by simp[o0]
   clear o0;go_wp2;go_meet;exact⟨S,rfl,by omega,B1,K1,E⟩
  ·have o1:((op:Int) != 0)=true:=by simp[o0]
   have E:Hid (bl (S++(⟨#[32,40]⟩++AW op++⟨#[32]⟩++ver++⟨#[41]⟩))=bl S++xj op (bl ver)):=by
    show _=_;simp only[cK];unfold xj;rw[if_neg o0,Mk op (by omega)];rfl
   have hz:Hid ((S++(⟨#[32,40]⟩++AW op++⟨#[32]⟩++ver++⟨#[41]⟩)).size<=200):=by
    show _<=_;rw[<-ah,E.out,List.length_append,ah];have:=Cb op (bl ver);rw[ah] at this;omega
   have o2:(op:Int)<6:=by omega
   have o3:(0:Int)<=(op:Int):=by omega
   clear o0;go_wp2;go_quiet (fail);go_wp2;go_meet;exact⟨_,rfl,hz.out,am B1.out _,K1.out.drewN _,E⟩
 case rest=>
 obtain⟨S2,rfl,hS2,B2,K2,E2⟩:=hcut;clear K1 B1 c0 c1 c2 c3 c4 hsg hsz;have c4:=K2.out.five.c4;by_cases a0:al=0
 ·have E:Hid (bl S2=bl nm++oE (bl qual)++xj op (bl ver)++uS (archs.map bl)):=by
   have hl:=HAL.out;rw[a0] at hl;show _=_;rw[E2.out,ES.out,List.length_eq_zero_iff.1 hl];simp[uS]
  have a1:decide ((0:Int)<(al:Int))=false:=dF (by omega);have a2:decide (0<al)=false:=dF (by omega);clear a0;go_wp2;go_ret;exact⟨by rw[<-xS E.out];rfl,B2.out⟩
 ·have a1:decide ((0:Int)<(al:Int))=true:=dT (by omega);have a2:decide (0<al)=true:=dT (by omega);obtain⟨J,hJ⟩:∃ J,bU (Lib.join (archs.map bl) (bl ⟨#[32]⟩))=J:=⟨_,rfl⟩
  have hJz:J.size<=34000000:=by rw[<-hJ,cA];exact JL.out
  have E:Hid (bl (S2++(⟨#[32,91]⟩++J++⟨#[93]⟩))=bl nm++oE (bl qual)++xj op (bl ver)++uS (archs.map bl)):=by
   have hl:=HAL.out;show _=_;simp only[cK];rw[E2.out,ES.out,<-hJ,fA];unfold uS;rw[if_neg (by rw[List.isEmpty_iff,List.map_eq_nil_iff];intro e;rw[e] at hl;simp at hl;omega)];rfl
  have HJ2:=ae (HJ.out _ B2.out);rw[hJ] at HJ2;clear a0 hJ;go_wp2_with fail;refine HJ2.out.mono ?_;rintro e w2 ⟨rfl,hb2⟩;have B3:Hid (Below w.heap.size w w2):=aq B2.out hb2;clear hb2;go_wp2;go_ret;exact⟨by rw[<-xS E.out];rfl,B3.out⟩
def qc (g:List ee):LU:=Lib.join (g.map ee.text) [32,124,32]
theorem OY {t:cU}(h:t.okT):t.pl.text.length<=35000000:=by
 rw[uT];have h1:=Cb t.op (bl t.ver);have h2:=Jn (t.archs.map bl) (fun x hx=>by obtain⟨y,hy,rfl⟩:=List.mem_map.1 hx;rw[ah];exact h.archz y hy) (by simpa using h.few);have h3:(oE (bl t.qual)).length<=33:=by have:=h.qualz;rw[<-ah] at this;unfold oE;split<;>simp;omega
 have h4:=h.nmz;have h5:=h.verz;rw[<-ah] at h4 h5;simp only[List.length_append,cU.pl];omega
theorem uU (A:OA)(c:Nat)(gs:List bM)(hW:zS gs)(w:World)(hG:Gl w)(hr:pX w A gs)(hcp:Fe gs):Calls Tryz.prog 124 #[.slice A gs.length c] w fun e w'=>e=.returned (.tuple #[.string (bU (xX (gs.map bM.pl))),.int .i64 0])/\Below w.heap.size w w':=by
 obtain⟨i0,hi0,hz0,hz1,hz2⟩:=info_parts ly;have HG:=ae hG;have HR:=ae hr;have HW:=ae hW;have HCP:=ae hcp;have hfew:=hW.few;have GL:Hid (∀ g∈gs,(qc g.pl).length<=3000000000):=by
  intro g hg;have h1:=nJ [32,124,32] 35000000 (g.pl.map ee.text) (fun x hx=>by
   obtain⟨y,hy,rfl⟩:=List.mem_map.1 hx;obtain⟨t,ht,rfl⟩:=List.mem_map.1 hy;exact OY (hW.ok g hg t ht))
  have h2:=hW.len g hg;unfold qc bM.pl at *;simp only[List.length_map,List.length_cons,List.length_nil] at h1 |-;have:g.ts.length*(35000000+(0+1+1+1))<=64*35000003:=Nat.mul_le_mul h2 (by omega);omega
 clear hG hr hW hcp;go_in;go_wp2_with fail;refine(Fk A c gs HW.out w HG.out HR.out).mono ?_;rintro e w0 ⟨rfl,hb0⟩;have HB0:=ae hb0;clear hb0;go_wp2;go_loopw [5,18] (fun l i wr=>∃ (k:Nat) (xs:List BA) (B:OA) (cc:Nat),k<=gs.length/\l=.slice B k cc/\i=.int .i64 k/\Hid (oV w0 wr xs B k cc)/\Hid (xs.map bl=(gs.take k).map (fun g=>qc g.pl))) (fun _ i _=>gs.length-(intOf i).toNat)
 case atStart=>exact⟨0,[],none,0,z0,rfl,rfl,oV.nil w0,rfl⟩
 case round=>
  obtain⟨k,xs,B,cc,hk,rfl,rfl,HS,HT⟩:=hrel;by_cases hlt:k<gs.length
  ·obtain⟨g,hg⟩:∃ g,gs[k]?=some g:=⟨_,gG hlt⟩
   have HRW:=ae (HR.out.below (aq HB0.out HS.out.bel));obtain⟨b,off,hA,he⟩:=HRW.out.row.one k _ (zR hg) hlt;have hix:=fun W=>aB (T:=164) (E:=209) (sz:=1) (c:=c) Tryz.underlying164 rfl Tryz.sizeOf209 hA hlt W;simp only[Nat.mul_one] at hix;have hmem:=gM hg;have hgl:=HW.out.len g hmem;have HRG:=ae (HRW.out.grp g hmem);have HRA:=ae (HRW.out.archs g hmem);have HTK:=ae (HW.out.ok g hmem);have HTC:=ae (HCP.out g hmem);have TK:Hid ((gs.take (k+1)).map (fun g=>qc g.pl)=(gs.take k).map (fun g=>qc g.pl)++[qc g.pl]):=by
    show _=_;obtain⟨hk',hf'⟩:=gS hg;rw[tS hk',hf'];simp
   have HGG:=ae (GL.out g hmem);obtain⟨gl,hgle⟩:∃ gl,g.ts.length=gl:=⟨_,rfl⟩
   rw[hgle] at he hgl;have HGL:=ae hgle;clear hg hA hgle HRW hmem;go_wp2_with fail;clear he hix;obtain⟨wo,rfl⟩:∃ wo:World,wo=wr:=⟨_,rfl⟩
   go_loopw [8,24] (fun l q wr=>∃ (j:Nat) (ys:List BA) (C:OA) (dc:Nat),j<=gl/\l=.slice C j dc/\q=.int .i64 j/\Hid (oV wo wr ys C j dc)/\Hid (ys.map bl=(g.ts.take j).map (fun t=>t.pl.text))) (fun _ q _=>gl-(intOf q).toNat)
   case atStart=>exact⟨0,[],none,0,z0,rfl,rfl,oV.nil wo,rfl⟩
   case round=>
    obtain⟨j,ys,C,dc,hj,rfl,rfl,HI,HY⟩:=hrel;by_cases hlt4:j<gl
    ·have HL4:Hid (j<g.ts.length):=by have:=HGL.out;show _<_;omega
     obtain⟨t,ht⟩:∃ t,g.ts[j]?=some t:=⟨_,gG HL4.out⟩
     obtain⟨b2,off2,hA2,he2⟩:=(HRG.out.below HI.out.bel).elem G9 j t ht;have e0:=he2 0 _ rfl;have e1:=he2 1 _ rfl;have e2:=he2 2 _ rfl;have e3:=he2 3 _ rfl;have e4:=he2 4 _ rfl;simp only[Nat.add_zero] at e0;have hix2:=fun W=>aB (T:=209) (E:=211) (sz:=5) (n:=gl) (c:=g.gc) Tryz.underlying209 rfl Tryz.sizeOf211 hA2 hlt4 W;have TTK:=ae (HTK.out t (gM ht));have TTA:=ae (HRA.out t (gM ht));have TTC:=ae (HTC.out t (gM ht));have TY:Hid ((g.ts.take (j+1)).map (fun t=>t.pl.text)=(g.ts.take j).map (fun t=>t.pl.text)++[t.pl.text]):=by
      show _=_;obtain⟨hk',hf'⟩:=gS ht;rw[tS hk',hf'];simp
     have BA:Hid (Below wo.heap.size wo (wr.alloc (.cells #[.string t.nm,.int .i64 t.op,.string t.ver,.string t.qual,.slice t.aa t.archs.length t.ac] 211))):=HI.out.bel.alloc HI.out.bel.size _;have BW:Hid (Below w.heap.size w wo):=aq HB0.out HS.out.bel;clear ht he2 hA2;go_wp2_with fail;refine(Jo t TTK.out _ (HG.out.below (aq BW.out BA.out)) (TTA.out.below BA.out) TTC.out).mono ?_;rintro e w2 ⟨rfl,hb2⟩;obtain⟨X,hX⟩:∃ X,bU t.pl.text=X:=⟨_,rfl⟩
     rw[hX];have HX:Hid (bl X=t.pl.text):=by show _=_;rw[<-hX,fA]
     have S2:=ae ((HI.out.below (bR.alloc lr (.cells #[.string t.nm,.int .i64 t.op,.string t.ver,.string t.qual,.slice t.aa t.archs.length t.ac] 211))).below hb2);clear hb2 e0 e1 e2 e3 e4 hix2 hX;go_wp2_with (at_builtin;refine au _ rfl _ _ _ rfl wo.heap.size 9 i0 _ 1 16 Tryz.underlying22 hi0 hz0 hz1 hz2 rfl (by omega) (.slice C j dc) j _ rfl (S2.out.row.alloc _) (w2.heap.size+1) (some ⟨w2.heap.size,0,none⟩) 1 1 [.string X] rfl (gK w2 _ _) (by simp[Value.oneCell']) (by simp only[maxLen];omega) (by omega) (by simp;have:=S2.out.bel.size;omega) ?_;intro v1 w3 o1 g1 a1);obtain⟨A1,c1,rfl⟩:=aN o1;have R1:=ae (S2.out.grow (x:=X) o1 g1);clear o1 g1 a1;go_wp2;go_roundw
     case rel=>exact⟨j+1,ys++[X],A1,c1,by omega,rfl,by go_num,R1,by show _=_;rw[TY.out,List.map_append,HY.out];simp[HX.out]⟩
     case measure=>simp[intOf];omega
    ·have EY:Hid (ys.map bl=g.pl.map ee.text):=by
      show _=_;rw[HY.out,tL (by rw[HGL.out];omega)];unfold bM.pl;simp
     have hln:=HI.out.len;have hcap:=mV HI.out.row;obtain⟨X,hX⟩:∃ X,bU (Lib.join (ys.map bl) (bl ⟨#[32,124,32]⟩))=X:=⟨_,rfl⟩
     have HX:Hid (bl X=qc g.pl):=by show _=_;rw[<-hX,fA,EY.out];rfl
     have HJ:=ae (fun (_:Unit)=>pZ C dc ys ⟨#[32,124,32]⟩ wr (by rw[hln];exact bD HI.out.row) (by omega) (by omega) (by rw[EY.out];have:=HGG.out;unfold qc at this;rw[show bl ⟨#[32,124,32]⟩=[32,124,32] from rfl];omega));rw[hln,hX] at HJ;have SO:=ae (HS.out.below HI.out.bel);clear hcap hln hX;go_wp2_with fail;refine(HJ.out ()).mono ?_;rintro e w2 ⟨rfl,hb2⟩;have S2:=ae (SO.out.below hb2);clear hb2;go_wp2_with (at_builtin;refine au _ rfl _ _ _ rfl w0.heap.size 9 i0 _ 1 16 Tryz.underlying22 hi0 hz0 hz1 hz2 rfl (by omega) (.slice B k cc) k _ rfl (S2.out.row.alloc _) (w2.heap.size+1) (some ⟨w2.heap.size,0,none⟩) 1 1 [.string X] rfl (gK w2 _ _) (by simp[Value.oneCell']) (by simp only[maxLen];omega) (by omega) (by simp;have:=S2.out.bel.size;omega) ?_;intro v1 w3 o1 g1 a1);obtain⟨A1,c1,rfl⟩:=aN o1;have R1:=ae (S2.out.grow (x:=X) o1 g1);clear o1 g1 a1;go_wp2;go_roundw
     case rel=>exact⟨k+1,xs++[X],A1,c1,by omega,rfl,by go_num,R1,by show _=_;rw[TK.out,List.map_append,HT.out];simp[HX.out]⟩
     case measure=>simp[intOf];omega
  ·have EX:Hid (xs.map bl=(gs.map bM.pl).map qc):=by
    show _=_;rw[HT.out,tL (by omega)];simp
   have hln:=HS.out.len;have hcap:=mV HS.out.row;have JL:Hid ((Lib.join (xs.map bl) (bl ⟨#[44,32]⟩)).length<=140737488355328):=by
    have h1:=nJ (bl ⟨#[44,32]⟩) 3000000000 (xs.map bl) (fun y hy=>by
     rw[EX.out] at hy;obtain⟨z,hz,rfl⟩:=List.mem_map.1 hy;obtain⟨g,hg,rfl⟩:=List.mem_map.1 hz;exact GL.out g hg)
    have h2:(bl ⟨#[44,32]⟩:LU).length=2:=rfl;rw[h2,List.length_map,hln] at h1;show _<=_;omega
   have HJ:=ae (fun (_:Unit)=>pZ B cc xs ⟨#[44,32]⟩ wr (by rw[hln];exact bD HS.out.row) (by omega) (by omega) JL.out);rw[hln] at HJ;clear hcap JL hln;go_wp2_with fail;refine(HJ.out ()).mono ?_;rintro e w2 ⟨rfl,hb2⟩;have ET:Hid (bU (Lib.join (xs.map bl) (bl ⟨#[44,32]⟩))=bU (xX (gs.map bM.pl))):=by show _=_;rw[EX.out];rfl
   have B2:Hid (Below w.heap.size w w2):=aq (aq HB0.out HS.out.bel) hb2;clear hb2;go_wp2;go_ret2;exact⟨by rw[<-ET.out];rfl,B2.out⟩
def uV (s:BA)(ok:Bool)(w:World)(e:Ending)(w':World):Prop:=
 ∃ (out:BA) (b:Bool),e=.returned (.tuple #[.string out,.bool b])/\Below w.heap.size w w'/\(s.size≠0->(b=true/\out=s↔ok=true))
theorem xl (h:iK l=none):kk l=false:=by unfold kk;rw[h];simp
theorem xm {L:List (List ee)}(h:iK l=some L)(h0:l≠[]):kk l=decide (xX L=l):=by
 unfold kk;rw[h];simp[h0]
theorem xo (h:iJ l=none):kj l=false:=by unfold kj;rw[h];simp
theorem xp {L:List gT}(h:iJ l=some L)(h0:l≠[]):kj l=decide (xT L=l):=by
 unfold kj;rw[h];simp[h0]
theorem qY :bU l=s↔l=bl s:=by
 constructor
 ·intro h;rw[<-h,fA]
 ·intro h;rw[h,oz]
theorem Ml (h:s.size≠0):bl s≠[]:=by intro e;apply h;rw[<-ah,e];rfl
theorem zS.nil:zS []:=zS.of mi.nil
theorem pX.nil (w:World):pX w none []:=⟨Rd.nil _ _ _,by simp,by simp⟩
theorem uW (s:BA)(w:World)(hG:Gl w)(hs:s.size<=1000000):Calls Tryz.prog 84 #[.int .i64 1,.string s] w (uV s (kk (bl s)) w):=by
 have HG:=ae hG;clear hG;have B0:Hid (Below w.heap.size w (w.alloc (.cells #[.string ⟨#[]⟩,.int .i64 0,.int .i64 0] 163))):=bR.alloc lr _;have K0:Hid (ax (w.alloc (.cells #[.string ⟨#[]⟩,.int .i64 0,.int .i64 0] 163)) w.heap.size [.string ⟨#[]⟩,.int .i64 0,.int .i64 0]):=ax.new w _ _;go_in;go_wp2_with fail;refine(Fh s _ (HG.out.below B0.out) (by omega)).mono ?_;rintro e w1 ⟨A,n,c,f,a,code,rfl,hb1,hpost⟩;have B1:=ae (aq B0.out hb1);have K1:=ae (K0.out.below hb1);have r0:=K1.out.cell 0 _ rfl;have r1:=K1.out.cell 1 _ rfl;have r2:=K1.out.cell 2 _ rfl;have fr0:=K1.out.free 0 (by simp);have fr1:=K1.out.free 1 (by simp);have fr2:=K1.out.free 2 (by simp);have hlt1:w.heap.size<w1.heap.size:=K1.out.sz;have hne1:¬ w.heap.size=w1.heap.size:=by omega
 have KS:=ae (((K1.out.set 0 (by simp) (.string f)).set 1 (by simp) (.int .i64 a)).set 2 (by simp) (.int .i64 code));have K3:=ae (KS.out.alloc (.cells #[.string f,.int .i64 a,.int .i64 code] 163));have BS:=ae (ai (j:=2) (ai (j:=1) (ai (j:=0) B1.out lr (.string f)) lr (.int .i64 a)) lr (.int .i64 code));have B3:=ae (BS.out.alloc BS.out.size (.cells #[.string f,.int .i64 a,.int .i64 code] 163));cases hp:iK (bl s) with
 | none=>
  rw[hp] at hpost;obtain⟨hc,rfl,rfl⟩:=hpost;have EN:=ae (xl hp);have hc1:(code==0)=false:=by simp[hc]
  clear hp hc hb1;unfold fj;go_wp2_with fail;refine(uU none c [] zS.nil _ (HG.out.below B3.out) (pX.nil _) (fun _ h=>by simp at h)).mono ?_;rintro e w4 ⟨rfl,hb4⟩;have d2:=(K3.out.below hb4).cell 2 _ rfl;have B4:=ae (aq B3.out hb4);clear hb4;go_wp2;go_ret2;exact⟨_,false,rfl,B4.out,fun _=>by rw[EN.out];simp⟩
 | some L=>
  rw[hp] at hpost;obtain⟨rfl,gs,hgs,hok⟩:=hpost;have hgood:=Fi hp (by rw[ah];exact hs);rw[<-hgs] at hgood;have HW:=ae (zS.of hgood);have EN:Hid (s.size≠0->(bU (xX (gs.map bM.pl))=s↔kk (bl s)=true)):=fun h0=>by rw[xm hp (Ml h0),hgs,decide_eq_true_iff];exact qY
  have hlo:w.heap.size<(w.alloc (.cells #[.string ⟨#[]⟩,.int .i64 0,.int .i64 0] 163)).heap.size:=by simp
  have HOK:=ae ((((hok.kept hlo (aW (j:=0) (.string f))).kept hlo (aW (j:=1) (.int .i64 a))).kept hlo (aW (j:=2) (.int .i64 0))).below (bR.alloc lr (.cells #[.string f,.int .i64 a,.int .i64 0] 163)));obtain rfl:=hok.len;have hP:=uU A c gs HW.out _ (HG.out.below B3.out) HOK.out.ok HOK.out.cap;obtain⟨X,hX⟩:∃ X,bU (xX (gs.map bM.pl))=X:=⟨_,rfl⟩
  rw[hX] at hP EN;clear hp hgs hok hgood hb1 hX hlo;unfold fj;go_wp2_with fail;refine hP.mono ?_;rintro e w4 ⟨rfl,hb4⟩;have d2:=(K3.out.below hb4).cell 2 _ rfl;have B4:=ae (aq B3.out hb4);clear hb4 hP;go_wp2;go_ret2;exact⟨X,true,rfl,B4.out,fun h=>by have:=EN.out h;simpa using this⟩
theorem uX (fmt:Int)(h1:fmt≠1)(h2:fmt≠2)(s:BA)(w:World)(hG:zL w)(hs:s.size<=1000000):Calls Tryz.prog 84 #[.int .i64 fmt,.string s] w (uV s (kj (bl s)) w):=by
 have HG:=ae hG;clear hG;have q1:(fmt==1)=false:=by simp[h1]
 have q2:(fmt==2)=false:=by simp[h2]
 clear h1 h2;have B0:Hid (Below w.heap.size w (w.alloc (.cells #[.string ⟨#[]⟩,.int .i64 0,.int .i64 0] 163))):=bR.alloc lr _;have K0:Hid (ax (w.alloc (.cells #[.string ⟨#[]⟩,.int .i64 0,.int .i64 0] 163)) w.heap.size [.string ⟨#[]⟩,.int .i64 0,.int .i64 0]):=ax.new w _ _;go_in;go_wp2_with fail;refine(EJ s _ (HG.out.below B0.out) (by omega)).mono ?_;rintro e w1 ⟨A,n,c,f,a,code,rfl,hb1,hpost⟩;have B1:=ae (aq B0.out hb1);have K1:=ae (K0.out.below hb1);have r0:=K1.out.cell 0 _ rfl;have r1:=K1.out.cell 1 _ rfl;have r2:=K1.out.cell 2 _ rfl;have fr0:=K1.out.free 0 (by simp);have fr1:=K1.out.free 1 (by simp);have fr2:=K1.out.free 2 (by simp);have hlt1:w.heap.size<w1.heap.size:=K1.out.sz;have hne1:¬ w.heap.size=w1.heap.size:=by omega
 have KS:=ae (((K1.out.set 0 (by simp) (.string f)).set 1 (by simp) (.int .i64 a)).set 2 (by simp) (.int .i64 code));have K3:=ae (KS.out.alloc (.cells #[.string f,.int .i64 a,.int .i64 code] 163));have BS:=ae (ai (j:=2) (ai (j:=1) (ai (j:=0) B1.out lr (.string f)) lr (.int .i64 a)) lr (.int .i64 code));have B3:=ae (BS.out.alloc BS.out.size (.cells #[.string f,.int .i64 a,.int .i64 code] 163));cases hp:iJ (bl s) with
 | none=>
  rw[hp] at hpost;obtain⟨hc,rfl,rfl⟩:=hpost;have EN:=ae (xo hp);have hc1:(code==0)=false:=by simp[hc]
  clear hp hc hb1;unfold fj;go_wp2_with fail;refine(uL none c [] (by simp) (by simp) _ (HG.out.1.below B3.out) (Rd.nil _ _ _)).mono ?_;rintro e w4 ⟨rfl,hb4⟩;have d2:=(K3.out.below hb4).cell 2 _ rfl;have B4:=ae (aq B3.out hb4);clear hb4;go_wp2;go_ret2;exact⟨_,false,rfl,B4.out,fun _=>by rw[EN.out];simp⟩
 | some L=>
  rw[hp] at hpost;obtain⟨rfl,rfl,hok⟩:=hpost;obtain⟨hright,hl64⟩:=rQ _ _ _ _ (by omega) hp;have EN:Hid (s.size≠0->(bU (xT L)=s↔kj (bl s)=true)):=fun h0=>by rw[xp hp (Ml h0),decide_eq_true_iff];exact qY
  have hlo:w.heap.size<(w.alloc (.cells #[.string ⟨#[]⟩,.int .i64 0,.int .i64 0] 163)).heap.size:=by simp
  have HOK:=ae (aL (aP (aP (aP hok hlo (aW (j:=0) (.string f))) hlo (aW (j:=1) (.int .i64 a))) hlo (aW (j:=2) (.int .i64 0))) (bR.alloc lr (.cells #[.string f,.int .i64 a,.int .i64 0] 163)));have hP:=uL A c L hright (by omega) _ (HG.out.1.below B3.out) (bD HOK.out);obtain⟨X,hX⟩:∃ X,bU (xT L)=X:=⟨_,rfl⟩
  rw[hX] at hP EN;clear hp hok hright hb1 hX hlo;unfold fj;go_wp2_with fail;refine hP.mono ?_;rintro e w4 ⟨rfl,hb4⟩;have d2:=(K3.out.below hb4).cell 2 _ rfl;have B4:=ae (aq B3.out hb4);clear hb4 hP;go_wp2;go_ret2;exact⟨X,true,rfl,B4.out,fun h=>by have:=EN.out h;simpa using this⟩
def yu (fmt:Int)(bars:Bool):Nat:=if fmt=2 then 64 else if fmt=3/\bars=true then 0 else 1
def ig (fmt:Int)(bars:Bool)(f:LU->Bool)(l:List BA):Bool:=decide (l.length<=yu fmt bars)&&l.all (fun x=>f (bl x))
theorem Mm (fmt:Int)(bars:Bool):yu fmt bars<=64:=by unfold yu;(repeat' split)<;>omega
theorem Mn {l:List BA}(h:l[k]?=some x)(h0:(l.take k).all (fun x=>f (bl x))=true)(hx:f (bl x)=true):(l.take (k+1)).all (fun x=>f (bl x))=true:=by
 obtain⟨hi,he⟩:=gS h;rw[tS hi,he,List.all_append,h0];simp[hx]
theorem Mo {l:List BA}(h:l[k]?=some x)(hx:f (bl x)=false):l.all (fun x=>f (bl x))=false:=by
 cases ha:l.all (fun x=>f (bl x)) with
 | false=>rfl
 | true=>
  rw[List.all_eq_true] at ha;have:=ha x (gM h);rw[hx] at this;cases this
theorem lL (fmt:Int)(bars:Bool)(f:LU->Bool)(hf:f []=false)(A:OA)(c:Nat)(l:List BA)(w:World)(hG:zL w)(hr:Rd w 1 A l.length (ay l))(hn:l.length<=4294967280)
  (hC:∀ x∈l,∀ W,zL W->Calls Tryz.prog 84 #[.int .i64 fmt,.string x] W (uV x (f (bl x)) W)):Calls Tryz.prog 47 #[.int .i64 fmt,.slice A l.length c,.bool bars] w fun e w'=>e=.returned (.bool (ig fmt bars f l))/\Below w.heap.size w w':=by
 have HG:=ae hG;have HR:=ae hr;have HC:=ae hC;have HF:=ae hf;clear hG hr hC hf;obtain⟨b2,hb2⟩:∃ b2,(fmt==2)=b2:=⟨_,rfl⟩
 obtain⟨b3,hb3⟩:∃ b3,(fmt==3)=b3:=⟨_,rfl⟩
 have HM:Hid (yu fmt bars=if b2 then 64 else if b3&&bars then 0 else 1):=by
  show _=_;unfold yu;rw[<-hb2,<-hb3];simp
 have hm64:=Mm fmt bars;obtain⟨m,hm⟩:∃ m,yu fmt bars=m:=⟨_,rfl⟩
 rw[hm] at hm64 HM;have HMM:=ae hm;clear hm;go_in;go_upto_block 0 with(fail)
 go_cut [7] (fun v wx=>v=.int .i64 m/\w=wx)
 case first=>
  cases b2 with
  | true=>
   have E:Hid (m=64):=HM.out;go_wp2;go_meet;exact⟨by rw[E.out];rfl,rfl⟩
  | false=>
   cases b3 with
   | true=>
    cases bars with
    | true=>
     have E:Hid (m=0):=HM.out;go_wp2;go_meet;exact⟨by rw[E.out];rfl,rfl⟩
    | false=>
     have E:Hid (m=1):=HM.out;go_wp2;go_meet;exact⟨by rw[E.out];rfl,rfl⟩
   | false=>
    have E:Hid (m=1):=HM.out;go_wp2;go_meet;exact⟨by rw[E.out];rfl,rfl⟩
 case rest=>
 obtain⟨rfl,rfl⟩:=hcut;clear hb2 hb3 HM;by_cases hlm:m<l.length
 ·have E:Hid (ig fmt bars f l=false):=by show _=_;unfold ig;rw[HMM.out,dF];rfl
  have d1:decide ((m:Int)<(l.length:Int))=true:=dT (by omega);have d2:decide (m<l.length)=true:=dT hlm;go_wp2;go_ret;exact⟨af E.out.symm,bR⟩
 ·have E0:Hid (ig fmt bars f l=l.all (fun x=>f (bl x))):=by show _=_;unfold ig;rw[HMM.out,dT];rfl
  have d1:decide ((m:Int)<(l.length:Int))=false:=dF (by omega);have d2:decide (m<l.length)=false:=dF hlm;go_wp2_with fail;clear d1 d2;go_loopw [6,27] (fun s6 i wr=>∃ k:Nat,s6=.bool false/\i=.int .i64 k/\k<=l.length/\Hid (Below w.heap.size w wr)/\Hid ((l.take k).all (fun x=>f (bl x))=true)) (fun _ i _=>l.length-(intOf i).toNat)
  case atStart=>exact⟨0,rfl,rfl,z0,bR,rfl⟩
  case round=>
   obtain⟨k,rfl,rfl,hk,HB,HA0⟩:=hrel;by_cases hlt:k<l.length
   ·obtain⟨x,hx⟩:∃ x,l[k]?=some x:=⟨_,gG hlt⟩
    obtain⟨b,off,hA,he⟩:=(HR.out.below HB.out).str k x hx;have hix:=fun W=>aB (T:=22) (E:=9) (sz:=1) (c:=c) Tryz.underlying22 rfl Tryz.sizeOf9 hA hlt W;simp only[Nat.mul_one] at hix;have hW:=HC.out x (gM hx);have NY:Hid (f (bl x)=true->(l.take (k+1)).all (fun x=>f (bl x))=true):=fun h=>Mn hx HA0.out h;have NN:Hid (f (bl x)=false->ig fmt bars f l=false):=fun h=>by rw[E0.out];exact Mo hx h
    clear hx hA;go_wp2_with fail;refine(hW _ (HG.out.below HB.out)).mono ?_;rintro e w2 ⟨out,ok,rfl,hb2,hiff⟩;have B2:=ae (aq HB.out hb2);clear hb2;by_cases x0:x.size=0
    ·have he1:x.toList=[]:=by rw[aj,bX x x0]
     have he2:x.toList.isEmpty=true:=by rw[he1];rfl
     have E:Hid (ig fmt bars f l=false):=NN.out (by rw[bX x x0];exact HF.out);clear hiff;go_wp2;go_ret;exact⟨af E.out.symm,B2.out⟩
    have he2:x.toList.isEmpty=false:=by rw[aj,bj];exact dF x0
    have he1:¬ x.toList=[]:=by intro h;rw[h] at he2;simp at he2
    have hif:=hiff x0;cases ok with
    | false=>
     have E:Hid (ig fmt bars f l=false):=NN.out (by cases hv:f (bl x) with
      | false=>rfl
      | true=>have:=hif.2 hv;cases this.1)
     clear hiff hif;go_wp2;go_ret;exact⟨af E.out.symm,B2.out⟩
    | true=>
     by_cases ho:out=x
     ·have HN:=ae (NY.out (hif.1 ⟨rfl,ho⟩));subst ho;clear hiff hif;go_wp2;go_roundw
      case rel=>exact⟨k+1,rfl,by go_num,by omega,B2,HN⟩
      case measure=>simp[intOf];omega
     ·have E:Hid (ig fmt bars f l=false):=NN.out (by cases hv:f (bl x) with
       | false=>rfl
       | true=>exact absurd (hif.2 hv).2 ho)
      have hne:(out.toList != x.toList)=true:=by rw[bne,et,dF ho];rfl
      have hne2:(out.toList==x.toList)=false:=by rw[et,dF ho]
      clear hiff hif ho;go_wp2;go_ret;exact⟨af E.out.symm,B2.out⟩
   ·have E:Hid (ig fmt bars f l=true):=by show _=_;rw[E0.out];have:=HA0.out;rw[tL (by omega)] at this;exact this
    go_wp2;go_ret;exact⟨af E.out.symm,HB.out⟩
end
end Go.Proofs.YtlglfpbhapmhiaaGreatDoor
