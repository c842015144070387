/- A part of the proof of a law on dependencies in three formats. No condition. -/
import Derived.Test.YtkjdbpjglobbjaaGreatDoorE35
set_option maxRecDepth 100000
set_option maxHeartbeats 20000000
set_option linter.unusedVariables false
set_option linter.unusedSimpArgs false
namespace Go.Proofs.YtkjdbpjglobbjaaGreatDoor
section
open Go.RowKit Go.Deep
theorem Pt (k:Nat)(hk:k<6):bl (Er k)=Fk k:=by
 rcases(by omega:k=0∨k=1∨k=2∨k=3∨k=4∨k=5) with rfl | rfl | rfl | rfl | rfl | rfl<;>rfl
theorem Kk (k:Nat):(Fk k).length≤2:=by unfold Fk;split<;>simp
def pK (q:LU):LU:=if q.isEmpty then [] else 58::q
def zO (op:Nat)(v:LU):LU:=if op=0 then [] else [32,40]++Fk op++[32]++v++[41]
def xN (a:List (LU)):LU:=if a.isEmpty then [] else [32,91]++Lib.join a [32]++[93]
theorem xO (t:cL):t.text=t.name++pK t.qual++zO t.op t.ver++xN t.archs:=rfl
theorem Gg (op:Nat)(v:LU):(zO op v).length≤v.length+6:=by
 have:=Kk op;unfold zO;split<;>simp;omega
theorem Mw (a:List (LU))(h:∀ x∈a,x.length≤33)(hn:a.length≤1000000):(xN a).length≤34000003:=by
 have:=ke [32] 33 a h
 unfold xN;split
 ·simp
 ·simp at this ⊢;omega
theorem Mx (t:cA)(h:t.okT)(w:World)(hG:Gl w)(hr:Rd w 1 t.aa t.archs.length (strCells t.archs))(hac:t.archs.length≤t.ac):
  Calls Tryz.prog 62 #[t.val] w fun e w'=>e=.returned (.string (bz t.pl.text))∧Below w.heap.size w w':=by
 rw[xO]
 unfold cA.val cA.pl
 obtain⟨h1,h2,h3,h4,h5,h6,h7,h8,h9,h10,h11⟩:=h
 have HG:=ae hG;have HR:=ae hr
 have HZ:=ae h10
 have HQ:=ae h2
 clear hG hr h1 h2 h3 h10 h5 h6
 obtain⟨nm,op,ver,qual,aa,ac,archs⟩:=t
 simp only at *
 have JL:Hid ((Lib.join (archs.map bl) [32]).length≤34000000):=by
  have:=ke [32] 33 (archs.map bl) (fun x hx=>by obtain⟨y,hy,rfl⟩:=List.mem_map.1 hx;rw[af];exact HZ.out y hy)
  rw[List.length_map] at this;show _≤_;simp at this;omega
 have HJ:=ae (fun (W:World) (hb:Below w.heap.size w W)=>rE aa ac archs ⟨#[32]⟩ W (HR.out.below hb) hac (by omega) (by have:=JL.out;rw[show bl ⟨#[32]⟩=[32] from rfl];omega))
 obtain⟨W1,hW1⟩:∃ W1,w.alloc (.cells #[.string nm,.int .i64 op,.string ver,.string qual,.slice aa archs.length ac] 81)=W1:=⟨_,rfl⟩
 have K1:Hid (aF W1 w.heap.size [.string nm,.int .i64 op,.string ver,.string qual,.slice aa archs.length ac]):=by rw[←hW1];exact aF.new w _ _
 have B1:Hid (Below w.heap.size w W1):=by rw[←hW1];exact bR.alloc lr _
 obtain⟨al,hal⟩:∃ al,archs.length=al:=⟨_,rfl⟩
 rw[hal] at K1 HJ hW1 h11
 rw[hal]
 have HAL:=ae hal
 clear hal hac
 obtain⟨c0,c1,c2,c3,c4,f0,f1,f2,f3,f4⟩:=K1.out.five
 clear f0 f1 f2 f3 f4
 go_enter Tryz.func62,Tryz.ntmps62
 obtain⟨bq,hbq⟩:∃ bq,qual.toList.isEmpty=bq:=⟨_,rfl⟩
 have HBQ:Hid (decide (qual.size=0)=bq):=by show _=_;rw[←aL,←ai];exact hbq
 go_upto_if 9 with(fail)
 clear hW1 hbq
 go_cut [3] (fun v wx=>∃ S:BA,v=.string S∧S.size≤100∧W1=wx∧Hid (bl S=bl nm++pK (bl qual)))
 case first=>
  cases bq with
  | true=>
   have E:Hid (bl nm=bl nm++pK (bl qual)):=by show _=_;rw[bj qual (dO HBQ.out)];simp[pK]
   go_wp2_with fail
   go_meet
   exact⟨nm,rfl,by omega,rfl,E⟩
  | false=>
   have E:Hid (bl (nm++(⟨#[58]⟩++qual))=bl nm++pK (bl qual)):=by
    show _=_;rw[bg,bg];unfold pK;rw[aL,HBQ.out];rfl
   have hz:(nm++(⟨#[58]⟩++qual)).size≤100:=by rw[←af,bg,bg];simp[af];have:(⟨#[58]⟩:BA).size=1:=rfl;omega
   have HZ2:=ae hz
   clear hz
   go_wp2_with fail
   go_meet
   exact⟨_,rfl,HZ2.out,rfl,E⟩
 case rest=>
 obtain⟨S,rfl,hS,rfl,ES⟩:=hcut
 have hsg:=(HG.out.below B1.out).dsg op (by omega)
 have hsz:(Er op).size≤2:=by rw[←af,Pt op (by omega)];exact Kk _
 go_upto_if 18 with(fail)
 go_cut [3] (fun v wx=>∃ S2:BA,v=.string S2∧S2.size≤200∧Hid (Below w.heap.size w wx)∧Hid (aF wx w.heap.size [.string nm,.int .i64 op,.string ver,.string qual,.slice aa al ac])∧Hid (bl S2=bl S++zO op (bl ver)))
 case first=>
  by_cases o0:op=0
  ·have E:Hid (bl S=bl S++zO op (bl ver)):=by show _=_;simp[zO,o0]
   have o1:((op:Int) != 0)=false:=by simp[o0]
   clear o0
   go_wp2_with fail
   go_meet
   exact⟨S,rfl,by omega,B1,K1,E⟩
  ·have o1:((op:Int) != 0)=true:=by simp[o0]
   have E:Hid (bl (S++(⟨#[32,40]⟩++Er op++⟨#[32]⟩++ver++⟨#[41]⟩))=bl S++zO op (bl ver)):=by
    show _=_;simp only[bg];unfold zO;rw[if_neg o0,Pt op (by omega)];rfl
   have hz:Hid ((S++(⟨#[32,40]⟩++Er op++⟨#[32]⟩++ver++⟨#[41]⟩)).size≤200):=by
    show _≤_;rw[←af,E.out,List.length_append,af];have:=Gg op (bl ver);rw[af] at this;omega
   have o2:(op:Int)<6:=by omega
   have o3:(0:Int)≤(op:Int):=by omega
   clear o0
   go_wp2_with fail
   go_quiet (fail)
   go_wp2_with fail
   go_meet
   exact⟨_,rfl,hz.out,bJ B1.out _,K1.out.drewN _,E⟩
 case rest=>
 obtain⟨S2,rfl,hS2,B2,K2,E2⟩:=hcut
 clear K1 B1 c0 c1 c2 c3 c4 hsg hsz
 have c4:=K2.out.five.c4
 by_cases a0:al=0
 ·have E:Hid (bl S2=bl nm++pK (bl qual)++zO op (bl ver)++xN (archs.map bl)):=by
   have hl:=HAL.out
   rw[a0] at hl
   show _=_;rw[E2.out,ES.out,List.length_eq_zero_iff.1 hl];simp[xN]
  have a1:decide ((0:Int)<(al:Int))=false:=dF (by omega)
  have a2:decide (0<al)=false:=dF (by omega)
  clear a0
  go_wp2_with fail
  go_ret
  exact⟨by rw[←Az E.out];rfl,B2.out⟩
 ·have a1:decide ((0:Int)<(al:Int))=true:=dT (by omega)
  have a2:decide (0<al)=true:=dT (by omega)
  obtain⟨J,hJ⟩:∃ J,bz (Lib.join (archs.map bl) (bl ⟨#[32]⟩))=J:=⟨_,rfl⟩
  have hJz:J.size≤34000000:=by rw[←hJ,bQ];exact JL.out
  have E:Hid (bl (S2++(⟨#[32,91]⟩++J++⟨#[93]⟩))=bl nm++pK (bl qual)++zO op (bl ver)++xN (archs.map bl)):=by
   have hl:=HAL.out
   show _=_
   simp only[bg]
   rw[E2.out,ES.out,←hJ,cH];unfold xN
   rw[if_neg (by rw[List.isEmpty_iff,List.map_eq_nil_iff];intro e;rw[e] at hl;simp at hl;omega)];rfl
  have HJ2:=ae (HJ.out _ B2.out)
  rw[hJ] at HJ2
  clear a0 hJ
  go_wp2_with fail
  refine HJ2.out.mono ?_;rintro e w2 ⟨rfl,hb2⟩
  have B3:Hid (Below w.heap.size w w2):=ah B2.out hb2
  clear hb2
  go_wp2_with fail
  go_ret
  exact⟨by rw[←Az E.out];rfl,B3.out⟩
def rX (g:List cL):LU:=Lib.join (g.map cL.text) [32,124,32]
theorem R4 {t:cA}(h:t.okT):t.pl.text.length≤35000000:=by
 rw[xO]
 have h1:=Gg t.op (bl t.ver)
 have h2:=Mw (t.archs.map bl) (fun x hx=>by obtain⟨y,hy,rfl⟩:=List.mem_map.1 hx;rw[af];exact h.archz y hy) (by simpa using h.few)
 have h3:(pK (bl t.qual)).length≤33:=by have:=h.qualz;rw[←af] at this;unfold pK;split<;>simp;omega
 have h4:=h.nmz;have h5:=h.verz
 rw[←af] at h4 h5
 simp only[List.length_append,cA.pl];omega
theorem Jd (A:Option Addr)(c:Nat)(gs:List aW)(hW:xM gs)(w:World)(hG:Gl w)(hr:py w A gs)(hcp:xI gs):
  Calls Tryz.prog 39 #[.slice A gs.length c] w fun e w'=>e=.returned (.tuple #[.string (bz (eY (gs.map aW.pl))),.int .i64 0])∧Below w.heap.size w w':=by
 obtain⟨i0,hi0,hz0,hz1,hz2⟩:=info_parts qV
 have HG:=ae hG;have HR:=ae hr;have HW:=ae hW;have HCP:=ae hcp
 have hfew:=hW.few
 have GL:Hid (∀ g∈gs,(rX g.pl).length≤3000000000):=by
  intro g hg
  have h1:=ke [32,124,32] 35000000 (g.pl.map cL.text) (fun x hx=>by
   obtain⟨y,hy,rfl⟩:=List.mem_map.1 hx
   obtain⟨t,ht,rfl⟩:=List.mem_map.1 hy
   exact R4 (hW.ok g hg t ht))
  have h2:=hW.len g hg
  unfold rX aW.pl at *
  simp only[List.length_map,List.length_cons,List.length_nil] at h1 ⊢
  have:g.ts.length*(35000000+(0+1+1+1))≤64*35000003:=Nat.mul_le_mul h2 (by omega)
  omega
 clear hG hr hW hcp
 go_enter Tryz.func39,Tryz.ntmps39
 go_wp2_with fail
 refine(Jc A c gs HW.out w HG.out HR.out).mono ?_;rintro e w0 ⟨rfl,hb0⟩
 have HB0:=ae hb0;clear hb0
 go_wp2_with fail
 go_loopw [5,18] (fun l i wr=>∃ (k:Nat) (xs:List BA) (B:Option Addr) (cc:Nat),k≤gs.length∧l=.slice B k cc∧i=.int .i64 k∧Hid (qq w0 wr xs B k cc)∧Hid (xs.map bl=(gs.take k).map (fun g=>rX g.pl))) (fun _ i _=>gs.length-(intOf i).toNat)
 case atStart=>exact⟨0,[],none,0,z0,rfl,rfl,qq.nil w0,rfl⟩
 case round=>
  obtain⟨k,xs,B,cc,hk,rfl,rfl,HS,HT⟩:=hrel
  by_cases hlt:k<gs.length
  ·obtain⟨g,hg⟩:∃ g,gs[k]?=some g:=⟨_,gG hlt⟩
   have HRW:=ae (HR.out.below (ah HB0.out HS.out.bel))
   obtain⟨b,off,hA,he⟩:=HRW.out.row.one k _ (xK hg) hlt
   have hix:=fun W=>aH (T:=67) (E:=79) (sz:=1) (c:=c) Tryz.underlying67 rfl Tryz.sizeOf79 hA hlt W
   simp only[Nat.mul_one] at hix
   have hmem:=gM hg
   have hgl:=HW.out.len g hmem
   have HRG:=ae (HRW.out.grp g hmem)
   have HRA:=ae (HRW.out.archs g hmem)
   have HTK:=ae (HW.out.ok g hmem)
   have HTC:=ae (HCP.out g hmem)
   have TK:Hid ((gs.take (k+1)).map (fun g=>rX g.pl)=(gs.take k).map (fun g=>rX g.pl)++[rX g.pl]):=by
    show _=_;obtain⟨hk',hf'⟩:=gS hg;rw[tS hk',hf'];simp
   have HGG:=ae (GL.out g hmem)
   obtain⟨gl,hgle⟩:∃ gl,g.ts.length=gl:=⟨_,rfl⟩
   rw[hgle] at he hgl
   have HGL:=ae hgle
   clear hg hA hgle HRW hmem
   go_wp2_with fail
   clear he hix
   obtain⟨wo,rfl⟩:∃ wo:World,wo=wr:=⟨_,rfl⟩
   go_loopw [8,24] (fun l q wr=>∃ (j:Nat) (ys:List BA) (C:Option Addr) (dc:Nat),j≤gl∧l=.slice C j dc∧q=.int .i64 j∧Hid (qq wo wr ys C j dc)∧Hid (ys.map bl=(g.ts.take j).map (fun t=>t.pl.text))) (fun _ q _=>gl-(intOf q).toNat)
   case atStart=>exact⟨0,[],none,0,z0,rfl,rfl,qq.nil wo,rfl⟩
   case round=>
    obtain⟨j,ys,C,dc,hj,rfl,rfl,HI,HY⟩:=hrel
    by_cases hlt4:j<gl
    ·have HL4:Hid (j<g.ts.length):=by have:=HGL.out;show _<_;omega
     obtain⟨t,ht⟩:∃ t,g.ts[j]?=some t:=⟨_,gG HL4.out⟩
     obtain⟨b2,off2,hA2,he2⟩:=(HRG.out.below HI.out.bel).elem vu j t ht
     have e0:=he2 0 _ rfl
     have e1:=he2 1 _ rfl
     have e2:=he2 2 _ rfl
     have e3:=he2 3 _ rfl
     have e4:=he2 4 _ rfl
     simp only[Nat.add_zero] at e0
     have hix2:=fun W=>aH (T:=79) (E:=81) (sz:=5) (n:=gl) (c:=g.gc) Tryz.underlying79 rfl Tryz.sizeOf81 hA2 hlt4 W
     have TTK:=ae (HTK.out t (gM ht))
     have TTA:=ae (HRA.out t (gM ht))
     have TTC:=ae (HTC.out t (gM ht))
     have TY:Hid ((g.ts.take (j+1)).map (fun t=>t.pl.text)=(g.ts.take j).map (fun t=>t.pl.text)++[t.pl.text]):=by
      show _=_;obtain⟨hk',hf'⟩:=gS ht;rw[tS hk',hf'];simp
     have BA:Hid (Below wo.heap.size wo (wr.alloc (.cells #[.string t.nm,.int .i64 t.op,.string t.ver,.string t.qual,.slice t.aa t.archs.length t.ac] 81))):=HI.out.bel.alloc HI.out.bel.size _
     have BW:Hid (Below w.heap.size w wo):=ah HB0.out HS.out.bel
     clear ht he2 hA2
     go_wp2_with fail
     refine(Mx t TTK.out _ (HG.out.below (ah BW.out BA.out)) (TTA.out.below BA.out) TTC.out).mono ?_;rintro e w2 ⟨rfl,hb2⟩
     obtain⟨X,hX⟩:∃ X,bz t.pl.text=X:=⟨_,rfl⟩
     rw[hX]
     have HX:Hid (bl X=t.pl.text):=by show _=_;rw[←hX,cH]
     have S2:=ae ((HI.out.below (bR.alloc lr (.cells #[.string t.nm,.int .i64 t.op,.string t.ver,.string t.qual,.slice t.aa t.archs.length t.ac] 81))).below hb2)
     clear hb2 e0 e1 e2 e3 e4 hix2 hX
     go_wp2_with (at_builtin;refine ak _ rfl _ _ _ rfl wo.heap.size 9 i0 _ 1 16 Tryz.underlying25 hi0 hz0 hz1 hz2 rfl (by omega) (.slice C j dc) j _ rfl (S2.out.row.alloc _) (w2.heap.size+1) (some ⟨w2.heap.size,0,none⟩) 1 1 [.string X] rfl (fQ w2 _ _) (by simp[Value.oneCell']) (by simp only[maxLen];omega) (by omega) (by simp;have:=S2.out.bel.size;omega) ?_;intro v1 w3 o1 g1 a1)
     obtain⟨A1,c1,rfl⟩:=aG o1
     have R1:=ae (S2.out.grow (x:=X) o1 g1)
     clear o1 g1 a1
     go_wp2_with fail
     go_roundw
     case rel=>exact⟨j+1,ys++[X],A1,c1,by omega,rfl,by go_num,R1,by show _=_;rw[TY.out,List.map_append,HY.out];simp[HX.out]⟩
     case measure=>simp[intOf];omega
    ·have EY:Hid (ys.map bl=g.pl.map cL.text):=by
      show _=_;rw[HY.out,tL (by rw[HGL.out];omega)];unfold aW.pl;simp
     have hln:=HI.out.len
     have hcap:=nE HI.out.row
     obtain⟨X,hX⟩:∃ X,bz (Lib.join (ys.map bl) (bl ⟨#[32,124,32]⟩))=X:=⟨_,rfl⟩
     have HX:Hid (bl X=rX g.pl):=by show _=_;rw[←hX,cH,EY.out];rfl
     have HJ:=ae (fun (_:Unit)=>rE C dc ys ⟨#[32,124,32]⟩ wr (by rw[hln];exact bA HI.out.row) (by omega) (by omega) (by rw[EY.out];have:=HGG.out;unfold rX at this;rw[show bl ⟨#[32,124,32]⟩=[32,124,32] from rfl];omega))
     rw[hln,hX] at HJ
     have SO:=ae (HS.out.below HI.out.bel)
     clear hcap hln hX
     go_wp2_with fail
     refine(HJ.out ()).mono ?_;rintro e w2 ⟨rfl,hb2⟩
     have S2:=ae (SO.out.below hb2)
     clear hb2
     go_wp2_with (at_builtin;refine ak _ rfl _ _ _ rfl w0.heap.size 9 i0 _ 1 16 Tryz.underlying25 hi0 hz0 hz1 hz2 rfl (by omega) (.slice B k cc) k _ rfl (S2.out.row.alloc _) (w2.heap.size+1) (some ⟨w2.heap.size,0,none⟩) 1 1 [.string X] rfl (fQ w2 _ _) (by simp[Value.oneCell']) (by simp only[maxLen];omega) (by omega) (by simp;have:=S2.out.bel.size;omega) ?_;intro v1 w3 o1 g1 a1)
     obtain⟨A1,c1,rfl⟩:=aG o1
     have R1:=ae (S2.out.grow (x:=X) o1 g1)
     clear o1 g1 a1
     go_wp2_with fail
     go_roundw
     case rel=>exact⟨k+1,xs++[X],A1,c1,by omega,rfl,by go_num,R1,by show _=_;rw[TK.out,List.map_append,HT.out];simp[HX.out]⟩
     case measure=>simp[intOf];omega
  ·have EX:Hid (xs.map bl=(gs.map aW.pl).map rX):=by
    show _=_;rw[HT.out,tL (by omega)];simp
   have hln:=HS.out.len
   have hcap:=nE HS.out.row
   have JL:Hid ((Lib.join (xs.map bl) (bl ⟨#[44,32]⟩)).length≤140737488355328):=by
    have h1:=ke (bl ⟨#[44,32]⟩) 3000000000 (xs.map bl) (fun y hy=>by
     rw[EX.out] at hy
     obtain⟨z,hz,rfl⟩:=List.mem_map.1 hy
     obtain⟨g,hg,rfl⟩:=List.mem_map.1 hz
     exact GL.out g hg)
    have h2:(bl ⟨#[44,32]⟩:LU).length=2:=rfl
    rw[h2,List.length_map,hln] at h1
    show _≤_;omega
   have HJ:=ae (fun (_:Unit)=>rE B cc xs ⟨#[44,32]⟩ wr (by rw[hln];exact bA HS.out.row) (by omega) (by omega) JL.out)
   rw[hln] at HJ
   clear hcap JL hln
   go_wp2_with fail
   refine(HJ.out ()).mono ?_;rintro e w2 ⟨rfl,hb2⟩
   have ET:Hid (bz (Lib.join (xs.map bl) (bl ⟨#[44,32]⟩))=bz (eY (gs.map aW.pl))):=by show _=_;rw[EX.out];rfl
   have B2:Hid (Below w.heap.size w w2):=ah (ah HB0.out HS.out.bel) hb2
   clear hb2
   go_wp2_with fail
   go_ret2
   exact⟨by rw[←ET.out];rfl,B2.out⟩
end
section
open Go.RowKit
def jg (t:cA):aA:=⟨t.nm,t.op,t.ver⟩
theorem xP (t:cA):mY t.pl=jg t:=by unfold mY jg cA.pl;simp only;rw[iP,iP]
def rY (bar:Bool)(g:List cL):Bool:=(bar&&decide (g.length≠1))||g.any fun t=>!t.qual.isEmpty || !t.archs.isEmpty
theorem oI {bar:Bool}{L:List (List cL)}{g:List cL}(hg:g∈L)(h:rY bar g=true):pE bar L=([],11):=by
 have e:pE bar L=if L.any (rY bar)=true then ([],11) else (L.map fun g=>⟨bar,g.map mY⟩,0):=rfl
 rw[e,if_pos (List.any_eq_true.2 ⟨g,hg,h⟩)]
theorem Gh {bar:Bool}{L:List (List cL)}(h:∀ g∈L,rY bar g=false):pE bar L=(L.map fun g=>⟨bar,g.map mY⟩,0):=by
 have e:pE bar L=if L.any (rY bar)=true then ([],11) else (L.map fun g=>⟨bar,g.map mY⟩,0):=rfl
 rw[e,if_neg (by rw[Bool.not_eq_true,List.any_eq_false];intro g hg;rw[Bool.not_eq_true];exact h g hg)]
theorem Pu {bar:Bool}{g:List cL}(h:(bar&&decide (g.length≠1))=true):rY bar g=true:=by unfold rY;rw[h];rfl
theorem Bu {bar:Bool}{g:List cL}{t:cL}(ht:t∈g)(h:(!t.qual.isEmpty || !t.archs.isEmpty)=true):rY bar g=true:=by
 unfold rY;rw[List.any_eq_true.2 ⟨t,ht,h⟩,Bool.or_true]
theorem R9 {bar:Bool}{g:List cL}(h:(bar&&decide (g.length≠1))=false)(ht:∀ t∈g,(!t.qual.isEmpty || !t.archs.isEmpty)=false):rY bar g=false:=by
 unfold rY;rw[h,Bool.false_or,List.any_eq_false];intro t hm;rw[ht t hm];simp
theorem Ht.start (w:World)(bar:Bool)(t:TypeId):Ht w (w.alloc (.cells #[.bool bar,.slice none 0 0] t)) w.heap.size (w.heap.size+1) bar none 0 0 []:=
 ⟨bR.alloc lr _,aF.new w [.bool bar,.slice none 0 0] t,World.ownsRow_nil _ _ _ _,rfl,lr,Nat.lt_succ_self _,by simp⟩
theorem uY (bar:Bool)(A:Option Addr)(c:Nat)(gs:List aW)(w:World)(hr:py w A gs)(hl:gs.length≤64)(hz:∀ g∈gs,g.ts.length≤64)(hsm:∀ g∈gs,∀ t∈g.ts,t.nm.size≤64∧t.ver.size≤64)(hcp:xI gs):
  Calls Tryz.prog 42 #[.slice A gs.length c,.bool bar] w (fq (pE bar (gs.map aW.pl)) w):=by
 obtain⟨i0,hi,hz0,hz1,hz2⟩:=info_parts kN
 obtain⟨i1,hj,hy0,hy1,hy2⟩:=info_parts mg
 have HR:=ae hr;have HZ:=ae hz;have HCP:=ae hcp;have HSM:=ae hsm
 clear hr hz hcp hsm
 go_enter Tryz.func42,Tryz.ntmps42
 go_wp2_with fail
 go_loopw [6,14] (fun s6 s14 wr=>∃ (k:Nat) (O:Option Addr) (oc:Nat) (ds:List aq),s6=.slice O k oc∧s14=.int .i64 k∧k≤gs.length∧Hid (∀ g∈gs.take k,rY bar g.pl=false)∧Hid (ds.map aq.pl=(gs.take k).map fun g=>⟨bar,g.pl.map mY⟩)∧Hid (iT w wr ds O k oc)) (fun _ i _=>gs.length-(intOf i).toNat)
 case atStart=>exact⟨0,none,0,[],rfl,rfl,z0,by simp[Hid],rfl,iT.start w⟩
 case round=>
  obtain⟨k,O,oc,ds,rfl,rfl,hk,HN,HO,D0⟩:=hrel
  by_cases hlt:k<gs.length
  ·obtain⟨g,hg⟩:∃ g,gs[k]?=some g:=⟨_,gG hlt⟩
   have HRW:=ae (HR.out.below D0.out.bel)
   obtain⟨b,off,hA,he⟩:=HRW.out.row.one k _ (xK hg) hlt
   have hix:=fun W=>aH (T:=67) (E:=79) (sz:=1) (c:=c) Tryz.underlying67 rfl Tryz.sizeOf79 hA hlt W
   simp only[Nat.mul_one] at hix
   have hmem:=gM hg
   have HGM:Hid (g.pl∈gs.map aW.pl):=List.mem_map.2 ⟨g,hmem,rfl⟩
   have HRG:=ae (HRW.out.grp g hmem)
   have HTK:=ae (aS hg)
   have HCG:=ae (HCP.out g hmem)
   have hgl:=HZ.out g hmem
   obtain⟨gl,hgle⟩:∃ gl,g.ts.length=gl:=⟨_,rfl⟩
   rw[hgle] at he hgl
   have HGL:=ae hgle
   clear hg hA hgle HRW hmem
   obtain⟨lb,hlb⟩:∃ lb,(bar&&decide (g.pl.length≠1))=lb:=⟨_,rfl⟩
   have hpl:g.pl.length=gl:=by unfold aW.pl;rw[List.length_map];exact HGL.out
   have HLB:=ae hlb
   rw[hpl] at hlb
   have hn1:((gl:Int) != 1)=decide (gl≠1):=by rw[bI];simp[bne];omega
   have HL1:=ae hn1
   clear hn1 hpl
   cases lb
   rotate_left
   ·have E:=ae (oI (bar:=bar) HGM.out (Pu HLB.out))
    have hb:bar=true:=by cases bar;simp at hlb;rfl
    subst hb
    have q1:((gl:Int) != 1)=true:=by rw[HL1.out];simpa using hlb
    clear hlb
    go_wp2_with fail
    go_ret2
    exact mK (by rw[E.out]) (by decide) D0.out.bel
   have q1:bar=false∨bar=true∧((gl:Int) != 1)=false:=by
    cases bar with
    | false=>exact .inl rfl
    | true=>right;refine⟨rfl,?_⟩;rw[HL1.out];simpa using hlb
   clear hlb HL1
   go_upto_region 5 with(fail)
   clear he hix
   go_cut [23] (fun s wx=>s=.bool false∧wr=wx)
   case first=>
    rcases q1 with rfl | ⟨rfl,q1⟩
    ·go_wp2_with fail
     go_meet
     exact⟨rfl,by trivial⟩
    ·go_wp2_with fail
     go_meet
     exact⟨rfl,by trivial⟩
   case rest=>
   obtain⟨rfl,rfl⟩:=hcut
   clear q1
   obtain⟨wo,rfl⟩:∃ wo:World,wo=wr:=⟨_,rfl⟩
   have A0:=ae (Ht.start wo bar 33)
   go_wp2_with fail
   go_loopw [28] (fun i wx=>∃ (j cc:Nat) (G:Option Addr),j≤gl∧i=.int .i64 j∧Hid (∀ t∈g.ts.take j,(!t.pl.qual.isEmpty || !t.pl.archs.isEmpty)=false)∧Hid (Ht wo wx wo.heap.size (wo.heap.size+1) bar G j cc ((g.ts.take j).map jg))) (fun i _=>gl-(intOf i).toNat)
   case atStart=>exact⟨0,0,none,z0,rfl,by simp[Hid],A0⟩
   case round=>
    clear A0
    obtain⟨j,cc,G,hj',rfl,HT,AL⟩:=hrel
    by_cases hlt4:j<gl
    ·have HL4:Hid (j<g.ts.length):=by have:=HGL.out;show _<_;omega
     obtain⟨t,ht⟩:∃ t,g.ts[j]?=some t:=⟨_,gG HL4.out⟩
     obtain⟨b2,off2,hA2,he2⟩:=(HRG.out.below AL.out.bel).elem vu j t ht
     have e0:=he2 0 _ rfl
     have e1:=he2 1 _ rfl
     have e2:=he2 2 _ rfl
     have e3:=he2 3 _ rfl
     have e4:=he2 4 _ rfl
     simp only[Nat.add_zero] at e0
     have hix2:=fun W=>aH (T:=79) (E:=81) (sz:=5) (n:=gl) (c:=g.gc) Tryz.underlying79 rfl Tryz.sizeOf81 hA2 hlt4 W
     have HTM:Hid (t.pl∈g.pl):=List.mem_map.2 ⟨t,gM ht,rfl⟩
     have HT2:=ae (aS ht)
     have hac:=HCG.out t (gM ht)
     obtain⟨W2,hW2⟩:∃ W2,wr.alloc (.cells #[.string t.nm,.int .i64 t.op,.string t.ver,.string t.qual,.slice t.aa t.archs.length t.ac] 81)=W2:=⟨_,rfl⟩
     have B2:Hid (Below wr.heap.size wr W2):=by rw[←hW2];exact bR.alloc lr _
     have K2:Hid (aF W2 wr.heap.size t.cells):=by show aF _ _ _;rw[←hW2];exact aF.new wr t.cells _
     have k0:=K2.out.cell 0 _ rfl
     have k1:=K2.out.cell 1 _ rfl
     have k2:=K2.out.cell 2 _ rfl
     have k3:=K2.out.cell 3 _ rfl
     have k4:=K2.out.cell 4 _ rfl
     have AL2:=ae (AL.out.step B2.out)
     clear ht hA2 he2
     obtain⟨qb,hqb⟩:∃ qb,t.qual.toList.isEmpty=qb:=⟨_,rfl⟩
     have HQB:Hid (t.pl.qual.isEmpty=qb):=by show(bl t.qual).isEmpty=_;rw[←ai];exact hqb
     have HAB:Hid (t.pl.archs.isEmpty=decide (t.archs.length=0)):=by show(t.archs.map bl).isEmpty=_;cases t.archs<;>simp
     cases qb
     ·have E:=ae (oI (bar:=bar) HGM.out (Bu HTM.out (by rw[HQB.out];rfl)))
      go_wp2_with fail
      go_ret2
      exact mK (by rw[E.out]) (by decide) (ah (ah D0.out.bel AL.out.bel) B2.out)
     by_cases h0:0<t.archs.length
     ·have d0:decide ((0:Int)<(t.archs.length:Int))=true:=dT (by omega)
      have d1:decide (0<t.archs.length)=true:=dT h0
      have E:=ae (oI (bar:=bar) HGM.out (Bu HTM.out (by rw[HAB.out,dF];simp)))
      go_wp2_with fail
      go_ret2
      exact mK (by rw[E.out]) (by decide) (ah (ah D0.out.bel AL.out.bel) B2.out)
     have d0:decide ((0:Int)<(t.archs.length:Int))=false:=dF (by omega)
     have d1:decide (0<t.archs.length)=false:=dF h0
     have EG:Hid ((!t.pl.qual.isEmpty || !t.pl.archs.isEmpty)=false):=by show _=_;rw[HQB.out,HAB.out,dT];rfl
     clear HQB HAB
     have HO2:=ae AL2.out.own
     have m1:=AL2.out.box.cell 1 _ rfl
     have hbz:=AL2.out.sz
     have FB:Hid (some wo.heap.size≠(Value.slice G j cc).ownBlock):=by intro e;have:=(HO2.out.lt _ e.symm).1;omega
     have hnw:¬ wo.heap.size=wr.heap.size:=by have:=AL.out.sz;omega
     have hnw2:¬ wr.heap.size=wo.heap.size:=by omega
     have HW2:=ae hW2
     clear hW2
     go_upto_region 11 with(fail)
     rw[HW2.out]
     go_wp2_with (
      at_builtin
      refine ak _ rfl _ _ _ rfl (wo.heap.size+1) 53 i1 _ 3 40 Tryz.underlying31 hj hy0 hy1 hy2 rfl (by omega) (.slice G j cc) j _ rfl (HO2.out.alloc _) (W2.heap.size+1) (some ⟨W2.heap.size,0,none⟩) 1 1 [.string t.nm,.int .i64 t.op,.string t.ver] rfl (dI W2 _ _ _ _) (by simp[Value.oneCell']) (by simp only[maxLen];omega) (by omega) (by simp;omega) ?_
      intro v1 w6 hown1 hg1 hat1
      obtain⟨G1,c1,rfl⟩:=aG hown1
      have KB:=ae ((AL2.out.box.alloc (.cells #[.string t.nm,.int .i64 t.op,.string t.ver] 53)).grownR hg1 FB.out)
      have m1':=KB.out.cell 1 _ rfl
      have m1f:=KB.out.free 1 (by simp))
     have N1:=ae (AL2.out.app _ (x:=jg t) hown1 hg1)
     clear hown1 hg1 hat1
     go_wp2_with fail
     go_roundw
     case rel=>exact⟨j+1,c1,G1,by omega,by go_num,ae (fun y hy=>by
      rw[HT2.out] at hy
      rcases List.mem_append.1 hy with hy | hy
      ·exact HT.out y hy
      ·rw[List.mem_singleton.1 hy];exact EG.out),by rw[HT2.out,List.map_append];exact N1⟩
     case measure=>simp[intOf];omega
    ·obtain rfl:j=gl:=by omega
     have EALL:Hid ((g.ts.take j).map jg=g.pl.map mY):=by
      show _=_;rw[tL (by have:=HGL.out;omega)];unfold aW.pl;rw[List.map_map];exact List.map_congr_left fun t _=>(xP t).symm
     have EG:Hid (rY bar g.pl=false):=by
      refine R9 HLB.out (fun t ht=>?_)
      obtain⟨y,hy,rfl⟩:=List.mem_map.1 ht
      exact HT.out y (by rw[tL (by have:=HGL.out;omega)];exact hy)
     generalize (g.ts.take j).map jg=LL at *
     have D1:=ae (D0.out.below AL.out.bel)
     have HO2:=ae D1.out.row
     have m0:=AL.out.box.cell 0 _ rfl
     have m1:=AL.out.box.cell 1 _ rfl
     have HBL:=ae D0.out.blk_lt
     have hwz:=D1.out.bel.size
     go_wp2_with (
      at_builtin
      refine ak _ rfl _ _ _ rfl w.heap.size 33 i0 _ 2 32 Tryz.underlying22 hi hz0 hz1 hz2 rfl (by omega) (.slice O k oc) k _ rfl (HO2.out.alloc _) (wr.heap.size+1) (some ⟨wr.heap.size,0,none⟩) 1 1 [.bool bar,.slice G j cc] rfl (kI wr _ _ _) (by simp[Value.oneCell']) (by simp only[maxLen];omega) (by omega) (by simp;omega) ?_
      intro v1 w6 hown1 hg1 hat1
      obtain⟨O1,c1,rfl⟩:=aG hown1)
     have N1:Hid (iT w w6 (ds++[⟨bar,G,cc,LL⟩]) O1 (k+1) c1):=D1.out.grow AL.out.dep (by have:=D0.out.bel.size;omega) (fun x hx g hg=>by have:=HBL.out x hx g hg;omega) (by rw[AL.out.cells];exact hown1) hg1
     clear hown1 hg1 hat1
     go_wp2_with fail
     go_roundw
     case rel=>exact⟨k+1,O1,c1,_,rfl,by go_num,by omega,ae (fun y hy=>by
      rw[HTK.out] at hy
      rcases List.mem_append.1 hy with hy | hy
      ·exact HN.out y hy
      ·rw[List.mem_singleton.1 hy];exact EG.out),by show _=_;rw[HTK.out,List.map_append,List.map_append,HO.out];congr 1;simp[aq.pl,EALL.out],N1⟩
     case measure=>simp[intOf];omega
  ·have E:Hid (pE bar (gs.map aW.pl)=(ds.map aq.pl,0)):=by
    show _=_
    rw[Gh,HO.out,tL (by omega),List.map_map];rfl
    intro g hg
    obtain⟨x,hx,rfl⟩:=List.mem_map.1 hg
    exact HN.out x (by rw[tL (by omega)];exact hx)
   have EF:Hid (Pp (ds.map aq.pl)):=by
    rw[HO.out,tL (by omega)]
    refine⟨by rw[List.length_map];exact hl,fun d hd=>?_⟩
    obtain⟨g,hg,rfl⟩:=List.mem_map.1 hd
    have:=HZ.out g hg
    refine⟨?_,fun a ha=>?_⟩
    ·show(g.pl.map mY).length≤64
     rw[List.length_map];unfold aW.pl;rw[List.length_map];exact this
    ·obtain⟨t,ht,rfl⟩:=List.mem_map.1 ha
     obtain⟨y,hy,rfl⟩:=List.mem_map.1 ht
     rw[xP];exact HSM.out g hg y hy
   go_wp2_with fail
   go_ret2
   exact rV E.out D0.out EF.out
def zQ (bar:Bool)(x:dR):Bool:=decide (x.op=6)||(bar&&x.no)
theorem Gi (bar:Bool)(L:List dR):rL bar L=if L.any (zQ bar)=true then ([],11) else (L.map fun x=>⟨bar||x.no,[iA x]⟩,0):=rfl
theorem tC {bar:Bool}{L:List dR}{x:dR}(hx:x∈L)(h:zQ bar x=true):rL bar L=([],11):=by
 rw[Gi,if_pos (List.any_eq_true.2 ⟨x,hx,h⟩)]
theorem Gj {bar:Bool}{L:List dR}(h:∀ x∈L,zQ bar x=false):rL bar L=(L.map fun x=>⟨bar||x.no,[iA x]⟩,0):=by
 rw[Gi,if_neg (by rw[Bool.not_eq_true,List.any_eq_false];intro g hg;rw[Bool.not_eq_true];exact h g hg)]
theorem Bv {s:BA}{f:Int}(h:aV f s=0):s.size≤64:=by
 unfold aV at h
 split at h
 ·simp at h
 ·split at h
  ·simp at h
  ·omega
theorem Gk {x:dR}(h:x.right):(iA x).nm.size≤64∧(iA x).ver.size≤64:=by
 obtain⟨h1,_,h3,h4⟩:=h
 unfold iA
 refine⟨?_,?_⟩
 ·show(bz x.name).size≤64
  rw[bQ]
  unfold eB at h1
  simp only[Bool.and_eq_true,decide_eq_true_eq] at h1
  exact h1.1.1.2
 ·show(bz x.ver).size≤64
  by_cases h0:x.op=0
  ·rw[h3 h0,bQ];simp
  ·exact Bv (h4 (by omega))
theorem Km (w:World)(x:aA):w.heap.size≤w.heap.size∧(⟨false,some ⟨w.heap.size,0,none⟩,1,[x]⟩:aq).own (w.alloc (.cells #[.string x.nm,.int .i64 x.op,.string x.ver] 53)) w.heap.size:=
 ⟨lr,World.ownsRow_lit w #[.string x.nm,.int .i64 x.op,.string x.ver] 1 lr (by unfold maxLen;omega) rfl⟩
theorem Bw (w:World)(m:Nat)(h:w.heap.size=m)(t:TypeId)(x y:Value):jQ (w.alloc (.cells #[x,y] t)) (m+1) 2 (some ⟨m,0,none⟩) 1 [x,y]:=by subst h;exact kI w t x y
theorem xQ (bar:Bool)(A:Option Addr)(c:Nat)(L:List dR)(w:World)(hr:Rd w 4 A L.length (L.flatMap dR.cells))(hl:L.length≤64)(hR:∀ x∈L,x.right):
  Calls Tryz.prog 44 #[.slice A L.length c,.bool bar] w (fq (rL bar L) w):=by
 obtain⟨i0,hi,hz0,hz1,hz2⟩:=info_parts kN
 have HR:=ae hr;have HRI:=ae hR
 clear hr hR
 go_enter Tryz.func44,Tryz.ntmps44
 go_wp2_with fail
 go_loopw [6,11] (fun s6 s11 wr=>∃ (k:Nat) (O:Option Addr) (oc:Nat) (ds:List aq),s6=.slice O k oc∧s11=.int .i64 k∧k≤L.length∧Hid (∀ x∈L.take k,zQ bar x=false)∧Hid (ds.map aq.pl=(L.take k).map fun x=>⟨bar||x.no,[iA x]⟩)∧Hid (iT w wr ds O k oc)) (fun _ i _=>L.length-(intOf i).toNat)
 case atStart=>exact⟨0,none,0,[],rfl,rfl,z0,by simp[Hid],rfl,iT.start w⟩
 case round=>
  obtain⟨k,O,oc,ds,rfl,rfl,hk,HN,HO,D0⟩:=hrel
  by_cases hlt:k<L.length
  ·obtain⟨x,hx⟩:∃ x,L[k]?=some x:=⟨_,gG hlt⟩
   obtain⟨b,off,hA,he⟩:=(HR.out.below D0.out.bel).elem vq k x hx
   have e0:=he 0 _ rfl
   have e1:=he 1 _ rfl
   have e2:=he 2 _ rfl
   have e3:=he 3 _ rfl
   simp only[Nat.add_zero] at e0
   have hix:=fun W=>aH (T:=71) (E:=86) (sz:=4) (c:=c) Tryz.underlying71 rfl Tryz.sizeOf86 hA hlt W
   have HXM:=ae (gM hx)
   have HTK:=ae (aS hx)
   obtain⟨xn,hxn⟩:∃ xn,x.no=xn:=⟨_,rfl⟩
   obtain⟨nm,hnm⟩:∃ nm,bz x.name=nm:=⟨_,rfl⟩
   obtain⟨vr,hvr⟩:∃ vr,bz x.ver=vr:=⟨_,rfl⟩
   have HAW:Hid (iA x=⟨nm,x.op,vr⟩):=by show _=_;unfold iA;rw[hnm,hvr]
   have HXN:=ae hxn
   rw[hxn] at e0
   rw[hnm] at e1
   rw[hvr] at e3
   clear hx hA he hxn hnm hvr
   obtain⟨W2,hW2⟩:∃ W2,wr.alloc (.cells #[.bool xn,.string nm,.int .i64 x.op,.string vr] 86)=W2:=⟨_,rfl⟩
   have B2:Hid (Below wr.heap.size wr W2):=by rw[←hW2];exact bR.alloc lr _
   have K2:Hid (aF W2 wr.heap.size [.bool xn,.string nm,.int .i64 x.op,.string vr]):=by show aF _ _ _;rw[←hW2];exact aF.new wr [.bool xn,.string nm,.int .i64 x.op,.string vr] _
   have k0:=K2.out.cell 0 _ rfl
   have k1:=K2.out.cell 1 _ rfl
   have k2:=K2.out.cell 2 _ rfl
   have k3:=K2.out.cell 3 _ rfl
   have hwz2:wr.heap.size<W2.heap.size:=K2.out.sz
   have DW:=ae (D0.out.below B2.out)
   by_cases h6:x.op=6
   ·have q6:((x.op:Int)==6)=true:=by rw[h6];rfl
    have E:=ae (tC (bar:=bar) HXM.out (by unfold zQ;rw[dT h6];rfl))
    clear h6
    go_wp2_with fail
    go_ret2
    exact mK (by rw[E.out]) (by decide) DW.out.bel
   have q6:((x.op:Int)==6)=false:=beq_eq_false_iff_ne.2 (by omega)
   have H6:=ae h6
   clear h6
   by_cases hbn:bar=true∧xn=true
   ·obtain⟨rfl,rfl⟩:=hbn
    have E:=ae (tC (bar:=true) HXM.out (by unfold zQ;rw[HXN.out];simp))
    go_wp2_with fail
    go_ret2
    exact mK (by rw[E.out]) (by decide) DW.out.bel
   have EB:Hid (zQ bar x=false):=by
    show _=_;unfold zQ;rw[dF H6.out,HXN.out]
    cases bar<;>cases xn<;>simp_all
   have D3:=ae (DW.out.below (bR.alloc lr (.cells #[.string nm,.int .i64 x.op,.string vr] 53)))
   have HO3:=ae D3.out.row
   have HBL:=ae DW.out.blk_lt
   have LO:=ae (Km W2 ⟨nm,x.op,vr⟩).2
   have hbase:=DW.out.bel.size
   have hne1:¬ wr.heap.size=W2.heap.size:=by omega
   have hcase:(bar=true∧xn=false∧(bar||x.no)=true)∨(bar=false∧(bar||x.no)=xn):=by
    cases bar with
    | true=>left;refine⟨rfl,?_,by rw[Bool.true_or]⟩;cases xn;rfl;exact absurd ⟨rfl,rfl⟩ hbn
    | false=>right;exact⟨rfl,by rw[HXN.out];rfl⟩
   have HW2:=ae hW2
   clear hbn hW2
   rcases hcase with⟨rfl,rfl,hnb⟩ | ⟨rfl,hnb⟩
   ·have HNB:=ae hnb
    clear hnb
    go_upto_region 5 with(fail)
    rw[HW2.out]
    go_wp2_with (
     at_builtin
     refine ak _ rfl _ _ _ rfl w.heap.size 33 i0 _ 2 32 Tryz.underlying22 hi hz0 hz1 hz2 rfl (by omega) (.slice O k oc) k _ rfl (HO3.out.alloc _) (W2.heap.size+1+1) (some ⟨W2.heap.size+1,0,none⟩) 1 1 [.bool true,.slice (some ⟨W2.heap.size,0,none⟩) 1 1] rfl (Bw _ _ (by simp) _ _ _) (by simp[Value.oneCell']) (by simp only[maxLen];omega) (by first | omega | (simp;omega)) (by first | omega | (simp;omega)) ?_
     intro v1 w6 hown1 hg1 hat1
     obtain⟨O1,c1,rfl⟩:=aG hown1)
    have N1:Hid (iT w w6 (ds++[⟨true,some ⟨W2.heap.size,0,none⟩,1,[⟨nm,x.op,vr⟩]⟩]) O1 (k+1) c1):=D3.out.grow (lo:=W2.heap.size) LO.out hbase (fun x hx g hg=>HBL.out x hx g hg) hown1 hg1
    clear hown1 hg1 hat1
    go_wp2_with fail
    go_roundw
    case rel=>exact⟨k+1,O1,c1,_,rfl,by go_num,by omega,ae (fun y hy=>by
     rw[HTK.out] at hy
     rcases List.mem_append.1 hy with hy | hy
     ·exact HN.out y hy
     ·rw[List.mem_singleton.1 hy];exact EB.out),by show _=_;rw[HTK.out,List.map_append,List.map_append,HO.out];congr 1;simp[aq.pl,HAW.out],N1⟩
    case measure=>simp[intOf];omega
   ·have HNB:=ae hnb
    clear hnb
    go_upto_region 5 with(fail)
    rw[HW2.out]
    go_wp2_with (
     at_builtin
     refine ak _ rfl _ _ _ rfl w.heap.size 33 i0 _ 2 32 Tryz.underlying22 hi hz0 hz1 hz2 rfl (by omega) (.slice O k oc) k _ rfl (HO3.out.alloc _) (W2.heap.size+1+1) (some ⟨W2.heap.size+1,0,none⟩) 1 1 [.bool xn,.slice (some ⟨W2.heap.size,0,none⟩) 1 1] rfl (Bw _ _ (by simp) _ _ _) (by simp[Value.oneCell']) (by simp only[maxLen];omega) (by first | omega | (simp;omega)) (by first | omega | (simp;omega)) ?_
     intro v1 w6 hown1 hg1 hat1
     obtain⟨O1,c1,rfl⟩:=aG hown1)
    have N1:Hid (iT w w6 (ds++[⟨xn,some ⟨W2.heap.size,0,none⟩,1,[⟨nm,x.op,vr⟩]⟩]) O1 (k+1) c1):=D3.out.grow (lo:=W2.heap.size) LO.out hbase (fun x hx g hg=>HBL.out x hx g hg) hown1 hg1
    clear hown1 hg1 hat1
    go_wp2_with fail
    go_roundw
    case rel=>exact⟨k+1,O1,c1,_,rfl,by go_num,by omega,ae (fun y hy=>by
     rw[HTK.out] at hy
     rcases List.mem_append.1 hy with hy | hy
     ·exact HN.out y hy
     ·rw[List.mem_singleton.1 hy];exact EB.out),by show _=_;rw[HTK.out,List.map_append,List.map_append,HO.out];congr 1;simp[aq.pl,HAW.out,HXN.out],N1⟩
    case measure=>simp[intOf];omega
  ·have E:Hid (rL bar L=(ds.map aq.pl,0)):=by
    show _=_
    rw[Gj,HO.out,tL (by omega)]
    intro g hg
    exact HN.out g (by rw[tL (by omega)];exact hg)
   have EF:Hid (Pp (ds.map aq.pl)):=by
    rw[HO.out,tL (by omega)]
    refine⟨by rw[List.length_map];exact hl,fun d hd=>?_⟩
    obtain⟨g,hg,rfl⟩:=List.mem_map.1 hd
    refine⟨by show([iA g]:List aA).length≤64;simp,fun a ha=>?_⟩
    have ha':a∈[iA g]:=ha
    rw[List.mem_singleton.1 ha']
    exact Gk (HRI.out g hg)
   go_wp2_with fail
   go_ret2
   exact rV E.out D0.out EF.out
theorem nP {T:aj}(h:T.cnt≤64):T.kids.length≤64∧∀ k∈T.kids,k.cnt≤64:=by
 by_cases h0:T.kids=[]
 ·rw[h0];simp
 ·rw[fM h0] at h
  exact⟨by have:=hZ T.kids;omega,fun k hk=>by have:=jE hk;omega⟩
def cC (T:aj):List aj:=if bl T.op=eU then T.kids else [T]
def eM (T:aj):List aj:=if bl T.op=eE then T.kids else [T]
def cY (T:aj):aA:=⟨T.nm,T.aop,T.ver⟩
theorem uw (T:aj):T.pl=if bl T.op=[] then .atom (bl T.nm) T.aop (bl T.ver) else .node (bl T.op) (T.kids.map aj.pl):=by
 obtain⟨op,nm,aop,ver,ka,kc,kids⟩:=T
 simp only[aj.pl,aj.op,aj.nm,aj.aop,aj.ver,aj.kids,ik]
 rfl
theorem Tj (T:aj):FK T.pl=(bl T.op).isEmpty:=by
 rw[uw]
 by_cases h:bl T.op=[]
 ·rw[if_pos h,h];rfl
 ·rw[if_neg h];cases hb:bl T.op with
  | nil=>exact absurd hb h
  | cons a r=>rfl
theorem Gz {T:aj}(h:bl T.op=[]):xy T.pl=cY T:=by rw[uw,if_pos h];unfold xy cY;simp only;rw[iP,iP]
theorem GA (T:aj):(cC T).map aj.pl=nL T.pl:=by
 unfold cC
 by_cases h:bl T.op=[]
 ·rw[if_neg (by rw[h];decide),List.map_singleton,uw,if_pos h];rfl
 ·rw[uw,if_neg h]
  show _=(if bl T.op=eU then T.kids.map aj.pl else [.node (bl T.op) (T.kids.map aj.pl)])
  by_cases ha:bl T.op=eU
  ·rw[if_pos ha,if_pos ha]
  ·rw[if_neg ha,if_neg ha,List.map_singleton,uw,if_neg h]
theorem Ku (T:aj):(eM T).map aj.pl=pG T.pl:=by
 unfold eM
 by_cases h:bl T.op=[]
 ·rw[if_neg (by rw[h];decide),List.map_singleton,uw,if_pos h];rfl
 ·rw[uw,if_neg h]
  show _=(if bl T.op=eE then T.kids.map aj.pl else [.node (bl T.op) (T.kids.map aj.pl)])
  by_cases ha:bl T.op=eE
  ·rw[if_pos ha,if_pos ha]
  ·rw[if_neg ha,if_neg ha,List.map_singleton,uw,if_neg h]
def lk (p:aj):Bool:=(eM p).all fun a=>(bl a.op).isEmpty
theorem Sc (p:aj):(pG p.pl).all FK=lk p:=by
 unfold lk;rw[←Ku,List.all_map];congr 1;funext a;exact Tj a
theorem se (T:aj):kK false T.pl=if (cC T).all lk=true then ((cC T).map fun p=>⟨false,(eM p).map cY⟩,0) else ([],11):=by
 unfold kK
 rw[if_neg (by simp)]
 have e:(nL T.pl).all (fun p=>(pG p).all FK)=(cC T).all lk:=by
  rw[←GA,List.all_map];congr 1;funext p;exact Sc p
 rw[e]
 by_cases h:(cC T).all lk=true
 ·rw[if_pos h,if_pos h,←GA,List.map_map]
  congr 1
  refine List.map_congr_left fun p hp=>?_
  have hl:=List.all_eq_true.1 h p hp
  unfold lk at hl
  show(⟨false,(pG p.pl).map xy⟩:ba)=⟨false,(eM p).map cY⟩
  rw[←Ku,List.map_map]
  congr 1
  refine List.map_congr_left fun a ha=>?_
  exact Gz (List.isEmpty_iff.1 (List.all_eq_true.1 hl a ha))
 ·rw[if_neg h,if_neg h]
theorem MP {T p:aj}(hp:p∈cC T)(h:lk p=false):kK false T.pl=([],11):=by
 rw[se,if_neg];intro hh;rw[List.all_eq_true.1 hh p hp] at h;cases h
theorem PI {T:aj}(h:∀ p∈cC T,lk p=true):kK false T.pl=((cC T).map fun p=>⟨false,(eM p).map cY⟩,0):=by
 rw[se,if_pos (List.all_eq_true.2 h)]
theorem oO (T:aj):kK true T.pl=if bl T.op=[] then ([⟨true,[cY T]⟩],0) else ([],11):=by
 unfold kK
 rw[if_pos rfl,Tj]
 by_cases h:bl T.op=[]
 ·rw[if_pos h,if_pos (by rw[h];rfl),Gz h]
 ·rw[if_neg h,if_neg];intro e;exact h (List.isEmpty_iff.1 e)
theorem ym {T:aj}(h:dH T):(cY T).nm.size≤64∧(cY T).ver.size≤64:=by
 cases h with
 | atom nm aop ver hn ho hv0 hv=>
  refine⟨(mi hn).2,?_⟩
  show ver.size≤64
  by_cases h0:aop=0
  ·rw[hv0 h0];omega
  ·exact Bv (hv (by omega))
 | node op ka kc kids=>exact⟨by show(⟨#[]⟩:BA).size≤64;decide,by show(⟨#[]⟩:BA).size≤64;decide⟩
theorem MQ {T:aj}(h:dH T):∀ a∈eM T,dH a:=by
 intro a ha
 unfold eM at ha
 split at ha
 ·exact h.kid ha
 ·rw[List.mem_singleton.1 ha];exact h
theorem Jn {T:aj}(h:dH T):∀ a∈cC T,dH a:=by
 intro a ha
 unfold cC at ha
 split at ha
 ·exact h.kid ha
 ·rw[List.mem_singleton.1 ha];exact h
theorem iT.base {w w1 wr:World}{ds:List aq}{A:Option Addr}{n c:Nat}(h:iT w1 wr ds A n c)(hb:Below w.heap.size w w1):iT w wr ds A n c:=
 ⟨h.len,cN h.row hb.size,fun d hd=>cN (h.al d hd) hb.size,h.far,ah hb h.bel⟩
theorem iT.one (w:World)(bar:Bool)(x:aA):iT w ((w.alloc (.cells #[.string x.nm,.int .i64 x.op,.string x.ver] 53)).alloc (.cells #[.bool bar,.slice (some ⟨w.heap.size,0,none⟩) 1 1] 33)) [⟨bar,some ⟨w.heap.size,0,none⟩,1,[x]⟩] (some ⟨w.heap.size+1,0,none⟩) 1 1:=by
 have h1:=(Km w x).2
 have hb:=(Below.refl (w.alloc (.cells #[.string x.nm,.int .i64 x.op,.string x.ver] 53)).heap.size (w.alloc (.cells #[.string x.nm,.int .i64 x.op,.string x.ver] 53))).alloc lr (.cells #[.bool bar,.slice (some ⟨w.heap.size,0,none⟩) 1 1] 33)
 have hz:(w.alloc (.cells #[.string x.nm,.int .i64 x.op,.string x.ver] 53)).heap.size=w.heap.size+1:=by simp
 refine⟨rfl,?_,fun d hd=>?_,List.pairwise_singleton _ _,?_⟩
 ·have:=World.ownsRow_lit (base:=w.heap.size) (e:=33) (size:=2) (w.alloc (.cells #[.string x.nm,.int .i64 x.op,.string x.ver] 53)) #[.bool bar,.slice (some ⟨w.heap.size,0,none⟩) 1 1] 1 (by omega) (by unfold maxLen;omega) rfl
  rw[hz] at this;exact this
 ·rw[List.mem_singleton.1 hd];exact aR h1 hb
 ·exact(bR.alloc lr _).alloc (by simp) _
theorem yx (a:aA)(w:World)(hG:Hr w)(h1:a.nm.size≤9223372036854775807)(h2:a.ver.size≤9223372036854775807):
  Calls Tryz.prog 37 #[a.val] w fun e w'=>e=.returned (.int .i64 (eC a))∧Below w.heap.size w w':=by
 have HG:=ae hG
 obtain⟨W0,hW0⟩:∃ W0,w.alloc (.cells #[.string a.nm,.int .i64 a.op,.string a.ver] 53)=W0:=⟨_,rfl⟩
 have B0:Hid (Below w.heap.size w W0):=by rw[←hW0];exact bR.alloc lr _
 have K0:Hid (aF W0 w.heap.size a.cells):=by show aF _ _ _;rw[←hW0];exact aF.new w a.cells _
 have k0:=K0.out.cell 0 _ rfl
 have k1:=K0.out.cell 1 _ rfl
 have k2:=K0.out.cell 2 _ rfl
 have HN:=ae fun W=>jh a.nm W h1
 have HPA:=ae (fun W hG=>xx 1 (.inl rfl) a.ver W hG h2)
 unfold aA.val
 clear hG
 cases hn:bo (bl a.nm)
 ·rw[hn] at HN
  have E:Hid (eC a=10):=by show _=_;unfold eC;rw[if_pos hn]
  clear hn
  go_enter Tryz.func37,Tryz.ntmps37
  go_wp2_with fail
  refine(HN.out _).mono ?_;rintro e w' ⟨rfl,rfl⟩
  go_wp2_with fail
  go_ret
  exact⟨az E.out.symm,B0.out⟩
 rw[hn] at HN
 have HNN:Hid (¬ bo (bl a.nm)=false):=by show ¬ _;rw[hn];simp
 clear hn
 by_cases o1:a.op<0
 ·have d1:decide (a.op<0)=true:=dT o1
  have E:Hid (eC a=1):=by show _=_;unfold eC;rw[if_neg HNN.out,if_pos (.inl o1)]
  clear o1
  go_enter Tryz.func37,Tryz.ntmps37
  go_wp2_with fail
  refine(HN.out _).mono ?_;rintro e w' ⟨rfl,rfl⟩
  go_wp2_with fail
  go_ret
  exact⟨az E.out.symm,B0.out⟩
 have d1:decide (a.op<0)=false:=dF o1
 by_cases o2:5<a.op
 ·have d2:decide (5<a.op)=true:=dT o2
  have E:Hid (eC a=1):=by show _=_;unfold eC;rw[if_neg HNN.out,if_pos (.inr o2)]
  clear o1 o2
  go_enter Tryz.func37,Tryz.ntmps37
  go_wp2_with fail
  refine(HN.out _).mono ?_;rintro e w' ⟨rfl,rfl⟩
  go_wp2_with fail
  go_ret
  exact⟨az E.out.symm,B0.out⟩
 have d2:decide (5<a.op)=false:=dF o2
 have HO:Hid (¬ (a.op<0∨5<a.op)):=by rintro(h | h);exact o1 h;exact o2 h
 clear o1 o2
 by_cases o3:a.op=0
 ·have q:(a.op==0)=true:=by rw[o3];rfl
  have HO3:=ae o3
  clear o3
  obtain⟨pb,hpb⟩:∃ pb,a.ver.toList.isEmpty=pb:=⟨_,rfl⟩
  have HPB:=ae hpb
  cases pb
  ·have E:Hid (eC a=1):=by
    show _=_;unfold eC;rw[if_neg HNN.out,if_neg HO.out,if_pos HO3.out,if_neg]
    intro h;have:=HPB.out;rw[ai,aL,dT h] at this;cases this
   go_enter Tryz.func37,Tryz.ntmps37
   go_wp2_with fail
   refine(HN.out _).mono ?_;rintro e w' ⟨rfl,rfl⟩
   go_wp2_with fail
   go_ret
   exact⟨az E.out.symm,B0.out⟩
  ·have E:Hid (eC a=0):=by
    show _=_;unfold eC;rw[if_neg HNN.out,if_neg HO.out,if_pos HO3.out,if_pos]
    have:=HPB.out;rw[ai,aL] at this;exact dO this
   go_enter Tryz.func37,Tryz.ntmps37
   go_wp2_with fail
   refine(HN.out _).mono ?_;rintro e w' ⟨rfl,rfl⟩
   go_wp2_with fail
   go_ret
   exact⟨az E.out.symm,B0.out⟩
 have q:(a.op==0)=false:=by simpa using o3
 have HO3:=ae o3
 clear o3
 go_enter Tryz.func37,Tryz.ntmps37
 go_wp2_with fail
 clear hW0
 refine(HN.out _).mono ?_;rintro e w' ⟨rfl,rfl⟩
 go_wp2_with fail
 refine(HPA.out _ (HG.out.below B0.out)).mono ?_;rintro e w1 ⟨cl,rfl,hok,hfew,hpc,hb1⟩
 have B1:=ae (ah B0.out hb1)
 have B2:=ae (ah B1.out (bR.alloc lr (.cells #[.int .i64 cl.ep,.slice cl.na cl.nums.length cl.nc,.string cl.lt,.string cl.pre,.int .i64 cl.pnum,.int .i64 cl.rev] 95)))
 clear hok hfew hpc hb1
 unfold bG.val
 by_cases hz:dN 1 a.ver≠0
 ·have E:Hid (eC a=11):=by show _=_;unfold eC;rw[if_neg HNN.out,if_neg HO.out,if_neg HO3.out,if_pos hz]
  have q2:(dN 1 a.ver != 0)=true:=by simpa [bne] using hz
  generalize dN 1 a.ver=pe at *
  clear hz
  go_wp2_with fail
  go_ret
  exact⟨az E.out.symm,B2.out⟩
 ·have E:Hid (eC a=0):=by show _=_;unfold eC;rw[if_neg HNN.out,if_neg HO.out,if_neg HO3.out,if_neg hz]
  have q2:(dN 1 a.ver != 0)=false:=by rw[Decidable.not_not.1 hz];rfl
  generalize dN 1 a.ver=pe at *
  clear hz
  go_wp2_with fail
  go_ret
  exact⟨az E.out.symm,B2.out⟩
structure oR (ds:List aq):Prop where
 len:ds.length≤1000
 al:∀ d∈ds,d.alts.length≤1000
 nm:∀ d∈ds,∀ g∈d.alts,g.nm.size≤1000
 ver:∀ d∈ds,∀ g∈d.alts,g.ver.size≤1000
theorem MX {l:List ba}(h:64<bH l):jc l=4:=by unfold jc;rw[if_pos h]
theorem Ue {ds:List aq}{k:Nat}{d:aq}(h:¬ 64<bH (ds.map aq.pl))(hd:ds[k]?=some d)(h0:∀ y∈ds.take k,qt y.pl=0)(he:qt d.pl≠0):jc (ds.map aq.pl)=qt d.pl:=by
 unfold jc
 rw[if_neg h]
 refine ko (k:=k) (by simp[hd]) (fun y hy=>?_) he
 rw[←List.map_take] at hy
 obtain⟨z,hz,rfl⟩:=List.mem_map.1 hy
 exact h0 z hz
theorem PQ {ds:List aq}(h:¬ 64<bH (ds.map aq.pl))(h0:∀ y∈ds,qt y.pl=0):jc (ds.map aq.pl)=0:=by
 unfold jc
 rw[if_neg h,bB]
 intro y hy
 obtain⟨z,hz,rfl⟩:=List.mem_map.1 hy
 exact h0 z hz
theorem GH {ds:List aq}{i:Nat}{d:aq}(h:ds[i]?=some d):bH ((ds.take (i+1)).map aq.pl)=bH ((ds.take i).map aq.pl)+d.alts.length:=by
 unfold bH;rw[aS h,List.map_append,List.map_append,List.sum_append];simp[aq.pl]
theorem Jz (A:Option Addr)(c:Nat)(ds:List aq)(w:World)(hG:Hr w)(hd:eW w A ds)(hf:oR ds):
  Calls Tryz.prog 20 #[.slice A ds.length c] w fun e w'=>e=.returned (.int .i64 (jc (ds.map aq.pl)))∧Below w.heap.size w w':=by
 have HG:=ae hG;have HD:=ae hd;have HF:=ae hf
 have hlen:=hf.len
 clear hG hd hf
 go_enter Tryz.func20,Tryz.ntmps20
 go_wp2_with fail
 go_loopw [3,13] (fun s3 s13 wr=>∃ k cnt:Nat,k≤ds.length∧cnt≤1000*k∧s3=.int .i64 cnt∧s13=.int .i64 k∧Hid (cnt=bH ((ds.take k).map aq.pl))∧Hid (Below w.heap.size w wr)) (fun _ i _=>ds.length-(intOf i).toNat)
 case atStart=>exact⟨0,0,z0,z0,rfl,rfl,rfl,bR⟩
 case round=>
  obtain⟨k,cnt,hk,hc,rfl,rfl,HC,HB⟩:=hrel
  by_cases hlt:k<ds.length
  ·obtain⟨d,hdk⟩:∃ d,ds[k]?=some d:=⟨_,gG hlt⟩
   obtain⟨b,off,hA,he⟩:=(HD.out.row.below HB.out).elem fI k d hdk
   have e0:=he 0 _ rfl
   have e1:=he 1 _ rfl
   simp only[Nat.add_zero] at e0
   have hix:=fun W=>aH (T:=22) (E:=33) (sz:=2) (c:=c) Tryz.underlying22 rfl Tryz.sizeOf33 hA hlt W
   have hal:=HF.out.al d (gM hdk)
   have HCT:=ae (GH hdk)
   clear hdk hA he
   obtain⟨W2,hW2⟩:∃ W2,wr.alloc (.cells #[.bool d.bar,.slice d.aa d.alts.length d.ac] 33)=W2:=⟨_,rfl⟩
   have B2:Hid (Below wr.heap.size wr W2):=by rw[←hW2];exact bR.alloc lr _
   have K2:Hid (aF W2 wr.heap.size d.cells):=by show aF _ _ _;rw[←hW2];exact aF.new wr d.cells _
   have k1:=K2.out.cell 1 _ rfl
   go_wp2_with fail
   go_roundw
   case rel=>exact⟨k+1,cnt+d.alts.length,by omega,by omega,by go_num,by go_num,by show _=_;rw[HCT.out,←HC.out],ah HB.out B2.out⟩
   case measure=>simp[intOf];omega
  ·have HCE:Hid (cnt=bH (ds.map aq.pl)):=by show _=_;rw[HC.out,tL (by omega)]
   by_cases h64:64<cnt
   ·have q1:decide ((64:Int)<(cnt:Int))=true:=dT (by omega)
    have q2:decide (64<cnt)=true:=dT h64
    have E:=ae (MX (l:=ds.map aq.pl) (by rw[←HCE.out];exact h64))
    go_wp2_with fail
    go_ret
    exact⟨az E.out.symm,HB.out⟩
   have q1:decide ((64:Int)<(cnt:Int))=false:=dF (by omega)
   have q2:decide (64<cnt)=false:=dF h64
   have HN64:Hid (¬ 64<bH (ds.map aq.pl)):=by rw[←HCE.out];exact h64
   have HAT:=ae (fun (k:Nat) (d:aq) hdk h0 he=>Ue (ds:=ds) (k:=k) (d:=d) HN64.out hdk h0 he)
   obtain⟨wa,rfl⟩:∃ wa:World,wa=wr:=⟨_,rfl⟩
   go_wp2_with fail
   clear q1 q2 h64 hlt
   go_loopw [27] (fun i wr=>∃ k:Nat,k≤ds.length∧i=.int .i64 k∧Hid (∀ y∈ds.take k,qt y.pl=0)∧Hid (Below w.heap.size w wr)) (fun i _=>ds.length-(intOf i).toNat)
   case atStart=>exact⟨0,z0,rfl,by simp[Hid],HB⟩
   case round=>
    clear HB
    obtain⟨k,hk,rfl,HZ,HB⟩:=hrel
    by_cases hlt:k<ds.length
    ·obtain⟨d,hdk⟩:∃ d,ds[k]?=some d:=⟨_,gG hlt⟩
     obtain⟨b,off,hA,he⟩:=(HD.out.row.below HB.out).elem fI k d hdk
     have e0:=he 0 _ rfl
     have e1:=he 1 _ rfl
     simp only[Nat.add_zero] at e0
     have hix:=fun W=>aH (T:=22) (E:=33) (sz:=2) (c:=c) Tryz.underlying22 rfl Tryz.sizeOf33 hA hlt W
     have hm:=gM hdk
     have hal:=HF.out.al d hm
     have HNM:=ae (HF.out.nm d hm);have HVR:=ae (HF.out.ver d hm)
     have HDK:=ae hdk
     have HTK:=ae (aS hdk)
     have HRA:=ae (HD.out.all d hm)
     clear hdk hA he hm
     obtain⟨wo,rfl⟩:∃ wo:World,wo=wr:=⟨_,rfl⟩
     obtain⟨db,hdb⟩:∃ db,d.bar=db:=⟨_,rfl⟩
     have HDB:=ae hdb
     obtain⟨al,hall⟩:∃ al,d.alts.length=al:=⟨_,rfl⟩
     rw[hdb] at e0
     rw[hall] at e1 hal
     have HAL:=ae hall
     clear hdb hall
     obtain⟨W2,hW2⟩:∃ W2,wo.alloc (.cells #[.bool db,.slice d.aa al d.ac] 33)=W2:=⟨_,rfl⟩
     have B2:Hid (Below wo.heap.size wo W2):=by rw[←hW2];exact bR.alloc lr _
     have K2:Hid (aF W2 wo.heap.size [.bool db,.slice d.aa al d.ac]):=by show aF _ _ _;rw[←hW2];exact aF.new wo [.bool db,.slice d.aa al d.ac] _
     have k0:=K2.out.cell 0 _ rfl
     have k1:=K2.out.cell 1 _ rfl
     have BW:=ae (ah HB.out B2.out)
     have hd3:qt d.pl=if al=0∨(db=true∧1<al) then 3 else bT eC d.alts:=by
      unfold qt;show(if d.alts.length=0∨d.bar=true∧1<d.alts.length then 3 else bT eC d.alts)=_;rw[HAL.out,HDB.out]
     have HD3:=ae hd3
     clear hd3
     by_cases z0:al=0
     ·have q:((al:Int)==0)=true:=by rw[z0];rfl
      have E:Hid (jc (ds.map aq.pl)=3):=by show _=_;rw[HAT.out k d HDK.out HZ.out (by rw[HD3.out,if_pos (.inl z0)];decide),HD3.out,if_pos (.inl z0)]
      clear z0
      go_wp2_with fail
      go_ret
      exact⟨az E.out.symm,BW.out⟩
     have q:((al:Int)==0)=false:=beq_eq_false_iff_ne.2 (by omega)
     by_cases z1:db=true∧1<al
     ·have E:Hid (jc (ds.map aq.pl)=3):=by show _=_;rw[HAT.out k d HDK.out HZ.out (by rw[HD3.out,if_pos (.inr z1)];decide),HD3.out,if_pos (.inr z1)]
      obtain⟨rfl,z1⟩:=z1
      have q1:decide ((1:Int)<(al:Int))=true:=dT (by omega)
      have q2:decide (1<al)=true:=dT z1
      clear z0
      go_wp2_with fail
      go_ret
      exact⟨az E.out.symm,BW.out⟩
     have HD4:Hid (qt d.pl=bT eC d.alts):=by show _=_;rw[HD3.out,if_neg];rintro(h | h);exact z0 h;exact z1 h
     have hcase:db=false∨db=true∧decide ((1:Int)<(al:Int))=false∧decide (1<al)=false:=by
      cases db with
      | false=>exact .inl rfl
      | true=>right;exact⟨rfl,dF (fun h=>z1 ⟨rfl,by omega⟩),dF (fun h=>z1 ⟨rfl,h⟩)⟩
     clear z1 HD3
     go_upto_region 12 with(fail)
     clear hW2 e0 e1 hix
     go_cut [44] (fun s wx=>s=.bool false∧W2=wx)
     case first=>
      rcases hcase with rfl | ⟨rfl,q1,q2⟩
      ·go_wp2_with fail
       go_meet
       exact⟨rfl,by trivial⟩
      ·go_wp2_with fail
       go_meet
       exact⟨rfl,by trivial⟩
     case rest=>
     obtain⟨rfl,rfl⟩:=hcut
     clear hcase z0
     go_wp2_with fail
     go_loopw [48] (fun i wx=>∃ j:Nat,j≤al∧i=.int .i64 j∧Hid (∀ y∈d.alts.take j,eC y=0)∧Hid (Below w.heap.size w wx)∧Hid (Below W2.heap.size W2 wx)) (fun i _=>al-(intOf i).toNat)
     case atStart=>exact⟨0,z0,rfl,by simp[Hid],BW,bR⟩
     case round=>
      obtain⟨j,hj',rfl,HE,BJ,BJ2⟩:=hrel
      by_cases hlt4:j<al
      ·obtain⟨g,hg⟩:∃ g,d.alts[j]?=some g:=⟨_,gG (by rw[HAL.out];exact hlt4)⟩
       have hgm:=gM hg
       obtain⟨b2,off2,hA2,he2⟩:=(HRA.out.below BJ.out).elem dw j g hg
       have e0:=he2 0 _ rfl
       have e1:=he2 1 _ rfl
       have e2:=he2 2 _ rfl
       simp only[Nat.add_zero] at e0
       have hix2:=fun W=>aH (T:=31) (E:=53) (sz:=3) (n:=al) (c:=d.ac) Tryz.underlying31 rfl Tryz.sizeOf53 hA2 hlt4 W
       have hgn:=HNM.out g hgm;have hgv:=HVR.out g hgm
       have HGT:=ae (aS hg)
       have HGG:=ae hg
       have HCA:=ae (fun W hG=>yx g W hG (by omega) (by omega))
       unfold aA.val at HCA
       clear hg hA2 he2 hgm
       obtain⟨W4,hW4⟩:∃ W4,wr.alloc (.cells #[.string g.nm,.int .i64 g.op,.string g.ver] 53)=W4:=⟨_,rfl⟩
       have B4:Hid (Below wr.heap.size wr W4):=by rw[←hW4];exact bR.alloc lr _
       have K4:Hid (aF W4 wr.heap.size g.cells):=by show aF _ _ _;rw[←hW4];exact aF.new wr g.cells _
       have k0:=K4.out.cell 0 _ rfl
       have k1:=K4.out.cell 1 _ rfl
       have k2:=K4.out.cell 2 _ rfl
       go_wp2_with fail
       clear hW4
       refine(HCA.out _ (HG.out.below (ah BJ.out B4.out))).mono ?_;rintro e w5 ⟨rfl,hb5⟩
       have B5:=ae (ah (ah BJ.out B4.out) hb5)
       have B52:=ae (ah (ah BJ2.out B4.out) hb5)
       clear hb5
       by_cases hz:eC g≠0
       ·have q5:(eC g != 0)=true:=by simpa [bne] using hz
        have hfc:bT eC d.alts=eC g:=ko HGG.out HE.out hz
        have E:Hid (jc (ds.map aq.pl)=eC g):=by show _=_;rw[HAT.out k d HDK.out HZ.out (by rw[HD4.out,hfc];exact hz),HD4.out,hfc]
        generalize eC g=ag at *
        clear hz hfc
        go_wp2_with fail
        go_ret
        exact⟨az E.out.symm,B5.out⟩
       ·have q5:(eC g != 0)=false:=by rw[Decidable.not_not.1 hz];rfl
        have HZG:=ae (Decidable.not_not.1 hz)
        obtain⟨ag,hag⟩:∃ ag,eC g=ag:=⟨_,rfl⟩
        rw[hag] at q5
        rw[hag]
        clear hz hag
        go_wp2_with fail
        go_roundw
        case rel=>exact⟨j+1,by omega,by go_num,ae (fun y hy=>by
         rw[HGT.out] at hy
         rcases List.mem_append.1 hy with hy | hy
         ·exact HE.out y hy
         ·rw[List.mem_singleton.1 hy];exact HZG.out),B5,B52⟩
        case measure=>simp[intOf];omega
      ·have HDZ:Hid (qt d.pl=0):=by
        show _=_;rw[HD4.out,bB];intro y hy;exact HE.out y (by rw[tL (by have:=HAL.out;omega)];exact hy)
       go_wp2_with fail
       go_roundw
       case rel=>exact⟨k+1,by omega,by go_num,ae (fun y hy=>by
        rw[HTK.out] at hy
        rcases List.mem_append.1 hy with hy | hy
        ·exact HZ.out y hy
        ·rw[List.mem_singleton.1 hy];exact HDZ.out),BJ⟩
       case measure=>simp[intOf];omega
    ·have E:Hid (jc (ds.map aq.pl)=0):=PQ HN64.out (fun y hy=>HZ.out y (by rw[tL (by omega)];exact hy))
     go_wp2_with fail
     go_ret
     exact⟨az E.out.symm,HB.out⟩
end
end Go.Proofs.YtkjdbpjglobbjaaGreatDoor
