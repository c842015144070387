/- A part of the proof that ModelChecks holds. No condition. -/
import Derived.Test.YtdfdllbebfoggaaGreatDoorD38
import Derived.Test.YtdfdllbebfoggaaGreatDoorD45
set_option maxRecDepth 100000
set_option maxHeartbeats 20000000
set_option linter.unusedVariables false
set_option linter.unusedSimpArgs false
namespace Go.Proofs.YtdfdllbebfoggaaGreatDoor
section
open Go.RowKit Go.Deep
theorem join_snoc (sep x:LU):∀ l:List (LU),l≠[]→Lib.join (l++[x]) sep=Lib.join l sep++sep++x
 | [],h=>absurd rfl h
 | [a],_=>by simp[Lib.join,List.intercalate]
 | a::b::r,_=>by
  have ih:=join_snoc sep x (b::r) (by simp)
  have e:∀ (p q:LU)(t:List (LU)),Lib.join (p::q::t) sep=p++sep++Lib.join (q::t) sep:=by
   intro p q t;simp[Lib.join,List.intercalate,List.intersperse]
  rw[List.cons_append,List.cons_append,e,e,←List.cons_append,ih];simp
theorem join_first (sep x:LU):Lib.join ([]++[x]) sep=x:=by simp[Lib.join,List.intercalate]
theorem join_none (sep:LU):Lib.join [] sep=[]:=by simp[Lib.join,List.intercalate]
def ahead (l:List (LU))(sep:LU):LU:=if l=[] then [] else Lib.join l sep++sep
theorem join_ahead (l:List (LU))(x sep:LU):Lib.join (l++[x]) sep=ahead l sep++x:=by
 unfold ahead
 split
 ·rename_i h;rw[h,join_first];rfl
 ·rename_i h;rw[join_snoc sep x l h]
def archT (l:List (LU)):LU:=if l=[] then [] else [32,91]++Lib.join l [32]
theorem archT_first (x:LU):archT ([]++[x])=[32,91]++x:=by unfold archT;rw[join_first];simp
theorem archT_next (l:List (LU))(x:LU)(h:l≠[]):archT (l++[x])=archT l++[32]++x:=by
 unfold archT;rw[if_neg (by simp),if_neg h,join_snoc _ _ _ h];simp
theorem tArch_T (l:List (LU))(h:l≠[]):tArch l=archT l++[93]:=by
 unfold tArch archT;rw[if_neg (by simpa using h),if_neg h]
theorem sz_append (a b:BA):(a++b).size=a.size+b.size:=by rw[←bl_length,bl_append,List.length_append,bl_length,bl_length]
theorem take_ne {α:Type}{l:List α}{k:Nat}(h:0<k)(hk:k≤l.length):l.take k≠[]:=by
 intro e;have:=congrArg List.length e;rw[List.length_take,List.length_nil] at this;omega
theorem num_le {n i:Nat}(h:n≤i*3000000002+2)(hi:i≤63):n≤200000000000:=by omega
theorem num_le2 {n i q d:Nat}(h:n≤i*3000000002+d+q*36000000)(hi:i≤63)(hq:q≤63)(hd:d≤1000000):n≤200000000000:=by omega
theorem r14_Print (A:Option Addr)(c:Nat)(gs:List GrpM)(hW:FldW gs)(w:World)(hr:FldOk w A gs):
  Calls Tryz.prog 149 #[.slice A gs.length c] w fun e w'=>e=.returned (.tuple #[.string (mkB (dText (gs.map GrpM.pl))),.int .i64 0])∧Below w.heap.size w w':=by
 have HR:=hid hr;have HW:=hid hW
 have hfew:=hW.few
 clear hr hW
 go_enter Tryz.func149,Tryz.ntmps149
 go_wp2_with fail
 refine(r14_Check A c gs HW.out w HR.out).mono ?_;rintro e w0 ⟨rfl,hb0⟩
 have HB0:=hid hb0;clear hb0
 go_wp2_with fail
 go_loopw [5,6] (fun v i wr=>∃ (S:BA) (k:Nat),v=.string S∧i=.int .i64 k∧k≤gs.length∧S.size≤200000000000∧Hid (S.size≤k*3000000002)∧Hid (Below w.heap.size w wr)∧Hid (bl S=Lib.join (((gs.take k).map GrpM.pl).map gText) [44,32])) (fun _ i _=>gs.length-(intOf i).toNat)
 case atStart=>exact⟨⟨#[]⟩,0,rfl,rfl,z0,(by show(0:Nat)≤_;omega),(by show(0:Nat)≤_;omega),HB0,by show _=_;simp[join_none];rfl⟩
 case round=>
  obtain⟨S,i,rfl,rfl,hi,hSz,HSZ,HB,HS⟩:=hrel
  by_cases hlt3:i<gs.length
  ·obtain⟨g,hg⟩:∃ g,gs[i]?=some g:=⟨_,gG hlt3⟩
   have hgl:=HW.out.len g (gM hg)
   have HGP:=hid (HW.out.ne g (gM hg))
   have HRG:=hid (HR.out.grp g (gM hg))
   have HRA:=hid (HR.out.archs g (gM hg))
   have HTK:=hid (HW.out.ok g (gM hg))
   have HGA:=hid (fun (W:World) (hb:Below w.heap.size w W)=>(HR.out.below hb).row.one i _ (grp_at hg) hlt3)
   have TK:Hid (((gs.take (i+1)).map GrpM.pl).map gText=((gs.take i).map GrpM.pl).map gText++[gText g.pl]):=by
    show _=_;obtain⟨hk',hf'⟩:=gS hg;rw[tS hk',hf'];simp
   have TI:Hid (0<i→((gs.take i).map GrpM.pl).map gText≠[]):=fun h0=>by simpa using take_ne h0 (by omega:i≤gs.length)
   have TZ:Hid (i=0→((gs.take i).map GrpM.pl).map gText=[]):=fun h0=>by rw[h0];rfl
   obtain⟨gl,hgle⟩:∃ gl,g.ts.length=gl:=⟨_,rfl⟩
   rw[hgle] at HGA hgl
   have HGL:=hid hgle
   clear hg hgle
   have hi64:i≤63:=by omega
   go_upto_if 22 with(fail)
   go_cut [5] (fun v wx=>∃ S1:BA,v=.string S1∧S1.size≤200000000000∧Hid (S1.size≤i*3000000002+2)∧wr=wx∧Hid (bl S1=ahead (((gs.take i).map GrpM.pl).map gText) [44,32]))
   case first=>
    by_cases i0:0<i
    ·have d0:decide ((0:Int)<(i:Int))=true:=dT (by omega)
     have d1:decide (0<i)=true:=dT i0
     have E:Hid (bl (S++⟨#[44,32]⟩)=ahead (((gs.take i).map GrpM.pl).map gText) [44,32]):=by
      show _=_;rw[bl_append,HS.out];unfold ahead;rw[if_neg (TI.out i0)];rfl
     have EZ:Hid ((S++⟨#[44,32]⟩:BA).size≤i*3000000002+2):=by have h1:=HSZ.out;show _≤_;rw[sz_append];have:(⟨#[44,32]⟩:BA).size=2:=rfl;omega
     go_wp2_with fail
     go_meet
     exact⟨_,rfl,num_le EZ.out hi64,EZ,rfl,E⟩
    ·have d0:decide ((0:Int)<(i:Int))=false:=dF (by omega)
     have d1:decide (0<i)=false:=dF i0
     have E:Hid (bl S=ahead (((gs.take i).map GrpM.pl).map gText) [44,32]):=by
      show _=_;rw[HS.out,TZ.out (by omega),join_none];rfl
     have EZ:Hid (S.size≤i*3000000002+2):=Nat.le_trans HSZ.out (Nat.le_add_right _ _)
     go_wp2_with fail
     go_meet
     exact⟨S,rfl,hSz,EZ,rfl,E⟩
   case rest=>
   obtain⟨S1,rfl,hS1,HS1Z,rfl,HS1⟩:=hcut
   clear hSz HS HSZ
   go_wp2_with fail
   obtain⟨wo,rfl⟩:∃ wo:World,wo=wr:=⟨_,rfl⟩
   go_loopw [5,7] (fun v q wr=>∃ (S2:BA) (k:Nat),v=.string S2∧q=.int .i64 k∧k≤gl∧S2.size≤200000000000∧Hid (S2.size≤i*3000000002+2+k*36000000)∧Hid (Below w.heap.size w wr)∧Hid (bl S2=bl S1++Lib.join (((g.ts.take k).map TrmM.pl).map Trm.text) [32,124,32])) (fun _ q _=>gl-(intOf q).toNat)
   case atStart=>exact⟨S1,0,rfl,rfl,z0,hS1,Nat.le_trans HS1Z.out (Nat.le_add_right _ _),HB,by show _=_;simp[join_none]⟩
   case round=>
    obtain⟨S2,q,rfl,rfl,hq,hS2,HS2Z,HB1,HS2⟩:=hrel
    obtain⟨b,off,hA,he⟩:=HGA.out _ HB1.out
    have hix:=fun W=>idx_of (T:=115) (E:=155) (sz:=1) (c:=c) Tryz.underlying115 rfl Tryz.sizeOf155 hA hlt3 W
    simp only[Nat.mul_one] at hix
    clear hA
    by_cases hlt4:q<gl
    ·have HL4:Hid (q<g.ts.length):=by have:=HGL.out;show _<_;omega
     obtain⟨t,ht⟩:∃ t,g.ts[q]?=some t:=⟨_,gG HL4.out⟩
     obtain⟨b2,off2,hA2,he2⟩:=(HRG.out.below HB1.out).elem trm_len q t ht
     have e0:=he2 0 _ rfl
     have e1:=he2 1 _ rfl
     have e2:=he2 2 _ rfl
     have e3:=he2 3 _ rfl
     have e4:=he2 4 _ rfl
     simp only[Nat.add_zero] at e0
     have hix2:=fun W=>idx_of (T:=155) (E:=157) (sz:=5) (n:=gl) (c:=g.gc) Tryz.underlying155 rfl Tryz.sizeOf157 hA2 hlt4 W
     have TOK:=HTK.out t (gM ht)
     have TA:=hid (HRA.out t (gM ht))
     have TTK:Hid (((g.ts.take (q+1)).map TrmM.pl).map Trm.text=((g.ts.take q).map TrmM.pl).map Trm.text++[t.pl.text]):=by
      show _=_;obtain⟨hk',hf'⟩:=gS ht;rw[tS hk',hf'];simp
     have TTI:Hid (0<q→((g.ts.take q).map TrmM.pl).map Trm.text≠[]):=fun h0=>by
      have:=take_ne h0 (by have:=HL4.out;omega:q≤g.ts.length)
      intro e;rw[List.map_eq_nil_iff,List.map_eq_nil_iff] at e;exact this e
     have TTZ:Hid (q=0→((g.ts.take q).map TrmM.pl).map Trm.text=[]):=fun h0=>by rw[h0];rfl
     obtain⟨h1,h2,h3,h4,h5,h6,h7,h8,h9,h10,h11⟩:=TOK
     have TXT:=hid (text_parts t.pl)
     unfold TrmM.pl at TXT
     obtain⟨nm,op,ver,qual,aa,ac,archs⟩:=t
     simp only at *
     have HZ:=hid h10
     have W1K:Hid (Blk (wr.alloc (.cells #[.string nm,.int .i64 op,.string ver,.string qual,.slice aa archs.length ac] 157)) wr.heap.size [.string nm,.int .i64 op,.string ver,.string qual,.slice aa archs.length ac]):=Blk.new wr _ _
     have W1B:Hid (Below w.heap.size w (wr.alloc (.cells #[.string nm,.int .i64 op,.string ver,.string qual,.slice aa archs.length ac] 157))):=HB1.out.alloc HB1.out.size _
     obtain⟨wh,hwh⟩:∃ wh,wr.heap.size=wh:=⟨_,rfl⟩
     clear ht he2 hA2 h1 h2 h3 h5 h6 h10
     have hq64:q≤63:=by omega
     go_upto_if 42 with(fail)
     generalize wr.alloc (.cells #[.string nm,.int .i64 op,.string ver,.string qual,.slice aa archs.length ac] 157)=W1 at W1K W1B ⊢
     obtain⟨c0,c1,c2,c3,c4,f0,f1,f2,f3,f4⟩:=W1K.out.five
     have hW1z:wr.heap.size<W1.heap.size:=W1K.out.sz
     rw[hwh] at c0 c1 c2 c3 c4 W1K hW1z
     clear he hix e0 e1 e2 e3 e4 hix2 f0 f1 f2 f3 f4 hwh
     go_cut [5] (fun v wx=>∃ S3:BA,v=.string S3∧S3.size≤200000000000∧Hid (S3.size≤i*3000000002+5+q*36000000)∧W1=wx∧Hid (bl S3=bl S1++ahead (((g.ts.take q).map TrmM.pl).map Trm.text) [32,124,32]))
     case first=>
      by_cases q0:0<q
      ·have d0:decide ((0:Int)<(q:Int))=true:=dT (by omega)
       have d1:decide (0<q)=true:=dT q0
       have E:Hid (bl (S2++⟨#[32,124,32]⟩)=bl S1++ahead (((g.ts.take q).map TrmM.pl).map Trm.text) [32,124,32]):=by
        show _=_;rw[bl_append,HS2.out];unfold ahead;rw[if_neg (TTI.out q0),List.append_assoc];rfl
       have EZ:Hid ((S2++⟨#[32,124,32]⟩:BA).size≤i*3000000002+5+q*36000000):=by have h1:=HS2Z.out;show _≤_;rw[sz_append];have:(⟨#[32,124,32]⟩:BA).size=3:=rfl;omega
       go_wp2_with fail
       go_meet
       exact⟨_,rfl,num_le2 EZ.out hi64 hq64 (by decide),EZ,rfl,E⟩
      ·have d0:decide ((0:Int)<(q:Int))=false:=dF (by omega)
       have d1:decide (0<q)=false:=dF q0
       have E:Hid (bl S2=bl S1++ahead (((g.ts.take q).map TrmM.pl).map Trm.text) [32,124,32]):=by
        show _=_;rw[HS2.out,TTZ.out (by omega),join_none];rfl
       have EZ:Hid (S2.size≤i*3000000002+5+q*36000000):=Nat.le_trans HS2Z.out (Nat.add_le_add_right (Nat.add_le_add_left (by decide) _) _)
       go_wp2_with fail
       go_meet
       exact⟨S2,rfl,hS2,EZ,rfl,E⟩
     case rest=>
     obtain⟨S3,rfl,hS3,HS3Z,rfl,HS3⟩:=hcut
     clear hS2 HS2 HS2Z
     obtain⟨bq,hbq⟩:∃ bq,qual.toList.isEmpty=bq:=⟨_,rfl⟩
     have HBQ:Hid (decide (qual.size=0)=bq):=by show _=_;rw[←bl_isEmpty,←bl_toList];exact hbq
     go_upto_if 52 with(fail)
     clear hbq
     go_cut [5] (fun v wx=>∃ S4:BA,v=.string S4∧S4.size≤200000000000∧Hid (S4.size≤i*3000000002+105+q*36000000)∧W1=wx∧Hid (bl S4=bl S3++bl nm++tQual (bl qual)))
     case first=>
      cases bq with
      | true=>
       have E:Hid (bl (S3++nm)=bl S3++bl nm++tQual (bl qual)):=by show _=_;rw[bl_append,bl_nil qual (dO HBQ.out)];simp[tQual]
       have EZ:Hid ((S3++nm:BA).size≤i*3000000002+105+q*36000000):=by have h1:=HS3Z.out;show _≤_;rw[sz_append];omega
       go_wp2_with fail
       go_meet
       exact⟨_,rfl,num_le2 EZ.out hi64 hq64 (by decide),EZ,rfl,E⟩
      | false=>
       have E:Hid (bl (S3++nm++⟨#[58]⟩++qual)=bl S3++bl nm++tQual (bl qual)):=by
        show _=_;simp only[bl_append];unfold tQual;rw[bl_isEmpty,HBQ.out,List.append_assoc (bl S3++bl nm)];rfl
       have EZ:Hid ((S3++nm++⟨#[58]⟩++qual:BA).size≤i*3000000002+105+q*36000000):=by have h1:=HS3Z.out;show _≤_;simp only[sz_append];have:(⟨#[58]⟩:BA).size=1:=rfl;omega
       have EN1:(S3++nm:BA).size≤200000000100:=by rw[sz_append];omega
       have EN2:(S3++nm++⟨#[58]⟩:BA).size≤200000000200:=by simp only[sz_append];have:(⟨#[58]⟩:BA).size=1:=rfl;omega
       go_wp2_with fail
       go_meet
       exact⟨_,rfl,num_le2 EZ.out hi64 hq64 (by decide),EZ,rfl,E⟩
     case rest=>
     obtain⟨S4,rfl,hS4,HS4Z,rfl,HS4⟩:=hcut
     clear hS3 HS3Z
     have hsz:(dSign op).size≤2:=by rw[←bl_length,sgD_at op (by omega)];exact sgD_len _
     obtain⟨bo,hbo⟩:∃ bo,decide (0<op)=bo:=⟨_,rfl⟩
     have hbo2:decide ((0:Int)<(op:Int))=bo:=by rw[←hbo];congr 1;simp
     have HBO:=hid hbo
     go_upto_if 61 with(fail)
     clear hbo hbo2
     go_cut [5] (fun v wx=>∃ S5:BA,v=.string S5∧S5.size≤200000000000∧Hid (S5.size≤i*3000000002+205+q*36000000)∧Hid (Below w.heap.size w wx)∧Hid (Blk wx wh [.string nm,.int .i64 op,.string ver,.string qual,.slice aa archs.length ac])∧Hid (bl S5=bl S4++tRel op (bl ver)))
     case first=>
      cases bo with
      | false=>
       have o0:op=0:=by have:=of_decide_eq_false HBO.out;omega
       have E:Hid (bl S4=bl S4++tRel op (bl ver)):=by show _=_;simp[tRel,o0]
       have EZ:Hid (S4.size≤i*3000000002+205+q*36000000):=Nat.le_trans HS4Z.out (Nat.add_le_add_right (Nat.add_le_add_left (by decide) _) _)
       clear o0
       go_wp2_with fail
       go_meet
       exact⟨S4,rfl,hS4,EZ,W1B,W1K,E⟩
      | true=>
       have o0:¬ op=0:=by have:=dO HBO.out;omega
       have E:Hid (bl (S4++⟨#[32,40]⟩++dSign op++⟨#[32]⟩++ver++⟨#[41]⟩)=bl S4++tRel op (bl ver)):=by
        show _=_;simp only[bl_append];unfold tRel;rw[if_neg o0,sgD_at op (by omega)];simp only[List.append_assoc];rfl
       have EZ:Hid ((S4++⟨#[32,40]⟩++dSign op++⟨#[32]⟩++ver++⟨#[41]⟩:BA).size≤i*3000000002+205+q*36000000):=by
        have h1:=HS4Z.out;show _≤_;rw[←bl_length,E.out,List.length_append,bl_length];have:=tRel_len op (bl ver);rw[bl_length] at this;omega
       have z1:(⟨#[32,40]⟩:BA).size=2:=rfl
       have z2:(⟨#[32]⟩:BA).size=1:=rfl
       have n1:(S4++⟨#[32,40]⟩:BA).size≤200000000010:=by simp only[sz_append];omega
       have n2:(S4++⟨#[32,40]⟩++dSign op:BA).size≤200000000020:=by simp only[sz_append];omega
       have n3:(S4++⟨#[32,40]⟩++dSign op++⟨#[32]⟩:BA).size≤200000000030:=by simp only[sz_append];omega
       have n4:(S4++⟨#[32,40]⟩++dSign op++⟨#[32]⟩++ver:BA).size≤200000000130:=by simp only[sz_append];omega
       have ho6:op<6:=by omega
       clear o0 z1 z2
       go_wp2_with fail
       have q1:=fun W=>run_string_add_sum (P:=Tryz.prog) (w:=W) S4 ⟨#[32,40]⟩ (by have:(⟨#[32,40]⟩:BA).size=2:=rfl;omega)
       have q2:=fun W=>run_string_add_sum (P:=Tryz.prog) (w:=W) (S4++⟨#[32,40]⟩) (dSign op) (by omega)
       have q3:=fun W=>run_string_add_sum (P:=Tryz.prog) (w:=W) (S4++⟨#[32,40]⟩++dSign op) ⟨#[32]⟩ (by have:(⟨#[32]⟩:BA).size=1:=rfl;omega)
       have q4:=fun W=>run_string_add_sum (P:=Tryz.prog) (w:=W) (S4++⟨#[32,40]⟩++dSign op++⟨#[32]⟩) ver (by omega)
       have q5:=fun W=>run_string_add_sum (P:=Tryz.prog) (w:=W) (S4++⟨#[32,40]⟩++dSign op++⟨#[32]⟩++ver) ⟨#[41]⟩ (by have:(⟨#[41]⟩:BA).size=1:=rfl;omega)
       go_region_held3 (fun w'=>w'.cell? ⟨wh,1,none⟩=some (.int .i64 op)∧w'.cell? ⟨wh,2,none⟩=some (.string ver))
        (first
          | go_keep
          | exact⟨(hb5.cell (p:=⟨wh,1,none⟩) hW1z).trans c1,(hb5.cell (p:=⟨wh,2,none⟩) hW1z).trans c2⟩)
        ((go_at_call 211;refine(r14_relation op ho6 W1.drew).mono ?_;rintro e w5 ⟨rfl,hb5⟩))
       all_goals
        have B5:Hid (Below w.heap.size w w5):=bthen W1B.out (show Below W1.heap.size W1 w5 from⟨hb5.os,hb5.tape,hb5.output,hb5.size,hb5.block⟩)
        have K5:Hid (Blk w5 wh [.string nm,.int .i64 op,.string ver,.string qual,.slice aa archs.length ac]):=W1K.out.below (show Below W1.heap.size W1 w5 from⟨hb5.os,hb5.tape,hb5.output,hb5.size,hb5.block⟩)
        go_wp2_with fail
        go_meet
        exact⟨_,rfl,num_le2 EZ.out hi64 hq64 (by decide),EZ,B5,K5,E⟩
     case rest=>
     obtain⟨S5,rfl,hS5,HS5Z,B5,K5,HS5⟩:=hcut
     clear hS4 c0 c1 c2 c3 c4 W1K W1B hsz HBO HBQ
     have c4:=K5.out.five.c4
     go_wp2_with fail
     go_loop [5,9] (fun v j=>∃ (S6:BA) (k5:Nat),v=.string S6∧j=.int .i64 k5∧k5≤archs.length∧S6.size≤201000000000∧Hid (S6.size≤S5.size+k5*35)∧Hid (bl S6=bl S5++archT ((archs.take k5).map bl))) (fun _ j=>archs.length-(intOf j).toNat)
     case atStart=>exact⟨S5,0,rfl,rfl,z0,by omega,Nat.le_add_right _ _,by show _=_;simp[archT]⟩
     case round=>
      obtain⟨S6,j,rfl,rfl,hj,hS6,HS6Z,HS6⟩:=hrel
      by_cases hlt5:j<archs.length
      ·obtain⟨x,hx⟩:∃ x,archs[j]?=some x:=⟨_,gG hlt5⟩
       obtain⟨b,off,hA,he⟩:=(TA.out.below B5.out).str j x hx
       have hix:=fun W=>idx_of (T:=22) (E:=9) (sz:=1) (c:=ac) Tryz.underlying22 rfl Tryz.sizeOf9 hA hlt5 W
       simp only[Nat.mul_one] at hix
       have hxz:=HZ.out x (gM hx)
       have TJ:Hid ((archs.take (j+1)).map bl=(archs.take j).map bl++[bl x]):=by
        show _=_;obtain⟨hk',hf'⟩:=gS hx;rw[tS hk',hf'];simp
       clear hx hA
       by_cases j0:j=0
       ·have d0:((j:Int)==0)=true:=by simp[j0]
        have E:Hid (bl (S6++⟨#[32,91]⟩++x)=bl S5++archT ((archs.take (j+1)).map bl)):=by
         show _=_;rw[TJ.out,bl_append,bl_append,HS6.out,j0];simp only[List.take_zero,List.map_nil];rw[archT_first];simp[archT];rfl
        have EZ:Hid ((S6++⟨#[32,91]⟩++x:BA).size≤S5.size+(j+1)*35):=by
         have h1:=HS6Z.out;show _≤_;simp only[sz_append];have:(⟨#[32,91]⟩:BA).size=2:=rfl;omega
        have EN:Hid ((S6++⟨#[32,91]⟩++x:BA).size≤201000000000):=by have h1:=EZ.out;show _≤_;omega
        have EN1:(S6++⟨#[32,91]⟩:BA).size≤201000000002:=by simp only[sz_append];have:(⟨#[32,91]⟩:BA).size=2:=rfl;omega
        clear j0
        go_wp2_with fail
        go_round
        case rel=>exact⟨_,j+1,rfl,by go_num,by omega,EN.out,EZ,E⟩
        case measure=>simp[intOf];omega
       ·have d0:((j:Int)==0)=false:=by simp;omega
        have E:Hid (bl (S6++⟨#[32]⟩++x)=bl S5++archT ((archs.take (j+1)).map bl)):=by
         show _=_;rw[TJ.out,bl_append,bl_append,HS6.out,archT_next _ _ (by intro e;rw[List.map_eq_nil_iff] at e;exact take_ne (by omega) (by omega) e)];simp only[List.append_assoc];rfl
        have EZ:Hid ((S6++⟨#[32]⟩++x:BA).size≤S5.size+(j+1)*35):=by
         have h1:=HS6Z.out;show _≤_;simp only[sz_append];have:(⟨#[32]⟩:BA).size=1:=rfl;omega
        have EN:Hid ((S6++⟨#[32]⟩++x:BA).size≤201000000000):=by have h1:=EZ.out;show _≤_;omega
        have EN1:(S6++⟨#[32]⟩:BA).size≤201000000002:=by simp only[sz_append];have:(⟨#[32]⟩:BA).size=1:=rfl;omega
        clear j0
        go_wp2_with fail
        go_round
        case rel=>exact⟨_,j+1,rfl,by go_num,by omega,EN.out,EZ,E⟩
        case measure=>simp[intOf];omega
      ·have hja:j=archs.length:=by omega
       have TJ:Hid ((archs.take j).map bl=archs.map bl):=by show _=_;rw[hja,List.take_length]
       have FT:Hid (∀ X:LU,X=bl S5++tArch (archs.map bl)→X=bl S1++Lib.join (((g.ts.take (q+1)).map TrmM.pl).map Trm.text) [32,124,32]):=by
        intro X hX
        rw[hX,TTK.out,join_ahead,HS5.out,HS4.out,HS3.out]
        have:=TXT.out
        simp only[TrmM.pl]
        rw[this]
        simp only[List.append_assoc]
       clear hja
       by_cases a0:archs.length=0
       ·have E:Hid (bl S6=bl S1++Lib.join (((g.ts.take (q+1)).map TrmM.pl).map Trm.text) [32,124,32]):=by
         refine FT.out _ ?_
         rw[HS6.out,TJ.out,List.length_eq_zero_iff.1 a0];rfl
        have EZ:Hid (S6.size≤i*3000000002+2+(q+1)*36000000):=by
         have h1:=HS6Z.out;have h2:=HS5Z.out;show _≤_;omega
        have EN:Hid (S6.size≤200000000000):=by have h1:=EZ.out;show _≤_;omega
        have a1:decide ((0:Int)<(archs.length:Int))=false:=dF (by omega)
        have a2:decide (0<archs.length)=false:=dF (by omega)
        clear a0
        go_wp2_with fail
        go_roundw
        case rel=>exact⟨S6,q+1,rfl,by go_num,by omega,EN.out,EZ,B5,E⟩
        case measure=>simp[intOf];omega
       ·have E:Hid (bl (S6++⟨#[93]⟩)=bl S1++Lib.join (((g.ts.take (q+1)).map TrmM.pl).map Trm.text) [32,124,32]):=by
         refine FT.out _ ?_
         rw[bl_append,HS6.out,TJ.out,tArch_T _ (by intro e;rw[List.map_eq_nil_iff] at e;rw[e] at a0;exact a0 rfl),List.append_assoc];rfl
        have EZ:Hid ((S6++⟨#[93]⟩:BA).size≤i*3000000002+2+(q+1)*36000000):=by
         have h1:=HS6Z.out;have h2:=HS5Z.out;show _≤_;rw[sz_append];have:(⟨#[93]⟩:BA).size=1:=rfl;omega
        have EN:Hid ((S6++⟨#[93]⟩:BA).size≤200000000000):=by have h1:=EZ.out;show _≤_;omega
        have a1:decide ((0:Int)<(archs.length:Int))=true:=dT (by omega)
        have a2:decide (0<archs.length)=true:=dT (by omega)
        clear a0
        go_wp2_with fail
        go_roundw
        case rel=>exact⟨_,q+1,rfl,by go_num,by omega,EN.out,EZ,B5,E⟩
        case measure=>simp[intOf];omega
    ·have E:Hid (bl S2=Lib.join (((gs.take (i+1)).map GrpM.pl).map gText) [44,32]):=by
      have ht:g.ts.take q=g.ts:=tL (by rw[HGL.out];omega)
      show _=_
      rw[TK.out,join_ahead,HS2.out,HS1.out,ht];rfl
     have EZ:Hid (S2.size≤(i+1)*3000000002):=by have h1:=HS2Z.out;show _≤_;omega
     go_wp2_with fail
     go_roundw
     case rel=>exact⟨S2,i+1,rfl,by go_num,by omega,hS2,EZ,HB1,E⟩
     case measure=>simp[intOf];omega
  ·have E:Hid (mkB (dText (gs.map GrpM.pl))=S):=by
    show _=_;symm;apply eq_mk;rw[HS.out,tL (by omega)];rfl
   go_wp2_with fail
   go_ret2
   exact⟨by rw[E.out];rfl,HB.out⟩
theorem wTxt (x:Wnt):x.text=(if x.no then [33] else [])++(x.name++sgA x.op++x.ver):=rfl
theorem r16_Print (A:Option Addr)(c:Nat)(L:List Wnt)(hL:∀ x∈L,x.right)(h64:L.length≤64)(w:World)(hr:Rd w 4 A L.length (L.flatMap Wnt.cells)):
  Calls Tryz.prog 153 #[.slice A L.length c] w fun e w'=>e=.returned (.tuple #[.string (mkB (aText L)),.int .i64 0])∧Below w.heap.size w w':=by
 have HR:=hid hr;have HL:=hid hL
 clear hr hL
 go_enter Tryz.func153,Tryz.ntmps153
 go_wp2_with fail
 refine(r16_Check A c L HL.out h64 w HR.out).mono ?_;rintro e w0 ⟨rfl,hb0⟩
 have HB0:=hid hb0;clear hb0
 go_wp2_with fail
 go_loopw [5,6] (fun v i wr=>∃ (S:BA) (k:Nat),v=.string S∧i=.int .i64 k∧k≤L.length∧S.size≤10000∧Hid (S.size≤k*132)∧Hid (Below w.heap.size w wr)∧Hid (bl S=Lib.join ((L.take k).map Wnt.text) [32])) (fun _ i _=>L.length-(intOf i).toNat)
 case atStart=>exact⟨⟨#[]⟩,0,rfl,rfl,z0,(by show(0:Nat)≤_;omega),(by show(0:Nat)≤_;omega),HB0,by show _=_;simp[join_none];rfl⟩
 case round=>
  obtain⟨S,i,rfl,rfl,hi,hSz,HSZ,HB,HS⟩:=hrel
  by_cases hlt:i<L.length
  ·obtain⟨x,hx⟩:∃ x,L[i]?=some x:=⟨_,gG hlt⟩
   obtain⟨b,off,hA,he⟩:=(HR.out.below HB.out).elem wnt_len i x hx
   have e0:=he 0 _ rfl
   have e1:=he 1 _ rfl
   have e2:=he 2 _ rfl
   have e3:=he 3 _ rfl
   simp only[Nat.add_zero] at e0
   have hbl:=World.block_lt_of_cell? _ _ e0
   have hix:=fun W=>idx_of (T:=125) (E:=172) (sz:=4) (c:=c) Tryz.underlying125 rfl Tryz.sizeOf172 hA hlt W
   have HX:=hid (HL.out x (gM hx))
   have h7:x.op<7:=by have:=HX.out.2.1;omega
   have TK:Hid ((L.take (i+1)).map Wnt.text=(L.take i).map Wnt.text++[x.text]):=by
    show _=_;obtain⟨hk',hf'⟩:=gS hx;rw[tS hk',hf'];simp
   have TI:Hid (0<i→(L.take i).map Wnt.text≠[]):=fun h0=>by
    have:=take_ne h0 (by omega:i≤L.length)
    intro e;rw[List.map_eq_nil_iff] at e;exact this e
   have TZ:Hid (i=0→(L.take i).map Wnt.text=[]):=fun h0=>by rw[h0];rfl
   have s1:(mkB x.name).size≤64:=by rw[mk_size];exact HX.out.sizes.1
   have s2:(mkB x.ver).size≤64:=by rw[mk_size];exact HX.out.sizes.2
   have s3:(aSign x.op).size≤2:=by rw[←bl_length,sgA_at x.op h7];exact sgA_len _
   have hi64:i≤63:=by omega
   clear hx he hA
   go_upto_if 19 with(fail)
   go_cut [5] (fun v wx=>∃ S1:BA,v=.string S1∧S1.size≤10001∧Hid (S1.size≤i*132+1)∧wr=wx∧Hid (bl S1=ahead ((L.take i).map Wnt.text) [32]))
   case first=>
    by_cases i0:0<i
    ·have d0:decide ((0:Int)<(i:Int))=true:=dT (by omega)
     have d1:decide (0<i)=true:=dT i0
     have E:Hid (bl (S++⟨#[32]⟩)=ahead ((L.take i).map Wnt.text) [32]):=by
      show _=_;rw[bl_append,HS.out];unfold ahead;rw[if_neg (TI.out i0)];rfl
     have EZ:Hid ((S++⟨#[32]⟩:BA).size≤i*132+1):=by have h1:=HSZ.out;show _≤_;rw[sz_append];have:(⟨#[32]⟩:BA).size=1:=rfl;omega
     have EN:Hid ((S++⟨#[32]⟩:BA).size≤10001):=by have h1:=EZ.out;show _≤_;omega
     go_wp2_with fail
     go_meet
     exact⟨_,rfl,EN.out,EZ,rfl,E⟩
    ·have d0:decide ((0:Int)<(i:Int))=false:=dF (by omega)
     have d1:decide (0<i)=false:=dF i0
     have E:Hid (bl S=ahead ((L.take i).map Wnt.text) [32]):=by
      show _=_;rw[HS.out,TZ.out (by omega),join_none];rfl
     have EZ:Hid (S.size≤i*132+1):=Nat.le_trans HSZ.out (Nat.le_add_right _ _)
     go_wp2_with fail
     go_meet
     exact⟨S,rfl,by omega,EZ,rfl,E⟩
   case rest=>
   obtain⟨S1,rfl,hS1,HS1Z,rfl,HS1⟩:=hcut
   clear hSz HS HSZ
   obtain⟨bn,hbn⟩:∃ bn,x.no=bn:=⟨_,rfl⟩
   have HBN:=hid hbn
   rw[hbn] at e0
   clear hbn
   go_upto_if 26 with(fail)
   go_cut [5] (fun v wx=>∃ S2:BA,v=.string S2∧S2.size≤10002∧Hid (S2.size≤i*132+2)∧wr=wx∧Hid (bl S2=bl S1++(if x.no then [33] else [])))
   case first=>
    cases bn with
    | true=>
     have E:Hid (bl (S1++⟨#[33]⟩)=bl S1++(if x.no then [33] else [])):=by show _=_;rw[bl_append,HBN.out];rfl
     have EZ:Hid ((S1++⟨#[33]⟩:BA).size≤i*132+2):=by have h1:=HS1Z.out;show _≤_;rw[sz_append];have:(⟨#[33]⟩:BA).size=1:=rfl;omega
     have EN:Hid ((S1++⟨#[33]⟩:BA).size≤10002):=by have h1:=EZ.out;show _≤_;omega
     go_wp2_with fail
     go_meet
     exact⟨_,rfl,EN.out,EZ,rfl,E⟩
    | false=>
     have E:Hid (bl S1=bl S1++(if x.no then [33] else [])):=by show _=_;rw[HBN.out];simp
     have EZ:Hid (S1.size≤i*132+2):=Nat.le_trans HS1Z.out (Nat.le_succ _)
     go_wp2_with fail
     go_meet
     exact⟨S1,rfl,by omega,EZ,rfl,E⟩
   case rest=>
   obtain⟨S2,rfl,hS2,HS2Z,rfl,HS2⟩:=hcut
   clear hS1 HS1Z e0 HBN
   have n1:(S2++mkB x.name:BA).size≤10070:=by simp only[sz_append];omega
   have n2:(S2++mkB x.name++aSign x.op:BA).size≤10080:=by simp only[sz_append];omega
   have E:Hid (bl (S2++mkB x.name++aSign x.op++mkB x.ver)=Lib.join ((L.take (i+1)).map Wnt.text) [32]):=by
    show _=_;rw[TK.out,join_ahead,←HS1.out,wTxt];simp only[bl_append,bl_of];rw[HS2.out,sgA_at x.op h7];simp only[List.append_assoc]
   have EZ:Hid ((S2++mkB x.name++aSign x.op++mkB x.ver:BA).size≤(i+1)*132):=by have h1:=HS2Z.out;show _≤_;simp only[sz_append];omega
   have EN:Hid ((S2++mkB x.name++aSign x.op++mkB x.ver:BA).size≤10000):=by have h1:=EZ.out;show _≤_;omega
   have q1:=fun W=>run_string_add_sum (P:=Tryz.prog) (w:=W) S2 (mkB x.name) (by omega)
   have q2:=fun W=>run_string_add_sum (P:=Tryz.prog) (w:=W) (S2++mkB x.name) (aSign x.op) (by omega)
   have q3:=fun W=>run_string_add_sum (P:=Tryz.prog) (w:=W) (S2++mkB x.name++aSign x.op) (mkB x.ver) (by omega)
   go_wp2_with fail
   go_region_held3 (fun w'=>w'.cell? ⟨b,off+i*4+1,none⟩=some (.string (mkB x.name))∧w'.cell? ⟨b,off+i*4+2,none⟩=some (.int .i64 x.op)∧w'.cell? ⟨b,off+i*4+3,none⟩=some (.string (mkB x.ver)))
    (first
      | go_keep
      | exact⟨(hb5.cell (p:=⟨b,off+i*4+1,none⟩) hbl).trans e1,(hb5.cell (p:=⟨b,off+i*4+2,none⟩) hbl).trans e2,(hb5.cell (p:=⟨b,off+i*4+3,none⟩) hbl).trans e3⟩)
    ((go_at_call 218;refine(r16_sign x.op h7 wr.drew).mono ?_;rintro e w5 ⟨rfl,hb5⟩))
   all_goals
    have B5:Hid (Below w.heap.size w w5):=bthen HB.out (show Below wr.heap.size wr w5 from⟨hb5.os,hb5.tape,hb5.output,hb5.size,hb5.block⟩)
    go_wp2_with fail
    go_roundw
    case rel=>exact⟨_,i+1,rfl,by go_num,by omega,EN.out,EZ,B5,E⟩
    case measure=>simp[intOf];omega
  ·have E:Hid (mkB (aText L)=S):=by
    show _=_;symm;apply eq_mk;rw[HS.out,tL (by omega)];rfl
   go_wp2_with fail
   go_ret2
   exact⟨by rw[E.out];rfl,HB.out⟩
theorem tail_next (op:LU)(ks:List RchM)(i:Nat)(t:RchM)(ht:ks[i]?=some t):rTail op 0 (plL (ks.take (i+1)))=rTail op 0 (plL (ks.take i))++((if i=0 then [] else [32]++rWd op i++[32])++rText t.pl):=by
 obtain⟨hk,hg⟩:=gS ht
 rw[tS hk,hg,plL_append',rTail_append,plL_length',List.length_take,Nat.min_eq_left (by omega)]
 simp[plL,rTail]
theorem r15_text_atom (nm:BA)(aop:Nat)(ver:BA)(hn:rnameB (bl nm)=true)(ho:aop≤5)(hv:0<aop→verE 2 ver=0)(w:World):
  Calls Tryz.prog 216 #[.agg #[.string ⟨#[]⟩,.string nm,.int .i64 aop,.string ver,.slice none 0 0]] w fun e w'=>e=.returned (.string (mkB (rText (.atom (bl nm) aop (bl ver)))))∧Below w.heap.size w w':=by
 have hnz:=(rname_len hn).2
 have HV:=hid hv
 clear hn hv
 obtain⟨W1,hW1⟩:∃ W1,w.alloc (.cells #[.string ⟨#[]⟩,.string nm,.int .i64 aop,.string ver,.slice none 0 0] 121)=W1:=⟨_,rfl⟩
 have B1:Hid (Below w.heap.size w W1):=by rw[←hW1];exact bR.alloc lr _
 have K1:Hid (Blk W1 w.heap.size [.string ⟨#[]⟩,.string nm,.int .i64 aop,.string ver,.slice none 0 0]):=by rw[←hW1];exact Blk.new w [.string ⟨#[]⟩,.string nm,.int .i64 aop,.string ver,.slice none 0 0] _
 have k0:=K1.out.cell 0 _ rfl
 have k1:=K1.out.cell 1 _ rfl
 have k2:=K1.out.cell 2 _ rfl
 have k3:=K1.out.cell 3 _ rfl
 by_cases a0:aop=0
 ·have q0:((aop:Int)==0)=true:=by simp[a0]
  have E:Hid (bl nm=rText (.atom (bl nm) aop (bl ver))):=by show _=_;simp[rText,a0]
  clear a0
  go_enter Tryz.func216,Tryz.ntmps216
  go_wp2_with fail
  go_ret
  exact⟨by rw[←eq_mk E.out];rfl,B1.out⟩
 ·have q0:((aop:Int)==0)=false:=by simp;omega
  have hvz:=ver_size (HV.out (by omega))
  have hsz:(rSign aop).size≤2:=by rw[←bl_length,rSign_at aop (by omega)];exact sgR_len _
  have E:Hid (bl (nm++⟨#[32]⟩++rSign aop++⟨#[32]⟩++ver)=rText (.atom (bl nm) aop (bl ver))):=by
   show _=_;simp only[bl_append];unfold rText;rw[if_neg a0,rSign_at aop (by omega)];rfl
  have ho6:aop<6:=by omega
  have hbl:w.heap.size<W1.heap.size:=K1.out.sz
  have h32:(⟨#[32]⟩:BA).size=1:=rfl
  have n1:(nm++⟨#[32]⟩:BA).size≤70:=by simp only[sz_append];omega
  have n2:(nm++⟨#[32]⟩++rSign aop:BA).size≤80:=by simp only[sz_append];omega
  have n3:(nm++⟨#[32]⟩++rSign aop++⟨#[32]⟩:BA).size≤90:=by simp only[sz_append];omega
  have q1:=fun W=>run_string_add_sum (P:=Tryz.prog) (w:=W) nm ⟨#[32]⟩ (by omega)
  have q2:=fun W=>run_string_add_sum (P:=Tryz.prog) (w:=W) (nm++⟨#[32]⟩) (rSign aop) (by omega)
  have q3:=fun W=>run_string_add_sum (P:=Tryz.prog) (w:=W) (nm++⟨#[32]⟩++rSign aop) ⟨#[32]⟩ (by omega)
  have q4:=fun W=>run_string_add_sum (P:=Tryz.prog) (w:=W) (nm++⟨#[32]⟩++rSign aop++⟨#[32]⟩) ver (by omega)
  clear a0 h32
  go_enter Tryz.func216,Tryz.ntmps216
  go_wp2_with fail
  go_region_held3 (fun w'=>w'.cell? ⟨w.heap.size,1,none⟩=some (.string nm)∧w'.cell? ⟨w.heap.size,2,none⟩=some (.int .i64 aop)∧w'.cell? ⟨w.heap.size,3,none⟩=some (.string ver))
   (first
     | go_keep
     | exact⟨(hb5.cell (p:=⟨w.heap.size,1,none⟩) hbl).trans k1,(hb5.cell (p:=⟨w.heap.size,2,none⟩) hbl).trans k2,(hb5.cell (p:=⟨w.heap.size,3,none⟩) hbl).trans k3⟩)
   ((go_at_call 261;refine(r15_sign aop ho6 W1.drew).mono ?_;rintro e w5 ⟨rfl,hb5⟩))
  all_goals
   have B5:Hid (Below w.heap.size w w5):=bthen B1.out (show Below W1.heap.size W1 w5 from⟨hb5.os,hb5.tape,hb5.output,hb5.size,hb5.block⟩)
   go_wp2_with fail
   go_ret
   exact⟨by rw[←eq_mk E.out];rfl,B5.out⟩
def RTxC (T:RchM):Prop:=∀ w:World,TOwn w 0 none T→T.cnt≤64→Calls Tryz.prog 216 #[T.val] w fun e w'=>e=.returned (.string (mkB (rText T.pl)))∧Below w.heap.size w w'
theorem r15_text {T:RchM}(h:TGood T):RTxC T:=by
 induction h with
 | atom nm aop ver hn ho hv0 hv=>
  intro w _ _
  rw[pl_atom _ _ _ _ _ _ _ rfl]
  exact r15_text_atom nm aop ver hn ho hv w
 | node op ka kc kids ho hc hk ih=>
  intro w hO hcn
  have HO:=hid hO
  have HIH:=hid ih
  have HGD:=hid hk
  have HCL:=hid hc
  obtain⟨hw,hw7⟩:=word_ne ho
  have HW7:=hid hw7
  have hop7:op.size≤7:=by rw[←bl_length];exact hw7
  have o0:(op.toList==([]:LU))=false:=by rw[bl_toList,bF];exact hw
  have o2:¬ op.toList=[]:=by rw[bl_toList];exact hw
  have o1:op.toList.isEmpty=false:=by rw[List.isEmpty_eq_false_iff];exact o2
  obtain⟨tl,htl⟩:∃ tl,kids.length=tl:=⟨_,rfl⟩
  have HTL:=hid htl
  have ht2:2≤tl:=by have:=closes_two hc;omega
  have CNE:=hid (cnt_node (t:=.mk op ⟨#[]⟩ 0 ⟨#[]⟩ ka kc kids) (by intro e;simp only[RchM.kids] at e;rw[e] at htl;simp at htl;omega))
  have HCN:Hid (cntL kids≤64):=by have h1:=CNE.out;simp only[RchM.kids] at h1;show _≤_;omega
  have htl9:tl≤64:=by have h1:=cntL_len kids;have:=HCN.out;omega
  have HIF:Hid (bl op=wIf∨bl op=wUnless→tl≤3):=fun h=>by
   have h1:=dO hc
   rw[htl] at h1
   rcases h1 with⟨h2,_⟩ | ⟨_,h2⟩ | ⟨h2,_⟩
   ·rcases h with h | h<;>rw[h] at h2<;>simp[wIf,wUnless,wAnd,wOr] at h2
   ·omega
   ·rcases h with h | h<;>rw[h] at h2<;>simp[wIf,wUnless,wWith,wWithout] at h2
  obtain⟨W1,hW1⟩:∃ W1,w.alloc (.cells #[.string op,.string ⟨#[]⟩,.int .i64 0,.string ⟨#[]⟩,.slice ka tl kc] 121)=W1:=⟨_,rfl⟩
  have B1:Hid (Below w.heap.size w W1):=by rw[←hW1];exact bR.alloc lr _
  have K1:Hid (Blk W1 w.heap.size [.string op,.string ⟨#[]⟩,.int .i64 0,.string ⟨#[]⟩,.slice ka tl kc]):=by rw[←hW1];exact Blk.new w [.string op,.string ⟨#[]⟩,.int .i64 0,.string ⟨#[]⟩,.slice ka tl kc] _
  have k0:=K1.out.cell 0 _ rfl
  have TS:Hid (∀ t∈kids,(mkB (rText t.pl)).size≤12800):=fun t ht=>by
   have h1:=(HGD.out t ht).text;have h2:=cntL_mem ht;have:=HCN.out;rw[mk_size];omega
  have PS:Hid (∀ i,(rTail (bl op) 0 (plL (kids.take i))).length≤12800):=fun i=>by
   have h1:=rTail_len (bl op) HW7.out (kids.take i) 0 (fun k hk=>(HGD.out k (List.mem_of_mem_take hk)).text)
   have h2:=cntL_take_le kids i;have:=HCN.out;omega
  rw[pl_node _ _ _ _ _ _ _ hw]
  clear ho hc hk ih hO hw hw7 htl hcn CNE
  show Calls Tryz.prog 216 #[.agg #[.string op,.string ⟨#[]⟩,.int .i64 0,.string ⟨#[]⟩,.slice ka kids.length kc]] w _
  rw[HTL.out]
  go_enter Tryz.func216,Tryz.ntmps216
  go_wp2_with fail
  clear hW1 k0
  go_loopw [3,4] (fun sv iv wr=>∃ (i:Nat) (S:BA),sv=.string S∧iv=.int .i64 i∧i≤tl∧S.size≤12900∧Hid (bl S=[40]++rTail (bl op) 0 (plL (kids.take i)))∧Hid (Below w.heap.size w wr)∧Hid (Blk wr w.heap.size [.string op,.string ⟨#[]⟩,.int .i64 0,.string ⟨#[]⟩,.slice ka tl kc])) (fun _ iv _=>tl-(intOf iv).toNat)
  case atStart=>exact⟨0,_,rfl,rfl,z0,by decide,by show _=_;simp[plL,rTail];rfl,B1,K1⟩
  case round=>
   clear B1 K1
   obtain⟨i,S,rfl,rfl,hi,hS,HS,HB,HK⟩:=hrel
   have b0:=HK.out.cell 0 _ rfl
   have b4:=HK.out.cell 4 _ rfl
   by_cases hlt:i<tl
   ·go_upto_if 38 with(fail)
    obtain⟨wo,rfl⟩:∃ wo:World,wo=wr:=⟨_,rfl⟩
    go_cut [3] (fun v wx=>∃ S1:BA,v=.string S1∧S1.size≤13000∧Hid (bl S1=bl S++(if i=0 then [] else [32]++rWd (bl op) i++[32]))∧wo=wx)
    case first=>
     by_cases i0:i=0
     ·have q1:decide ((0:Int)<(i:Int))=false:=dF (by omega)
      have q2:decide (0<i)=false:=dF (by omega)
      have E:Hid (bl S=bl S++(if i=0 then [] else [32]++rWd (bl op) i++[32])):=by show _=_;rw[if_pos i0,List.append_nil]
      have q3:¬ 0<i:=by omega
      clear i0
      go_wp2_with fail
      go_meet
      exact⟨S,rfl,by omega,E,rfl⟩
     ·have q1:decide ((0:Int)<(i:Int))=true:=dT (by omega)
      have q2:decide (0<i)=true:=dT (by omega)
      obtain⟨bb,hbb⟩:∃ bb:Bool,decide (i=2∧(bl op=wIf∨bl op=wUnless))=bb:=⟨_,rfl⟩
      have HBB:=hid hbb
      have I0:=HidN.mk i0
      have q0:0<i:=by omega
      clear hbb i0
      go_upto_region 11 with(fail)
      go_cut [50] (fun v wx=>v=.bool bb∧wo=wx)
      case first=>
       by_cases i2:i=2
       ·have q3:((i:Int)==2)=true:=by simp[i2]
        by_cases w1:bl op=wIf
        ·have F1:op.toList=[105,102]:=by rw[bl_toList];exact w1
         have E2:Hid (bb=true):=by show _=_;rw[←HBB.out];exact dT ⟨i2,.inl w1⟩
         clear w1 o0 o1 o2 i2
         go_wp2_with fail
         go_meet
         exact⟨by rw[E2.out],rfl⟩
        ·have F1:(op.toList==([105,102]:LU))=false:=by rw[bl_toList,bF];exact w1
         by_cases w2:bl op=wUnless
         ·have F2:op.toList=[117,110,108,101,115,115]:=by rw[bl_toList];exact w2
          have E2:Hid (bb=true):=by show _=_;rw[←HBB.out];exact dT ⟨i2,.inr w2⟩
          clear w1 w2 o0 o1 o2 F1 i2
          go_wp2_with fail
          go_meet
          exact⟨by rw[E2.out],rfl⟩
         ·have F2:(op.toList==([117,110,108,101,115,115]:LU))=false:=by rw[bl_toList,bF];exact w2
          have E2:Hid (bb=false):=by show _=_;rw[←HBB.out];exact dF (by rintro⟨_,h | h⟩<;>contradiction)
          clear w1 w2 o0 o1 o2 i2
          go_wp2_with fail
          go_meet
          exact⟨by rw[E2.out],rfl⟩
       ·have q3:((i:Int)==2)=false:=by simp;omega
        have E2:Hid (bb=false):=by show _=_;rw[←HBB.out];exact dF (fun h=>i2 h.1)
        clear i2
        go_wp2_with fail
        go_meet
        exact⟨by rw[E2.out],rfl⟩
      case rest=>
      obtain⟨rfl,rfl⟩:=hcut
      have RW:Hid (rWd (bl op) i=if bb then wElse else bl op):=by
       have h1:=HBB.out;have h2:=HIF.out
       show _=_;unfold rWd
       cases bb with
       | true=>have:=dO h1;rw[if_pos ⟨by omega,this.2⟩,if_pos rfl]
       | false=>
        have:=of_decide_eq_false h1
        rw[if_neg (fun h=>this ⟨by have:=h2 h.2;omega,h.2⟩),if_neg (by simp)]
      cases bb with
      | true=>
       have E:Hid (bl (S++⟨#[32]⟩++⟨#[101,108,115,101]⟩++⟨#[32]⟩)=bl S++(if i=0 then [] else [32]++rWd (bl op) i++[32])):=by
        show _=_;rw[if_neg I0.out,RW.out,if_pos rfl];simp only[bl_append,List.append_assoc];rfl
       have hz:(S++⟨#[32]⟩++⟨#[101,108,115,101]⟩++⟨#[32]⟩:BA).size≤13000:=by
        simp only[sz_append];have h1:(⟨#[32]⟩:BA).size=1:=rfl;have h2:(⟨#[101,108,115,101]⟩:BA).size=4:=rfl;omega
       have HZ:=hid hz
       clear hz
       go_wp2_with fail
       go_meet
       exact⟨_,rfl,HZ.out,E,rfl⟩
      | false=>
       have E:Hid (bl (S++⟨#[32]⟩++op++⟨#[32]⟩)=bl S++(if i=0 then [] else [32]++rWd (bl op) i++[32])):=by
        show _=_;rw[if_neg I0.out,RW.out,if_neg (by simp)];simp only[bl_append,List.append_assoc];rfl
       have hz:(S++⟨#[32]⟩++op++⟨#[32]⟩:BA).size≤13000:=by
        simp only[sz_append];have h1:(⟨#[32]⟩:BA).size=1:=rfl;omega
       have HZ:=hid hz
       clear hz
       go_wp2_with fail
       go_meet
       exact⟨_,rfl,HZ.out,E,rfl⟩
    case rest=>
    obtain⟨S1,rfl,hS1,HS1,rfl⟩:=hcut
    obtain⟨t,ht⟩:∃ t,kids[i]?=some t:=⟨_,gG (by rw[HTL.out];exact hlt)⟩
    have htm:Hid (t∈kids):=gM ht
    have TN:=hid (tail_next (bl op) kids i t ht)
    have O2:=HO.out.low HB.out
    obtain⟨b',off,hA,he⟩:=O2.rd.cell i t ht
    have e0:=he 0 _ rfl
    have e1:=he 1 _ rfl
    have e2:=he 2 _ rfl
    have e3:=he 3 _ rfl
    have e4:=he 4 _ rfl
    simp only[Nat.add_zero] at e0
    have hix:=fun W=>idx_of (T:=119) (E:=121) (sz:=5) (n:=tl) (c:=kc) (A:=ka) Tryz.underlying119 rfl Tryz.sizeOf121 hA hlt W
    have hcall:=HIH.out t htm.out wo (O2.kids t htm.out) (by have h1:=cntL_mem htm.out;have:=HCN.out;omega)
    have hz:=TS.out t htm.out
    obtain⟨X,hX⟩:∃ X,mkB (rText t.pl)=X:=⟨_,rfl⟩
    rw[hX] at hcall hz
    have HX:Hid (bl X=rText t.pl):=by show _=_;rw[←hX,bl_of]
    have SN:Hid (bl (S1++X)=[40]++rTail (bl op) 0 (plL (kids.take (i+1)))):=by
     show _=_;rw[TN.out,bl_append,HS1.out,HS.out,HX.out];simp only[List.append_assoc]
    have HSN:Hid ((S1++X:BA).size≤12900):=by have h:=PS.out (i+1);show _≤_;rw[←bl_length,SN.out,List.length_append];simp;omega
    unfold RchM.val at hcall
    clear ht hA he O2 hX
    go_wp2_with fail
    refine hcall.mono ?_;rintro e w4 ⟨rfl,hb⟩
    have B5:=hid (bthen HB.out hb)
    have K5:=hid (HK.out.below hb)
    clear hcall hb e0 e1 e2 e3 e4 hix b0 b4
    go_wp2_with fail
    go_roundw
    case rel=>exact⟨i+1,_,rfl,by go_num,by omega,HSN.out,SN,B5,K5⟩
    case measure=>simp[intOf];omega
   ·have E:Hid (bl (S++⟨#[41]⟩)=rText (.node (bl op) (plL kids))):=by
     have h1:=HS.out
     rw[tL (by rw[HTL.out];omega)] at h1
     show _=_;rw[bl_append,h1];rfl
    go_wp2_with fail
    go_ret
    exact⟨by rw[←eq_mk E.out];rfl,HB.out⟩
theorem rDep_end {f deep n:Nat}{l:LU}(h:rLook l=[]∨rLook l=[41]):rDep (f+1) deep n l=none:=by unfold rDep;rw[if_pos h]
theorem rDep_deep {f n:Nat}{l:LU}(h:rLook l=[40]):rDep (f+1) 32 n l=none:=by unfold rDep;rw[if_neg (by rw[h];simp),if_pos h];rfl
theorem rDep_grp {f deep n:Nat}{l:LU}(h:rLook l=[40])(hd:deep≠32):rDep (f+1) deep n l=rGrp f (deep+1) n [] [] (rNext l):=by rw[rDep,if_neg (by rw[h];simp),if_pos h,if_neg hd]
theorem rDep_atom {f deep n:Nat}{l:LU}(h0:¬ (rLook l=[]∨rLook l=[41]))(h:rLook l≠[40]):rDep (f+1) deep n l=rAtom n l:=by rw[rDep,if_neg h0,if_neg h]
theorem dep_fin {r:Option (Rch×LU×Nat)}{a hi m m0 deep n:Nat}{l:LU}{w W W':World}{e:Ending}(R:RdS w W a hi l n m)(h:DepPost r a hi m deep n W e W')(hm:m≤m0)(hW:w.heap.size+2≤W.heap.size):
  ∃ (T:RchM) (f:BA) (x c:Int),e=.returned (.tuple #[T.val,fltV f x c])∧Two W' w.heap.size ∧
   DepPost r a hi m0 deep n w (.returned (.tuple #[T.val,fltV f x c])) (put8 W' w.heap.size (.string T.op) (.string T.nm) (.int .i64 T.aop) (.string T.ver) (.slice T.ka T.kids.length T.kc) (.string f) (.int .i64 x) (.int .i64 c)):=by
 obtain⟨h1,h2⟩:=h
 have tw:=R.two.step h1 R.alt
 have gr:=grown_thru R.gr h1
 cases r with
 | none=>
  obtain⟨f,x,c,h3,h4⟩:=h2
  exact⟨zeroR,f,x,c,h3,tw,DepPost.no rfl (put8_grown gr lr _ _ _ _ _ _ _ _) h4⟩
 | some y=>
  obtain⟨t,l',n'⟩:=y
  obtain⟨T,m',a1,a2,a3,a4,a5,a6,a7,a8,a9⟩:=h2
  exact⟨T,⟨#[]⟩,0,0,a1,tw,DepPost.yes (by rw[a2]) (put8_grown gr lr _ _ _ _ _ _ _ _) a3 ((put8_own a4 (by omega) _ _ _ _ _ _ _ _).base (by omega)) a5 a6 a7 (put8_pr a8 R.lt _ _ _ _ _ _ _ _) (by omega)⟩
theorem dep_of (F:Nat)(IH:∀ f,f<F→GrpC f):DepC F:=by
 intro a hi n m deep l w hF hG h hn hd
 obtain⟨f0,rfl⟩:∃ f0,F=f0+1:=⟨F-1,by omega⟩
 have HF:=hid hF
 have HIH:=hid IH
 obtain⟨W0,hW0⟩:∃ W0,(w.alloc (.cells #[.string ⟨#[]⟩,.string ⟨#[]⟩,.int .i64 0,.string ⟨#[]⟩,.slice none 0 0] 121)).alloc (.cells #[.string ⟨#[]⟩,.int .i64 0,.int .i64 0] 114)=W0:=⟨_,rfl⟩
 have S0:Hid (RdS w W0 a hi l n m):=by rw[←hW0];exact RdS.start hG h _ _
 have z0:W0.heap.size=w.heap.size+2:=by rw[←hW0];simp
 obtain⟨b,off,c,T,p,k,hT,h2⟩:=S0.out.pr.cells
 have HT:=hid hT
 obtain⟨c0,c1,f0',f1,t0,t1,ne,m1,mc,cz,tz⟩:=k
 clear h h2 hT
 obtain⟨W1,hW1⟩:∃ W1,W0.alloc (.cells #[.string T,.int .i64 p] 167)=W1:=⟨_,rfl⟩
 have B1:Hid (Below W0.heap.size W0 W1):=by rw[←hW1];exact bR.alloc lr _
 have S1:Hid (RdS w W1 a hi l n m):=S0.out.below B1.out
 have K1:Hid (Blk W1 W0.heap.size [.string T,.int .i64 p]):=by rw[←hW1];exact Blk.new W0 [.string T,.int .i64 p] _
 have HZ0:=hid z0
 have HZ1:Hid (w.heap.size+2≤W1.heap.size):=by have:=B1.out.size;show _≤_;omega
 clear S0 hG z0 hF IH B1
 go_enter Tryz.func128,Tryz.ntmps128
 go_upto_region 2 with(fail)
 clear hW0 hW1 c0 c1 f0' f1 t0 t1 ne m1 mc cz
 have t0:=K1.out.cell 0 _ rfl
 have t1:=K1.out.cell 1 _ rfl
 by_cases h1:bl T=[]
 ·have E1:T.toList=[]:=by rw[bl_toList];exact h1
  have E2:T.toList.isEmpty=true:=by rw[E1];rfl
  have EN:Hid (rDep (f0+1) deep n l=none):=rDep_end (.inl (by rw[←HT.out];exact h1))
  clear h1
  go_wp2_with fail
  refine(rdep_fault T p 3 _).mono ?_;rintro e w2 ⟨rfl,hb⟩
  have S2:=hid (S1.out.below hb)
  have tc:=S2.out.two.c
  obtain⟨x0,x1,x2,x3,x4,y0,y1,y2,g0,g1,g2,g3,g4,k0,k1,k2⟩:=tc
  clear hb
  unfold fltV
  go_wp2_with fail
  refine bodyPost_ret (dep_res _ S2.out.two.c rfl rfl _ _ _ _ _ _ _ _ ⟨rfl,rfl,rfl,rfl,rfl,rfl,rfl,rfl⟩) rfl ?_
  exact DepPost.no EN.out (put8_grown S2.out.gr lr _ _ _ _ _ _ _ _) (by decide)
 have F1:(T.toList==([]:LU))=false:=by rw[bl_toList,bF];exact h1
 have F2:T.toList.isEmpty=false:=by rw[bl_toList,List.isEmpty_eq_false_iff];exact h1
 have F3:¬ T.toList=[]:=by rw[bl_toList];exact h1
 by_cases h2:bl T=[41]
 ·have E1:T.toList=[41]:=by rw[bl_toList];exact h2
  have EN:Hid (rDep (f0+1) deep n l=none):=rDep_end (.inr (by rw[←HT.out];exact h2))
  clear h1 h2 F1 F2 F3
  go_wp2_with fail
  refine(rdep_fault T p 3 _).mono ?_;rintro e w2 ⟨rfl,hb⟩
  have S2:=hid (S1.out.below hb)
  have tc:=S2.out.two.c
  obtain⟨x0,x1,x2,x3,x4,y0,y1,y2,g0,g1,g2,g3,g4,k0,k1,k2⟩:=tc
  clear hb
  unfold fltV
  go_wp2_with fail
  refine bodyPost_ret (dep_res _ S2.out.two.c rfl rfl _ _ _ _ _ _ _ _ ⟨rfl,rfl,rfl,rfl,rfl,rfl,rfl,rfl⟩) rfl ?_
  exact DepPost.no EN.out (put8_grown S2.out.gr lr _ _ _ _ _ _ _ _) (by decide)
 by_cases h3:bl T=[40]
 ·have E1:T.toList=[40]:=by rw[bl_toList];exact h3
  have HL:Hid (rLook l=[40]):=by show _=_;rw[←HT.out];exact h3
  clear h1 h2 h3 F1 F2 F3
  by_cases h32:deep=32
  ·have EN:Hid (rDep (f0+1) deep n l=none):=by show _=_;rw[h32];exact rDep_deep HL.out
   have q32:((deep:Int)==32)=true:=by simp[h32]
   clear h32
   go_wp2_with fail
   refine(rdep_fault T p 4 _).mono ?_;rintro e w2 ⟨rfl,hb⟩
   have S2:=hid (S1.out.below hb)
   have tc:=S2.out.two.c
   obtain⟨x0,x1,x2,x3,x4,y0,y1,y2,g0,g1,g2,g3,g4,k0,k1,k2⟩:=tc
   clear hb
   unfold fltV
   go_wp2_with fail
   refine bodyPost_ret (dep_res _ S2.out.two.c rfl rfl _ _ _ _ _ _ _ _ ⟨rfl,rfl,rfl,rfl,rfl,rfl,rfl,rfl⟩) rfl ?_
   exact DepPost.no EN.out (put8_grown S2.out.gr lr _ _ _ _ _ _ _ _) (by decide)
  ·have EG:=hid (rDep_grp (f:=f0) (n:=n) HL.out h32)
   have q32:((deep:Int)==32)=false:=by simp;omega
   have HD:Hid (deep<32):=by show _<_;omega
   clear h32
   go_wp2_with fail
   refine(rdep_next a hi n m l W1 S1.out.pr (by rw[HL.out];simp)).mono ?_;rintro e w2 ⟨rfl,hp,hg,hm2⟩
   have S2:=hid (S1.out.step hg hp)
   have HZ2:Hid (w.heap.size+2≤w2.heap.size):=by have:=hg.size;have:=HZ1.out;show _≤_;omega
   have hG:=HIH.out f0 (by omega) a hi n (m-1) deep (rNext l) w2 (by have:=HF.out;have:=rLook_next (l:=l) (by rw[HL.out];simp);omega) S2.out.gl S2.out.pr hn HD.out
   clear hp hg hm2 t0 t1
   go_wp2_with fail
   refine hG.mono ?_;rintro e w3 hpost
   obtain⟨T',f,x,c',rfl,tw,hfin⟩:=dep_fin S2.out hpost (m0:=m) (by omega) HZ2.out
   have HFIN:=hid hfin
   have HTW:=hid tw
   have tc:=tw.c
   obtain⟨x0,x1,x2,x3,x4,y0,y1,y2,g0,g1,g2,g3,g4,k0,k1,k2⟩:=tc
   clear hpost hfin hG tw
   unfold fltV RchM.val
   go_wp2_with fail
   refine bodyPost_ret (dep_res _ HTW.out.c rfl rfl _ _ _ _ _ _ _ _ ⟨rfl,rfl,rfl,rfl,rfl,rfl,rfl,rfl⟩) rfl ?_
   rw[EG.out];exact HFIN.out
 ·have F4:(T.toList==([41]:LU))=false:=by rw[bl_toList,bF];exact h2
  have F5:(T.toList==([40]:LU))=false:=by rw[bl_toList,bF];exact h3
  have EA:Hid (rDep (f0+1) deep n l=rAtom n l):=by
   show _=_
   rw[HT.out] at h1 h2 h3
   exact rDep_atom (by rintro(h | h)<;>contradiction) h3
  clear h1 h2 h3
  have hA:=rdep_atom a hi n m deep l W1 S1.out.gl S1.out.pr hn hd
  go_wp2_with fail
  refine hA.mono ?_;rintro e w3 hpost
  obtain⟨T',f,x,c',rfl,tw,hfin⟩:=dep_fin S1.out hpost lr HZ1.out
  have HFIN:=hid hfin
  have HTW:=hid tw
  have tc:=tw.c
  obtain⟨x0,x1,x2,x3,x4,y0,y1,y2,g0,g1,g2,g3,g4,k0,k1,k2⟩:=tc
  clear hpost hfin hA tw t0 t1
  unfold fltV RchM.val
  go_wp2_with fail
  refine bodyPost_ret (dep_res _ HTW.out.c rfl rfl _ _ _ _ _ _ _ _ ⟨rfl,rfl,rfl,rfl,rfl,rfl,rfl,rfl⟩) rfl ?_
  rw[EA.out];exact HFIN.out
theorem dep_grp_all (F:Nat):DepC F∧GrpC F:=by
 induction F using Nat.strongRecOn with
 | _ F ih=>exact⟨dep_of F fun f hf=>(ih f hf).2,grp_of F fun f hf=>(ih f hf).1⟩
theorem look_eq {a b:LU}(h:skipL a=skipL b):rLook a=rLook b∧rNext a=rNext b:=by
 unfold rLook rNext;rw[h];exact⟨rfl,rfl⟩
theorem rdep_res (tmps:Array Value){W:World}{s:Nat}(h:OneC W s)(h2:tmps[4]?=some (.pointer (some ⟨s,0,none⟩)))(v0 v1 v2 v3 v4:Value)
  (hv:v0.oneCell'=true∧v1.oneCell'=true∧v2.oneCell'=true∧v3.oneCell'=true∧v4.oneCell'=true):
  (results Tryz.f212 tmps).run Tryz.prog (put5 W s v0 v1 v2 v3 v4)=.ok (.agg #[v0,v1,v2,v3,v4]) (put5 W s v0 v1 v2 v3 v4):=by
 obtain⟨x0,x1,x2,x3,x4,_,_,_,_,_⟩:=h
 simp(maxDischargeDepth:=10) [results,Tryz.results212,h2,go_sem,x0,x1,x2,x3,x4]
structure GrX (w wr:World) (a:Nat) (s:BA) (p n:Nat) (c:Int) (OP:BA) (ks:List RchM) (A:Option Addr) (m cc:Nat):Prop where
 len:ks.length=m
 box:Blk wr w.heap.size [.string OP,.string ⟨#[]⟩,.int .i64 0,.string ⟨#[]⟩,.slice A m cc]
 row:wr.ownsRow (w.heap.size+1) 121 5 (.slice A m cc) m (ks.flatMap RchM.cells)
 kids:∀ k∈ks,TOwn wr (w.heap.size+1) (Value.slice A m cc).ownBlock k
 good:∀ k∈ks,TGood k
 rx:RX wr a s p n c
 gr:w.grownBy wr (some a)
 lt:a<w.heap.size
theorem GrX.start {w:World}{a:Nat}{s:BA}{p n:Nat}{c:Int}(h:RX w a s p n c)(t:TypeId):GrX w (w.alloc (.cells #[.string ⟨#[]⟩,.string ⟨#[]⟩,.int .i64 0,.string ⟨#[]⟩,.slice none 0 0] t)) a s p n c ⟨#[]⟩ [] none 0 0:=
 ⟨rfl,Blk.new w _ t,World.ownsRow_nil _ _ _ _,by simp,by simp,h.alloc _,below_grows (bR.alloc lr _) _,h.sz⟩
theorem GrX.step {w wr w':World}{a:Nat}{s:BA}{p n p' n':Nat}{c c':Int}{OP:BA}{ks:List RchM}{A:Option Addr}{m cc:Nat}(h:GrX w wr a s p n c OP ks A m cc)(hg:wr.grownBy w' (some a))(hd:RX w' a s p' n' c'):GrX w w' a s p' n' c' OP ks A m cc:=by
 have hlt:=h.lt
 exact⟨h.len,h.box.grownBy hg (by simp;omega),owns_kept h.row (by omega) hg,fun k hk=>(h.kids k hk).kept (by omega) hg,h.good,hd,grown_thru h.gr hg,h.lt⟩
theorem GrX.below {w wr w':World}{a:Nat}{s:BA}{p n:Nat}{c:Int}{OP:BA}{ks:List RchM}{A:Option Addr}{m cc:Nat}(h:GrX w wr a s p n c OP ks A m cc)(hb:Below wr.heap.size wr w'):GrX w w' a s p n c OP ks A m cc:=
 h.step (below_grows hb _) (h.rx.below hb)
theorem GrX.put {w wr:World}{a:Nat}{s:BA}{p n:Nat}{c:Int}{OP:BA}{ks:List RchM}{A:Option Addr}{m cc:Nat}(h:GrX w wr a s p n c OP ks A m cc)(P:BA):GrX w (wr.setCell ⟨w.heap.size,0,none⟩ (.string P)) a s p n c P ks A m cc:=
 ⟨h.len,h.box.set 0 (by simp) _,owns_kept h.row (by omega) (kept_set _),fun k hk=>(h.kids k hk).kept (by omega) (kept_set _),h.good,h.rx.far (by have:=h.lt;omega) _,grown_new h.gr (kept_set _) (fun j e=>by injection e with e;omega),h.lt⟩
theorem GrX.grow {w wb w2:World}{a:Nat}{s:BA}{p n:Nat}{c:Int}{OP:BA}{ks:List RchM}{A A1:Option Addr}{m cc c1:Nat}{T:RchM}(h:GrX w wb a s p n c OP ks A m cc)(hT:TOwn wb (w.heap.size+1) (Value.slice A m cc).ownBlock T)(hgd:TGood T)
  (hr:w2.ownsRow (w.heap.size+1) 121 5 (.slice A1 (m+1) c1) (m+1) (ks.flatMap RchM.cells++T.cells))
  (hg:wb.grownBy w2 (Value.slice A m cc).ownBlock)(ha:(Value.slice A1 (m+1) c1).ownBlock=(Value.slice A m cc).ownBlock∨(Value.slice A1 (m+1) c1).ownBlock=some wb.heap.size):
  GrX w (w2.setCell ⟨w.heap.size,4,none⟩ (.slice A1 (m+1) c1)) a s p n c OP (ks++[T]) A1 (m+1) c1:=by
 have far:∀ j,(Value.slice A m cc).ownBlock=some j→w.heap.size+1≤j:=fun j hj=>(h.row.lt j hj).1
 have hz:=h.lt
 have bx:Blk w2 w.heap.size [.string OP,.string ⟨#[]⟩,.int .i64 0,.string ⟨#[]⟩,.slice A m cc]:=h.box.grownBy hg (fun e=>by have:=far _ e.symm;omega)
 refine⟨by simp[h.len],bx.set 4 (by simp) _,?_,fun k hk=>?_,fun k hk=>?_,?_,?_,h.lt⟩
 ·rw[List.flatMap_append]
  exact owns_kept (by simpa using hr) (by omega) (kept_set _)
 ·refine TOwn.kept ?_ (by omega) (kept_set _)
  rcases List.mem_append.1 hk with hk | hk
  ·exact(h.kids k hk).grown2 hg ha
  ·obtain rfl:=List.mem_singleton.1 hk
   exact hT.grown2 hg ha
 ·rcases List.mem_append.1 hk with hk | hk
  ·exact h.good k hk
  ·obtain rfl:=List.mem_singleton.1 hk;exact hgd
 ·exact(h.rx.grown hg (fun e=>by have:=far _ e.symm;omega)).far (by omega) _
 ·exact grown_new (grown_new h.gr hg (fun j e=>by have:=far j e;omega)) (kept_set _) (fun j e=>by injection e with e;omega)
def part (OP:BA)(A:Option Addr)(cc:Nat)(ks:List RchM):RchM:=.mk OP ⟨#[]⟩ 0 ⟨#[]⟩ A cc ks
theorem part_val {OP:BA}{A:Option Addr}{m cc:Nat}{ks:List RchM}(h:ks.length=m):(part OP A cc ks).val=.agg #[.string OP,.string ⟨#[]⟩,.int .i64 0,.string ⟨#[]⟩,.slice A m cc]:=by rw[←h];rfl
theorem follows_two {op p:LU}{n:Nat}(hn:n≠1):rFollows op n p=(decide (n=2∧p=wElse∧(op=wIf∨op=wUnless))||decide (p=op∧(p=wAnd∨p=wOr))):=by
 unfold rFollows
 rw[if_neg hn,bI,Bool.or_eq_true,decide_eq_true_iff,decide_eq_true_iff,decide_eq_true_iff]
 constructor
 ·rintro(⟨h1,h2⟩ | ⟨h1,h2,h3⟩)
  ·right;exact⟨h2,by rw[h2];exact h1⟩
  ·left;exact⟨h2,h3,h1⟩
 ·rintro(⟨h1,h2,h3⟩ | ⟨h1,h2⟩)
  ·right;exact⟨h3,h1,h2⟩
  ·left;exact⟨by rw[←h1];exact h2,h1⟩
def ReC (F:Nat):Prop:=∀ (a:Nat)(s:BA)(p n deep:Nat)(w:World),s.size≤4294967280→2*((bl s).drop p).length+1≤F→RX w a s p n 0→n≤64→deep≤32 →
 Calls Tryz.prog 212 #[.pointer (some ⟨a,0,none⟩),.int .i64 deep] w (RePost (rDep F deep n ((bl s).drop p)) a s deep p n w)
theorem re_of (F:Nat)(IH:∀ f,f<F→ReC f):ReC F:=by
 intro a s p n deep w hz hF h hn hd
 obtain⟨i0,hi0,hz0,hz1,hz2⟩:=info_parts info_rich
 obtain⟨f0,rfl⟩:∃ f0,F=f0+1:=⟨F-1,by omega⟩
 have HF:=hid hF
 have HIH:=hid IH
 obtain⟨RR,hRR⟩:∃ RR,rDep (f0+1) deep n ((bl s).drop p)=RR:=⟨_,rfl⟩
 rw[hRR]
 have HRR:=hid hRR.symm
 obtain⟨W0,hW0⟩:∃ W0,w.alloc (.cells #[.string ⟨#[]⟩,.string ⟨#[]⟩,.int .i64 0,.string ⟨#[]⟩,.slice none 0 0] 121)=W0:=⟨_,rfl⟩
 have S0:Hid (RdX w W0 a s p n 0):=by rw[←hW0];exact RdX.start h _
 have ha:=h.sz
 have hL:=r15_look a s p n 0 W0 hz S0.out.rx
 clear h hF IH hRR
 go_enter Tryz.func212,Tryz.ntmps212
 go_wp2_with fail
 clear hW0
 refine hL.mono ?_;rintro e w1 ⟨P,q,rfl,hr,hP,hN,hq,hpq,hg,hs⟩
 have S1:=hid (S0.out.step hg hr)
 have HP:=hid hP
 have HN:=hid hN
 clear hr hP hN hg hs hL S0
 obtain⟨bb,hbb⟩:∃ bb:Bool,decide (bl P=[]∨bl P=[41])=bb:=⟨_,rfl⟩
 have HBB:=hid hbb
 clear hbb
 go_upto_region 2 with(fail)
 go_cut [17] (fun v wx=>v=.bool bb∧w1=wx)
 case first=>
  by_cases h1:bl P=[]
  ·have E1:P.toList=[]:=by rw[bl_toList];exact h1
   have E2:Hid (bb=true):=by show _=_;rw[←HBB.out];exact dT (.inl h1)
   clear h1
   go_wp2_with fail
   go_meet
   exact⟨by rw[E2.out],rfl⟩
  by_cases h3:bl P=[41]
  ·have E1:P.toList=[41]:=by rw[bl_toList];exact h3
   have E2:Hid (bb=true):=by show _=_;rw[←HBB.out];exact dT (.inr h3)
   clear h1 h3
   go_wp2_with fail
   go_meet
   exact⟨by rw[E2.out],rfl⟩
  ·have E1:(P.toList==([]:LU))=false:=by rw[bl_toList,bF];exact h1
   have E4:(P.toList==([41]:LU))=false:=by rw[bl_toList,bF];exact h3
   have E5:P.toList.isEmpty=false:=by rw[bl_toList,List.isEmpty_eq_false_iff];exact h1
   have E2:Hid (bb=false):=by show _=_;rw[←HBB.out];exact dF (by rintro(h | h)<;>contradiction)
   clear h1 h3
   go_wp2_with fail
   go_meet
   exact⟨by rw[E2.out],rfl⟩
 case rest=>
 obtain⟨rfl,rfl⟩:=hcut
 cases bb with
 | true=>
  have EN:Hid (RR=none):=by show _=_;rw[HRR.out];exact rDep_end (by rw[←HP.out];exact dO HBB.out)
  go_wp2_with fail
  refine(r15_bad 3 a s q n 0 w1 S1.out.rx).mono ?_;rintro e w2 ⟨rfl,hr,hg⟩
  have S2:=hid (S1.out.step hg hr)
  obtain⟨x0,x1,x2,x3,x4,g0,g1,g2,g3,g4⟩:=S2.out.c
  clear hr hg
  go_wp2_with fail
  refine bodyPost_ret (rdep_res _ S2.out.c rfl _ _ _ _ _ ⟨rfl,rfl,rfl,rfl,rfl⟩) rfl ?_
  exact RePost.no zeroR EN.out (put5_grown S2.out.gr lr _ _ _ _ _) (by decide) (put5_rx S2.out.rx (by omega) _ _ _ _ _)
 | false=>
 have HB:Hid (¬ (rLook ((bl s).drop p)=[]∨rLook ((bl s).drop p)=[41])):=by rw[←HP.out];exact of_decide_eq_false HBB.out
 by_cases h40:bl P=[40]
 ·have E1:P.toList=[40]:=by rw[bl_toList];exact h40
  have HL:Hid (rLook ((bl s).drop p)=[40]):=by show _=_;rw[←HP.out];exact h40
  have PZ:P.size=1:=by rw[←bl_length,h40];rfl
  rw[PZ] at hq HN
  clear h40 PZ
  by_cases h32:deep=32
  ·have EN:Hid (RR=none):=by show _=_;rw[HRR.out,h32];exact rDep_deep HL.out
   have q32:((deep:Int)==32)=true:=by simp[h32]
   clear h32
   go_wp2_with fail
   refine(r15_bad 4 a s q n 0 w1 S1.out.rx).mono ?_;rintro e w2 ⟨rfl,hr,hg⟩
   have S2:=hid (S1.out.step hg hr)
   obtain⟨x0,x1,x2,x3,x4,g0,g1,g2,g3,g4⟩:=S2.out.c
   clear hr hg
   go_wp2_with fail
   refine bodyPost_ret (rdep_res _ S2.out.c rfl _ _ _ _ _ ⟨rfl,rfl,rfl,rfl,rfl⟩) rfl ?_
   exact RePost.no zeroR EN.out (put5_grown S2.out.gr lr _ _ _ _ _) (by decide) (put5_rx S2.out.rx (by omega) _ _ _ _ _)
  have q32:((deep:Int)==32)=false:=by simp;omega
  have hd32:deep<32:=by omega
  obtain⟨fx,xx,k⟩:=S1.out.rx.cells
  have c1:=k.c1
  have f1:=k.f1
  clear k
  have S2':Hid (RdX w (w1.setCell ⟨a,1,none⟩ (.int .i64 ((q+1:Nat):Int))) a s (q+1) n 0):=S1.out.step (kept_set _) (S1.out.rx.move hq)
  go_upto_region 11 with(fail)
  clear c1 f1
  obtain⟨W2,hW2⟩:∃ W2,w1.setCell ⟨a,1,none⟩ (.int .i64 ((q:Int)+1))=W2:=⟨_,rfl⟩
  rw[show((q+1:Nat):Int)=(q:Int)+1 from by omega,hW2] at S2'
  rw[hW2]
  clear hW2
  have HW2:Hid (w.heap.size<W2.heap.size):=S2'.out.box.sz
  have E0:Hid (RR=rGrp (f0-1+1) (deep+1) n (plL []) (bl ⟨#[]⟩) ((bl s).drop (q+1))):=by
   have h1:=HF.out;have h2:=rLook_next (l:=(bl s).drop p) (by rw[HL.out];simp)
   show _=_
   rw[HRR.out,rDep_grp HL.out h32,HN.out,show f0-1+1=f0 by omega];rfl
  have F0:Hid (2*((bl s).drop (q+1)).length+2≤f0-1+1∧f0-1+1=f0):=by
   have h1:=HF.out;have h2:=rLook_next (l:=(bl s).drop p) (by rw[HL.out];simp)
   rw[HN.out];constructor<;>omega
  clear h32 E1 q32 HRR HN hq
  go_wp2_with fail
  go_loopw [] (fun wr=>∃ (pc nc mm cc f:Nat) (OP:BA) (ks:List RchM) (A:Option Addr),nc≤64∧mm≤64∧p<pc∧Hid (GrX W2 wr a s pc nc 0 OP ks A mm cc)∧Hid (RdX w wr a s pc nc 0)∧Hid (GOp mm (bl OP))∧Hid (RR=rGrp (f+1) (deep+1) nc (plL ks) (bl OP) ((bl s).drop pc))∧Hid (2*((bl s).drop pc).length+2≤f+1)∧Hid (f<f0)∧Hid (nc=n+cntL ks)∧Hid (∀ k∈ks,k.ht+(deep+1)≤32)) (fun wr=>s.size-atOf a wr)
  case atStart=>exact⟨q+1,n,0,0,f0-1,⟨#[]⟩,[],none,hn,by omega,by omega,GrX.start S2'.out.rx _,S2'.out.below (bR.alloc lr _),GOp.start,E0,F0.out.1,by have:=F0.out.2;show _<_;omega,by simp[Hid,cntL],by simp[Hid]⟩
  case round=>
   clear S2' E0 F0 S1
   obtain⟨pc,nc,mm,cc,f,OP,ks,A,hnc,hmm,hpc,HS,HR,HOP,HE,HFU,HF0,HCN,HH⟩:=hrel
   have hDep:=Calls.int (HIH.out f (by have:=HF0.out;omega) a s pc nc (deep+1) wr hz (by have:=HFU.out;omega) HR.out.rx hnc (by omega)) (args':=#[.pointer (some ⟨a,0,none⟩),.int .i64 ((deep:Int)+1)]) rfl
   go_wp2_with fail
   refine hDep.mono ?_;rintro e w2 ⟨hg,T,rfl,hpost⟩
   clear hDep
   cases hr:rDep f (deep+1) nc ((bl s).drop pc) with
   | none=>
    rw[hr] at hpost
    obtain⟨p',n',c',hc,hx⟩:=hpost
    have EN:Hid (RR=none):=HE.out.trans (rGrp_none hr)
    have S2:=hid (HS.out.step hg hx)
    have R2:=hid (HR.out.step hg hx)
    have hc1:(c' != 0)=true:=by simp[hc]
    have HC:=HidN.mk hc
    clear hr hc hg hx
    obtain⟨W3,hW3⟩:∃ W3,w2.alloc (.cells T.cells.toArray 121)=W3:=⟨_,rfl⟩
    have S3:Hid (GrX W2 W3 a s p' n' c' OP ks A mm cc):=by rw[←hW3];exact S2.out.below (bR.alloc lr _)
    have R3:Hid (RdX w W3 a s p' n' c'):=by rw[←hW3];exact R2.out.below (bR.alloc lr _)
    have HW3:=hid hW3
    clear hW3
    unfold RchM.val
    go_upto_region 13 with(fail)
    have hW4:w2.alloc (.cells #[.string T.op,.string T.nm,.int .i64 T.aop,.string T.ver,.slice T.ka T.kids.length T.kc] 121)=W3:=HW3.out
    rw[hW4]
    clear hW4 HW3 S2 R2
    obtain⟨f',x',k⟩:=R3.out.rx.cells
    have c4:=k.c4
    clear k
    have u0:=S3.out.box.cell 0 _ rfl
    have u1:=S3.out.box.cell 1 _ rfl
    have u2:=S3.out.box.cell 2 _ rfl
    have u3:=S3.out.box.cell 3 _ rfl
    have u4:=S3.out.box.cell 4 _ rfl
    obtain⟨x0,x1,x2,x3,x4,g0,g1,g2,g3,g4⟩:=R3.out.c
    have hne1:¬ w.heap.size=W2.heap.size:=by have:=HW2.out;omega
    have hne2:¬ W2.heap.size=w.heap.size:=by have:=HW2.out;omega
    go_wp2_with fail
    refine bodyPost_ret (rdep_res _ R3.out.c rfl _ _ _ _ _ ⟨rfl,rfl,rfl,rfl,rfl⟩) rfl ?_
    have:=RePost.no (deep:=deep) (p:=p) (n:=n) (part OP A cc ks) EN.out (put5_grown R3.out.gr lr (.string OP) (.string ⟨#[]⟩) (.int .i64 0) (.string ⟨#[]⟩) (.slice A mm cc)) HC.out (put5_rx R3.out.rx (by omega) _ _ _ _ _)
    rw[part_val S3.out.len] at this
    exact this
   | some y=>
    obtain⟨t,l1,n1⟩:=y
    rw[hr] at hpost
    obtain⟨p1,hT,hgd,hown,hht,hn1,hn64,hx,hsk,hpp⟩:=hpost
    have S2:=hid (HS.out.step hg hx)
    have R2:=hid (HR.out.step hg hx)
    have TB:=hid ((hown.old (bad':=(Value.slice A mm cc).ownBlock) (fun g e=>.inl (HS.out.row.lt g e).2)).base (lo':=W2.heap.size+1) (by have:=HS.out.box.sz;omega))
    have HT:=hid hT
    have HTM:=hid hr
    have HGD:=hid hgd
    have HHT:=hid hht
    have HN1:Hid (n1=n+cntL (ks++[T])):=by show _=_;rw[cntL_append,hn1,HCN.out];simp[cntL];omega
    have HPP:Hid (pc<p1):=hpp
    have HL1:Hid (l1.length<((bl s).drop pc).length):=(rDep_lt f).1 _ _ _ _ _ _ hr
    have HN64:=hid hn64
    have HSK:=hid hsk
    have HCV:Hid (wr.heap.size≤w2.heap.size):=hg.size
    clear hr hg hT hgd hown hht hn1 hpp hx hn64 hsk HS
    obtain⟨W3,hW3⟩:∃ W3,w2.alloc (.cells T.cells.toArray 121)=W3:=⟨_,rfl⟩
    have B3:Hid (Below w2.heap.size w2 W3):=by rw[←hW3];exact bR.alloc lr _
    have KT3:Hid (Blk W3 w2.heap.size T.cells):=by rw[←hW3];exact Blk.new w2 T.cells _
    have S3:=hid (S2.out.below B3.out)
    have R3:=hid (R2.out.below B3.out)
    have TB3:=hid ((TB.out.low B3.out).low ((Below.refl W3.heap.size W3).alloc lr (.cells T.cells.toArray 121)))
    have SA:=hid (S3.out.below ((Below.refl W3.heap.size W3).alloc lr (.cells T.cells.toArray 121)))
    have RA:=hid (R3.out.below ((Below.refl W3.heap.size W3).alloc lr (.cells T.cells.toArray 121)))
    have HW3:=hid hW3
    clear hW3 S2 R2 TB
    unfold RchM.val
    go_upto_region 13 with(fail)
    have hW4:w2.alloc (.cells #[.string T.op,.string T.nm,.int .i64 T.aop,.string T.ver,.slice T.ka T.kids.length T.kc] 121)=W3:=HW3.out
    rw[hW4]
    clear hW4 HW3
    have k0:=KT3.out.cell 0 _ rfl
    have k1:=KT3.out.cell 1 _ rfl
    have k2:=KT3.out.cell 2 _ rfl
    have k3:=KT3.out.cell 3 _ rfl
    have k4:=KT3.out.cell 4 _ rfl
    obtain⟨f',x',k⟩:=R3.out.rx.cells
    have c4:=k.c4
    clear k
    have x4:=S3.out.box.cell 4 _ rfl
    have hmm2:mm≤4294967280:=by omega
    go_upto_region 16 with(at_builtin;refine wpList_append_any _ rfl _ _ _ rfl (W2.heap.size+1) 121 i0 _ 5 80 Tryz.underlying119 hi0 hz0 hz1 hz2 rfl (by omega) (.slice A mm cc) mm _ rfl (SA.out.row) (W3.heap.size+1) (some ⟨W3.heap.size,0,none⟩) 1 1 T.cells rfl (by have:=reads_five W3 121 (.string T.op) (.string T.nm) (.int .i64 T.aop) (.string T.ver) (.slice T.ka T.kids.length T.kc);simpa [RchM.cells] using this) (by simp[Value.oneCell',RchM.cells]) (by simp only[maxLen];omega) (by omega) (by simp;have:=S3.out.box.sz;omega) ?_;intro v1 w4 o1 g1 a1;obtain⟨A3,c3,rfl⟩:=owns_form o1;have bx:=hid (SA.out.box.grownBy g1 (fun e=>by have:=(SA.out.row.lt _ e.symm).1;omega));have y4:=bx.out.cell 4 _ rfl;have z4:=bx.out.free 4 (by simp);clear bx)
    clear k0 k1 k2 k3 k4 c4 x4 y4 z4
    have S5:=hid (SA.out.grow TB3.out HGD.out o1 g1 a1)
    have R5:=hid ((RA.out.wide g1 (fun j e=>by have:=(SA.out.row.lt j e).1;have:=HW2.out;omega)).far (j:=4) HW2.out (.slice A3 (mm+1) c3))
    obtain⟨W5,hW5⟩:∃ W5,w4.setCell ⟨W2.heap.size,4,none⟩ (.slice A3 (mm+1) c3)=W5:=⟨_,rfl⟩
    rw[hW5] at S5 R5 ⊢
    clear hW5 o1 g1 a1 SA RA TB3 S3 R3 KT3 B3
    have hL:=r15_look a s p1 n1 0 W5 hz R5.out.rx
    go_wp2_with fail
    refine hL.mono ?_;rintro e w6 ⟨P6,q6,rfl,hr,hP6,hN6,hq6,hqq,hg,-⟩
    rw[(look_eq HSK.out).1] at hP6
    rw[(look_eq HSK.out).2] at hN6
    have S6:=hid (S5.out.step hg hr)
    have R6:=hid (R5.out.step hg hr)
    have HP6:=hid hP6
    have HN6:=hid hN6
    clear hL hr hg hP6 hN6 S5 R5
    have u0:=S6.out.box.cell 0 _ rfl
    have u4:=S6.out.box.cell 4 _ rfl
    obtain⟨bb,hbb⟩:∃ bb:Bool,decide (mm≠0∧bl P6=[41])=bb:=⟨_,rfl⟩
    have HBB:=hid hbb
    clear hbb
    have LN:Hid (ks.length=mm):=by have:=S6.out.len;rw[List.length_append,List.length_singleton] at this;show _=_;omega
    go_upto_region 18 with(fail)
    go_cut [67] (fun v wx=>v=.bool bb∧w6=wx)
    case first=>
     by_cases h0:mm=0
     ·have q1:decide ((1:Int)<(mm:Int)+1)=false:=dF (by omega)
      have q2:decide (1<mm+1)=false:=dF (by omega)
      have q3:decide (0<mm)=false:=dF (by omega)
      have q4:decide ((0:Int)<(mm:Int))=false:=dF (by omega)
      have E2:Hid (bb=false):=by show _=_;rw[←HBB.out];exact dF (fun h=>h.1 h0)
      clear h0
      go_wp2_with fail
      go_meet
      exact⟨by rw[E2.out],rfl⟩
     ·have q1:decide ((1:Int)<(mm:Int)+1)=true:=dT (by omega)
      have q2:decide (1<mm+1)=true:=dT (by omega)
      have q3:decide (0<mm)=true:=dT (by omega)
      have q4:decide ((0:Int)<(mm:Int))=true:=dT (by omega)
      by_cases h1:bl P6=[41]
      ·have E1:P6.toList=[41]:=by rw[bl_toList];exact h1
       have E2:Hid (bb=true):=by show _=_;rw[←HBB.out];exact dT ⟨h0,h1⟩
       clear h0 h1
       go_wp2_with fail
       go_meet
       exact⟨by rw[E2.out],rfl⟩
      ·have E1:(P6.toList==([41]:LU))=false:=by rw[bl_toList,bF];exact h1
       have E2:Hid (bb=false):=by show _=_;rw[←HBB.out];exact dF (fun h=>h1 h.2)
       clear h0 h1
       go_wp2_with fail
       go_meet
       exact⟨by rw[E2.out],rfl⟩
    case rest=>
    obtain⟨rfl,rfl⟩:=hcut
    cases bb with
    | true=>
     obtain⟨hm0,hp41⟩:=dO HBB.out
     have HM0:=HidN.mk hm0
     have P1:Hid (P6.size=1):=by show _=_;rw[←bl_length,hp41];rfl
     have EY:Hid (RR=some (.node (bl OP) (plL (ks++[T])),rNext l1,n1)):=by
      show _=_
      rw[HE.out,plL_append,show plL [T]=[t] by simp[plL,HT.out]]
      refine rGrp_end HTM.out (by rw[←HP6.out];exact hp41) (fun e=>hm0 ?_)
      rw[←LN.out,plL_nil.1 e];rfl
     clear hm0 hp41
     have S7':Hid (GrX W2 (w6.setCell ⟨a,1,none⟩ (.int .i64 ((q6+1:Nat):Int))) a s (q6+1) n1 0 OP (ks++[T]) A3 (mm+1) c3):=S6.out.step (kept_set _) (S6.out.rx.move (by have:=P1.out;omega))
     have R7':Hid (RdX w (w6.setCell ⟨a,1,none⟩ (.int .i64 ((q6+1:Nat):Int))) a s (q6+1) n1 0):=R6.out.step (kept_set _) (R6.out.rx.move (by have:=P1.out;omega))
     obtain⟨f',x',k⟩:=R6.out.rx.cells
     have c1:=k.c1
     have f1:=k.f1
     clear k u0 u4
     go_upto_region 20 with(fail)
     clear c1 f1
     obtain⟨W7,hW7⟩:∃ W7,w6.setCell ⟨a,1,none⟩ (.int .i64 ((q6:Int)+1))=W7:=⟨_,rfl⟩
     rw[show((q6+1:Nat):Int)=(q6:Int)+1 from by omega,hW7] at S7' R7'
     rw[hW7]
     clear hW7 S6 R6
     have u0:=S7'.out.box.cell 0 _ rfl
     have u1:=S7'.out.box.cell 1 _ rfl
     have u2:=S7'.out.box.cell 2 _ rfl
     have u3:=S7'.out.box.cell 3 _ rfl
     have u4:=S7'.out.box.cell 4 _ rfl
     obtain⟨x0,x1,x2,x3,x4,g0,g1,g2,g3,g4⟩:=R7'.out.c
     have hne1:¬ w.heap.size=W2.heap.size:=by have:=HW2.out;omega
     have hne2:¬ W2.heap.size=w.heap.size:=by have:=HW2.out;omega
     go_wp2_with fail
     refine bodyPost_ret (rdep_res _ R7'.out.c rfl _ _ _ _ _ ⟨rfl,rfl,rfl,rfl,rfl⟩) rfl ?_
     have ln:=S7'.out.len
     have hrow:=S7'.out.row
     rw[←ln] at hrow
     have hown:TOwn W7 (W2.heap.size+1) none (part OP A3 c3 (ks++[T])):=.mk _ hrow (fun g _=>by simp) (fun k hk=>(S7'.out.kids k hk).any)
     have:=RePost.yes (deep:=deep) (p:=p) (n:=n) (T:=part OP A3 c3 (ks++[T])) (r:=RR) (l':=rNext l1) (n':=n1) (p':=q6+1) (by rw[EY.out];unfold part;rw[pl_node _ _ _ _ _ _ _ (word_ne (HOP.out.word HM0.out)).1]) (put5_grown R7'.out.gr lr (.string OP) (.string ⟨#[]⟩) (.int .i64 0) (.string ⟨#[]⟩) (.slice A3 (mm+1) c3)) (TGood.of_group HOP.out LN.out HM0.out S7'.out.good) ((put5_own hown (by have:=HW2.out;omega) _ _ _ _ _).base (by have:=HW2.out;omega)) (by
      show htL (ks++[T])+deep≤32
      have:htL (ks++[T])≤32-deep:=htL_le (fun k hk=>by
       rcases List.mem_append.1 hk with hk | hk
       ·have:=HH.out k hk;omega
       ·obtain rfl:=List.mem_singleton.1 hk;have:=HHT.out;omega)
      omega) (by rw[HN1.out,cnt_node (by simp[part,RchM.kids])];rfl) HN64.out (put5_rx R7'.out.rx (by omega) _ _ _ _ _) (by rw[←HN6.out,P1.out]) (by have:=HPP.out;omega)
     rw[part_val ln] at this
     exact this
    | false=>
    have HB2:Hid (¬ (rLook l1=[41]∧plL ks≠[])):=by
     rintro⟨h1,h2⟩
     refine of_decide_eq_false HBB.out ⟨fun e=>h2 ?_,by rw[HP6.out];exact h1⟩
     rw[plL_nil];exact List.length_eq_zero_iff.1 (by rw[LN.out,e])
    have HFB:Hid (∀ b,rFollows (bl OP) (mm+1) (bl P6)=b→rFollows (bl OP) ((plL ks).length+1) (rLook l1)=b):=by
     intro b h;rw[plL_length,LN.out,←HP6.out];exact h
    have HNO:Hid (rFollows (bl OP) (mm+1) (bl P6)=false→RR=none):=fun h=>by rw[HE.out];exact rGrp_bad HTM.out HB2.out (HFB.out _ h)
    have HYES:Hid (rFollows (bl OP) (mm+1) (bl P6)=true→RR=rGrp (f-1+1) (deep+1) n1 (plL (ks++[T])) (if mm=0 then bl P6 else bl OP) ((bl s).drop (q6+P6.size))∧2*((bl s).drop (q6+P6.size)).length+2≤f-1+1∧f=f-1+1∧0<P6.size):=by
     intro h
     have hne:rLook l1≠[]:=by have:=follows_ne h;rwa [HP6.out] at this
     have h3:=rLook_next hne
     have h1:=HFU.out;have h2:=HL1.out
     have ef:f=f-1+1:=by omega
     refine⟨?_,by rw[HN6.out];omega,ef,?_⟩
     ·rw[HE.out,rGrp_more HTM.out HB2.out (HFB.out _ h),←ef,plL_append,show plL [T]=[t] by simp[plL,HT.out],HP6.out,HN6.out]
      congr 1
      by_cases h0:mm=0
      ·rw[if_pos h0,if_pos (by rw[plL_nil];exact List.length_eq_zero_iff.1 (by rw[LN.out,h0]))]
      ·rw[if_neg h0,if_neg (by rw[plL_nil];intro e;have:=LN.out;rw[e] at this;simp at this;omega)]
     ·rw[←bl_length,HP6.out];exact List.length_pos_iff.2 hne
    have HH2:Hid (∀ k∈ks++[T],k.ht+(deep+1)≤32):=by
     intro k hk
     rcases List.mem_append.1 hk with hk | hk
     ·exact HH.out k hk
     ·obtain rfl:=List.mem_singleton.1 hk;exact HHT.out
    have hmm3:mm+1≤64:=by have h1:=cntL_len (ks++[T]);have h2:=HN1.out;have h3:=HN64.out;rw[List.length_append,List.length_singleton,LN.out] at h1;omega
    by_cases h0:mm=0
    ·have q1:(((mm:Int)+1)==1)=true:=by simp[h0]
     have q2:((mm:Int)==0)=true:=by simp[h0]
     have hW:=r15_Word P6 w6
     have OP0:Hid (OP=⟨#[]⟩):=bl_inj (HOP.out.nil.2 h0)
     cases hwb:rWordB (bl P6) with
     | true=>
      rw[hwb] at hW
      have FB:Hid (rFollows (bl OP) (mm+1) (bl P6)=true):=by show _=_;rw[h0];exact hwb
      obtain⟨EN,fa,fb',pz⟩:=HYES.out FB.out
      have EN:=hid EN
      have F1:Hid (2*((bl s).drop (q6+P6.size)).length+2≤f-1+1∧f=f-1+1):=⟨fa,fb'⟩
      have PZ:=hid pz
      have HOP2:=hid (HOP.out.next FB.out)
      rw[if_pos h0] at EN HOP2
      have z0:=S6.out.box.free 0 (by simp)
      clear hwb fa fb' pz h0
      go_upto_region 21 with(fail)
      go_wp2_with fail
      refine hW.mono ?_;rintro e w' ⟨rfl,rfl⟩
      have S7:=hid (S6.out.put P6)
      have R7:=hid (R6.out.far (j:=0) HW2.out (.string P6))
      clear hW
      go_upto_region 28 with(fail)
      clear u0 u4 z0
      obtain⟨W7,hW7⟩:∃ W7,w6.setCell ⟨W2.heap.size,0,none⟩ (.string P6)=W7:=⟨_,rfl⟩
      rw[hW7] at S7 R7 ⊢
      clear hW7 S6 R6
      have S8':Hid (GrX W2 (W7.setCell ⟨a,1,none⟩ (.int .i64 ((q6+P6.size:Nat):Int))) a s (q6+P6.size) n1 0 P6 (ks++[T]) A3 (mm+1) c3):=S7.out.step (kept_set _) (S7.out.rx.move hq6)
      have R8':Hid (RdX w (W7.setCell ⟨a,1,none⟩ (.int .i64 ((q6+P6.size:Nat):Int))) a s (q6+P6.size) n1 0):=R7.out.step (kept_set _) (R7.out.rx.move hq6)
      obtain⟨f',x',k⟩:=R7.out.rx.cells
      have c1:=k.c1
      have f1:=k.f1
      clear k
      go_wp2_with fail
      clear c1 f1
      have PD:Hid (pc<q6+P6.size):=by have:=HPP.out;show _<_;omega
      go_roundw
      case rel=>exact⟨q6+P6.size,n1,mm+1,c3,f-1,P6,ks++[T],A3,HN64.out,hmm3,by have:=PD.out;omega,S8',R8',HOP2,EN,F1.out.1,by have:=HF0.out;show _<_;omega,HN1,HH2⟩
      case measure=>show s.size-atOf a (W7.setCell ⟨a,1,none⟩ (.int .i64 ((q6+P6.size:Nat):Int)))<_;rw[R8'.out.rx.at_,HR.out.rx.at_];have:=PD.out;have:=R8'.out.rx.le;omega
     | false=>
      rw[hwb] at hW
      have EN:Hid (RR=none):=HNO.out (by rw[h0];exact hwb)
      have q3:(((mm:Int)+1)==2)=false:=by simp;omega
      have q4:((mm:Int)==1)=false:=by simp;omega
      have q5:decide ((mm:Int)+1<2)=true:=dT (by omega)
      have q6':decide (mm+1<2)=true:=dT (by omega)
      have q7:decide ((mm:Int)<1)=true:=dT (by omega)
      have q8:decide (mm<1)=true:=dT (by omega)
      clear hwb h0
      go_wp2_with fail
      refine hW.mono ?_;rintro e w' ⟨rfl,rfl⟩
      clear hW
      go_wp2_with fail
      refine(r15_bad 3 a s q6 n1 0 w6 R6.out.rx).mono ?_;rintro e w7 ⟨rfl,hr,hg⟩
      have S7:=hid (S6.out.step hg hr)
      have R7:=hid (R6.out.step hg hr)
      clear hr hg u0 u4
      have u0:=S7.out.box.cell 0 _ rfl
      have u1:=S7.out.box.cell 1 _ rfl
      have u2:=S7.out.box.cell 2 _ rfl
      have u3:=S7.out.box.cell 3 _ rfl
      have u4:=S7.out.box.cell 4 _ rfl
      obtain⟨x0,x1,x2,x3,x4,g0,g1,g2,g3,g4⟩:=R7.out.c
      have hne1:¬ w.heap.size=W2.heap.size:=by have:=HW2.out;omega
      have hne2:¬ W2.heap.size=w.heap.size:=by have:=HW2.out;omega
      go_wp2_with fail
      refine bodyPost_ret (rdep_res _ R7.out.c rfl _ _ _ _ _ ⟨rfl,rfl,rfl,rfl,rfl⟩) rfl ?_
      have:=RePost.no (deep:=deep) (p:=p) (n:=n) (part OP A3 c3 (ks++[T])) EN.out (put5_grown R7.out.gr lr (.string OP) (.string ⟨#[]⟩) (.int .i64 0) (.string ⟨#[]⟩) (.slice A3 (mm+1) c3)) (by decide:(3:Int)≠0) (put5_rx R7.out.rx (by omega) _ _ _ _ _)
      rw[part_val S7.out.len] at this
      exact this
    ·have q1:(((mm:Int)+1)==1)=false:=by simp;omega
     have q2:((mm:Int)==0)=false:=by simp;omega
     have M0:Hid (1≤mm):=by show _≤_;omega
     have FT:=hid (follows_two (op:=bl OP) (p:=bl P6) (n:=mm+1) (by omega))
     obtain⟨eb,heb⟩:∃ eb:Bool,decide (mm+1=2∧bl P6=wElse∧(bl OP=wIf∨bl OP=wUnless))=eb:=⟨_,rfl⟩
     have HEB:=hid heb
     clear heb
     go_upto_region 23 with(fail)
     go_cut [100] (fun v wx=>v=.bool eb∧w6=wx)
     case first=>
      by_cases m1:mm=1
      ·have q3:(((mm:Int)+1)==2)=true:=by simp[m1]
       have q4:((mm:Int)==1)=true:=by simp[m1]
       by_cases pe:bl P6=wElse
       ·have E1:P6.toList=[101,108,115,101]:=by rw[bl_toList];exact pe
        by_cases o1:bl OP=wIf
        ·have F1:OP.toList=[105,102]:=by rw[bl_toList];exact o1
         have E2:Hid (eb=true):=by show _=_;rw[←HEB.out];exact dT ⟨by omega,pe,.inl o1⟩
         clear m1 pe o1 h0
         go_wp2_with fail
         go_meet
         exact⟨by rw[E2.out],rfl⟩
        ·have F1:(OP.toList==([105,102]:LU))=false:=by rw[bl_toList,bF];exact o1
         by_cases o2:bl OP=wUnless
         ·have F2:OP.toList=[117,110,108,101,115,115]:=by rw[bl_toList];exact o2
          have E2:Hid (eb=true):=by show _=_;rw[←HEB.out];exact dT ⟨by omega,pe,.inr o2⟩
          clear m1 pe o1 o2 h0 F1
          go_wp2_with fail
          go_meet
          exact⟨by rw[E2.out],rfl⟩
         ·have F2:(OP.toList==([117,110,108,101,115,115]:LU))=false:=by rw[bl_toList,bF];exact o2
          have E2:Hid (eb=false):=by show _=_;rw[←HEB.out];exact dF (by rintro⟨_,_,h | h⟩<;>contradiction)
          clear m1 pe o1 o2 h0
          go_wp2_with fail
          go_meet
          exact⟨by rw[E2.out],rfl⟩
       ·have E1:(P6.toList==([101,108,115,101]:LU))=false:=by rw[bl_toList,bF];exact pe
        have E2:Hid (eb=false):=by show _=_;rw[←HEB.out];exact dF (fun h=>pe h.2.1)
        clear m1 pe h0
        go_wp2_with fail
        go_meet
        exact⟨by rw[E2.out],rfl⟩
      ·have q3:(((mm:Int)+1)==2)=false:=by simp;omega
       have q4:((mm:Int)==1)=false:=by simp;omega
       have E2:Hid (eb=false):=by show _=_;rw[←HEB.out];exact dF (fun h=>m1 (by omega))
       clear m1 h0
       go_wp2_with fail
       go_meet
       exact⟨by rw[E2.out],rfl⟩
     case rest=>
     obtain⟨rfl,rfl⟩:=hcut
     cases eb with
     | true=>
      have FB:Hid (rFollows (bl OP) (mm+1) (bl P6)=true):=by show _=_;rw[FT.out,HEB.out];rfl
      have PS:Hid (P6.size=4):=by have:=(dO HEB.out).2.1;show _=_;rw[←bl_length,this];rfl
      obtain⟨EN,fa,fb',pz⟩:=HYES.out FB.out
      rw[PS.out] at EN fa
      have EN:=hid EN
      have F1:Hid (2*((bl s).drop (q6+4)).length+2≤f-1+1∧f=f-1+1):=⟨fa,fb'⟩
      have HOP2:=hid (HOP.out.next FB.out)
      rw[if_neg h0] at EN HOP2
      clear fa fb' pz h0
      have S8':Hid (GrX W2 (w6.setCell ⟨a,1,none⟩ (.int .i64 ((q6+4:Nat):Int))) a s (q6+4) n1 0 OP (ks++[T]) A3 (mm+1) c3):=S6.out.step (kept_set _) (S6.out.rx.move (by have:=PS.out;omega))
      have R8':Hid (RdX w (w6.setCell ⟨a,1,none⟩ (.int .i64 ((q6+4:Nat):Int))) a s (q6+4) n1 0):=R6.out.step (kept_set _) (R6.out.rx.move (by have:=PS.out;omega))
      obtain⟨f',x',k⟩:=R6.out.rx.cells
      have c1:=k.c1
      have f1:=k.f1
      clear k
      go_wp2_with fail
      clear c1 f1
      have PD:Hid (pc<q6+4):=by have:=HPP.out;show _<_;omega
      go_roundw
      case rel=>exact⟨q6+4,n1,mm+1,c3,f-1,OP,ks++[T],A3,HN64.out,hmm3,by have:=PD.out;omega,S8',R8',HOP2,EN,F1.out.1,by have:=HF0.out;show _<_;omega,HN1,HH2⟩
      case measure=>show s.size-atOf a (w6.setCell ⟨a,1,none⟩ (.int .i64 ((q6+4:Nat):Int)))<_;rw[R8'.out.rx.at_,HR.out.rx.at_];have:=PD.out;have:=R8'.out.rx.le;omega
     | false=>
      obtain⟨fb,hfb⟩:∃ fb,rFollows (bl OP) (mm+1) (bl P6)=fb:=⟨_,rfl⟩
      have FB:=hid hfb
      have FT2:Hid (fb=decide (bl P6=bl OP∧(bl P6=wAnd∨bl P6=wOr))):=by show _=_;rw[←hfb,FT.out,HEB.out,Bool.false_or]
      clear hfb
      go_upto_region 25 with(fail)
      go_cut [116] (fun v wx=>v=.bool (!fb)∧w6=wx)
      case first=>
       have q5:decide ((mm:Int)+1<2)=false:=dF (by omega)
       have q6':decide (mm+1<2)=false:=dF (by omega)
       have q7:decide ((mm:Int)<1)=false:=dF (by omega)
       have q8:decide (mm<1)=false:=dF (by omega)
       by_cases po:P6=OP
       ·subst po
        have q9:(P6.toList != P6.toList)=false:=by simp
        by_cases a1:bl P6=wAnd
        ·have F1:P6.toList=[97,110,100]:=by rw[bl_toList];exact a1
         have E2:Hid (fb=true):=by show _=_;rw[FT2.out];exact dT ⟨rfl,.inl a1⟩
         clear a1 h0 q9
         go_wp2_with fail
         go_meet
         exact⟨by rw[E2.out];rfl,rfl⟩
        ·have F1:(P6.toList==([97,110,100]:LU))=false:=by rw[bl_toList,bF];exact a1
         have F1':(P6.toList != ([97,110,100]:LU))=true:=by rw[bne,F1];rfl
         by_cases a2:bl P6=wOr
         ·have F2:P6.toList=[111,114]:=by rw[bl_toList];exact a2
          have E2:Hid (fb=true):=by show _=_;rw[FT2.out];exact dT ⟨rfl,.inr a2⟩
          clear a1 a2 h0 q9 F1 F1'
          go_wp2_with fail
          go_meet
          exact⟨by rw[E2.out];rfl,rfl⟩
         ·have F2:(P6.toList==([111,114]:LU))=false:=by rw[bl_toList,bF];exact a2
          have F2':(P6.toList != ([111,114]:LU))=true:=by rw[bne,F2];rfl
          have E2:Hid (fb=false):=by show _=_;rw[FT2.out];exact dF (by rintro⟨_,h | h⟩<;>contradiction)
          clear a1 a2 h0
          go_wp2_with fail
          go_meet
          exact⟨by rw[E2.out];rfl,rfl⟩
       ·have q9:(P6.toList != OP.toList)=true:=by rw[bl_toList,bl_toList,bne_iff_ne];exact fun e=>po (bl_inj e)
        have q10:¬ P6.toList=OP.toList:=by rw[bl_toList,bl_toList];exact fun e=>po (bl_inj e)
        have E2:Hid (fb=false):=by show _=_;rw[FT2.out];exact dF (fun h=>po (bl_inj h.1))
        clear h0 po
        go_wp2_with fail
        go_meet
        exact⟨by rw[E2.out];rfl,rfl⟩
      case rest=>
      obtain⟨rfl,rfl⟩:=hcut
      cases fb with
      | true=>
       obtain⟨EN,fa,fb',pz⟩:=HYES.out FB.out
       have EN:=hid EN
       have F1:Hid (2*((bl s).drop (q6+P6.size)).length+2≤f-1+1∧f=f-1+1):=⟨fa,fb'⟩
       have HOP2:=hid (HOP.out.next FB.out)
       rw[if_neg h0] at EN HOP2
       clear fa fb' pz h0
       have S8':Hid (GrX W2 (w6.setCell ⟨a,1,none⟩ (.int .i64 ((q6+P6.size:Nat):Int))) a s (q6+P6.size) n1 0 OP (ks++[T]) A3 (mm+1) c3):=S6.out.step (kept_set _) (S6.out.rx.move hq6)
       have R8':Hid (RdX w (w6.setCell ⟨a,1,none⟩ (.int .i64 ((q6+P6.size:Nat):Int))) a s (q6+P6.size) n1 0):=R6.out.step (kept_set _) (R6.out.rx.move hq6)
       obtain⟨f',x',k⟩:=R6.out.rx.cells
       have c1:=k.c1
       have f1:=k.f1
       clear k
       go_wp2_with fail
       clear c1 f1
       have PD:Hid (pc<q6+P6.size):=by have:=HPP.out;show _<_;omega
       go_roundw
       case rel=>exact⟨q6+P6.size,n1,mm+1,c3,f-1,OP,ks++[T],A3,HN64.out,hmm3,by have:=PD.out;omega,S8',R8',HOP2,EN,F1.out.1,by have:=HF0.out;show _<_;omega,HN1,HH2⟩
       case measure=>show s.size-atOf a (w6.setCell ⟨a,1,none⟩ (.int .i64 ((q6+P6.size:Nat):Int)))<_;rw[R8'.out.rx.at_,HR.out.rx.at_];have:=PD.out;have:=R8'.out.rx.le;omega
      | false=>
       have EN:=hid (HNO.out FB.out)
       clear h0
       go_wp2_with fail
       refine(r15_bad 3 a s q6 n1 0 w6 R6.out.rx).mono ?_;rintro e w7 ⟨rfl,hr,hg⟩
       have S7:=hid (S6.out.step hg hr)
       have R7:=hid (R6.out.step hg hr)
       clear hr hg u0 u4
       have u0:=S7.out.box.cell 0 _ rfl
       have u1:=S7.out.box.cell 1 _ rfl
       have u2:=S7.out.box.cell 2 _ rfl
       have u3:=S7.out.box.cell 3 _ rfl
       have u4:=S7.out.box.cell 4 _ rfl
       obtain⟨x0,x1,x2,x3,x4,g0,g1,g2,g3,g4⟩:=R7.out.c
       have hne1:¬ w.heap.size=W2.heap.size:=by have:=HW2.out;omega
       have hne2:¬ W2.heap.size=w.heap.size:=by have:=HW2.out;omega
       go_wp2_with fail
       refine bodyPost_ret (rdep_res _ R7.out.c rfl _ _ _ _ _ ⟨rfl,rfl,rfl,rfl,rfl⟩) rfl ?_
       have:=RePost.no (deep:=deep) (p:=p) (n:=n) (part OP A3 c3 (ks++[T])) EN.out (put5_grown R7.out.gr lr (.string OP) (.string ⟨#[]⟩) (.int .i64 0) (.string ⟨#[]⟩) (.slice A3 (mm+1) c3)) (by decide:(3:Int)≠0) (put5_rx R7.out.rx (by omega) _ _ _ _ _)
       rw[part_val S7.out.len] at this
       exact this
 ·have E1:(P.toList==([40]:LU))=false:=by rw[bl_toList,bF];exact h40
  have E2:(P.toList != ([40]:LU))=true:=by rw[bne,E1];rfl
  have EA:Hid (RR=rAtom n ((bl s).drop p)):=by show _=_;rw[HRR.out];exact rDep_atom HB.out (by rw[←HP.out];exact h40)
  clear h40
  have hA:=r15_atom a s q n deep P ((bl s).drop p) w1 hz S1.out.rx HP.out HN.out hq hn hd
  go_wp2_with fail
  refine hA.mono ?_;rintro e w2 ⟨hg,T,rfl,hpost⟩
  have BX:=hid (S1.out.box.grownBy hg (by simp;omega))
  have x0:=BX.out.cell 0 _ rfl
  have x1:=BX.out.cell 1 _ rfl
  have x2:=BX.out.cell 2 _ rfl
  have x3:=BX.out.cell 3 _ rfl
  have x4:=BX.out.cell 4 _ rfl
  have g0:=BX.out.free 0 (by simp)
  have g1:=BX.out.free 1 (by simp)
  have g2:=BX.out.free 2 (by simp)
  have g3:=BX.out.free 3 (by simp)
  have g4:=BX.out.free 4 (by simp)
  have GG:=hid (grown_thru S1.out.gr hg)
  have HPST:=hid hpost
  have hsz:w.heap.size<w1.heap.size:=S1.out.box.sz
  have HSZ:=hid hsz
  clear hg hpost hA hsz
  unfold RchM.val
  go_wp2_with fail
  refine bodyPost_ret (rdep_res _ ⟨x0,x1,x2,x3,x4,g0,g1,g2,g3,g4⟩ rfl _ _ _ _ _ ⟨rfl,rfl,rfl,rfl,rfl⟩) rfl ?_
  have hp:=HPST.out
  refine⟨put5_grown GG.out lr _ _ _ _ _,T,rfl,?_⟩
  rw[EA.out]
  cases hr:rAtom n ((bl s).drop p) with
  | none=>
   rw[hr] at hp
   obtain⟨p',n',c',h1,h2⟩:=hp
   exact⟨p',n',c',h1,put5_rx h2 (by omega) _ _ _ _ _⟩
  | some y=>
   obtain⟨t,l',n'⟩:=y
   rw[hr] at hp
   obtain⟨p',a2,a3,a4,a5,a6,a7,a8,a9,a10⟩:=hp
   exact⟨p',a2,a3,(put5_own a4 HSZ.out _ _ _ _ _).base (by have:=HSZ.out;omega),a5,a6,a7,put5_rx a8 (by omega) _ _ _ _ _,a9,by omega⟩
theorem r15_dep (F:Nat):ReC F:=by
 induction F using Nat.strongRecOn with
 | _ F ih=>exact re_of F ih
theorem Two.off {W W':World}{s a:Nat}(h:Two W s)(hg:W.grownBy W' (some a))(hs:s+1<a):Two W' s:=
 ⟨h.b0.grownBy hg (by simp;omega),h.b1.grownBy hg (by simp;omega)⟩
theorem put8_below {w W:World}{s:Nat}(h:Below w.heap.size w W)(hs:w.heap.size≤s)(v0 v1 v2 v3 v4 u0 u1 u2:Value):Below w.heap.size w (put8 W s v0 v1 v2 v3 v4 u0 u1 u2):=by
 unfold put8
 repeat' refine below_set ?_ (by omega) _
 exact h
theorem below_drew {B:Nat}{w W:World}(h:Below B w W):Below B w W.drew:=⟨h.os,h.tape,h.output,h.size,h.block⟩
def RParsePost (s:BA)(w:World)(e:Ending)(w':World):Prop:=
 ∃ (T:RchM) (f:BA) (x c:Int),e=.returned (.tuple #[T.val,fltV f x c])∧Below w.heap.size w w'∧match rParse (bl s) with
  | none=>c≠0∧T=zeroR
  | some t=>c=0∧T.pl=t∧TGood T∧TOwn w' w.heap.size none T∧T.ht≤32∧T.cnt≤64
theorem RParsePost.no {s:BA}{w w':World}{f:BA}{x c:Int}(hr:rParse (bl s)=none)(hb:Below w.heap.size w w')(hc:c≠0):RParsePost s w (.returned (.tuple #[zeroR.val,fltV f x c])) w':=⟨zeroR,f,x,c,rfl,hb,by rw[hr];exact⟨hc,rfl⟩⟩
theorem RParsePost.yes {s:BA}{w w':World}{T:RchM}(hr:rParse (bl s)=some T.pl)(hb:Below w.heap.size w w')(h1:TGood T)(h2:TOwn w' w.heap.size none T)(h3:T.ht≤32)(h4:T.cnt≤64):RParsePost s w (.returned (.tuple #[T.val,fltV ⟨#[]⟩ 0 0])) w':=⟨T,⟨#[]⟩,0,0,rfl,hb,by rw[hr];exact⟨rfl,rfl,h1,h2,h3,h4⟩⟩
theorem rParse_none {l:LU}(h:rDep (2*l.length+2) 0 0 l=none):rParse l=none:=by unfold rParse;rw[h]
theorem rParse_rest {l r:LU}{d:Rch}{n:Nat}(h:rDep (2*l.length+2) 0 0 l=some (d,r,n))(hr:rLook r≠[]):rParse l=none:=by unfold rParse;rw[h];simp only;rw[if_neg hr]
theorem rParse_some {l r:LU}{d:Rch}{n:Nat}(h:rDep (2*l.length+2) 0 0 l=some (d,r,n))(hr:rLook r=[]):rParse l=some d:=by unfold rParse;rw[h];simp only;rw[if_pos hr]
theorem parse_res (tmps:Array Value){W:World}{s:Nat}(h:TwoC W s)(h2:tmps[2]?=some (.pointer (some ⟨s,0,none⟩)))(h3:tmps[3]?=some (.pointer (some ⟨s+1,0,none⟩)))(v0 v1 v2 v3 v4 u0 u1 u2:Value)
  (hv:v0.oneCell'=true∧v1.oneCell'=true∧v2.oneCell'=true∧v3.oneCell'=true∧v4.oneCell'=true∧u0.oneCell'=true∧u1.oneCell'=true∧u2.oneCell'=true):
  (results Tryz.f88 tmps).run Tryz.prog (put8 W s v0 v1 v2 v3 v4 u0 u1 u2)=.ok (.tuple #[.agg #[v0,v1,v2,v3,v4],.agg #[u0,u1,u2]]) (put8 W s v0 v1 v2 v3 v4 u0 u1 u2):=by
 obtain⟨x0,x1,x2,x3,x4,y0,y1,y2,_,_,_,_,_,_,_,_⟩:=h
 simp(maxDischargeDepth:=10) [results,Tryz.results88,h2,h3,go_sem,x0,x1,x2,x3,x4,y0,y1,y2]
theorem parse_resD (tmps:Array Value){W:World}{s:Nat}(h:TwoC W s)(h2:tmps[2]?=some (.pointer (some ⟨s,0,none⟩)))(h3:tmps[3]?=some (.pointer (some ⟨s+1,0,none⟩)))(v0 v1 v2 v3 v4 u0 u1 u2:Value)
  (hv:v0.oneCell'=true∧v1.oneCell'=true∧v2.oneCell'=true∧v3.oneCell'=true∧v4.oneCell'=true∧u0.oneCell'=true∧u1.oneCell'=true∧u2.oneCell'=true):
  (results Tryz.f88 tmps).run Tryz.prog (put8 W s v0 v1 v2 v3 v4 u0 u1 u2).drew=.ok (.tuple #[.agg #[v0,v1,v2,v3,v4],.agg #[u0,u1,u2]]) (put8 W s v0 v1 v2 v3 v4 u0 u1 u2).drew:=by
 obtain⟨x0,x1,x2,x3,x4,y0,y1,y2,_,_,_,_,_,_,_,_⟩:=h
 simp(maxDischargeDepth:=10) [results,Tryz.results88,h2,h3,go_sem,x0,x1,x2,x3,x4,y0,y1,y2]
theorem PR.start {W w1:World}{s:BA}{xs:List PtM}{A:Option Addr}{n c:Nat}(h:PtRow W w1 xs A n c)(hx:xs.map (fun x=>bl x.text)=rToks (s.size+1) (bl s))(hz:∀ x∈xs,x.text.size≤s.size)(hs:s.size≤4294967280)(t:TypeId):PR (w1.alloc (.cells #[.slice A n c,.int .i64 0] t)) w1.heap.size (w1.heap.size+1) (bl s) 0 n:=by
 have hn:0<n:=by
  rw[←h.len,←List.length_map (f:=fun x:PtM=>bl x.text),hx]
  obtain⟨r,e,_⟩:=rToks_cons s.size (bl s)
  rw[e];simp
 rcases h.row.2 with⟨_,h0⟩ | ⟨g,cap,cur,hv,h1,h2,h3,h4,h5,h6⟩
 ·omega
 ·injection hv with hA _ hc
  subst hc
  have hg:g<w1.heap.size:=by rw[Array.getElem?_eq_some_iff] at h2;exact h2.1
  refine⟨⟨g,0,c,s.size,xs,?_,?_,h.len,hx,by rw[bl_length];exact Nat.le_refl _,by omega,by omega,h3,h4,fun x hx=>Nat.le_trans (hz x hx) hs⟩,by omega,by simp⟩
  ·rw[←hA];exact Blk.new w1 [.slice A n c,.int .i64 0] t
  ·rw[←hA];exact(owns_rd h.row).below (bR.alloc lr _)
theorem rdep_Parse (s:BA)(w:World)(hG:Gl w)(hs:s.size≤1000000):
  Calls Tryz.prog 88 #[.string s] w (RParsePost s w):=by
 have HG:=hid hG
 obtain⟨W0,hW0⟩:∃ W0,(w.alloc (.cells #[.string ⟨#[]⟩,.string ⟨#[]⟩,.int .i64 0,.string ⟨#[]⟩,.slice none 0 0] 121)).alloc (.cells #[.string ⟨#[]⟩,.int .i64 0,.int .i64 0] 114)=W0:=⟨_,rfl⟩
 have T0:Hid (Two W0 w.heap.size):=by rw[←hW0];exact Two.new w _ _
 have B0:Hid (Below w.heap.size w W0):=by rw[←hW0];exact(bR.alloc lr _).alloc (by simp) _
 have Z0:Hid (W0.heap.size=w.heap.size+2):=by rw[←hW0];show _=_;simp
 clear hG
 go_enter Tryz.func88,Tryz.ntmps88
 go_wp2_with fail
 clear hW0
 refine(rdep_parts s W0 (by omega)).mono ?_;rintro e w1 ⟨A,n,c,xs,rfl,hrow,hnn,hxs,hxz⟩
 obtain⟨W2,hW2⟩:∃ W2,w1.alloc (.cells #[.slice A n c,.int .i64 0] 164)=W2:=⟨_,rfl⟩
 have P2:Hid (PR W2 w1.heap.size (w1.heap.size+1) (bl s) 0 n):=by rw[←hW2];exact PR.start hrow hxs hxz (by omega) _
 have B2:Hid (Below w.heap.size w W2):=by rw[←hW2];exact(bthen B0.out hrow.bel).alloc (by have:=hrow.bel.size;have:=Z0.out;omega) _
 have T2:Hid (Two W2 w.heap.size):=by rw[←hW2];exact(T0.out.below hrow.bel).below (bR.alloc lr _)
 have Z2:Hid (w.heap.size+2≤w1.heap.size):=by have:=hrow.bel.size;have:=Z0.out;show _≤_;omega
 have G2:Hid (GlA w1.heap.size W2):=⟨w,HG.out,B2.out,by have:=Z2.out;omega⟩
 clear hrow hnn hxs hxz B0 T0
 go_upto_region 2 with(fail)
 clear hW2
 have hD:=(dep_grp_all (2*(bl s).length+2)).1 w1.heap.size (w1.heap.size+1) 0 n 0 (bl s) W2 (by omega) G2.out P2.out (by omega) (by omega)
 have hD:=Calls.int hD (args':=#[.pointer (some ⟨w1.heap.size,0,none⟩),.int .i64 0]) rfl
 go_wp2_with fail
 refine hD.mono ?_;rintro e w3 ⟨hg,hpost⟩
 clear hD
 have T3:=hid (T2.out.off hg (by have:=Z2.out;omega))
 have B3:=hid (below_grown B2.out hg (by have:=Z2.out;omega))
 have Z3:Hid (w.heap.size+2≤w3.heap.size):=by have:=T3.out.b1.sz;have:=hg.size;have:=P2.out.hz;have:=Z2.out;show _≤_;omega
 cases hr:rDep (2*(bl s).length+2) 0 0 (bl s) with
 | none=>
  rw[hr] at hpost
  obtain⟨ff,x,c,rfl,hc⟩:=hpost
  have EN:=hid (rParse_none hr)
  have hc1:(c != 0)=true:=by simp[hc]
  have hc2:(c==0)=false:=by simp[hc]
  have HC:=HidN.mk hc
  clear hr hc hg
  unfold fltV
  rw[zeroR_val]
  go_upto_region 3 with(fail)
  obtain⟨W4,hW4⟩:∃ W4,(w3.alloc (.cells #[.string ⟨#[]⟩,.string ⟨#[]⟩,.int .i64 0,.string ⟨#[]⟩,.slice none 0 0] 121)).alloc (.cells #[.string ff,.int .i64 x,.int .i64 c] 114)=W4:=⟨_,rfl⟩
  have B4:Hid (Below w3.heap.size w3 W4):=by rw[←hW4];exact(bR.alloc lr _).alloc (by simp) _
  have K4:Hid (Blk W4 (w3.heap.size+1) [.string ff,.int .i64 x,.int .i64 c]):=by
   have:=Blk.new (w3.alloc (.cells #[.string ⟨#[]⟩,.string ⟨#[]⟩,.int .i64 0,.string ⟨#[]⟩,.slice none 0 0] 121)) [.string ff,.int .i64 x,.int .i64 c] 114
   rw[←hW4];show Blk _ _ _;simpa using this
  have T4:=hid (T3.out.below B4.out)
  have B5:=hid (bthen B3.out B4.out)
  rw[hW4]
  clear hW4 T3 B3 B4
  have d0:=K4.out.cell 0 _ rfl
  have d1:=K4.out.cell 1 _ rfl
  have d2:=K4.out.cell 2 _ rfl
  have tc:=T4.out.c
  obtain⟨x0,x1,x2,x3,x4,y0,y1,y2,g0,g1,g2,g3,g4,k0,k1,k2⟩:=tc
  have hne1:¬ w.heap.size=w3.heap.size+1:=by have:=Z3.out;omega
  have hne2:¬ w3.heap.size+1=w.heap.size:=by have:=Z3.out;omega
  have hne3:¬ w.heap.size=w3.heap.size:=by have:=Z3.out;omega
  have hne4:¬ w3.heap.size=w.heap.size:=by have:=Z3.out;omega
  go_wp2_with fail
  go_region
  go_wp2_with fail
  refine bodyPost_ret (parse_resD _ T4.out.c rfl rfl _ _ _ _ _ _ _ _ ⟨rfl,rfl,rfl,rfl,rfl,rfl,rfl,rfl⟩) rfl ?_
  exact RParsePost.no EN.out (below_drew (put8_below B5.out lr _ _ _ _ _ _ _ _)) HC.out
 | some r=>
  obtain⟨t,l1,n1⟩:=r
  rw[hr] at hpost
  obtain⟨T,m1,rfl,hT,hgd,hown,hht,hn1,hn64,hpr,hm1⟩:=hpost
  have HT:=hid hT
  have HR:=hid hr
  have HGD:=hid hgd
  have HHT:Hid (T.ht≤32):=by show _≤_;omega
  have HCN:Hid (T.cnt≤64):=by show _≤_;omega
  obtain⟨W4,hW4⟩:∃ W4,(w3.alloc (.cells T.cells.toArray 121)).alloc (.cells #[.string ⟨#[]⟩,.int .i64 0,.int .i64 0] 114)=W4:=⟨_,rfl⟩
  have B4:Hid (Below w3.heap.size w3 W4):=by rw[←hW4];exact(bR.alloc lr _).alloc (by simp) _
  have D4:Hid (Blk W4 w3.heap.size T.cells):=by rw[←hW4];exact(Blk.new w3 T.cells _).alloc _
  have K4:Hid (Blk W4 (w3.heap.size+1) [.string ⟨#[]⟩,.int .i64 0,.int .i64 0]):=by
   have:=Blk.new (w3.alloc (.cells T.cells.toArray 121)) [.string ⟨#[]⟩,.int .i64 0,.int .i64 0] 114
   rw[←hW4];show Blk _ _ _;simpa using this
  have T4:=hid (T3.out.below B4.out)
  have B5:=hid (bthen B3.out B4.out)
  have P4:=hid (hpr.below B4.out)
  have O4:=hid ((hown.low B4.out).base (lo':=w.heap.size+2) (by have:=P2.out.sz;have:=Z2.out;omega))
  clear hr hT hgd hown hht hn1 hn64 hpr hm1 hg
  unfold fltV RchM.val
  go_upto_region 3 with(fail)
  have hW5:(w3.alloc (.cells #[.string T.op,.string T.nm,.int .i64 T.aop,.string T.ver,.slice T.ka T.kids.length T.kc] 121)).alloc (.cells #[.string ⟨#[]⟩,.int .i64 0,.int .i64 0] 114)=W4:=hW4
  rw[hW5]
  clear hW4 hW5 T3 B3 B4
  have e0:=K4.out.cell 0 _ rfl
  have e1:=K4.out.cell 1 _ rfl
  have e2:=K4.out.cell 2 _ rfl
  have tc:=T4.out.c
  obtain⟨x0,x1,x2,x3,x4,y0,y1,y2,g0,g1,g2,g3,g4,k0,k1,k2⟩:=tc
  obtain⟨b5,off5,c5,P,q,k5,hP,-⟩:=P4.out.cells
  have HP:=hid hP
  obtain⟨r0,r1,r2,r3,r4,r5,r6,r7,r8,r9,tz5⟩:=k5
  clear hP
  by_cases hp:bl P=[]
  ·have E1:P.toList=[]:=by rw[bl_toList];exact hp
   have E2:P.toList.isEmpty=true:=by rw[E1];rfl
   have EY:Hid (rParse (bl s)=some T.pl):=by show _=_;rw[HT.out];exact rParse_some HR.out (by rw[←HP.out];exact hp)
   have d0:=D4.out.cell 0 _ rfl
   have d1:=D4.out.cell 1 _ rfl
   have d2:=D4.out.cell 2 _ rfl
   have d3:=D4.out.cell 3 _ rfl
   have d4:=D4.out.cell 4 _ rfl
   clear hp
   go_wp2_with fail
   refine bodyPost_ret (parse_res _ T4.out.c rfl rfl _ _ _ _ _ _ _ _ ⟨rfl,rfl,rfl,rfl,rfl,rfl,rfl,rfl⟩) rfl ?_
   exact RParsePost.yes EY.out (put8_below B5.out lr _ _ _ _ _ _ _ _) HGD.out ((put8_own O4.out (by omega) _ _ _ _ _ _ _ _).base (by omega)) HHT.out HCN.out
  ·have E1:(P.toList==([]:LU))=false:=by rw[bl_toList,bF];exact hp
   have E2:P.toList.isEmpty=false:=by rw[bl_toList,List.isEmpty_eq_false_iff];exact hp
   have E3:¬ P.toList=[]:=by rw[bl_toList];exact hp
   have EN:Hid (rParse (bl s)=none):=rParse_rest HR.out (by rw[←HP.out];exact hp)
   clear hp
   go_wp2_with fail
   refine(rdep_fault P q 3 _).mono ?_;rintro e w5 ⟨rfl,hb⟩
   have B6:=hid (bthen B5.out hb)
   have T6:=hid (T4.out.below hb)
   have K6:=hid (K4.out.below hb)
   clear hb e0 e1 e2 x0 x1 x2 x3 x4 y0 y1 y2 g0 g1 g2 g3 g4 k0 k1 k2 r0 r1 r2 r3 r4 r5 r6 r7 r8 r9
   have e0:=K6.out.cell 0 _ rfl
   have e1:=K6.out.cell 1 _ rfl
   have e2:=K6.out.cell 2 _ rfl
   have h0:=K6.out.free 0 (by simp)
   have h1:=K6.out.free 1 (by simp)
   have h2:=K6.out.free 2 (by simp)
   unfold fltV
   go_upto_region 5 with(fail)
   clear e0 e1 e2 h0 h1 h2
   obtain⟨W7,hW7⟩:∃ W7,((w5.setCell ⟨w3.heap.size+1,0,none⟩ (.string ⟨#[]⟩)).setCell ⟨w3.heap.size+1,1,none⟩ (.int .i64 q)).setCell ⟨w3.heap.size+1,2,none⟩ (.int .i64 3)=W7:=⟨_,rfl⟩
   have K7:Hid (Blk W7 (w3.heap.size+1) [.string ⟨#[]⟩,.int .i64 q,.int .i64 3]):=by rw[←hW7];exact((K6.out.set 0 (by simp) (.string ⟨#[]⟩)).set 1 (by simp) (.int .i64 q)).set 2 (by simp) (.int .i64 3)
   have ha:w.heap.size+1<w3.heap.size+1:=by have:=Z3.out;omega
   have T7:Hid (Two W7 w.heap.size):=by rw[←hW7];exact((T6.out.off (kept_set _) ha).off (kept_set _) ha).off (kept_set _) ha
   have B7:Hid (Below w.heap.size w W7):=by rw[←hW7];exact below_set (below_set (below_set B6.out (by omega) _) (by omega) _) (by omega) _
   rw[hW7]
   clear hW7 T6 B6 K6 ha
   have e0:=K7.out.cell 0 _ rfl
   have e1:=K7.out.cell 1 _ rfl
   have e2:=K7.out.cell 2 _ rfl
   have tc:=T7.out.c
   obtain⟨x0,x1,x2,x3,x4,y0,y1,y2,g0,g1,g2,g3,g4,k0,k1,k2⟩:=tc
   have hne1:¬ w.heap.size=w3.heap.size+1:=by have:=Z3.out;omega
   have hne2:¬ w3.heap.size+1=w.heap.size:=by have:=Z3.out;omega
   have hne3:¬ w.heap.size=w3.heap.size:=by have:=Z3.out;omega
   have hne4:¬ w3.heap.size=w.heap.size:=by have:=Z3.out;omega
   go_wp2_with fail
   go_region
   go_wp2_with fail
   refine bodyPost_ret (parse_resD _ T7.out.c rfl rfl _ _ _ _ _ _ _ _ ⟨rfl,rfl,rfl,rfl,rfl,rfl,rfl,rfl⟩) rfl ?_
   exact RParsePost.no EN.out (below_drew (put8_below B7.out lr _ _ _ _ _ _ _ _)) (by decide)
theorem rparse_res (tmps:Array Value){W:World}{s:Nat}(h:TwoC W s)(h2:tmps[2]?=some (.pointer (some ⟨s,0,none⟩)))(h3:tmps[3]?=some (.pointer (some ⟨s+1,0,none⟩)))(v0 v1 v2 v3 v4 u0 u1 u2:Value)
  (hv:v0.oneCell'=true∧v1.oneCell'=true∧v2.oneCell'=true∧v3.oneCell'=true∧v4.oneCell'=true∧u0.oneCell'=true∧u1.oneCell'=true∧u2.oneCell'=true):
  (results Tryz.f150 tmps).run Tryz.prog (put8 W s v0 v1 v2 v3 v4 u0 u1 u2)=.ok (.tuple #[.agg #[v0,v1,v2,v3,v4],.agg #[u0,u1,u2]]) (put8 W s v0 v1 v2 v3 v4 u0 u1 u2):=by
 obtain⟨x0,x1,x2,x3,x4,y0,y1,y2,_,_,_,_,_,_,_,_⟩:=h
 simp(maxDischargeDepth:=10) [results,Tryz.results150,h2,h3,go_sem,x0,x1,x2,x3,x4,y0,y1,y2]
theorem rparse_resD (tmps:Array Value){W:World}{s:Nat}(h:TwoC W s)(h2:tmps[2]?=some (.pointer (some ⟨s,0,none⟩)))(h3:tmps[3]?=some (.pointer (some ⟨s+1,0,none⟩)))(v0 v1 v2 v3 v4 u0 u1 u2:Value)
  (hv:v0.oneCell'=true∧v1.oneCell'=true∧v2.oneCell'=true∧v3.oneCell'=true∧v4.oneCell'=true∧u0.oneCell'=true∧u1.oneCell'=true∧u2.oneCell'=true):
  (results Tryz.f150 tmps).run Tryz.prog (put8 W s v0 v1 v2 v3 v4 u0 u1 u2).drew=.ok (.tuple #[.agg #[v0,v1,v2,v3,v4],.agg #[u0,u1,u2]]) (put8 W s v0 v1 v2 v3 v4 u0 u1 u2).drew:=by
 obtain⟨x0,x1,x2,x3,x4,y0,y1,y2,_,_,_,_,_,_,_,_⟩:=h
 simp(maxDischargeDepth:=10) [results,Tryz.results150,h2,h3,go_sem,x0,x1,x2,x3,x4,y0,y1,y2]
theorem r15_Parse (s:BA)(w:World)(hs:s.size≤1000000):
  Calls Tryz.prog 150 #[.string s] w (RParsePost s w):=by
 obtain⟨W0,hW0⟩:∃ W0,(w.alloc (.cells #[.string ⟨#[]⟩,.string ⟨#[]⟩,.int .i64 0,.string ⟨#[]⟩,.slice none 0 0] 121)).alloc (.cells #[.string ⟨#[]⟩,.int .i64 0,.int .i64 0] 114)=W0:=⟨_,rfl⟩
 have T0:Hid (Two W0 w.heap.size):=by rw[←hW0];exact Two.new w _ _
 have B0:Hid (Below w.heap.size w W0):=by rw[←hW0];exact(bR.alloc lr _).alloc (by simp) _
 have Z0:Hid (W0.heap.size=w.heap.size+2):=by rw[←hW0];show _=_;simp
 obtain⟨W1,hW1⟩:∃ W1,W0.alloc (.cells #[.string s,.int .i64 0,.string ⟨#[]⟩,.int .i64 0,.int .i64 0,.int .i64 0] 248)=W1:=⟨_,rfl⟩
 have X1:Hid (RX W1 W0.heap.size s 0 0 0):=by rw[←hW1];exact⟨⟨⟨#[]⟩,0,Blk.new W0 [.string s,.int .i64 0,.string ⟨#[]⟩,.int .i64 0,.int .i64 0,.int .i64 0] _⟩,z0⟩
 have B1:Hid (Below w.heap.size w W1):=by rw[←hW1];exact B0.out.alloc B0.out.size _
 have T1:Hid (Two W1 w.heap.size):=by rw[←hW1];exact T0.out.below (bR.alloc lr _)
 have hD:=r15_dep (2*(bl s).length+2) W0.heap.size s 0 0 0 W1 (by omega) (by simp) X1.out (by omega) (by omega)
 have hD:=Calls.int hD (args':=#[.pointer (some ⟨W0.heap.size,0,none⟩),.int .i64 0]) rfl
 rw[List.drop_zero] at hD
 go_enter Tryz.func150,Tryz.ntmps150
 go_wp2_with fail
 clear hW0 hW1
 refine hD.mono ?_;rintro e w2 ⟨hg,T,rfl,hpost⟩
 clear hD
 have T2:=hid (T1.out.off hg (by have:=Z0.out;omega))
 have B2:=hid (below_grown B1.out hg (by have:=Z0.out;omega))
 have Z2:Hid (w.heap.size+2≤w2.heap.size):=by have:=X1.out.sz;have:=hg.size;have:=Z0.out;show _≤_;omega
 have ZA:Hid (w.heap.size+2=W0.heap.size):=Z0.out.symm
 have HCV:Hid (W1.heap.size≤w2.heap.size):=hg.size
 obtain⟨W3,hW3⟩:∃ W3,w2.alloc (.cells T.cells.toArray 121)=W3:=⟨_,rfl⟩
 have B3:Hid (Below w2.heap.size w2 W3):=by rw[←hW3];exact bR.alloc lr _
 have D3:Hid (Blk W3 w2.heap.size T.cells):=by rw[←hW3];exact Blk.new w2 T.cells _
 have T3:=hid (T2.out.below B3.out)
 have B4:=hid (bthen B2.out B3.out)
 have HW3:=hid hW3
 have HPST:=hid hpost
 clear hW3 hg hpost T1 T2 B1
 unfold RchM.val
 go_upto_region 3 with(fail)
 have hW4:w2.alloc (.cells #[.string T.op,.string T.nm,.int .i64 T.aop,.string T.ver,.slice T.ka T.kids.length T.kc] 121)=W3:=HW3.out
 rw[hW4]
 clear hW4 HW3
 have hpost:=HPST.out
 cases hr:rDep (2*(bl s).length+2) 0 0 (bl s) with
 | none=>
  rw[hr] at hpost
  obtain⟨p',n',c',hc,hx⟩:=hpost
  have EN:=hid (rParse_none hr)
  have X3:=hid (hx.below B3.out)
  have hc1:(c' != 0)=true:=by simp[hc]
  have HC:=HidN.mk hc
  clear hr hc hx HPST
  obtain⟨f,x,k⟩:=X3.out.cells
  obtain⟨r0,r1,r2,r3,r4,r5,-,-,-,-,-⟩:=k
  have tc:=T3.out.c
  obtain⟨x0,x1,x2,x3,x4,y0,y1,y2,g0,g1,g2,g3,g4,k0,k1,k2⟩:=tc
  have hne1:¬ w.heap.size=W0.heap.size:=by have:=ZA.out;omega
  have hne2:¬ W0.heap.size=w.heap.size:=by have:=ZA.out;omega
  have hne3:¬ w.heap.size+1=W0.heap.size:=by have:=ZA.out;omega
  have hne4:¬ W0.heap.size=w.heap.size+1:=by have:=ZA.out;omega
  go_wp2_with fail
  go_region
  go_wp2_with fail
  refine bodyPost_ret (rparse_resD _ T3.out.c rfl rfl _ _ _ _ _ _ _ _ ⟨rfl,rfl,rfl,rfl,rfl,rfl,rfl,rfl⟩) rfl ?_
  exact RParsePost.no EN.out (below_drew (put8_below B4.out lr _ _ _ _ _ _ _ _)) HC.out
 | some y=>
  obtain⟨t,l1,n1⟩:=y
  rw[hr] at hpost
  obtain⟨p1,hT,hgd,hown,hht,hn1,hn64,hx,hsk,hpp⟩:=hpost
  have X3:=hid (hx.below B3.out)
  have HT:=hid hT
  have HR:=hid hr
  have HGD:=hid hgd
  have HHT:Hid (T.ht≤32):=by show _≤_;omega
  have HCN:Hid (T.cnt≤64):=by show _≤_;omega
  have HSK:=hid hsk
  have O3:=hid ((hown.low B3.out).base (lo':=W0.heap.size+1) (by have:=X1.out.sz;omega))
  clear hr hT hgd hown hht hn1 hn64 hx hsk hpp HPST
  obtain⟨f,x,k⟩:=X3.out.cells
  have r4:=k.c4
  clear k
  have hL:=r15_look W0.heap.size s p1 n1 0 W3 (by omega) X3.out
  go_wp2_with fail
  clear r4
  refine hL.mono ?_;rintro e w5 ⟨P,q,rfl,hr,hP,hN,hq,hqq,hg,-⟩
  rw[(look_eq HSK.out).1] at hP
  have X5:=hid hr
  have HP:=hid hP
  have T5:=hid (T3.out.off hg (by have:=ZA.out;omega))
  have B5:=hid (below_grown B4.out hg (by have:=ZA.out;omega))
  have D5:=hid (D3.out.grownBy hg (by have:=X1.out.sz;have:=HCV.out;simp;omega))
  have O5:=hid (O3.out.kept (Nat.lt_succ_self _) hg)
  clear hr hP hN hg hL T3 B4 D3 O3 X3
  have tc:=T5.out.c
  obtain⟨x0,x1,x2,x3,x4,y0,y1,y2,g0,g1,g2,g3,g4,k0,k1,k2⟩:=tc
  by_cases hp:bl P=[]
  ·have E1:P.toList=[]:=by rw[bl_toList];exact hp
   have E2:P.toList.isEmpty=true:=by rw[E1];rfl
   have EY:Hid (rParse (bl s)=some T.pl):=by show _=_;rw[HT.out];exact rParse_some HR.out (by rw[←HP.out];exact hp)
   have d0:=D5.out.cell 0 _ rfl
   have d1:=D5.out.cell 1 _ rfl
   have d2:=D5.out.cell 2 _ rfl
   have d3:=D5.out.cell 3 _ rfl
   have d4:=D5.out.cell 4 _ rfl
   have hne1:¬ w.heap.size=w2.heap.size:=by have:=Z2.out;omega
   have hne2:¬ w2.heap.size=w.heap.size:=by have:=Z2.out;omega
   clear hp
   go_wp2_with fail
   refine bodyPost_ret (rparse_res _ T5.out.c rfl rfl _ _ _ _ _ _ _ _ ⟨rfl,rfl,rfl,rfl,rfl,rfl,rfl,rfl⟩) rfl ?_
   exact RParsePost.yes EY.out (put8_below B5.out lr _ _ _ _ _ _ _ _) HGD.out ((put8_own O5.out (by have:=ZA.out;omega) _ _ _ _ _ _ _ _).base (by have:=ZA.out;omega)) HHT.out HCN.out
  ·have E1:(P.toList==([]:LU))=false:=by rw[bl_toList,bF];exact hp
   have E2:P.toList.isEmpty=false:=by rw[bl_toList,List.isEmpty_eq_false_iff];exact hp
   have E3:¬ P.toList=[]:=by rw[bl_toList];exact hp
   have E4:(P.toList != ([]:LU))=true:=by rw[bne,E1];rfl
   have EN:Hid (rParse (bl s)=none):=rParse_rest HR.out (by rw[←HP.out];exact hp)
   clear hp x0 x1 x2 x3 x4 y0 y1 y2 g0 g1 g2 g3 g4 k0 k1 k2
   go_wp2_with fail
   refine(r15_bad 3 W0.heap.size s q n1 0 w5 X5.out).mono ?_;rintro e w6 ⟨rfl,hr,hg⟩
   have X6:=hid hr
   have T6:=hid (T5.out.off hg (by have:=ZA.out;omega))
   have B6:=hid (below_grown B5.out hg (by have:=ZA.out;omega))
   clear hr hg
   obtain⟨f,x,k⟩:=X6.out.cells
   obtain⟨r0,r1,r2,r3,r4,r5,-,-,-,-,-⟩:=k
   have tc:=T6.out.c
   obtain⟨x0,x1,x2,x3,x4,y0,y1,y2,g0,g1,g2,g3,g4,k0,k1,k2⟩:=tc
   have hne1:¬ w.heap.size=W0.heap.size:=by have:=ZA.out;omega
   have hne2:¬ W0.heap.size=w.heap.size:=by have:=ZA.out;omega
   have hne3:¬ w.heap.size+1=W0.heap.size:=by have:=ZA.out;omega
   have hne4:¬ W0.heap.size=w.heap.size+1:=by have:=ZA.out;omega
   go_wp2_with fail
   go_region
   go_wp2_with fail
   refine bodyPost_ret (rparse_resD _ T6.out.c rfl rfl _ _ _ _ _ _ _ _ ⟨rfl,rfl,rfl,rfl,rfl,rfl,rfl,rfl⟩) rfl ?_
   exact RParsePost.no EN.out (below_drew (put8_below B6.out lr _ _ _ _ _ _ _ _)) (by decide)
theorem rdep_Print {T:RchM}(h:TGood T)(hcn:T.cnt≤64)(hht:T.ht≤32)(w:World)(hG:Gl w)(hO:TOwn w 0 none T):
  Calls Tryz.prog 89 #[T.val] w fun e w'=>e=.returned (.tuple #[.string (mkB (rText T.pl)),.int .i64 0])∧Below w.heap.size w w':=by
 have HG:=hid hG
 have HO:=hid hO
 obtain⟨W1,hW1⟩:∃ W1,w.alloc (.cells #[.string T.op,.string T.nm,.int .i64 T.aop,.string T.ver,.slice T.ka T.kids.length T.kc] 121)=W1:=⟨_,rfl⟩
 have B1:Hid (Below w.heap.size w W1):=by rw[←hW1];exact bR.alloc lr _
 have K1:Hid (Blk W1 w.heap.size T.cells):=by rw[←hW1];exact Blk.new w T.cells _
 have k0:=K1.out.cell 0 _ rfl
 have k1:=K1.out.cell 1 _ rfl
 have k2:=K1.out.cell 2 _ rfl
 have k3:=K1.out.cell 3 _ rfl
 have k4:=K1.out.cell 4 _ rfl
 have hC:=rdep_Check_any T 0 h.shape hcn hht W1 (HG.out.below B1.out) (HO.out.low B1.out) (fun W g o=>rdep_check h W g o hcn)
 have HT:Hid (∀ W,Gl W→TOwn W 0 none T→Calls Tryz.prog 131 #[T.val] W fun e w'=>e=.returned (.string (mkB (rText T.pl)))∧Below W.heap.size W w'):=fun W g o=>rdep_text h W g o hcn
 clear h hcn hht hG hO
 obtain⟨X,hX⟩:∃ X,mkB (rText T.pl)=X:=⟨_,rfl⟩
 rw[hX] at HT ⊢
 clear hX
 unfold RchM.val at *
 go_enter Tryz.func89,Tryz.ntmps89
 go_wp2_with fail
 clear hW1
 refine hC.mono ?_;rintro e w2 ⟨rfl,hb⟩
 have B2:=hid (bthen B1.out hb)
 have K2:=hid (K1.out.below hb)
 clear hb k0 k1 k2 k3 k4 hC
 have k0:=K2.out.cell 0 _ rfl
 have k1:=K2.out.cell 1 _ rfl
 have k2:=K2.out.cell 2 _ rfl
 have k3:=K2.out.cell 3 _ rfl
 have k4:=K2.out.cell 4 _ rfl
 go_wp2_with fail
 refine(HT.out w2 (HG.out.below B2.out) (HO.out.low B2.out)).mono ?_;rintro e w3 ⟨rfl,hb⟩
 have B3:=hid (bthen B2.out hb)
 clear hb
 go_wp2_with fail
 go_ret2
 exact⟨rfl,B3.out⟩
theorem rdep_Print0 (w:World)(hG:Gl w):
  Calls Tryz.prog 89 #[zeroR.val] w fun e w'=>e=.returned (.tuple #[.string ⟨#[]⟩,.int .i64 10])∧Below w.heap.size w w':=by
 have HG:=hid hG
 have hC:=rdep_Check_any zeroR 10 TShape.zero (by decide) (by decide) (w.alloc (.cells #[.string ⟨#[]⟩,.string ⟨#[]⟩,.int .i64 0,.string ⟨#[]⟩,.slice none 0 0] 121)) (HG.out.alloc _) (leaf_own _ _ _ _ _ _) (fun W _ _=>rdep_check0 W)
 rw[zeroR_val] at hC ⊢
 have B1:Hid (Below w.heap.size w (w.alloc (.cells #[.string ⟨#[]⟩,.string ⟨#[]⟩,.int .i64 0,.string ⟨#[]⟩,.slice none 0 0] 121))):=bR.alloc lr _
 clear hG
 go_enter Tryz.func89,Tryz.ntmps89
 go_wp2_with fail
 refine hC.mono ?_;rintro e w2 ⟨rfl,hb⟩
 have B2:=hid (bthen B1.out hb)
 clear hb hC
 go_wp2_with fail
 go_ret2
 exact⟨rfl,B2.out⟩
theorem writtenR_none {l:LU}(h:rParse l=none):writtenR l=false:=by unfold writtenR;rw[h];simp
theorem writtenR_some {l:LU}{d:Rch}(h:rParse l=some d)(h0:l≠[]):writtenR l=decide (rText d=l):=by
 unfold writtenR;rw[h];simp[h0]
theorem model_written2 (s:BA)(w:World)(hG:Gl w)(hs:s.size≤1000000):
  Calls Tryz.prog 61 #[.int .i64 2,.string s] w (WrPost s (writtenR (bl s)) w):=by
 have HG:=hid hG;clear hG
 have B0:Hid (Below w.heap.size w (w.alloc (.cells #[.string ⟨#[]⟩,.int .i64 0,.int .i64 0] 114))):=bR.alloc lr _
 have K0:Hid (Blk (w.alloc (.cells #[.string ⟨#[]⟩,.int .i64 0,.int .i64 0] 114)) w.heap.size [.string ⟨#[]⟩,.int .i64 0,.int .i64 0]):=Blk.new w _ _
 go_enter Tryz.func61,Tryz.ntmps61
 go_wp2_with fail
 refine(rdep_Parse s _ (HG.out.below B0.out) (by omega)).mono ?_;rintro e w1 ⟨T,f,a,code,rfl,hb1,hpost⟩
 have B1:=hid (bthen B0.out hb1)
 have K1:=hid (K0.out.below hb1)
 have hlt1:w.heap.size<w1.heap.size:=K1.out.sz
 have hne1:¬ w.heap.size=w1.heap.size:=by omega
 clear hb1
 cases hp:rParse (bl s) with
 | none=>
  rw[hp] at hpost
  obtain⟨hc,rfl⟩:=hpost
  have EN:=hid (writtenR_none hp)
  have hc1:(code==0)=false:=by simp[hc]
  clear hp hc
  obtain⟨W3,hW3⟩:∃ W3,(w1.alloc (.cells #[.string ⟨#[]⟩,.string ⟨#[]⟩,.int .i64 0,.string ⟨#[]⟩,.slice none 0 0] 121)).alloc (.cells #[.string f,.int .i64 a,.int .i64 code] 114)=W3:=⟨_,rfl⟩
  have B3:Hid (Below w1.heap.size w1 W3):=by rw[←hW3];exact(bR.alloc lr _).alloc (by simp) _
  have D3:Hid (Blk W3 w1.heap.size [.string ⟨#[]⟩,.string ⟨#[]⟩,.int .i64 0,.string ⟨#[]⟩,.slice none 0 0]):=by rw[←hW3];exact(Blk.new w1 [.string ⟨#[]⟩,.string ⟨#[]⟩,.int .i64 0,.string ⟨#[]⟩,.slice none 0 0] _).alloc _
  have F3:Hid (Blk W3 (w1.heap.size+1) [.string f,.int .i64 a,.int .i64 code]):=by
   have:=Blk.new (w1.alloc (.cells #[.string ⟨#[]⟩,.string ⟨#[]⟩,.int .i64 0,.string ⟨#[]⟩,.slice none 0 0] 121)) [.string f,.int .i64 a,.int .i64 code] 114
   rw[←hW3];show Blk _ _ _;simpa using this
  have K3:=hid (K1.out.below B3.out)
  have BB:=hid (bthen B1.out B3.out)
  have r0:=K3.out.cell 0 _ rfl
  have r1:=K3.out.cell 1 _ rfl
  have r2:=K3.out.cell 2 _ rfl
  have fr0:=K3.out.free 0 (by simp)
  have fr1:=K3.out.free 1 (by simp)
  have fr2:=K3.out.free 2 (by simp)
  have d0:=F3.out.cell 0 _ rfl
  have d1:=F3.out.cell 1 _ rfl
  have d2:=F3.out.cell 2 _ rfl
  have e0:=D3.out.cell 0 _ rfl
  have e1:=D3.out.cell 1 _ rfl
  have e2:=D3.out.cell 2 _ rfl
  have e3:=D3.out.cell 3 _ rfl
  have e4:=D3.out.cell 4 _ rfl
  have KS:=hid (((K3.out.set 0 (by simp) (.string f)).set 1 (by simp) (.int .i64 a)).set 2 (by simp) (.int .i64 code))
  have BS:=hid (below_set (j:=2) (below_set (j:=1) (below_set (j:=0) BB.out lr (.string f)) lr (.int .i64 a)) lr (.int .i64 code))
  have hP:=rdep_Print0 _ (HG.out.below BS.out)
  unfold fltV
  rw[zeroR_val] at hP ⊢
  go_upto_region 14 with(fail)
  clear hW3
  go_wp2_with fail
  refine hP.mono ?_;rintro e w4 ⟨rfl,hb4⟩
  have c2:=(KS.out.below hb4).cell 2 _ rfl
  have B4:=hid (bthen BS.out hb4)
  clear hb4
  go_wp2_with fail
  go_ret2
  exact⟨_,false,rfl,B4.out,fun _=>by rw[EN.out];simp⟩
 | some t=>
  rw[hp] at hpost
  obtain⟨rfl,hT,hgd,hown,hht,hcn⟩:=hpost
  have EN:Hid (s.size≠0→(mkB (rText T.pl)=s↔writtenR (bl s)=true)):=fun h0=>by rw[writtenR_some hp (bl_ne h0),←hT,decide_eq_true_iff];exact mk_eq_iff
  clear hp hT
  obtain⟨W3,hW3⟩:∃ W3,(w1.alloc (.cells #[.string T.op,.string T.nm,.int .i64 T.aop,.string T.ver,.slice T.ka T.kids.length T.kc] 121)).alloc (.cells #[.string f,.int .i64 a,.int .i64 0] 114)=W3:=⟨_,rfl⟩
  have B3:Hid (Below w1.heap.size w1 W3):=by rw[←hW3];exact(bR.alloc lr _).alloc (by simp) _
  have D3:Hid (Blk W3 w1.heap.size T.cells):=by rw[←hW3];exact(Blk.new w1 T.cells _).alloc _
  have F3:Hid (Blk W3 (w1.heap.size+1) [.string f,.int .i64 a,.int .i64 0]):=by
   have:=Blk.new (w1.alloc (.cells #[.string T.op,.string T.nm,.int .i64 T.aop,.string T.ver,.slice T.ka T.kids.length T.kc] 121)) [.string f,.int .i64 a,.int .i64 0] 114
   rw[←hW3];show Blk _ _ _;simpa using this
  have K3:=hid (K1.out.below B3.out)
  have BB:=hid (bthen B1.out B3.out)
  have r0:=K3.out.cell 0 _ rfl
  have r1:=K3.out.cell 1 _ rfl
  have r2:=K3.out.cell 2 _ rfl
  have fr0:=K3.out.free 0 (by simp)
  have fr1:=K3.out.free 1 (by simp)
  have fr2:=K3.out.free 2 (by simp)
  have d0:=F3.out.cell 0 _ rfl
  have d1:=F3.out.cell 1 _ rfl
  have d2:=F3.out.cell 2 _ rfl
  have e0:=D3.out.cell 0 _ rfl
  have e1:=D3.out.cell 1 _ rfl
  have e2:=D3.out.cell 2 _ rfl
  have e3:=D3.out.cell 3 _ rfl
  have e4:=D3.out.cell 4 _ rfl
  have KS:=hid (((K3.out.set 0 (by simp) (.string f)).set 1 (by simp) (.int .i64 a)).set 2 (by simp) (.int .i64 0))
  have BS:=hid (below_set (j:=2) (below_set (j:=1) (below_set (j:=0) BB.out lr (.string f)) lr (.int .i64 a)) lr (.int .i64 0))
  have hlo:w.heap.size<(w.alloc (.cells #[.string ⟨#[]⟩,.int .i64 0,.int .i64 0] 114)).heap.size:=by simp
  have HOK:=hid (((((hown.low B3.out).kept hlo (kept_set (j:=0) (.string f))).kept hlo (kept_set (j:=1) (.int .i64 a))).kept hlo (kept_set (j:=2) (.int .i64 0))).base z0)
  have hP:=rdep_Print hgd hcn hht _ (HG.out.below BS.out) HOK.out
  obtain⟨X,hX⟩:∃ X,mkB (rText T.pl)=X:=⟨_,rfl⟩
  rw[hX] at hP EN
  clear hgd hown hht hcn hX hlo
  have HW3:=hid hW3
  clear hW3
  unfold fltV RchM.val
  unfold RchM.val at hP
  go_upto_region 14 with(fail)
  rw[HW3.out]
  go_wp2_with fail
  refine hP.mono ?_;rintro e w4 ⟨rfl,hb4⟩
  have c2:=(KS.out.below hb4).cell 2 _ rfl
  have B4:=hid (bthen BS.out hb4)
  clear hb4 hP
  go_wp2_with fail
  go_ret2
  exact⟨X,true,rfl,B4.out,fun h=>by have:=EN.out h;simpa using this⟩
theorem r15_Print {T:RchM}(h:TGood T)(hcn:T.cnt≤64)(hht:T.ht≤32)(w:World)(hO:TOwn w 0 none T):
  Calls Tryz.prog 151 #[T.val] w fun e w'=>e=.returned (.tuple #[.string (mkB (rText T.pl)),.int .i64 0])∧Below w.heap.size w w':=by
 have HO:=hid hO
 obtain⟨W1,hW1⟩:∃ W1,w.alloc (.cells #[.string T.op,.string T.nm,.int .i64 T.aop,.string T.ver,.slice T.ka T.kids.length T.kc] 121)=W1:=⟨_,rfl⟩
 have B1:Hid (Below w.heap.size w W1):=by rw[←hW1];exact bR.alloc lr _
 have K1:Hid (Blk W1 w.heap.size T.cells):=by rw[←hW1];exact Blk.new w T.cells _
 have k0:=K1.out.cell 0 _ rfl
 have k1:=K1.out.cell 1 _ rfl
 have k2:=K1.out.cell 2 _ rfl
 have k3:=K1.out.cell 3 _ rfl
 have k4:=K1.out.cell 4 _ rfl
 have hC:=r15_Check_any T 0 h.shape hcn hht W1 (HO.out.low B1.out) (fun W o=>r15_inner h W o hcn)
 have HT:Hid (∀ W,TOwn W 0 none T→Calls Tryz.prog 216 #[T.val] W fun e w'=>e=.returned (.string (mkB (rText T.pl)))∧Below W.heap.size W w'):=fun W o=>r15_text h W o hcn
 clear h hcn hht hO
 obtain⟨X,hX⟩:∃ X,mkB (rText T.pl)=X:=⟨_,rfl⟩
 rw[hX] at HT ⊢
 clear hX
 unfold RchM.val at *
 go_enter Tryz.func151,Tryz.ntmps151
 go_wp2_with fail
 clear hW1
 refine hC.mono ?_;rintro e w2 ⟨rfl,hb⟩
 have B2:=hid (bthen B1.out hb)
 have K2:=hid (K1.out.below hb)
 clear hb k0 k1 k2 k3 k4 hC
 have k0:=K2.out.cell 0 _ rfl
 have k1:=K2.out.cell 1 _ rfl
 have k2:=K2.out.cell 2 _ rfl
 have k3:=K2.out.cell 3 _ rfl
 have k4:=K2.out.cell 4 _ rfl
 go_wp2_with fail
 refine(HT.out w2 (HO.out.low B2.out)).mono ?_;rintro e w3 ⟨rfl,hb⟩
 have B3:=hid (bthen B2.out hb)
 clear hb
 go_wp2_with fail
 go_ret2
 exact⟨rfl,B3.out⟩
theorem r15_Print0 (w:World):
  Calls Tryz.prog 151 #[zeroR.val] w fun e w'=>e=.returned (.tuple #[.string ⟨#[]⟩,.int .i64 10])∧Below w.heap.size w w':=by
 have hC:=r15_Check_any zeroR 10 TShape.zero (by decide) (by decide) (w.alloc (.cells #[.string ⟨#[]⟩,.string ⟨#[]⟩,.int .i64 0,.string ⟨#[]⟩,.slice none 0 0] 121)) (leaf_own _ _ _ _ _ _) (fun W _=>r15_inner0 W)
 rw[zeroR_val] at hC ⊢
 have B1:Hid (Below w.heap.size w (w.alloc (.cells #[.string ⟨#[]⟩,.string ⟨#[]⟩,.int .i64 0,.string ⟨#[]⟩,.slice none 0 0] 121))):=bR.alloc lr _
 go_enter Tryz.func151,Tryz.ntmps151
 go_wp2_with fail
 refine hC.mono ?_;rintro e w2 ⟨rfl,hb⟩
 have B2:=hid (bthen B1.out hb)
 clear hb hC
 go_wp2_with fail
 go_ret2
 exact⟨rfl,B2.out⟩
theorem r19_Written2 (s:BA)(w:World)(hs:s.size≤1000000):
  Calls Tryz.prog 101 #[.int .i64 2,.string s] w fun e w'=>e=.returned (.bool (writtenR (bl s)))∧Below w.heap.size w w':=by
 by_cases h0:s.size=0
 ·have he:s.toList=[]:=by rw[bl_toList,bl_nil s h0]
  have he2:s.toList.isEmpty=true:=by rw[he];rfl
  have E:Hid (writtenR (bl s)=false):=by show _=_;rw[bl_nil s h0];rfl
  go_enter Tryz.func101,Tryz.ntmps101
  go_wp2_with fail
  go_ret
  exact⟨ret_bool E.out.symm,bR⟩
 have he2:s.toList.isEmpty=false:=by rw[bl_toList,bl_isEmpty];exact dF h0
 have he:¬ s.toList=[]:=by intro h;rw[h] at he2;simp at he2
 go_enter Tryz.func101,Tryz.ntmps101
 go_wp2_with fail
 refine(r15_Parse s _ (by omega)).mono ?_;rintro e w1 ⟨T,f,a,code,rfl,hb1,hpost⟩
 have B1:=hid hb1
 clear hb1
 cases hp:rParse (bl s) with
 | none=>
  rw[hp] at hpost
  obtain⟨hc,rfl⟩:=hpost
  have EN:=hid (writtenR_none hp)
  have hc1:(code==0)=false:=by simp[hc]
  clear hp hc
  obtain⟨W3,hW3⟩:∃ W3,(w1.alloc (.cells #[.string ⟨#[]⟩,.string ⟨#[]⟩,.int .i64 0,.string ⟨#[]⟩,.slice none 0 0] 121)).alloc (.cells #[.string f,.int .i64 a,.int .i64 code] 114)=W3:=⟨_,rfl⟩
  have B3:Hid (Below w1.heap.size w1 W3):=by rw[←hW3];exact(bR.alloc lr _).alloc (by simp) _
  have D3:Hid (Blk W3 w1.heap.size [.string ⟨#[]⟩,.string ⟨#[]⟩,.int .i64 0,.string ⟨#[]⟩,.slice none 0 0]):=by rw[←hW3];exact(Blk.new w1 [.string ⟨#[]⟩,.string ⟨#[]⟩,.int .i64 0,.string ⟨#[]⟩,.slice none 0 0] _).alloc _
  have F3:Hid (Blk W3 (w1.heap.size+1) [.string f,.int .i64 a,.int .i64 code]):=by
   have:=Blk.new (w1.alloc (.cells #[.string ⟨#[]⟩,.string ⟨#[]⟩,.int .i64 0,.string ⟨#[]⟩,.slice none 0 0] 121)) [.string f,.int .i64 a,.int .i64 code] 114
   rw[←hW3];show Blk _ _ _;simpa using this
  have BB:=hid (bthen B1.out B3.out)
  have HW3:=hid hW3
  clear hW3
  have e0:=D3.out.cell 0 _ rfl
  have e1:=D3.out.cell 1 _ rfl
  have e2:=D3.out.cell 2 _ rfl
  have e3:=D3.out.cell 3 _ rfl
  have e4:=D3.out.cell 4 _ rfl
  have hP:=r15_Print0 W3
  unfold fltV
  rw[zeroR_val] at hP ⊢
  go_upto_region 15 with(fail)
  rw[HW3.out]
  go_wp2_with fail
  refine hP.mono ?_;rintro e w4 ⟨rfl,hb4⟩
  have c2:=(F3.out.below hb4).cell 2 _ rfl
  have B4:=hid (bthen BB.out hb4)
  clear hb4 hP
  go_wp2_with fail
  go_ret
  exact⟨ret_bool EN.out.symm,B4.out⟩
 | some t=>
  rw[hp] at hpost
  obtain⟨rfl,hT,hgd,hown,hht,hcn⟩:=hpost
  have EN:mkB (rText T.pl)=s↔writtenR (bl s)=true:=by rw[writtenR_some hp (bl_ne h0),←hT,decide_eq_true_iff];exact mk_eq_iff
  clear hp hT
  obtain⟨W3,hW3⟩:∃ W3,(w1.alloc (.cells #[.string T.op,.string T.nm,.int .i64 T.aop,.string T.ver,.slice T.ka T.kids.length T.kc] 121)).alloc (.cells #[.string f,.int .i64 a,.int .i64 0] 114)=W3:=⟨_,rfl⟩
  have B3:Hid (Below w1.heap.size w1 W3):=by rw[←hW3];exact(bR.alloc lr _).alloc (by simp) _
  have D3:Hid (Blk W3 w1.heap.size T.cells):=by rw[←hW3];exact(Blk.new w1 T.cells _).alloc _
  have F3:Hid (Blk W3 (w1.heap.size+1) [.string f,.int .i64 a,.int .i64 0]):=by
   have:=Blk.new (w1.alloc (.cells #[.string T.op,.string T.nm,.int .i64 T.aop,.string T.ver,.slice T.ka T.kids.length T.kc] 121)) [.string f,.int .i64 a,.int .i64 0] 114
   rw[←hW3];show Blk _ _ _;simpa using this
  have BB:=hid (bthen B1.out B3.out)
  have HW3:=hid hW3
  clear hW3
  have e0:=D3.out.cell 0 _ rfl
  have e1:=D3.out.cell 1 _ rfl
  have e2:=D3.out.cell 2 _ rfl
  have e3:=D3.out.cell 3 _ rfl
  have e4:=D3.out.cell 4 _ rfl
  have hP:=r15_Print hgd hcn hht W3 ((hown.low B3.out).base z0)
  obtain⟨X,hX⟩:∃ X,mkB (rText T.pl)=X:=⟨_,rfl⟩
  rw[hX] at hP EN
  obtain⟨bw,hbw⟩:∃ bw,writtenR (bl s)=bw:=⟨_,rfl⟩
  have EQ:(s.toList==X.toList)=bw:=by
   rw[beq_bl]
   have h1:=EN
   rw[hbw] at h1
   cases bw with
   | true=>exact dT ((h1.2 rfl).symm)
   | false=>exact dF (fun h=>by have:=h1.1 h.symm;cases this)
  have HBW:=hid hbw
  clear hgd hown hht hcn hX hbw EN
  unfold fltV RchM.val
  unfold RchM.val at hP
  go_upto_region 15 with(fail)
  rw[HW3.out]
  go_wp2_with fail
  refine hP.mono ?_;rintro e w4 ⟨rfl,hb4⟩
  have c2:=(F3.out.below hb4).cell 2 _ rfl
  have B4:=hid (bthen BB.out hb4)
  clear hb4 hP
  go_wp2_with fail
  go_ret
  exact⟨ret_bool HBW.out.symm,B4.out⟩
end
end Go.Proofs.YtdfdllbebfoggaaGreatDoor
