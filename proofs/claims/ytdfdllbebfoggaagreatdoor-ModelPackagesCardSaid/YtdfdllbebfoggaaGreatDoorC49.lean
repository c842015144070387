/- A part of the proof that ModelPackages holds. No condition. -/
import Derived.Test.YtdfdllbebfoggaaGreatDoorC41
import Derived.Test.YtdfdllbebfoggaaGreatDoorC48
set_option maxRecDepth 100000
set_option maxHeartbeats 20000000
set_option linter.unusedVariables false
set_option linter.unusedSimpArgs false
namespace Go.Proofs.YtdfdllbebfoggaaGreatDoor
section
open Go.RowKit Go.Deep
theorem join_snoc (sep x:List UInt8):∀ l:List (List UInt8),l≠[]→Lib.join (l++[x]) sep=Lib.join l sep++sep++x
 | [],h=>absurd rfl h
 | [a],_=>by simp[Lib.join,List.intercalate]
 | a::b::r,_=>by
  have ih:=join_snoc sep x (b::r) (by simp)
  have e:∀ (p q:List UInt8)(t:List (List UInt8)),Lib.join (p::q::t) sep=p++sep++Lib.join (q::t) sep:=by
   intro p q t;simp[Lib.join,List.intercalate,List.intersperse]
  rw[List.cons_append,List.cons_append,e,e,←List.cons_append,ih];simp
theorem join_first (sep x:List UInt8):Lib.join ([]++[x]) sep=x:=by simp[Lib.join,List.intercalate]
theorem join_none (sep:List UInt8):Lib.join [] sep=[]:=by simp[Lib.join,List.intercalate]
def ahead (l:List (List UInt8))(sep:List UInt8):List UInt8:=if l=[] then [] else Lib.join l sep++sep
theorem join_ahead (l:List (List UInt8))(x sep:List UInt8):Lib.join (l++[x]) sep=ahead l sep++x:=by
 unfold ahead
 split
 ·rename_i h;rw[h,join_first];rfl
 ·rename_i h;rw[join_snoc sep x l h]
def archT (l:List (List UInt8)):List UInt8:=if l=[] then [] else [32,91]++Lib.join l [32]
theorem archT_first (x:List UInt8):archT ([]++[x])=[32,91]++x:=by unfold archT;rw[join_first];simp
theorem archT_next (l:List (List UInt8))(x:List UInt8)(h:l≠[]):archT (l++[x])=archT l++[32]++x:=by
 unfold archT;rw[if_neg (by simp),if_neg h,join_snoc _ _ _ h];simp
theorem tArch_T (l:List (List UInt8))(h:l≠[]):tArch l=archT l++[93]:=by
 unfold tArch archT;rw[if_neg (by simpa using h),if_neg h]
theorem sz_append (a b:ByteArray):(a++b).size=a.size+b.size:=by rw[←bl_length,bl_append,List.length_append,bl_length,bl_length]
theorem take_ne {α:Type}{l:List α}{k:Nat}(h:0<k)(hk:k≤l.length):l.take k≠[]:=by
 intro e;have:=congrArg List.length e;rw[List.length_take,List.length_nil] at this;omega
theorem num_le {n i:Nat}(h:n≤i*3000000002+2)(hi:i≤63):n≤200000000000:=by omega
theorem num_le2 {n i q d:Nat}(h:n≤i*3000000002+d+q*36000000)(hi:i≤63)(hq:q≤63)(hd:d≤1000000):n≤200000000000:=by omega
theorem r14_Print (A:Option Addr)(c:Nat)(gs:List GrpM)(hW:FldW gs)(w:World)(hr:FldOk w A gs):
  Calls Tryz.prog 149 #[.slice A gs.length c] w fun e w'=>e=.returned (.tuple #[.string (mkB (dText (gs.map GrpM.pl))),.int .i64 0])∧Below w.heap.size w w':=by
 have HR:=hid hr;have HW:=hid hW
 have hfew:=hW.few
 clear hr hW
 go_enter Tryz.func149,Tryz.ntmps149
 go_wp2_with fail
 refine(r14_Check A c gs HW.out w HR.out).mono ?_;rintro e w0 ⟨rfl,hb0⟩
 have HB0:=hid hb0;clear hb0
 go_wp2_with fail
 go_loopw [5,6] (fun v i wr=>∃ (S:ByteArray) (k:Nat),v=.string S∧i=.int .i64 k∧k≤gs.length∧S.size≤200000000000∧Hid (S.size≤k*3000000002)∧Hid (Below w.heap.size w wr)∧Hid (bl S=Lib.join (((gs.take k).map GrpM.pl).map gText) [44,32])) (fun _ i _=>gs.length-(intOf i).toNat)
 case atStart=>exact⟨⟨#[]⟩,0,rfl,rfl,Nat.zero_le _,(by show(0:Nat)≤_;omega),(by show(0:Nat)≤_;omega),HB0,by show _=_;simp[join_none];rfl⟩
 case round=>
  obtain⟨S,i,rfl,rfl,hi,hSz,HSZ,HB,HS⟩:=hrel
  by_cases hlt3:i<gs.length
  ·obtain⟨g,hg⟩:∃ g,gs[i]?=some g:=⟨_,List.getElem?_eq_getElem hlt3⟩
   have hgl:=HW.out.len g (List.mem_of_getElem? hg)
   have HGP:=hid (HW.out.ne g (List.mem_of_getElem? hg))
   have HRG:=hid (HR.out.grp g (List.mem_of_getElem? hg))
   have HRA:=hid (HR.out.archs g (List.mem_of_getElem? hg))
   have HTK:=hid (HW.out.ok g (List.mem_of_getElem? hg))
   have HGA:=hid (fun (W:World) (hb:Below w.heap.size w W)=>(HR.out.below hb).row.one i _ (grp_at hg) hlt3)
   have TK:Hid (((gs.take (i+1)).map GrpM.pl).map gText=((gs.take i).map GrpM.pl).map gText++[gText g.pl]):=by
    show _=_;obtain⟨hk',hf'⟩:=List.getElem?_eq_some_iff.1 hg;rw[List.take_succ_eq_append_getElem hk',hf'];simp
   have TI:Hid (0<i→((gs.take i).map GrpM.pl).map gText≠[]):=fun h0=>by simpa using take_ne h0 (by omega:i≤gs.length)
   have TZ:Hid (i=0→((gs.take i).map GrpM.pl).map gText=[]):=fun h0=>by rw[h0];rfl
   obtain⟨gl,hgle⟩:∃ gl,g.ts.length=gl:=⟨_,rfl⟩
   rw[hgle] at HGA hgl
   have HGL:=hid hgle
   clear hg hgle
   have hi64:i≤63:=by omega
   go_upto_if 22 with(fail)
   go_cut [5] (fun v wx=>∃ S1:ByteArray,v=.string S1∧S1.size≤200000000000∧Hid (S1.size≤i*3000000002+2)∧wr=wx∧Hid (bl S1=ahead (((gs.take i).map GrpM.pl).map gText) [44,32]))
   case first=>
    by_cases i0:0<i
    ·have d0:decide ((0:Int)<(i:Int))=true:=decide_eq_true (by omega)
     have d1:decide (0<i)=true:=decide_eq_true i0
     have E:Hid (bl (S++⟨#[44,32]⟩)=ahead (((gs.take i).map GrpM.pl).map gText) [44,32]):=by
      show _=_;rw[bl_append,HS.out];unfold ahead;rw[if_neg (TI.out i0)];rfl
     have EZ:Hid ((S++⟨#[44,32]⟩:ByteArray).size≤i*3000000002+2):=by have h1:=HSZ.out;show _≤_;rw[sz_append];have:(⟨#[44,32]⟩:ByteArray).size=2:=rfl;omega
     go_wp2_with fail
     go_meet
     exact⟨_,rfl,num_le EZ.out hi64,EZ,rfl,E⟩
    ·have d0:decide ((0:Int)<(i:Int))=false:=decide_eq_false (by omega)
     have d1:decide (0<i)=false:=decide_eq_false i0
     have E:Hid (bl S=ahead (((gs.take i).map GrpM.pl).map gText) [44,32]):=by
      show _=_;rw[HS.out,TZ.out (by omega),join_none];rfl
     have EZ:Hid (S.size≤i*3000000002+2):=Nat.le_trans HSZ.out (Nat.le_add_right _ _)
     go_wp2_with fail
     go_meet
     exact⟨S,rfl,hSz,EZ,rfl,E⟩
   case rest=>
   obtain⟨S1,rfl,hS1,HS1Z,rfl,HS1⟩:=hcut
   clear hSz HS HSZ
   go_wp2_with fail
   obtain⟨wo,rfl⟩:∃ wo:World,wo=wr:=⟨_,rfl⟩
   go_loopw [5,7] (fun v q wr=>∃ (S2:ByteArray) (k:Nat),v=.string S2∧q=.int .i64 k∧k≤gl∧S2.size≤200000000000∧Hid (S2.size≤i*3000000002+2+k*36000000)∧Hid (Below w.heap.size w wr)∧Hid (bl S2=bl S1++Lib.join (((g.ts.take k).map TrmM.pl).map Trm.text) [32,124,32])) (fun _ q _=>gl-(intOf q).toNat)
   case atStart=>exact⟨S1,0,rfl,rfl,Nat.zero_le _,hS1,Nat.le_trans HS1Z.out (Nat.le_add_right _ _),HB,by show _=_;simp[join_none]⟩
   case round=>
    obtain⟨S2,q,rfl,rfl,hq,hS2,HS2Z,HB1,HS2⟩:=hrel
    obtain⟨b,off,hA,he⟩:=HGA.out _ HB1.out
    have hix:=fun W=>idx_of (T:=115) (E:=155) (sz:=1) (c:=c) Tryz.underlying115 rfl Tryz.sizeOf155 hA hlt3 W
    simp only[Nat.mul_one] at hix
    clear hA
    by_cases hlt4:q<gl
    ·have HL4:Hid (q<g.ts.length):=by have:=HGL.out;show _<_;omega
     obtain⟨t,ht⟩:∃ t,g.ts[q]?=some t:=⟨_,List.getElem?_eq_getElem HL4.out⟩
     obtain⟨b2,off2,hA2,he2⟩:=(HRG.out.below HB1.out).elem trm_len q t ht
     have e0:=he2 0 _ rfl
     have e1:=he2 1 _ rfl
     have e2:=he2 2 _ rfl
     have e3:=he2 3 _ rfl
     have e4:=he2 4 _ rfl
     simp only[Nat.add_zero] at e0
     have hix2:=fun W=>idx_of (T:=155) (E:=157) (sz:=5) (n:=gl) (c:=g.gc) Tryz.underlying155 rfl Tryz.sizeOf157 hA2 hlt4 W
     have TOK:=HTK.out t (List.mem_of_getElem? ht)
     have TA:=hid (HRA.out t (List.mem_of_getElem? ht))
     have TTK:Hid (((g.ts.take (q+1)).map TrmM.pl).map Trm.text=((g.ts.take q).map TrmM.pl).map Trm.text++[t.pl.text]):=by
      show _=_;obtain⟨hk',hf'⟩:=List.getElem?_eq_some_iff.1 ht;rw[List.take_succ_eq_append_getElem hk',hf'];simp
     have TTI:Hid (0<q→((g.ts.take q).map TrmM.pl).map Trm.text≠[]):=fun h0=>by
      have:=take_ne h0 (by have:=HL4.out;omega:q≤g.ts.length)
      intro e;rw[List.map_eq_nil_iff,List.map_eq_nil_iff] at e;exact this e
     have TTZ:Hid (q=0→((g.ts.take q).map TrmM.pl).map Trm.text=[]):=fun h0=>by rw[h0];rfl
     obtain⟨h1,h2,h3,h4,h5,h6,h7,h8,h9,h10,h11⟩:=TOK
     have TXT:=hid (text_parts t.pl)
     unfold TrmM.pl at TXT
     obtain⟨nm,op,ver,qual,aa,ac,archs⟩:=t
     simp only at *
     have HZ:=hid h10
     have W1K:Hid (Blk (wr.alloc (.cells #[.string nm,.int .i64 op,.string ver,.string qual,.slice aa archs.length ac] 157)) wr.heap.size [.string nm,.int .i64 op,.string ver,.string qual,.slice aa archs.length ac]):=Blk.new wr _ _
     have W1B:Hid (Below w.heap.size w (wr.alloc (.cells #[.string nm,.int .i64 op,.string ver,.string qual,.slice aa archs.length ac] 157))):=HB1.out.alloc HB1.out.size _
     obtain⟨wh,hwh⟩:∃ wh,wr.heap.size=wh:=⟨_,rfl⟩
     clear ht he2 hA2 h1 h2 h3 h5 h6 h10
     have hq64:q≤63:=by omega
     go_upto_if 42 with(fail)
     generalize wr.alloc (.cells #[.string nm,.int .i64 op,.string ver,.string qual,.slice aa archs.length ac] 157)=W1 at W1K W1B ⊢
     obtain⟨c0,c1,c2,c3,c4,f0,f1,f2,f3,f4⟩:=W1K.out.five
     have hW1z:wr.heap.size<W1.heap.size:=W1K.out.sz
     rw[hwh] at c0 c1 c2 c3 c4 W1K hW1z
     clear he hix e0 e1 e2 e3 e4 hix2 f0 f1 f2 f3 f4 hwh
     go_cut [5] (fun v wx=>∃ S3:ByteArray,v=.string S3∧S3.size≤200000000000∧Hid (S3.size≤i*3000000002+5+q*36000000)∧W1=wx∧Hid (bl S3=bl S1++ahead (((g.ts.take q).map TrmM.pl).map Trm.text) [32,124,32]))
     case first=>
      by_cases q0:0<q
      ·have d0:decide ((0:Int)<(q:Int))=true:=decide_eq_true (by omega)
       have d1:decide (0<q)=true:=decide_eq_true q0
       have E:Hid (bl (S2++⟨#[32,124,32]⟩)=bl S1++ahead (((g.ts.take q).map TrmM.pl).map Trm.text) [32,124,32]):=by
        show _=_;rw[bl_append,HS2.out];unfold ahead;rw[if_neg (TTI.out q0),List.append_assoc];rfl
       have EZ:Hid ((S2++⟨#[32,124,32]⟩:ByteArray).size≤i*3000000002+5+q*36000000):=by have h1:=HS2Z.out;show _≤_;rw[sz_append];have:(⟨#[32,124,32]⟩:ByteArray).size=3:=rfl;omega
       go_wp2_with fail
       go_meet
       exact⟨_,rfl,num_le2 EZ.out hi64 hq64 (by decide),EZ,rfl,E⟩
      ·have d0:decide ((0:Int)<(q:Int))=false:=decide_eq_false (by omega)
       have d1:decide (0<q)=false:=decide_eq_false q0
       have E:Hid (bl S2=bl S1++ahead (((g.ts.take q).map TrmM.pl).map Trm.text) [32,124,32]):=by
        show _=_;rw[HS2.out,TTZ.out (by omega),join_none];rfl
       have EZ:Hid (S2.size≤i*3000000002+5+q*36000000):=Nat.le_trans HS2Z.out (Nat.add_le_add_right (Nat.add_le_add_left (by decide) _) _)
       go_wp2_with fail
       go_meet
       exact⟨S2,rfl,hS2,EZ,rfl,E⟩
     case rest=>
     obtain⟨S3,rfl,hS3,HS3Z,rfl,HS3⟩:=hcut
     clear hS2 HS2 HS2Z
     obtain⟨bq,hbq⟩:∃ bq,qual.toList.isEmpty=bq:=⟨_,rfl⟩
     have HBQ:Hid (decide (qual.size=0)=bq):=by show _=_;rw[←bl_isEmpty,←bl_toList];exact hbq
     go_upto_if 52 with(fail)
     clear hbq
     go_cut [5] (fun v wx=>∃ S4:ByteArray,v=.string S4∧S4.size≤200000000000∧Hid (S4.size≤i*3000000002+105+q*36000000)∧W1=wx∧Hid (bl S4=bl S3++bl nm++tQual (bl qual)))
     case first=>
      cases bq with
      | true=>
       have E:Hid (bl (S3++nm)=bl S3++bl nm++tQual (bl qual)):=by show _=_;rw[bl_append,bl_nil qual (of_decide_eq_true HBQ.out)];simp[tQual]
       have EZ:Hid ((S3++nm:ByteArray).size≤i*3000000002+105+q*36000000):=by have h1:=HS3Z.out;show _≤_;rw[sz_append];omega
       go_wp2_with fail
       go_meet
       exact⟨_,rfl,num_le2 EZ.out hi64 hq64 (by decide),EZ,rfl,E⟩
      | false=>
       have E:Hid (bl (S3++nm++⟨#[58]⟩++qual)=bl S3++bl nm++tQual (bl qual)):=by
        show _=_;simp only[bl_append];unfold tQual;rw[bl_isEmpty,HBQ.out,List.append_assoc (bl S3++bl nm)];rfl
       have EZ:Hid ((S3++nm++⟨#[58]⟩++qual:ByteArray).size≤i*3000000002+105+q*36000000):=by have h1:=HS3Z.out;show _≤_;simp only[sz_append];have:(⟨#[58]⟩:ByteArray).size=1:=rfl;omega
       have EN1:(S3++nm:ByteArray).size≤200000000100:=by rw[sz_append];omega
       have EN2:(S3++nm++⟨#[58]⟩:ByteArray).size≤200000000200:=by simp only[sz_append];have:(⟨#[58]⟩:ByteArray).size=1:=rfl;omega
       go_wp2_with fail
       go_meet
       exact⟨_,rfl,num_le2 EZ.out hi64 hq64 (by decide),EZ,rfl,E⟩
     case rest=>
     obtain⟨S4,rfl,hS4,HS4Z,rfl,HS4⟩:=hcut
     clear hS3 HS3Z
     have hsz:(dSign op).size≤2:=by rw[←bl_length,sgD_at op (by omega)];exact sgD_len _
     obtain⟨bo,hbo⟩:∃ bo,decide (0<op)=bo:=⟨_,rfl⟩
     have hbo2:decide ((0:Int)<(op:Int))=bo:=by rw[←hbo];congr 1;simp
     have HBO:=hid hbo
     go_upto_if 61 with(fail)
     clear hbo hbo2
     go_cut [5] (fun v wx=>∃ S5:ByteArray,v=.string S5∧S5.size≤200000000000∧Hid (S5.size≤i*3000000002+205+q*36000000)∧Hid (Below w.heap.size w wx)∧Hid (Blk wx wh [.string nm,.int .i64 op,.string ver,.string qual,.slice aa archs.length ac])∧Hid (bl S5=bl S4++tRel op (bl ver)))
     case first=>
      cases bo with
      | false=>
       have o0:op=0:=by have:=of_decide_eq_false HBO.out;omega
       have E:Hid (bl S4=bl S4++tRel op (bl ver)):=by show _=_;simp[tRel,o0]
       have EZ:Hid (S4.size≤i*3000000002+205+q*36000000):=Nat.le_trans HS4Z.out (Nat.add_le_add_right (Nat.add_le_add_left (by decide) _) _)
       clear o0
       go_wp2_with fail
       go_meet
       exact⟨S4,rfl,hS4,EZ,W1B,W1K,E⟩
      | true=>
       have o0:¬ op=0:=by have:=of_decide_eq_true HBO.out;omega
       have E:Hid (bl (S4++⟨#[32,40]⟩++dSign op++⟨#[32]⟩++ver++⟨#[41]⟩)=bl S4++tRel op (bl ver)):=by
        show _=_;simp only[bl_append];unfold tRel;rw[if_neg o0,sgD_at op (by omega)];simp only[List.append_assoc];rfl
       have EZ:Hid ((S4++⟨#[32,40]⟩++dSign op++⟨#[32]⟩++ver++⟨#[41]⟩:ByteArray).size≤i*3000000002+205+q*36000000):=by
        have h1:=HS4Z.out;show _≤_;rw[←bl_length,E.out,List.length_append,bl_length];have:=tRel_len op (bl ver);rw[bl_length] at this;omega
       have z1:(⟨#[32,40]⟩:ByteArray).size=2:=rfl
       have z2:(⟨#[32]⟩:ByteArray).size=1:=rfl
       have n1:(S4++⟨#[32,40]⟩:ByteArray).size≤200000000010:=by simp only[sz_append];omega
       have n2:(S4++⟨#[32,40]⟩++dSign op:ByteArray).size≤200000000020:=by simp only[sz_append];omega
       have n3:(S4++⟨#[32,40]⟩++dSign op++⟨#[32]⟩:ByteArray).size≤200000000030:=by simp only[sz_append];omega
       have n4:(S4++⟨#[32,40]⟩++dSign op++⟨#[32]⟩++ver:ByteArray).size≤200000000130:=by simp only[sz_append];omega
       have ho6:op<6:=by omega
       clear o0 z1 z2
       go_wp2_with fail
       have q1:=fun W=>run_string_add_sum (P:=Tryz.prog) (w:=W) S4 ⟨#[32,40]⟩ (by have:(⟨#[32,40]⟩:ByteArray).size=2:=rfl;omega)
       have q2:=fun W=>run_string_add_sum (P:=Tryz.prog) (w:=W) (S4++⟨#[32,40]⟩) (dSign op) (by omega)
       have q3:=fun W=>run_string_add_sum (P:=Tryz.prog) (w:=W) (S4++⟨#[32,40]⟩++dSign op) ⟨#[32]⟩ (by have:(⟨#[32]⟩:ByteArray).size=1:=rfl;omega)
       have q4:=fun W=>run_string_add_sum (P:=Tryz.prog) (w:=W) (S4++⟨#[32,40]⟩++dSign op++⟨#[32]⟩) ver (by omega)
       have q5:=fun W=>run_string_add_sum (P:=Tryz.prog) (w:=W) (S4++⟨#[32,40]⟩++dSign op++⟨#[32]⟩++ver) ⟨#[41]⟩ (by have:(⟨#[41]⟩:ByteArray).size=1:=rfl;omega)
       go_region_held3 (fun w'=>w'.cell? ⟨wh,1,none⟩=some (.int .i64 op)∧w'.cell? ⟨wh,2,none⟩=some (.string ver))
        (first
          | go_keep
          | exact⟨(hb5.cell (p:=⟨wh,1,none⟩) hW1z).trans c1,(hb5.cell (p:=⟨wh,2,none⟩) hW1z).trans c2⟩)
        ((go_at_call 211;refine(r14_relation op ho6 W1.drew).mono ?_;rintro e w5 ⟨rfl,hb5⟩))
       all_goals
        have B5:Hid (Below w.heap.size w w5):=bthen W1B.out (show Below W1.heap.size W1 w5 from⟨hb5.os,hb5.tape,hb5.output,hb5.size,hb5.block⟩)
        have K5:Hid (Blk w5 wh [.string nm,.int .i64 op,.string ver,.string qual,.slice aa archs.length ac]):=W1K.out.below (show Below W1.heap.size W1 w5 from⟨hb5.os,hb5.tape,hb5.output,hb5.size,hb5.block⟩)
        go_wp2_with fail
        go_meet
        exact⟨_,rfl,num_le2 EZ.out hi64 hq64 (by decide),EZ,B5,K5,E⟩
     case rest=>
     obtain⟨S5,rfl,hS5,HS5Z,B5,K5,HS5⟩:=hcut
     clear hS4 c0 c1 c2 c3 c4 W1K W1B hsz HBO HBQ
     have c4:=K5.out.five.c4
     go_wp2_with fail
     go_loop [5,9] (fun v j=>∃ (S6:ByteArray) (k5:Nat),v=.string S6∧j=.int .i64 k5∧k5≤archs.length∧S6.size≤201000000000∧Hid (S6.size≤S5.size+k5*35)∧Hid (bl S6=bl S5++archT ((archs.take k5).map bl))) (fun _ j=>archs.length-(intOf j).toNat)
     case atStart=>exact⟨S5,0,rfl,rfl,Nat.zero_le _,by omega,Nat.le_add_right _ _,by show _=_;simp[archT]⟩
     case round=>
      obtain⟨S6,j,rfl,rfl,hj,hS6,HS6Z,HS6⟩:=hrel
      by_cases hlt5:j<archs.length
      ·obtain⟨x,hx⟩:∃ x,archs[j]?=some x:=⟨_,List.getElem?_eq_getElem hlt5⟩
       obtain⟨b,off,hA,he⟩:=(TA.out.below B5.out).str j x hx
       have hix:=fun W=>idx_of (T:=22) (E:=9) (sz:=1) (c:=ac) Tryz.underlying22 rfl Tryz.sizeOf9 hA hlt5 W
       simp only[Nat.mul_one] at hix
       have hxz:=HZ.out x (List.mem_of_getElem? hx)
       have TJ:Hid ((archs.take (j+1)).map bl=(archs.take j).map bl++[bl x]):=by
        show _=_;obtain⟨hk',hf'⟩:=List.getElem?_eq_some_iff.1 hx;rw[List.take_succ_eq_append_getElem hk',hf'];simp
       clear hx hA
       by_cases j0:j=0
       ·have d0:((j:Int)==0)=true:=by simp[j0]
        have E:Hid (bl (S6++⟨#[32,91]⟩++x)=bl S5++archT ((archs.take (j+1)).map bl)):=by
         show _=_;rw[TJ.out,bl_append,bl_append,HS6.out,j0];simp only[List.take_zero,List.map_nil];rw[archT_first];simp[archT];rfl
        have EZ:Hid ((S6++⟨#[32,91]⟩++x:ByteArray).size≤S5.size+(j+1)*35):=by
         have h1:=HS6Z.out;show _≤_;simp only[sz_append];have:(⟨#[32,91]⟩:ByteArray).size=2:=rfl;omega
        have EN:Hid ((S6++⟨#[32,91]⟩++x:ByteArray).size≤201000000000):=by have h1:=EZ.out;show _≤_;omega
        have EN1:(S6++⟨#[32,91]⟩:ByteArray).size≤201000000002:=by simp only[sz_append];have:(⟨#[32,91]⟩:ByteArray).size=2:=rfl;omega
        clear j0
        go_wp2_with fail
        go_round
        case rel=>exact⟨_,j+1,rfl,by go_num,by omega,EN.out,EZ,E⟩
        case measure=>simp[intOf];omega
       ·have d0:((j:Int)==0)=false:=by simp;omega
        have E:Hid (bl (S6++⟨#[32]⟩++x)=bl S5++archT ((archs.take (j+1)).map bl)):=by
         show _=_;rw[TJ.out,bl_append,bl_append,HS6.out,archT_next _ _ (by intro e;rw[List.map_eq_nil_iff] at e;exact take_ne (by omega) (by omega) e)];simp only[List.append_assoc];rfl
        have EZ:Hid ((S6++⟨#[32]⟩++x:ByteArray).size≤S5.size+(j+1)*35):=by
         have h1:=HS6Z.out;show _≤_;simp only[sz_append];have:(⟨#[32]⟩:ByteArray).size=1:=rfl;omega
        have EN:Hid ((S6++⟨#[32]⟩++x:ByteArray).size≤201000000000):=by have h1:=EZ.out;show _≤_;omega
        have EN1:(S6++⟨#[32]⟩:ByteArray).size≤201000000002:=by simp only[sz_append];have:(⟨#[32]⟩:ByteArray).size=1:=rfl;omega
        clear j0
        go_wp2_with fail
        go_round
        case rel=>exact⟨_,j+1,rfl,by go_num,by omega,EN.out,EZ,E⟩
        case measure=>simp[intOf];omega
      ·have hja:j=archs.length:=by omega
       have TJ:Hid ((archs.take j).map bl=archs.map bl):=by show _=_;rw[hja,List.take_length]
       have FT:Hid (∀ X:List UInt8,X=bl S5++tArch (archs.map bl)→X=bl S1++Lib.join (((g.ts.take (q+1)).map TrmM.pl).map Trm.text) [32,124,32]):=by
        intro X hX
        rw[hX,TTK.out,join_ahead,HS5.out,HS4.out,HS3.out]
        have:=TXT.out
        simp only[TrmM.pl]
        rw[this]
        simp only[List.append_assoc]
       clear hja
       by_cases a0:archs.length=0
       ·have E:Hid (bl S6=bl S1++Lib.join (((g.ts.take (q+1)).map TrmM.pl).map Trm.text) [32,124,32]):=by
         refine FT.out _ ?_
         rw[HS6.out,TJ.out,List.length_eq_zero_iff.1 a0];rfl
        have EZ:Hid (S6.size≤i*3000000002+2+(q+1)*36000000):=by
         have h1:=HS6Z.out;have h2:=HS5Z.out;show _≤_;omega
        have EN:Hid (S6.size≤200000000000):=by have h1:=EZ.out;show _≤_;omega
        have a1:decide ((0:Int)<(archs.length:Int))=false:=decide_eq_false (by omega)
        have a2:decide (0<archs.length)=false:=decide_eq_false (by omega)
        clear a0
        go_wp2_with fail
        go_roundw
        case rel=>exact⟨S6,q+1,rfl,by go_num,by omega,EN.out,EZ,B5,E⟩
        case measure=>simp[intOf];omega
       ·have E:Hid (bl (S6++⟨#[93]⟩)=bl S1++Lib.join (((g.ts.take (q+1)).map TrmM.pl).map Trm.text) [32,124,32]):=by
         refine FT.out _ ?_
         rw[bl_append,HS6.out,TJ.out,tArch_T _ (by intro e;rw[List.map_eq_nil_iff] at e;rw[e] at a0;exact a0 rfl),List.append_assoc];rfl
        have EZ:Hid ((S6++⟨#[93]⟩:ByteArray).size≤i*3000000002+2+(q+1)*36000000):=by
         have h1:=HS6Z.out;have h2:=HS5Z.out;show _≤_;rw[sz_append];have:(⟨#[93]⟩:ByteArray).size=1:=rfl;omega
        have EN:Hid ((S6++⟨#[93]⟩:ByteArray).size≤200000000000):=by have h1:=EZ.out;show _≤_;omega
        have a1:decide ((0:Int)<(archs.length:Int))=true:=decide_eq_true (by omega)
        have a2:decide (0<archs.length)=true:=decide_eq_true (by omega)
        clear a0
        go_wp2_with fail
        go_roundw
        case rel=>exact⟨_,q+1,rfl,by go_num,by omega,EN.out,EZ,B5,E⟩
        case measure=>simp[intOf];omega
    ·have E:Hid (bl S2=Lib.join (((gs.take (i+1)).map GrpM.pl).map gText) [44,32]):=by
      have ht:g.ts.take q=g.ts:=List.take_of_length_le (by rw[HGL.out];omega)
      show _=_
      rw[TK.out,join_ahead,HS2.out,HS1.out,ht];rfl
     have EZ:Hid (S2.size≤(i+1)*3000000002):=by have h1:=HS2Z.out;show _≤_;omega
     go_wp2_with fail
     go_roundw
     case rel=>exact⟨S2,i+1,rfl,by go_num,by omega,hS2,EZ,HB1,E⟩
     case measure=>simp[intOf];omega
  ·have E:Hid (mkB (dText (gs.map GrpM.pl))=S):=by
    show _=_;symm;apply eq_mk;rw[HS.out,List.take_of_length_le (by omega)];rfl
   go_wp2_with fail
   go_ret2
   exact⟨by rw[E.out];rfl,HB.out⟩
end
section
open Go.RowKit Go.Deep
theorem wTxt (x:Wnt):x.text=(if x.no then [33] else [])++(x.name++sgA x.op++x.ver):=rfl
theorem r16_Print (A:Option Addr)(c:Nat)(L:List Wnt)(hL:∀ x∈L,x.right)(h64:L.length≤64)(w:World)(hr:Rd w 4 A L.length (L.flatMap Wnt.cells)):
  Calls Tryz.prog 153 #[.slice A L.length c] w fun e w'=>e=.returned (.tuple #[.string (mkB (aText L)),.int .i64 0])∧Below w.heap.size w w':=by
 have HR:=hid hr;have HL:=hid hL
 clear hr hL
 go_enter Tryz.func153,Tryz.ntmps153
 go_wp2_with fail
 refine(r16_Check A c L HL.out h64 w HR.out).mono ?_;rintro e w0 ⟨rfl,hb0⟩
 have HB0:=hid hb0;clear hb0
 go_wp2_with fail
 go_loopw [5,6] (fun v i wr=>∃ (S:ByteArray) (k:Nat),v=.string S∧i=.int .i64 k∧k≤L.length∧S.size≤10000∧Hid (S.size≤k*132)∧Hid (Below w.heap.size w wr)∧Hid (bl S=Lib.join ((L.take k).map Wnt.text) [32])) (fun _ i _=>L.length-(intOf i).toNat)
 case atStart=>exact⟨⟨#[]⟩,0,rfl,rfl,Nat.zero_le _,(by show(0:Nat)≤_;omega),(by show(0:Nat)≤_;omega),HB0,by show _=_;simp[join_none];rfl⟩
 case round=>
  obtain⟨S,i,rfl,rfl,hi,hSz,HSZ,HB,HS⟩:=hrel
  by_cases hlt:i<L.length
  ·obtain⟨x,hx⟩:∃ x,L[i]?=some x:=⟨_,List.getElem?_eq_getElem hlt⟩
   obtain⟨b,off,hA,he⟩:=(HR.out.below HB.out).elem wnt_len i x hx
   have e0:=he 0 _ rfl
   have e1:=he 1 _ rfl
   have e2:=he 2 _ rfl
   have e3:=he 3 _ rfl
   simp only[Nat.add_zero] at e0
   have hbl:=World.block_lt_of_cell? _ _ e0
   have hix:=fun W=>idx_of (T:=125) (E:=172) (sz:=4) (c:=c) Tryz.underlying125 rfl Tryz.sizeOf172 hA hlt W
   have HX:=hid (HL.out x (List.mem_of_getElem? hx))
   have h7:x.op<7:=by have:=HX.out.2.1;omega
   have TK:Hid ((L.take (i+1)).map Wnt.text=(L.take i).map Wnt.text++[x.text]):=by
    show _=_;obtain⟨hk',hf'⟩:=List.getElem?_eq_some_iff.1 hx;rw[List.take_succ_eq_append_getElem hk',hf'];simp
   have TI:Hid (0<i→(L.take i).map Wnt.text≠[]):=fun h0=>by
    have:=take_ne h0 (by omega:i≤L.length)
    intro e;rw[List.map_eq_nil_iff] at e;exact this e
   have TZ:Hid (i=0→(L.take i).map Wnt.text=[]):=fun h0=>by rw[h0];rfl
   have s1:(mkB x.name).size≤64:=by rw[mk_size];exact HX.out.sizes.1
   have s2:(mkB x.ver).size≤64:=by rw[mk_size];exact HX.out.sizes.2
   have s3:(aSign x.op).size≤2:=by rw[←bl_length,sgA_at x.op h7];exact sgA_len _
   have hi64:i≤63:=by omega
   clear hx he hA
   go_upto_if 19 with(fail)
   go_cut [5] (fun v wx=>∃ S1:ByteArray,v=.string S1∧S1.size≤10001∧Hid (S1.size≤i*132+1)∧wr=wx∧Hid (bl S1=ahead ((L.take i).map Wnt.text) [32]))
   case first=>
    by_cases i0:0<i
    ·have d0:decide ((0:Int)<(i:Int))=true:=decide_eq_true (by omega)
     have d1:decide (0<i)=true:=decide_eq_true i0
     have E:Hid (bl (S++⟨#[32]⟩)=ahead ((L.take i).map Wnt.text) [32]):=by
      show _=_;rw[bl_append,HS.out];unfold ahead;rw[if_neg (TI.out i0)];rfl
     have EZ:Hid ((S++⟨#[32]⟩:ByteArray).size≤i*132+1):=by have h1:=HSZ.out;show _≤_;rw[sz_append];have:(⟨#[32]⟩:ByteArray).size=1:=rfl;omega
     have EN:Hid ((S++⟨#[32]⟩:ByteArray).size≤10001):=by have h1:=EZ.out;show _≤_;omega
     go_wp2_with fail
     go_meet
     exact⟨_,rfl,EN.out,EZ,rfl,E⟩
    ·have d0:decide ((0:Int)<(i:Int))=false:=decide_eq_false (by omega)
     have d1:decide (0<i)=false:=decide_eq_false i0
     have E:Hid (bl S=ahead ((L.take i).map Wnt.text) [32]):=by
      show _=_;rw[HS.out,TZ.out (by omega),join_none];rfl
     have EZ:Hid (S.size≤i*132+1):=Nat.le_trans HSZ.out (Nat.le_add_right _ _)
     go_wp2_with fail
     go_meet
     exact⟨S,rfl,by omega,EZ,rfl,E⟩
   case rest=>
   obtain⟨S1,rfl,hS1,HS1Z,rfl,HS1⟩:=hcut
   clear hSz HS HSZ
   obtain⟨bn,hbn⟩:∃ bn,x.no=bn:=⟨_,rfl⟩
   have HBN:=hid hbn
   rw[hbn] at e0
   clear hbn
   go_upto_if 26 with(fail)
   go_cut [5] (fun v wx=>∃ S2:ByteArray,v=.string S2∧S2.size≤10002∧Hid (S2.size≤i*132+2)∧wr=wx∧Hid (bl S2=bl S1++(if x.no then [33] else [])))
   case first=>
    cases bn with
    | true=>
     have E:Hid (bl (S1++⟨#[33]⟩)=bl S1++(if x.no then [33] else [])):=by show _=_;rw[bl_append,HBN.out];rfl
     have EZ:Hid ((S1++⟨#[33]⟩:ByteArray).size≤i*132+2):=by have h1:=HS1Z.out;show _≤_;rw[sz_append];have:(⟨#[33]⟩:ByteArray).size=1:=rfl;omega
     have EN:Hid ((S1++⟨#[33]⟩:ByteArray).size≤10002):=by have h1:=EZ.out;show _≤_;omega
     go_wp2_with fail
     go_meet
     exact⟨_,rfl,EN.out,EZ,rfl,E⟩
    | false=>
     have E:Hid (bl S1=bl S1++(if x.no then [33] else [])):=by show _=_;rw[HBN.out];simp
     have EZ:Hid (S1.size≤i*132+2):=Nat.le_trans HS1Z.out (Nat.le_succ _)
     go_wp2_with fail
     go_meet
     exact⟨S1,rfl,by omega,EZ,rfl,E⟩
   case rest=>
   obtain⟨S2,rfl,hS2,HS2Z,rfl,HS2⟩:=hcut
   clear hS1 HS1Z e0 HBN
   have n1:(S2++mkB x.name:ByteArray).size≤10070:=by simp only[sz_append];omega
   have n2:(S2++mkB x.name++aSign x.op:ByteArray).size≤10080:=by simp only[sz_append];omega
   have E:Hid (bl (S2++mkB x.name++aSign x.op++mkB x.ver)=Lib.join ((L.take (i+1)).map Wnt.text) [32]):=by
    show _=_;rw[TK.out,join_ahead,←HS1.out,wTxt];simp only[bl_append,bl_of];rw[HS2.out,sgA_at x.op h7];simp only[List.append_assoc]
   have EZ:Hid ((S2++mkB x.name++aSign x.op++mkB x.ver:ByteArray).size≤(i+1)*132):=by have h1:=HS2Z.out;show _≤_;simp only[sz_append];omega
   have EN:Hid ((S2++mkB x.name++aSign x.op++mkB x.ver:ByteArray).size≤10000):=by have h1:=EZ.out;show _≤_;omega
   have q1:=fun W=>run_string_add_sum (P:=Tryz.prog) (w:=W) S2 (mkB x.name) (by omega)
   have q2:=fun W=>run_string_add_sum (P:=Tryz.prog) (w:=W) (S2++mkB x.name) (aSign x.op) (by omega)
   have q3:=fun W=>run_string_add_sum (P:=Tryz.prog) (w:=W) (S2++mkB x.name++aSign x.op) (mkB x.ver) (by omega)
   go_wp2_with fail
   go_region_held3 (fun w'=>w'.cell? ⟨b,off+i*4+1,none⟩=some (.string (mkB x.name))∧w'.cell? ⟨b,off+i*4+2,none⟩=some (.int .i64 x.op)∧w'.cell? ⟨b,off+i*4+3,none⟩=some (.string (mkB x.ver)))
    (first
      | go_keep
      | exact⟨(hb5.cell (p:=⟨b,off+i*4+1,none⟩) hbl).trans e1,(hb5.cell (p:=⟨b,off+i*4+2,none⟩) hbl).trans e2,(hb5.cell (p:=⟨b,off+i*4+3,none⟩) hbl).trans e3⟩)
    ((go_at_call 218;refine(r16_sign x.op h7 wr.drew).mono ?_;rintro e w5 ⟨rfl,hb5⟩))
   all_goals
    have B5:Hid (Below w.heap.size w w5):=bthen HB.out (show Below wr.heap.size wr w5 from⟨hb5.os,hb5.tape,hb5.output,hb5.size,hb5.block⟩)
    go_wp2_with fail
    go_roundw
    case rel=>exact⟨_,i+1,rfl,by go_num,by omega,EN.out,EZ,B5,E⟩
    case measure=>simp[intOf];omega
  ·have E:Hid (mkB (aText L)=S):=by
    show _=_;symm;apply eq_mk;rw[HS.out,List.take_of_length_le (by omega)];rfl
   go_wp2_with fail
   go_ret2
   exact⟨by rw[E.out];rfl,HB.out⟩
end
section
open Go.RowKit Go.Deep
theorem tail_next (op:List UInt8)(ks:List RchM)(i:Nat)(t:RchM)(ht:ks[i]?=some t):rTail op 0 (plL (ks.take (i+1)))=rTail op 0 (plL (ks.take i))++((if i=0 then [] else [32]++rWd op i++[32])++rText t.pl):=by
 obtain⟨hk,hg⟩:=List.getElem?_eq_some_iff.1 ht
 rw[List.take_succ_eq_append_getElem hk,hg,plL_append',rTail_append,plL_length',List.length_take,Nat.min_eq_left (by omega)]
 simp[plL,rTail]
theorem r15_text_atom (nm:ByteArray)(aop:Nat)(ver:ByteArray)(hn:rnameB (bl nm)=true)(ho:aop≤5)(hv:0<aop→verE 2 ver=0)(w:World):
  Calls Tryz.prog 216 #[.agg #[.string ⟨#[]⟩,.string nm,.int .i64 aop,.string ver,.slice none 0 0]] w fun e w'=>e=.returned (.string (mkB (rText (.atom (bl nm) aop (bl ver)))))∧Below w.heap.size w w':=by
 have hnz:=(rname_len hn).2
 have HV:=hid hv
 clear hn hv
 obtain⟨W1,hW1⟩:∃ W1,w.alloc (.cells #[.string ⟨#[]⟩,.string nm,.int .i64 aop,.string ver,.slice none 0 0] 121)=W1:=⟨_,rfl⟩
 have B1:Hid (Below w.heap.size w W1):=by rw[←hW1];exact(Below.refl _ _).alloc lr _
 have K1:Hid (Blk W1 w.heap.size [.string ⟨#[]⟩,.string nm,.int .i64 aop,.string ver,.slice none 0 0]):=by rw[←hW1];exact Blk.new w [.string ⟨#[]⟩,.string nm,.int .i64 aop,.string ver,.slice none 0 0] _
 have k0:=K1.out.cell 0 _ rfl
 have k1:=K1.out.cell 1 _ rfl
 have k2:=K1.out.cell 2 _ rfl
 have k3:=K1.out.cell 3 _ rfl
 by_cases a0:aop=0
 ·have q0:((aop:Int)==0)=true:=by simp[a0]
  have E:Hid (bl nm=rText (.atom (bl nm) aop (bl ver))):=by show _=_;simp[rText,a0]
  clear a0
  go_enter Tryz.func216,Tryz.ntmps216
  go_wp2_with fail
  go_ret
  exact⟨by rw[←eq_mk E.out];rfl,B1.out⟩
 ·have q0:((aop:Int)==0)=false:=by simp;omega
  have hvz:=ver_size (HV.out (by omega))
  have hsz:(rSign aop).size≤2:=by rw[←bl_length,rSign_at aop (by omega)];exact sgR_len _
  have E:Hid (bl (nm++⟨#[32]⟩++rSign aop++⟨#[32]⟩++ver)=rText (.atom (bl nm) aop (bl ver))):=by
   show _=_;simp only[bl_append];unfold rText;rw[if_neg a0,rSign_at aop (by omega)];rfl
  have ho6:aop<6:=by omega
  have hbl:w.heap.size<W1.heap.size:=K1.out.sz
  have h32:(⟨#[32]⟩:ByteArray).size=1:=rfl
  have n1:(nm++⟨#[32]⟩:ByteArray).size≤70:=by simp only[sz_append];omega
  have n2:(nm++⟨#[32]⟩++rSign aop:ByteArray).size≤80:=by simp only[sz_append];omega
  have n3:(nm++⟨#[32]⟩++rSign aop++⟨#[32]⟩:ByteArray).size≤90:=by simp only[sz_append];omega
  have q1:=fun W=>run_string_add_sum (P:=Tryz.prog) (w:=W) nm ⟨#[32]⟩ (by omega)
  have q2:=fun W=>run_string_add_sum (P:=Tryz.prog) (w:=W) (nm++⟨#[32]⟩) (rSign aop) (by omega)
  have q3:=fun W=>run_string_add_sum (P:=Tryz.prog) (w:=W) (nm++⟨#[32]⟩++rSign aop) ⟨#[32]⟩ (by omega)
  have q4:=fun W=>run_string_add_sum (P:=Tryz.prog) (w:=W) (nm++⟨#[32]⟩++rSign aop++⟨#[32]⟩) ver (by omega)
  clear a0 h32
  go_enter Tryz.func216,Tryz.ntmps216
  go_wp2_with fail
  go_region_held3 (fun w'=>w'.cell? ⟨w.heap.size,1,none⟩=some (.string nm)∧w'.cell? ⟨w.heap.size,2,none⟩=some (.int .i64 aop)∧w'.cell? ⟨w.heap.size,3,none⟩=some (.string ver))
   (first
     | go_keep
     | exact⟨(hb5.cell (p:=⟨w.heap.size,1,none⟩) hbl).trans k1,(hb5.cell (p:=⟨w.heap.size,2,none⟩) hbl).trans k2,(hb5.cell (p:=⟨w.heap.size,3,none⟩) hbl).trans k3⟩)
   ((go_at_call 261;refine(r15_sign aop ho6 W1.drew).mono ?_;rintro e w5 ⟨rfl,hb5⟩))
  all_goals
   have B5:Hid (Below w.heap.size w w5):=bthen B1.out (show Below W1.heap.size W1 w5 from⟨hb5.os,hb5.tape,hb5.output,hb5.size,hb5.block⟩)
   go_wp2_with fail
   go_ret
   exact⟨by rw[←eq_mk E.out];rfl,B5.out⟩
def RTxC (T:RchM):Prop:=∀ w:World,TOwn w 0 none T→T.cnt≤64→Calls Tryz.prog 216 #[T.val] w fun e w'=>e=.returned (.string (mkB (rText T.pl)))∧Below w.heap.size w w'
theorem r15_text {T:RchM}(h:TGood T):RTxC T:=by
 induction h with
 | atom nm aop ver hn ho hv0 hv=>
  intro w _ _
  rw[pl_atom _ _ _ _ _ _ _ rfl]
  exact r15_text_atom nm aop ver hn ho hv w
 | node op ka kc kids ho hc hk ih=>
  intro w hO hcn
  have HO:=hid hO
  have HIH:=hid ih
  have HGD:=hid hk
  have HCL:=hid hc
  obtain⟨hw,hw7⟩:=word_ne ho
  have HW7:=hid hw7
  have hop7:op.size≤7:=by rw[←bl_length];exact hw7
  have o0:(op.toList==([]:List UInt8))=false:=by rw[bl_toList,beq_eq_false_iff_ne];exact hw
  have o2:¬ op.toList=[]:=by rw[bl_toList];exact hw
  have o1:op.toList.isEmpty=false:=by rw[List.isEmpty_eq_false_iff];exact o2
  obtain⟨tl,htl⟩:∃ tl,kids.length=tl:=⟨_,rfl⟩
  have HTL:=hid htl
  have ht2:2≤tl:=by have:=closes_two hc;omega
  have CNE:=hid (cnt_node (t:=.mk op ⟨#[]⟩ 0 ⟨#[]⟩ ka kc kids) (by intro e;simp only[RchM.kids] at e;rw[e] at htl;simp at htl;omega))
  have HCN:Hid (cntL kids≤64):=by have h1:=CNE.out;simp only[RchM.kids] at h1;show _≤_;omega
  have htl9:tl≤64:=by have h1:=cntL_len kids;have:=HCN.out;omega
  have HIF:Hid (bl op=wIf∨bl op=wUnless→tl≤3):=fun h=>by
   have h1:=of_decide_eq_true hc
   rw[htl] at h1
   rcases h1 with⟨h2,_⟩ | ⟨_,h2⟩ | ⟨h2,_⟩
   ·rcases h with h | h<;>rw[h] at h2<;>simp[wIf,wUnless,wAnd,wOr] at h2
   ·omega
   ·rcases h with h | h<;>rw[h] at h2<;>simp[wIf,wUnless,wWith,wWithout] at h2
  obtain⟨W1,hW1⟩:∃ W1,w.alloc (.cells #[.string op,.string ⟨#[]⟩,.int .i64 0,.string ⟨#[]⟩,.slice ka tl kc] 121)=W1:=⟨_,rfl⟩
  have B1:Hid (Below w.heap.size w W1):=by rw[←hW1];exact(Below.refl _ _).alloc lr _
  have K1:Hid (Blk W1 w.heap.size [.string op,.string ⟨#[]⟩,.int .i64 0,.string ⟨#[]⟩,.slice ka tl kc]):=by rw[←hW1];exact Blk.new w [.string op,.string ⟨#[]⟩,.int .i64 0,.string ⟨#[]⟩,.slice ka tl kc] _
  have k0:=K1.out.cell 0 _ rfl
  have TS:Hid (∀ t∈kids,(mkB (rText t.pl)).size≤12800):=fun t ht=>by
   have h1:=(HGD.out t ht).text;have h2:=cntL_mem ht;have:=HCN.out;rw[mk_size];omega
  have PS:Hid (∀ i,(rTail (bl op) 0 (plL (kids.take i))).length≤12800):=fun i=>by
   have h1:=rTail_len (bl op) HW7.out (kids.take i) 0 (fun k hk=>(HGD.out k (List.mem_of_mem_take hk)).text)
   have h2:=cntL_take_le kids i;have:=HCN.out;omega
  rw[pl_node _ _ _ _ _ _ _ hw]
  clear ho hc hk ih hO hw hw7 htl hcn CNE
  show Calls Tryz.prog 216 #[.agg #[.string op,.string ⟨#[]⟩,.int .i64 0,.string ⟨#[]⟩,.slice ka kids.length kc]] w _
  rw[HTL.out]
  go_enter Tryz.func216,Tryz.ntmps216
  go_wp2_with fail
  clear hW1 k0
  go_loopw [3,4] (fun sv iv wr=>∃ (i:Nat) (S:ByteArray),sv=.string S∧iv=.int .i64 i∧i≤tl∧S.size≤12900∧Hid (bl S=[40]++rTail (bl op) 0 (plL (kids.take i)))∧Hid (Below w.heap.size w wr)∧Hid (Blk wr w.heap.size [.string op,.string ⟨#[]⟩,.int .i64 0,.string ⟨#[]⟩,.slice ka tl kc])) (fun _ iv _=>tl-(intOf iv).toNat)
  case atStart=>exact⟨0,_,rfl,rfl,Nat.zero_le _,by decide,by show _=_;simp[plL,rTail];rfl,B1,K1⟩
  case round=>
   clear B1 K1
   obtain⟨i,S,rfl,rfl,hi,hS,HS,HB,HK⟩:=hrel
   have b0:=HK.out.cell 0 _ rfl
   have b4:=HK.out.cell 4 _ rfl
   by_cases hlt:i<tl
   ·go_upto_if 38 with(fail)
    obtain⟨wo,rfl⟩:∃ wo:World,wo=wr:=⟨_,rfl⟩
    go_cut [3] (fun v wx=>∃ S1:ByteArray,v=.string S1∧S1.size≤13000∧Hid (bl S1=bl S++(if i=0 then [] else [32]++rWd (bl op) i++[32]))∧wo=wx)
    case first=>
     by_cases i0:i=0
     ·have q1:decide ((0:Int)<(i:Int))=false:=decide_eq_false (by omega)
      have q2:decide (0<i)=false:=decide_eq_false (by omega)
      have E:Hid (bl S=bl S++(if i=0 then [] else [32]++rWd (bl op) i++[32])):=by show _=_;rw[if_pos i0,List.append_nil]
      have q3:¬ 0<i:=by omega
      clear i0
      go_wp2_with fail
      go_meet
      exact⟨S,rfl,by omega,E,rfl⟩
     ·have q1:decide ((0:Int)<(i:Int))=true:=decide_eq_true (by omega)
      have q2:decide (0<i)=true:=decide_eq_true (by omega)
      obtain⟨bb,hbb⟩:∃ bb:Bool,decide (i=2∧(bl op=wIf∨bl op=wUnless))=bb:=⟨_,rfl⟩
      have HBB:=hid hbb
      have I0:=HidN.mk i0
      have q0:0<i:=by omega
      clear hbb i0
      go_upto_region 11 with(fail)
      go_cut [50] (fun v wx=>v=.bool bb∧wo=wx)
      case first=>
       by_cases i2:i=2
       ·have q3:((i:Int)==2)=true:=by simp[i2]
        by_cases w1:bl op=wIf
        ·have F1:op.toList=[105,102]:=by rw[bl_toList];exact w1
         have E2:Hid (bb=true):=by show _=_;rw[←HBB.out];exact decide_eq_true ⟨i2,.inl w1⟩
         clear w1 o0 o1 o2 i2
         go_wp2_with fail
         go_meet
         exact⟨by rw[E2.out],rfl⟩
        ·have F1:(op.toList==([105,102]:List UInt8))=false:=by rw[bl_toList,beq_eq_false_iff_ne];exact w1
         by_cases w2:bl op=wUnless
         ·have F2:op.toList=[117,110,108,101,115,115]:=by rw[bl_toList];exact w2
          have E2:Hid (bb=true):=by show _=_;rw[←HBB.out];exact decide_eq_true ⟨i2,.inr w2⟩
          clear w1 w2 o0 o1 o2 F1 i2
          go_wp2_with fail
          go_meet
          exact⟨by rw[E2.out],rfl⟩
         ·have F2:(op.toList==([117,110,108,101,115,115]:List UInt8))=false:=by rw[bl_toList,beq_eq_false_iff_ne];exact w2
          have E2:Hid (bb=false):=by show _=_;rw[←HBB.out];exact decide_eq_false (by rintro⟨_,h | h⟩<;>contradiction)
          clear w1 w2 o0 o1 o2 i2
          go_wp2_with fail
          go_meet
          exact⟨by rw[E2.out],rfl⟩
       ·have q3:((i:Int)==2)=false:=by simp;omega
        have E2:Hid (bb=false):=by show _=_;rw[←HBB.out];exact decide_eq_false (fun h=>i2 h.1)
        clear i2
        go_wp2_with fail
        go_meet
        exact⟨by rw[E2.out],rfl⟩
      case rest=>
      obtain⟨rfl,rfl⟩:=hcut
      have RW:Hid (rWd (bl op) i=if bb then wElse else bl op):=by
       have h1:=HBB.out;have h2:=HIF.out
       show _=_;unfold rWd
       cases bb with
       | true=>have:=of_decide_eq_true h1;rw[if_pos ⟨by omega,this.2⟩,if_pos rfl]
       | false=>
        have:=of_decide_eq_false h1
        rw[if_neg (fun h=>this ⟨by have:=h2 h.2;omega,h.2⟩),if_neg (by simp)]
      cases bb with
      | true=>
       have E:Hid (bl (S++⟨#[32]⟩++⟨#[101,108,115,101]⟩++⟨#[32]⟩)=bl S++(if i=0 then [] else [32]++rWd (bl op) i++[32])):=by
        show _=_;rw[if_neg I0.out,RW.out,if_pos rfl];simp only[bl_append,List.append_assoc];rfl
       have hz:(S++⟨#[32]⟩++⟨#[101,108,115,101]⟩++⟨#[32]⟩:ByteArray).size≤13000:=by
        simp only[sz_append];have h1:(⟨#[32]⟩:ByteArray).size=1:=rfl;have h2:(⟨#[101,108,115,101]⟩:ByteArray).size=4:=rfl;omega
       have HZ:=hid hz
       clear hz
       go_wp2_with fail
       go_meet
       exact⟨_,rfl,HZ.out,E,rfl⟩
      | false=>
       have E:Hid (bl (S++⟨#[32]⟩++op++⟨#[32]⟩)=bl S++(if i=0 then [] else [32]++rWd (bl op) i++[32])):=by
        show _=_;rw[if_neg I0.out,RW.out,if_neg (by simp)];simp only[bl_append,List.append_assoc];rfl
       have hz:(S++⟨#[32]⟩++op++⟨#[32]⟩:ByteArray).size≤13000:=by
        simp only[sz_append];have h1:(⟨#[32]⟩:ByteArray).size=1:=rfl;omega
       have HZ:=hid hz
       clear hz
       go_wp2_with fail
       go_meet
       exact⟨_,rfl,HZ.out,E,rfl⟩
    case rest=>
    obtain⟨S1,rfl,hS1,HS1,rfl⟩:=hcut
    obtain⟨t,ht⟩:∃ t,kids[i]?=some t:=⟨_,List.getElem?_eq_getElem (by rw[HTL.out];exact hlt)⟩
    have htm:Hid (t∈kids):=List.mem_of_getElem? ht
    have TN:=hid (tail_next (bl op) kids i t ht)
    have O2:=HO.out.low HB.out
    obtain⟨b',off,hA,he⟩:=O2.rd.cell i t ht
    have e0:=he 0 _ rfl
    have e1:=he 1 _ rfl
    have e2:=he 2 _ rfl
    have e3:=he 3 _ rfl
    have e4:=he 4 _ rfl
    simp only[Nat.add_zero] at e0
    have hix:=fun W=>idx_of (T:=119) (E:=121) (sz:=5) (n:=tl) (c:=kc) (A:=ka) Tryz.underlying119 rfl Tryz.sizeOf121 hA hlt W
    have hcall:=HIH.out t htm.out wo (O2.kids t htm.out) (by have h1:=cntL_mem htm.out;have:=HCN.out;omega)
    have hz:=TS.out t htm.out
    obtain⟨X,hX⟩:∃ X,mkB (rText t.pl)=X:=⟨_,rfl⟩
    rw[hX] at hcall hz
    have HX:Hid (bl X=rText t.pl):=by show _=_;rw[←hX,bl_of]
    have SN:Hid (bl (S1++X)=[40]++rTail (bl op) 0 (plL (kids.take (i+1)))):=by
     show _=_;rw[TN.out,bl_append,HS1.out,HS.out,HX.out];simp only[List.append_assoc]
    have HSN:Hid ((S1++X:ByteArray).size≤12900):=by have h:=PS.out (i+1);show _≤_;rw[←bl_length,SN.out,List.length_append];simp;omega
    unfold RchM.val at hcall
    clear ht hA he O2 hX
    go_wp2_with fail
    refine hcall.mono ?_;rintro e w4 ⟨rfl,hb⟩
    have B5:=hid (bthen HB.out hb)
    have K5:=hid (HK.out.below hb)
    clear hcall hb e0 e1 e2 e3 e4 hix b0 b4
    go_wp2_with fail
    go_roundw
    case rel=>exact⟨i+1,_,rfl,by go_num,by omega,HSN.out,SN,B5,K5⟩
    case measure=>simp[intOf];omega
   ·have E:Hid (bl (S++⟨#[41]⟩)=rText (.node (bl op) (plL kids))):=by
     have h1:=HS.out
     rw[List.take_of_length_le (by rw[HTL.out];omega)] at h1
     show _=_;rw[bl_append,h1];rfl
    go_wp2_with fail
    go_ret
    exact⟨by rw[←eq_mk E.out];rfl,HB.out⟩
end
section
open Go.RowKit Go.Deep
theorem rparse_res (tmps:Array Value){W:World}{s:Nat}(h:TwoC W s)(h2:tmps[2]?=some (.pointer (some ⟨s,0,none⟩)))(h3:tmps[3]?=some (.pointer (some ⟨s+1,0,none⟩)))(v0 v1 v2 v3 v4 u0 u1 u2:Value)
  (hv:v0.oneCell'=true∧v1.oneCell'=true∧v2.oneCell'=true∧v3.oneCell'=true∧v4.oneCell'=true∧u0.oneCell'=true∧u1.oneCell'=true∧u2.oneCell'=true):
  (results Tryz.f150 tmps).run Tryz.prog (put8 W s v0 v1 v2 v3 v4 u0 u1 u2)=.ok (.tuple #[.agg #[v0,v1,v2,v3,v4],.agg #[u0,u1,u2]]) (put8 W s v0 v1 v2 v3 v4 u0 u1 u2):=by
 obtain⟨x0,x1,x2,x3,x4,y0,y1,y2,_,_,_,_,_,_,_,_⟩:=h
 simp(maxDischargeDepth:=10) [results,Tryz.results150,h2,h3,go_sem,x0,x1,x2,x3,x4,y0,y1,y2]
theorem rparse_resD (tmps:Array Value){W:World}{s:Nat}(h:TwoC W s)(h2:tmps[2]?=some (.pointer (some ⟨s,0,none⟩)))(h3:tmps[3]?=some (.pointer (some ⟨s+1,0,none⟩)))(v0 v1 v2 v3 v4 u0 u1 u2:Value)
  (hv:v0.oneCell'=true∧v1.oneCell'=true∧v2.oneCell'=true∧v3.oneCell'=true∧v4.oneCell'=true∧u0.oneCell'=true∧u1.oneCell'=true∧u2.oneCell'=true):
  (results Tryz.f150 tmps).run Tryz.prog (put8 W s v0 v1 v2 v3 v4 u0 u1 u2).drew=.ok (.tuple #[.agg #[v0,v1,v2,v3,v4],.agg #[u0,u1,u2]]) (put8 W s v0 v1 v2 v3 v4 u0 u1 u2).drew:=by
 obtain⟨x0,x1,x2,x3,x4,y0,y1,y2,_,_,_,_,_,_,_,_⟩:=h
 simp(maxDischargeDepth:=10) [results,Tryz.results150,h2,h3,go_sem,x0,x1,x2,x3,x4,y0,y1,y2]
theorem r15_Parse (s:ByteArray)(w:World)(hs:s.size≤1000000):
  Calls Tryz.prog 150 #[.string s] w (RParsePost s w):=by
 obtain⟨W0,hW0⟩:∃ W0,(w.alloc (.cells #[.string ⟨#[]⟩,.string ⟨#[]⟩,.int .i64 0,.string ⟨#[]⟩,.slice none 0 0] 121)).alloc (.cells #[.string ⟨#[]⟩,.int .i64 0,.int .i64 0] 114)=W0:=⟨_,rfl⟩
 have T0:Hid (Two W0 w.heap.size):=by rw[←hW0];exact Two.new w _ _
 have B0:Hid (Below w.heap.size w W0):=by rw[←hW0];exact((Below.refl _ _).alloc lr _).alloc (by simp) _
 have Z0:Hid (W0.heap.size=w.heap.size+2):=by rw[←hW0];show _=_;simp
 obtain⟨W1,hW1⟩:∃ W1,W0.alloc (.cells #[.string s,.int .i64 0,.string ⟨#[]⟩,.int .i64 0,.int .i64 0,.int .i64 0] 248)=W1:=⟨_,rfl⟩
 have X1:Hid (RX W1 W0.heap.size s 0 0 0):=by rw[←hW1];exact⟨⟨⟨#[]⟩,0,Blk.new W0 [.string s,.int .i64 0,.string ⟨#[]⟩,.int .i64 0,.int .i64 0,.int .i64 0] _⟩,Nat.zero_le _⟩
 have B1:Hid (Below w.heap.size w W1):=by rw[←hW1];exact B0.out.alloc B0.out.size _
 have T1:Hid (Two W1 w.heap.size):=by rw[←hW1];exact T0.out.below ((Below.refl _ _).alloc lr _)
 have hD:=r15_dep (2*(bl s).length+2) W0.heap.size s 0 0 0 W1 (by omega) (by simp) X1.out (by omega) (by omega)
 have hD:=Calls.int hD (args':=#[.pointer (some ⟨W0.heap.size,0,none⟩),.int .i64 0]) rfl
 rw[List.drop_zero] at hD
 go_enter Tryz.func150,Tryz.ntmps150
 go_wp2_with fail
 clear hW0 hW1
 refine hD.mono ?_;rintro e w2 ⟨hg,T,rfl,hpost⟩
 clear hD
 have T2:=hid (T1.out.off hg (by have:=Z0.out;omega))
 have B2:=hid (below_grown B1.out hg (by have:=Z0.out;omega))
 have Z2:Hid (w.heap.size+2≤w2.heap.size):=by have:=X1.out.sz;have:=hg.size;have:=Z0.out;show _≤_;omega
 have ZA:Hid (w.heap.size+2=W0.heap.size):=Z0.out.symm
 have HCV:Hid (W1.heap.size≤w2.heap.size):=hg.size
 obtain⟨W3,hW3⟩:∃ W3,w2.alloc (.cells T.cells.toArray 121)=W3:=⟨_,rfl⟩
 have B3:Hid (Below w2.heap.size w2 W3):=by rw[←hW3];exact(Below.refl _ _).alloc lr _
 have D3:Hid (Blk W3 w2.heap.size T.cells):=by rw[←hW3];exact Blk.new w2 T.cells _
 have T3:=hid (T2.out.below B3.out)
 have B4:=hid (bthen B2.out B3.out)
 have HW3:=hid hW3
 have HPST:=hid hpost
 clear hW3 hg hpost T1 T2 B1
 unfold RchM.val
 go_upto_region 3 with(fail)
 have hW4:w2.alloc (.cells #[.string T.op,.string T.nm,.int .i64 T.aop,.string T.ver,.slice T.ka T.kids.length T.kc] 121)=W3:=HW3.out
 rw[hW4]
 clear hW4 HW3
 have hpost:=HPST.out
 cases hr:rDep (2*(bl s).length+2) 0 0 (bl s) with
 | none=>
  rw[hr] at hpost
  obtain⟨p',n',c',hc,hx⟩:=hpost
  have EN:=hid (rParse_none hr)
  have X3:=hid (hx.below B3.out)
  have hc1:(c' != 0)=true:=by simp[hc]
  have HC:=HidN.mk hc
  clear hr hc hx HPST
  obtain⟨f,x,k⟩:=X3.out.cells
  obtain⟨r0,r1,r2,r3,r4,r5,-,-,-,-,-⟩:=k
  have tc:=T3.out.c
  obtain⟨x0,x1,x2,x3,x4,y0,y1,y2,g0,g1,g2,g3,g4,k0,k1,k2⟩:=tc
  have hne1:¬ w.heap.size=W0.heap.size:=by have:=ZA.out;omega
  have hne2:¬ W0.heap.size=w.heap.size:=by have:=ZA.out;omega
  have hne3:¬ w.heap.size+1=W0.heap.size:=by have:=ZA.out;omega
  have hne4:¬ W0.heap.size=w.heap.size+1:=by have:=ZA.out;omega
  go_wp2_with fail
  go_region
  go_wp2_with fail
  refine bodyPost_ret (rparse_resD _ T3.out.c rfl rfl _ _ _ _ _ _ _ _ ⟨rfl,rfl,rfl,rfl,rfl,rfl,rfl,rfl⟩) rfl ?_
  exact RParsePost.no EN.out (below_drew (put8_below B4.out lr _ _ _ _ _ _ _ _)) HC.out
 | some y=>
  obtain⟨t,l1,n1⟩:=y
  rw[hr] at hpost
  obtain⟨p1,hT,hgd,hown,hht,hn1,hn64,hx,hsk,hpp⟩:=hpost
  have X3:=hid (hx.below B3.out)
  have HT:=hid hT
  have HR:=hid hr
  have HGD:=hid hgd
  have HHT:Hid (T.ht≤32):=by show _≤_;omega
  have HCN:Hid (T.cnt≤64):=by show _≤_;omega
  have HSK:=hid hsk
  have O3:=hid ((hown.low B3.out).base (lo':=W0.heap.size+1) (by have:=X1.out.sz;omega))
  clear hr hT hgd hown hht hn1 hn64 hx hsk hpp HPST
  obtain⟨f,x,k⟩:=X3.out.cells
  have r4:=k.c4
  clear k
  have hL:=r15_look W0.heap.size s p1 n1 0 W3 (by omega) X3.out
  go_wp2_with fail
  clear r4
  refine hL.mono ?_;rintro e w5 ⟨P,q,rfl,hr,hP,hN,hq,hqq,hg,-⟩
  rw[(look_eq HSK.out).1] at hP
  have X5:=hid hr
  have HP:=hid hP
  have T5:=hid (T3.out.off hg (by have:=ZA.out;omega))
  have B5:=hid (below_grown B4.out hg (by have:=ZA.out;omega))
  have D5:=hid (D3.out.grownBy hg (by have:=X1.out.sz;have:=HCV.out;simp;omega))
  have O5:=hid (O3.out.kept (Nat.lt_succ_self _) hg)
  clear hr hP hN hg hL T3 B4 D3 O3 X3
  have tc:=T5.out.c
  obtain⟨x0,x1,x2,x3,x4,y0,y1,y2,g0,g1,g2,g3,g4,k0,k1,k2⟩:=tc
  by_cases hp:bl P=[]
  ·have E1:P.toList=[]:=by rw[bl_toList];exact hp
   have E2:P.toList.isEmpty=true:=by rw[E1];rfl
   have EY:Hid (rParse (bl s)=some T.pl):=by show _=_;rw[HT.out];exact rParse_some HR.out (by rw[←HP.out];exact hp)
   have d0:=D5.out.cell 0 _ rfl
   have d1:=D5.out.cell 1 _ rfl
   have d2:=D5.out.cell 2 _ rfl
   have d3:=D5.out.cell 3 _ rfl
   have d4:=D5.out.cell 4 _ rfl
   have hne1:¬ w.heap.size=w2.heap.size:=by have:=Z2.out;omega
   have hne2:¬ w2.heap.size=w.heap.size:=by have:=Z2.out;omega
   clear hp
   go_wp2_with fail
   refine bodyPost_ret (rparse_res _ T5.out.c rfl rfl _ _ _ _ _ _ _ _ ⟨rfl,rfl,rfl,rfl,rfl,rfl,rfl,rfl⟩) rfl ?_
   exact RParsePost.yes EY.out (put8_below B5.out lr _ _ _ _ _ _ _ _) HGD.out ((put8_own O5.out (by have:=ZA.out;omega) _ _ _ _ _ _ _ _).base (by have:=ZA.out;omega)) HHT.out HCN.out
  ·have E1:(P.toList==([]:List UInt8))=false:=by rw[bl_toList,beq_eq_false_iff_ne];exact hp
   have E2:P.toList.isEmpty=false:=by rw[bl_toList,List.isEmpty_eq_false_iff];exact hp
   have E3:¬ P.toList=[]:=by rw[bl_toList];exact hp
   have E4:(P.toList != ([]:List UInt8))=true:=by rw[bne,E1];rfl
   have EN:Hid (rParse (bl s)=none):=rParse_rest HR.out (by rw[←HP.out];exact hp)
   clear hp x0 x1 x2 x3 x4 y0 y1 y2 g0 g1 g2 g3 g4 k0 k1 k2
   go_wp2_with fail
   refine(r15_bad 3 W0.heap.size s q n1 0 w5 X5.out).mono ?_;rintro e w6 ⟨rfl,hr,hg⟩
   have X6:=hid hr
   have T6:=hid (T5.out.off hg (by have:=ZA.out;omega))
   have B6:=hid (below_grown B5.out hg (by have:=ZA.out;omega))
   clear hr hg
   obtain⟨f,x,k⟩:=X6.out.cells
   obtain⟨r0,r1,r2,r3,r4,r5,-,-,-,-,-⟩:=k
   have tc:=T6.out.c
   obtain⟨x0,x1,x2,x3,x4,y0,y1,y2,g0,g1,g2,g3,g4,k0,k1,k2⟩:=tc
   have hne1:¬ w.heap.size=W0.heap.size:=by have:=ZA.out;omega
   have hne2:¬ W0.heap.size=w.heap.size:=by have:=ZA.out;omega
   have hne3:¬ w.heap.size+1=W0.heap.size:=by have:=ZA.out;omega
   have hne4:¬ W0.heap.size=w.heap.size+1:=by have:=ZA.out;omega
   go_wp2_with fail
   go_region
   go_wp2_with fail
   refine bodyPost_ret (rparse_resD _ T6.out.c rfl rfl _ _ _ _ _ _ _ _ ⟨rfl,rfl,rfl,rfl,rfl,rfl,rfl,rfl⟩) rfl ?_
   exact RParsePost.no EN.out (below_drew (put8_below B6.out lr _ _ _ _ _ _ _ _)) (by decide)
end
section
open Go.RowKit Go.Deep
theorem rdep_Print {T:RchM}(h:TGood T)(hcn:T.cnt≤64)(hht:T.ht≤32)(w:World)(hG:Gl w)(hO:TOwn w 0 none T):
  Calls Tryz.prog 89 #[T.val] w fun e w'=>e=.returned (.tuple #[.string (mkB (rText T.pl)),.int .i64 0])∧Below w.heap.size w w':=by
 have HG:=hid hG
 have HO:=hid hO
 obtain⟨W1,hW1⟩:∃ W1,w.alloc (.cells #[.string T.op,.string T.nm,.int .i64 T.aop,.string T.ver,.slice T.ka T.kids.length T.kc] 121)=W1:=⟨_,rfl⟩
 have B1:Hid (Below w.heap.size w W1):=by rw[←hW1];exact(Below.refl _ _).alloc lr _
 have K1:Hid (Blk W1 w.heap.size T.cells):=by rw[←hW1];exact Blk.new w T.cells _
 have k0:=K1.out.cell 0 _ rfl
 have k1:=K1.out.cell 1 _ rfl
 have k2:=K1.out.cell 2 _ rfl
 have k3:=K1.out.cell 3 _ rfl
 have k4:=K1.out.cell 4 _ rfl
 have hC:=rdep_Check_any T 0 h.shape hcn hht W1 (HG.out.below B1.out) (HO.out.low B1.out) (fun W g o=>rdep_check h W g o hcn)
 have HT:Hid (∀ W,Gl W→TOwn W 0 none T→Calls Tryz.prog 131 #[T.val] W fun e w'=>e=.returned (.string (mkB (rText T.pl)))∧Below W.heap.size W w'):=fun W g o=>rdep_text h W g o hcn
 clear h hcn hht hG hO
 obtain⟨X,hX⟩:∃ X,mkB (rText T.pl)=X:=⟨_,rfl⟩
 rw[hX] at HT ⊢
 clear hX
 unfold RchM.val at *
 go_enter Tryz.func89,Tryz.ntmps89
 go_wp2_with fail
 clear hW1
 refine hC.mono ?_;rintro e w2 ⟨rfl,hb⟩
 have B2:=hid (bthen B1.out hb)
 have K2:=hid (K1.out.below hb)
 clear hb k0 k1 k2 k3 k4 hC
 have k0:=K2.out.cell 0 _ rfl
 have k1:=K2.out.cell 1 _ rfl
 have k2:=K2.out.cell 2 _ rfl
 have k3:=K2.out.cell 3 _ rfl
 have k4:=K2.out.cell 4 _ rfl
 go_wp2_with fail
 refine(HT.out w2 (HG.out.below B2.out) (HO.out.low B2.out)).mono ?_;rintro e w3 ⟨rfl,hb⟩
 have B3:=hid (bthen B2.out hb)
 clear hb
 go_wp2_with fail
 go_ret2
 exact⟨rfl,B3.out⟩
theorem rdep_Print0 (w:World)(hG:Gl w):
  Calls Tryz.prog 89 #[zeroR.val] w fun e w'=>e=.returned (.tuple #[.string ⟨#[]⟩,.int .i64 10])∧Below w.heap.size w w':=by
 have HG:=hid hG
 have hC:=rdep_Check_any zeroR 10 TShape.zero (by decide) (by decide) (w.alloc (.cells #[.string ⟨#[]⟩,.string ⟨#[]⟩,.int .i64 0,.string ⟨#[]⟩,.slice none 0 0] 121)) (HG.out.alloc _) (leaf_own _ _ _ _ _ _) (fun W _ _=>rdep_check0 W)
 rw[zeroR_val] at hC ⊢
 have B1:Hid (Below w.heap.size w (w.alloc (.cells #[.string ⟨#[]⟩,.string ⟨#[]⟩,.int .i64 0,.string ⟨#[]⟩,.slice none 0 0] 121))):=(Below.refl _ _).alloc lr _
 clear hG
 go_enter Tryz.func89,Tryz.ntmps89
 go_wp2_with fail
 refine hC.mono ?_;rintro e w2 ⟨rfl,hb⟩
 have B2:=hid (bthen B1.out hb)
 clear hb hC
 go_wp2_with fail
 go_ret2
 exact⟨rfl,B2.out⟩
theorem writtenR_none {l:List UInt8}(h:rParse l=none):writtenR l=false:=by unfold writtenR;rw[h];simp
theorem writtenR_some {l:List UInt8}{d:Rch}(h:rParse l=some d)(h0:l≠[]):writtenR l=decide (rText d=l):=by
 unfold writtenR;rw[h];simp[h0]
theorem model_written2 (s:ByteArray)(w:World)(hG:Gl w)(hs:s.size≤1000000):
  Calls Tryz.prog 61 #[.int .i64 2,.string s] w (WrPost s (writtenR (bl s)) w):=by
 have HG:=hid hG;clear hG
 have B0:Hid (Below w.heap.size w (w.alloc (.cells #[.string ⟨#[]⟩,.int .i64 0,.int .i64 0] 114))):=(Below.refl _ _).alloc lr _
 have K0:Hid (Blk (w.alloc (.cells #[.string ⟨#[]⟩,.int .i64 0,.int .i64 0] 114)) w.heap.size [.string ⟨#[]⟩,.int .i64 0,.int .i64 0]):=Blk.new w _ _
 go_enter Tryz.func61,Tryz.ntmps61
 go_wp2_with fail
 refine(rdep_Parse s _ (HG.out.below B0.out) (by omega)).mono ?_;rintro e w1 ⟨T,f,a,code,rfl,hb1,hpost⟩
 have B1:=hid (bthen B0.out hb1)
 have K1:=hid (K0.out.below hb1)
 have hlt1:w.heap.size<w1.heap.size:=K1.out.sz
 have hne1:¬ w.heap.size=w1.heap.size:=by omega
 clear hb1
 cases hp:rParse (bl s) with
 | none=>
  rw[hp] at hpost
  obtain⟨hc,rfl⟩:=hpost
  have EN:=hid (writtenR_none hp)
  have hc1:(code==0)=false:=by simp[hc]
  clear hp hc
  obtain⟨W3,hW3⟩:∃ W3,(w1.alloc (.cells #[.string ⟨#[]⟩,.string ⟨#[]⟩,.int .i64 0,.string ⟨#[]⟩,.slice none 0 0] 121)).alloc (.cells #[.string f,.int .i64 a,.int .i64 code] 114)=W3:=⟨_,rfl⟩
  have B3:Hid (Below w1.heap.size w1 W3):=by rw[←hW3];exact((Below.refl _ _).alloc lr _).alloc (by simp) _
  have D3:Hid (Blk W3 w1.heap.size [.string ⟨#[]⟩,.string ⟨#[]⟩,.int .i64 0,.string ⟨#[]⟩,.slice none 0 0]):=by rw[←hW3];exact(Blk.new w1 [.string ⟨#[]⟩,.string ⟨#[]⟩,.int .i64 0,.string ⟨#[]⟩,.slice none 0 0] _).alloc _
  have F3:Hid (Blk W3 (w1.heap.size+1) [.string f,.int .i64 a,.int .i64 code]):=by
   have:=Blk.new (w1.alloc (.cells #[.string ⟨#[]⟩,.string ⟨#[]⟩,.int .i64 0,.string ⟨#[]⟩,.slice none 0 0] 121)) [.string f,.int .i64 a,.int .i64 code] 114
   rw[←hW3];show Blk _ _ _;simpa using this
  have K3:=hid (K1.out.below B3.out)
  have BB:=hid (bthen B1.out B3.out)
  have r0:=K3.out.cell 0 _ rfl
  have r1:=K3.out.cell 1 _ rfl
  have r2:=K3.out.cell 2 _ rfl
  have fr0:=K3.out.free 0 (by simp)
  have fr1:=K3.out.free 1 (by simp)
  have fr2:=K3.out.free 2 (by simp)
  have d0:=F3.out.cell 0 _ rfl
  have d1:=F3.out.cell 1 _ rfl
  have d2:=F3.out.cell 2 _ rfl
  have e0:=D3.out.cell 0 _ rfl
  have e1:=D3.out.cell 1 _ rfl
  have e2:=D3.out.cell 2 _ rfl
  have e3:=D3.out.cell 3 _ rfl
  have e4:=D3.out.cell 4 _ rfl
  have KS:=hid (((K3.out.set 0 (by simp) (.string f)).set 1 (by simp) (.int .i64 a)).set 2 (by simp) (.int .i64 code))
  have BS:=hid (below_set (j:=2) (below_set (j:=1) (below_set (j:=0) BB.out lr (.string f)) lr (.int .i64 a)) lr (.int .i64 code))
  have hP:=rdep_Print0 _ (HG.out.below BS.out)
  unfold fltV
  rw[zeroR_val] at hP ⊢
  go_upto_region 14 with(fail)
  clear hW3
  go_wp2_with fail
  refine hP.mono ?_;rintro e w4 ⟨rfl,hb4⟩
  have c2:=(KS.out.below hb4).cell 2 _ rfl
  have B4:=hid (bthen BS.out hb4)
  clear hb4
  go_wp2_with fail
  go_ret2
  exact⟨_,false,rfl,B4.out,fun _=>by rw[EN.out];simp⟩
 | some t=>
  rw[hp] at hpost
  obtain⟨rfl,hT,hgd,hown,hht,hcn⟩:=hpost
  have EN:Hid (s.size≠0→(mkB (rText T.pl)=s↔writtenR (bl s)=true)):=fun h0=>by rw[writtenR_some hp (bl_ne h0),←hT,decide_eq_true_iff];exact mk_eq_iff
  clear hp hT
  obtain⟨W3,hW3⟩:∃ W3,(w1.alloc (.cells #[.string T.op,.string T.nm,.int .i64 T.aop,.string T.ver,.slice T.ka T.kids.length T.kc] 121)).alloc (.cells #[.string f,.int .i64 a,.int .i64 0] 114)=W3:=⟨_,rfl⟩
  have B3:Hid (Below w1.heap.size w1 W3):=by rw[←hW3];exact((Below.refl _ _).alloc lr _).alloc (by simp) _
  have D3:Hid (Blk W3 w1.heap.size T.cells):=by rw[←hW3];exact(Blk.new w1 T.cells _).alloc _
  have F3:Hid (Blk W3 (w1.heap.size+1) [.string f,.int .i64 a,.int .i64 0]):=by
   have:=Blk.new (w1.alloc (.cells #[.string T.op,.string T.nm,.int .i64 T.aop,.string T.ver,.slice T.ka T.kids.length T.kc] 121)) [.string f,.int .i64 a,.int .i64 0] 114
   rw[←hW3];show Blk _ _ _;simpa using this
  have K3:=hid (K1.out.below B3.out)
  have BB:=hid (bthen B1.out B3.out)
  have r0:=K3.out.cell 0 _ rfl
  have r1:=K3.out.cell 1 _ rfl
  have r2:=K3.out.cell 2 _ rfl
  have fr0:=K3.out.free 0 (by simp)
  have fr1:=K3.out.free 1 (by simp)
  have fr2:=K3.out.free 2 (by simp)
  have d0:=F3.out.cell 0 _ rfl
  have d1:=F3.out.cell 1 _ rfl
  have d2:=F3.out.cell 2 _ rfl
  have e0:=D3.out.cell 0 _ rfl
  have e1:=D3.out.cell 1 _ rfl
  have e2:=D3.out.cell 2 _ rfl
  have e3:=D3.out.cell 3 _ rfl
  have e4:=D3.out.cell 4 _ rfl
  have KS:=hid (((K3.out.set 0 (by simp) (.string f)).set 1 (by simp) (.int .i64 a)).set 2 (by simp) (.int .i64 0))
  have BS:=hid (below_set (j:=2) (below_set (j:=1) (below_set (j:=0) BB.out lr (.string f)) lr (.int .i64 a)) lr (.int .i64 0))
  have hlo:w.heap.size<(w.alloc (.cells #[.string ⟨#[]⟩,.int .i64 0,.int .i64 0] 114)).heap.size:=by simp
  have HOK:=hid (((((hown.low B3.out).kept hlo (kept_set (j:=0) (.string f))).kept hlo (kept_set (j:=1) (.int .i64 a))).kept hlo (kept_set (j:=2) (.int .i64 0))).base (Nat.zero_le _))
  have hP:=rdep_Print hgd hcn hht _ (HG.out.below BS.out) HOK.out
  obtain⟨X,hX⟩:∃ X,mkB (rText T.pl)=X:=⟨_,rfl⟩
  rw[hX] at hP EN
  clear hgd hown hht hcn hX hlo
  have HW3:=hid hW3
  clear hW3
  unfold fltV RchM.val
  unfold RchM.val at hP
  go_upto_region 14 with(fail)
  rw[HW3.out]
  go_wp2_with fail
  refine hP.mono ?_;rintro e w4 ⟨rfl,hb4⟩
  have c2:=(KS.out.below hb4).cell 2 _ rfl
  have B4:=hid (bthen BS.out hb4)
  clear hb4 hP
  go_wp2_with fail
  go_ret2
  exact⟨X,true,rfl,B4.out,fun h=>by have:=EN.out h;simpa using this⟩
end
section
open Go.RowKit Go.Deep
theorem r15_Print {T:RchM}(h:TGood T)(hcn:T.cnt≤64)(hht:T.ht≤32)(w:World)(hO:TOwn w 0 none T):
  Calls Tryz.prog 151 #[T.val] w fun e w'=>e=.returned (.tuple #[.string (mkB (rText T.pl)),.int .i64 0])∧Below w.heap.size w w':=by
 have HO:=hid hO
 obtain⟨W1,hW1⟩:∃ W1,w.alloc (.cells #[.string T.op,.string T.nm,.int .i64 T.aop,.string T.ver,.slice T.ka T.kids.length T.kc] 121)=W1:=⟨_,rfl⟩
 have B1:Hid (Below w.heap.size w W1):=by rw[←hW1];exact(Below.refl _ _).alloc lr _
 have K1:Hid (Blk W1 w.heap.size T.cells):=by rw[←hW1];exact Blk.new w T.cells _
 have k0:=K1.out.cell 0 _ rfl
 have k1:=K1.out.cell 1 _ rfl
 have k2:=K1.out.cell 2 _ rfl
 have k3:=K1.out.cell 3 _ rfl
 have k4:=K1.out.cell 4 _ rfl
 have hC:=r15_Check_any T 0 h.shape hcn hht W1 (HO.out.low B1.out) (fun W o=>r15_inner h W o hcn)
 have HT:Hid (∀ W,TOwn W 0 none T→Calls Tryz.prog 216 #[T.val] W fun e w'=>e=.returned (.string (mkB (rText T.pl)))∧Below W.heap.size W w'):=fun W o=>r15_text h W o hcn
 clear h hcn hht hO
 obtain⟨X,hX⟩:∃ X,mkB (rText T.pl)=X:=⟨_,rfl⟩
 rw[hX] at HT ⊢
 clear hX
 unfold RchM.val at *
 go_enter Tryz.func151,Tryz.ntmps151
 go_wp2_with fail
 clear hW1
 refine hC.mono ?_;rintro e w2 ⟨rfl,hb⟩
 have B2:=hid (bthen B1.out hb)
 have K2:=hid (K1.out.below hb)
 clear hb k0 k1 k2 k3 k4 hC
 have k0:=K2.out.cell 0 _ rfl
 have k1:=K2.out.cell 1 _ rfl
 have k2:=K2.out.cell 2 _ rfl
 have k3:=K2.out.cell 3 _ rfl
 have k4:=K2.out.cell 4 _ rfl
 go_wp2_with fail
 refine(HT.out w2 (HO.out.low B2.out)).mono ?_;rintro e w3 ⟨rfl,hb⟩
 have B3:=hid (bthen B2.out hb)
 clear hb
 go_wp2_with fail
 go_ret2
 exact⟨rfl,B3.out⟩
theorem r15_Print0 (w:World):
  Calls Tryz.prog 151 #[zeroR.val] w fun e w'=>e=.returned (.tuple #[.string ⟨#[]⟩,.int .i64 10])∧Below w.heap.size w w':=by
 have hC:=r15_Check_any zeroR 10 TShape.zero (by decide) (by decide) (w.alloc (.cells #[.string ⟨#[]⟩,.string ⟨#[]⟩,.int .i64 0,.string ⟨#[]⟩,.slice none 0 0] 121)) (leaf_own _ _ _ _ _ _) (fun W _=>r15_inner0 W)
 rw[zeroR_val] at hC ⊢
 have B1:Hid (Below w.heap.size w (w.alloc (.cells #[.string ⟨#[]⟩,.string ⟨#[]⟩,.int .i64 0,.string ⟨#[]⟩,.slice none 0 0] 121))):=(Below.refl _ _).alloc lr _
 go_enter Tryz.func151,Tryz.ntmps151
 go_wp2_with fail
 refine hC.mono ?_;rintro e w2 ⟨rfl,hb⟩
 have B2:=hid (bthen B1.out hb)
 clear hb hC
 go_wp2_with fail
 go_ret2
 exact⟨rfl,B2.out⟩
theorem r19_Written2 (s:ByteArray)(w:World)(hs:s.size≤1000000):
  Calls Tryz.prog 101 #[.int .i64 2,.string s] w fun e w'=>e=.returned (.bool (writtenR (bl s)))∧Below w.heap.size w w':=by
 by_cases h0:s.size=0
 ·have he:s.toList=[]:=by rw[bl_toList,bl_nil s h0]
  have he2:s.toList.isEmpty=true:=by rw[he];rfl
  have E:Hid (writtenR (bl s)=false):=by show _=_;rw[bl_nil s h0];rfl
  go_enter Tryz.func101,Tryz.ntmps101
  go_wp2_with fail
  go_ret
  exact⟨ret_bool E.out.symm,Below.refl _ _⟩
 have he2:s.toList.isEmpty=false:=by rw[bl_toList,bl_isEmpty];exact decide_eq_false h0
 have he:¬ s.toList=[]:=by intro h;rw[h] at he2;simp at he2
 go_enter Tryz.func101,Tryz.ntmps101
 go_wp2_with fail
 refine(r15_Parse s _ (by omega)).mono ?_;rintro e w1 ⟨T,f,a,code,rfl,hb1,hpost⟩
 have B1:=hid hb1
 clear hb1
 cases hp:rParse (bl s) with
 | none=>
  rw[hp] at hpost
  obtain⟨hc,rfl⟩:=hpost
  have EN:=hid (writtenR_none hp)
  have hc1:(code==0)=false:=by simp[hc]
  clear hp hc
  obtain⟨W3,hW3⟩:∃ W3,(w1.alloc (.cells #[.string ⟨#[]⟩,.string ⟨#[]⟩,.int .i64 0,.string ⟨#[]⟩,.slice none 0 0] 121)).alloc (.cells #[.string f,.int .i64 a,.int .i64 code] 114)=W3:=⟨_,rfl⟩
  have B3:Hid (Below w1.heap.size w1 W3):=by rw[←hW3];exact((Below.refl _ _).alloc lr _).alloc (by simp) _
  have D3:Hid (Blk W3 w1.heap.size [.string ⟨#[]⟩,.string ⟨#[]⟩,.int .i64 0,.string ⟨#[]⟩,.slice none 0 0]):=by rw[←hW3];exact(Blk.new w1 [.string ⟨#[]⟩,.string ⟨#[]⟩,.int .i64 0,.string ⟨#[]⟩,.slice none 0 0] _).alloc _
  have F3:Hid (Blk W3 (w1.heap.size+1) [.string f,.int .i64 a,.int .i64 code]):=by
   have:=Blk.new (w1.alloc (.cells #[.string ⟨#[]⟩,.string ⟨#[]⟩,.int .i64 0,.string ⟨#[]⟩,.slice none 0 0] 121)) [.string f,.int .i64 a,.int .i64 code] 114
   rw[←hW3];show Blk _ _ _;simpa using this
  have BB:=hid (bthen B1.out B3.out)
  have HW3:=hid hW3
  clear hW3
  have e0:=D3.out.cell 0 _ rfl
  have e1:=D3.out.cell 1 _ rfl
  have e2:=D3.out.cell 2 _ rfl
  have e3:=D3.out.cell 3 _ rfl
  have e4:=D3.out.cell 4 _ rfl
  have hP:=r15_Print0 W3
  unfold fltV
  rw[zeroR_val] at hP ⊢
  go_upto_region 15 with(fail)
  rw[HW3.out]
  go_wp2_with fail
  refine hP.mono ?_;rintro e w4 ⟨rfl,hb4⟩
  have c2:=(F3.out.below hb4).cell 2 _ rfl
  have B4:=hid (bthen BB.out hb4)
  clear hb4 hP
  go_wp2_with fail
  go_ret
  exact⟨ret_bool EN.out.symm,B4.out⟩
 | some t=>
  rw[hp] at hpost
  obtain⟨rfl,hT,hgd,hown,hht,hcn⟩:=hpost
  have EN:mkB (rText T.pl)=s↔writtenR (bl s)=true:=by rw[writtenR_some hp (bl_ne h0),←hT,decide_eq_true_iff];exact mk_eq_iff
  clear hp hT
  obtain⟨W3,hW3⟩:∃ W3,(w1.alloc (.cells #[.string T.op,.string T.nm,.int .i64 T.aop,.string T.ver,.slice T.ka T.kids.length T.kc] 121)).alloc (.cells #[.string f,.int .i64 a,.int .i64 0] 114)=W3:=⟨_,rfl⟩
  have B3:Hid (Below w1.heap.size w1 W3):=by rw[←hW3];exact((Below.refl _ _).alloc lr _).alloc (by simp) _
  have D3:Hid (Blk W3 w1.heap.size T.cells):=by rw[←hW3];exact(Blk.new w1 T.cells _).alloc _
  have F3:Hid (Blk W3 (w1.heap.size+1) [.string f,.int .i64 a,.int .i64 0]):=by
   have:=Blk.new (w1.alloc (.cells #[.string T.op,.string T.nm,.int .i64 T.aop,.string T.ver,.slice T.ka T.kids.length T.kc] 121)) [.string f,.int .i64 a,.int .i64 0] 114
   rw[←hW3];show Blk _ _ _;simpa using this
  have BB:=hid (bthen B1.out B3.out)
  have HW3:=hid hW3
  clear hW3
  have e0:=D3.out.cell 0 _ rfl
  have e1:=D3.out.cell 1 _ rfl
  have e2:=D3.out.cell 2 _ rfl
  have e3:=D3.out.cell 3 _ rfl
  have e4:=D3.out.cell 4 _ rfl
  have hP:=r15_Print hgd hcn hht W3 ((hown.low B3.out).base (Nat.zero_le _))
  obtain⟨X,hX⟩:∃ X,mkB (rText T.pl)=X:=⟨_,rfl⟩
  rw[hX] at hP EN
  obtain⟨bw,hbw⟩:∃ bw,writtenR (bl s)=bw:=⟨_,rfl⟩
  have EQ:(s.toList==X.toList)=bw:=by
   rw[beq_bl]
   have h1:=EN
   rw[hbw] at h1
   cases bw with
   | true=>exact decide_eq_true ((h1.2 rfl).symm)
   | false=>exact decide_eq_false (fun h=>by have:=h1.1 h.symm;cases this)
  have HBW:=hid hbw
  clear hgd hown hht hcn hX hbw EN
  unfold fltV RchM.val
  unfold RchM.val at hP
  go_upto_region 15 with(fail)
  rw[HW3.out]
  go_wp2_with fail
  refine hP.mono ?_;rintro e w4 ⟨rfl,hb4⟩
  have c2:=(F3.out.below hb4).cell 2 _ rfl
  have B4:=hid (bthen BB.out hb4)
  clear hb4 hP
  go_wp2_with fail
  go_ret
  exact⟨ret_bool HBW.out.symm,B4.out⟩
end
end Go.Proofs.YtdfdllbebfoggaaGreatDoor
