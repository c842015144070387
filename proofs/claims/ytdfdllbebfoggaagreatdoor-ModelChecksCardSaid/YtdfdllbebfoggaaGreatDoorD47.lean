/- A part of the proof that ModelChecks holds. No condition. -/
import Derived.Test.YtdfdllbebfoggaaGreatDoorD39
import Derived.Test.YtdfdllbebfoggaaGreatDoorD44
import Derived.Test.YtdfdllbebfoggaaGreatDoorD46
set_option maxRecDepth 100000
set_option maxHeartbeats 20000000
set_option linter.unusedVariables false
set_option linter.unusedSimpArgs false
namespace Go.Proofs.YtdfdllbebfoggaaGreatDoor
section
open Go.RowKit Go.Deep
theorem r19_Written1 (s:BA)(w:World)(hs:s.size≤1000000):
  Calls Tryz.prog 101 #[.int .i64 1,.string s] w fun e w'=>e=.returned (.bool (writtenD (bl s)))∧Below w.heap.size w w':=by
 by_cases h0:s.size=0
 ·have he:s.toList=[]:=by rw[bl_toList,bl_nil s h0]
  have he2:s.toList.isEmpty=true:=by rw[he];rfl
  have E:Hid (writtenD (bl s)=false):=by show _=_;rw[bl_nil s h0];rfl
  go_enter Tryz.func101,Tryz.ntmps101
  go_wp2_with fail
  go_ret
  exact⟨ret_bool E.out.symm,bR⟩
 have he2:s.toList.isEmpty=false:=by rw[bl_toList,bl_isEmpty];exact dF h0
 have he:¬ s.toList=[]:=by intro h;rw[h] at he2;simp at he2
 go_enter Tryz.func101,Tryz.ntmps101
 go_wp2_with fail
 refine(r14_Parse s _ (by omega)).mono ?_;rintro e w1 ⟨A,n,c,f,a,code,rfl,hb1,hpost⟩
 have B1:=hid hb1
 have K2:Hid (Blk (w1.alloc (.cells #[.string f,.int .i64 a,.int .i64 code] 114)) w1.heap.size [.string f,.int .i64 a,.int .i64 code]):=Blk.new w1 _ _
 have B2:=hid (hb1.alloc hb1.size (.cells #[.string f,.int .i64 a,.int .i64 code] 114))
 have BA:Hid (Below w1.heap.size w1 (w1.alloc (.cells #[.string f,.int .i64 a,.int .i64 code] 114))):=bR.alloc lr _
 clear hb1
 cases hp:dParse (bl s) with
 | none=>
  rw[hp] at hpost
  obtain⟨hc,rfl,rfl⟩:=hpost
  have EN:=hid (writtenD_none hp)
  have hc1:(code==0)=false:=by simp[hc]
  clear hp hc
  unfold fltV
  go_wp2_with fail
  refine(r14_Print none c [] FldW.nil _ (FldOk.nil _)).mono ?_;rintro e w4 ⟨rfl,hb4⟩
  have d2:=(K2.out.below hb4).cell 2 _ rfl
  have B4:=hid (bthen B2.out hb4)
  clear hb4
  go_wp2_with fail
  go_ret
  exact⟨ret_bool EN.out.symm,B4.out⟩
 | some L=>
  rw[hp] at hpost
  obtain⟨rfl,gs,hgs,hok⟩:=hpost
  have hgood:=dParse_fld hp (by rw[bl_length];exact hs)
  rw[←hgs] at hgood
  have HW:=FldW.of hgood
  have EN:mkB (dText (gs.map GrpM.pl))=s↔writtenD (bl s)=true:=by rw[writtenD_some hp (bl_ne h0),hgs,decide_eq_true_iff];exact mk_eq_iff
  obtain rfl:=hok.len
  have hP:=r14_Print A c gs HW _ (hok.ok.below BA.out)
  clear hgs hgood HW
  obtain⟨X,hX⟩:∃ X,mkB (dText (gs.map GrpM.pl))=X:=⟨_,rfl⟩
  rw[hX] at hP EN
  obtain⟨bw,hbw⟩:∃ bw,writtenD (bl s)=bw:=⟨_,rfl⟩
  have EQ:(s.toList==X.toList)=bw:=by
   rw[beq_bl]
   have h1:=EN
   rw[hbw] at h1
   cases bw with
   | true=>exact dT ((h1.2 rfl).symm)
   | false=>exact dF (fun h=>by have:=h1.1 h.symm;cases this)
  have HBW:=hid hbw
  clear hp hok hX hbw EN
  unfold fltV
  go_wp2_with fail
  refine hP.mono ?_;rintro e w4 ⟨rfl,hb4⟩
  have d2:=(K2.out.below hb4).cell 2 _ rfl
  have B4:=hid (bthen B2.out hb4)
  clear hb4 hP
  go_wp2_with fail
  go_ret
  exact⟨ret_bool HBW.out.symm,B4.out⟩
theorem r19_Written3 (fmt:Int)(h1:fmt≠1)(h2:fmt≠2)(s:BA)(w:World)(hs:s.size≤1000000):
  Calls Tryz.prog 101 #[.int .i64 fmt,.string s] w fun e w'=>e=.returned (.bool (writtenA (bl s)))∧Below w.heap.size w w':=by
 have q1:(fmt==1)=false:=by simp[h1]
 have q2:(fmt==2)=false:=by simp[h2]
 clear h1 h2
 by_cases h0:s.size=0
 ·have he:s.toList=[]:=by rw[bl_toList,bl_nil s h0]
  have he2:s.toList.isEmpty=true:=by rw[he];rfl
  have E:Hid (writtenA (bl s)=false):=by show _=_;rw[bl_nil s h0];rfl
  go_enter Tryz.func101,Tryz.ntmps101
  go_wp2_with fail
  go_ret
  exact⟨ret_bool E.out.symm,bR⟩
 have he2:s.toList.isEmpty=false:=by rw[bl_toList,bl_isEmpty];exact dF h0
 have he:¬ s.toList=[]:=by intro h;rw[h] at he2;simp at he2
 go_enter Tryz.func101,Tryz.ntmps101
 go_wp2_with fail
 refine(r16_Parse s _ (by omega)).mono ?_;rintro e w1 ⟨A,n,c,f,a,code,rfl,hb1,hpost⟩
 have B1:=hid hb1
 have K2:Hid (Blk (w1.alloc (.cells #[.string f,.int .i64 a,.int .i64 code] 114)) w1.heap.size [.string f,.int .i64 a,.int .i64 code]):=Blk.new w1 _ _
 have B2:=hid (hb1.alloc hb1.size (.cells #[.string f,.int .i64 a,.int .i64 code] 114))
 have BA:Hid (Below w1.heap.size w1 (w1.alloc (.cells #[.string f,.int .i64 a,.int .i64 code] 114))):=bR.alloc lr _
 clear hb1
 cases hp:aParse (bl s) with
 | none=>
  rw[hp] at hpost
  obtain⟨hc,rfl,rfl⟩:=hpost
  have EN:=hid (writtenA_none hp)
  have hc1:(code==0)=false:=by simp[hc]
  clear hp hc
  unfold fltV
  go_wp2_with fail
  refine(r16_Print none c [] (by simp) (by simp) _ (Rd.nil _ _ _)).mono ?_;rintro e w4 ⟨rfl,hb4⟩
  have d2:=(K2.out.below hb4).cell 2 _ rfl
  have B4:=hid (bthen B2.out hb4)
  clear hb4
  go_wp2_with fail
  go_ret
  exact⟨ret_bool EN.out.symm,B4.out⟩
 | some L=>
  rw[hp] at hpost
  obtain⟨rfl,rfl,hok⟩:=hpost
  obtain⟨hright,hl64⟩:=aList_right _ _ _ _ (by omega) hp
  have EN:mkB (aText L)=s↔writtenA (bl s)=true:=by rw[writtenA_some hp (bl_ne h0),decide_eq_true_iff];exact mk_eq_iff
  have hP:=r16_Print A c L hright (by omega) _ ((owns_rd hok).below BA.out)
  clear hright
  obtain⟨X,hX⟩:∃ X,mkB (aText L)=X:=⟨_,rfl⟩
  rw[hX] at hP EN
  obtain⟨bw,hbw⟩:∃ bw,writtenA (bl s)=bw:=⟨_,rfl⟩
  have EQ:(s.toList==X.toList)=bw:=by
   rw[beq_bl]
   have h1:=EN
   rw[hbw] at h1
   cases bw with
   | true=>exact dT ((h1.2 rfl).symm)
   | false=>exact dF (fun h=>by have:=h1.1 h.symm;cases this)
  have HBW:=hid hbw
  clear hp hok hX hbw EN
  unfold fltV
  go_wp2_with fail
  refine hP.mono ?_;rintro e w4 ⟨rfl,hb4⟩
  have d2:=(K2.out.below hb4).cell 2 _ rfl
  have B4:=hid (bthen B2.out hb4)
  clear hb4 hP
  go_wp2_with fail
  go_ret
  exact⟨ret_bool HBW.out.symm,B4.out⟩
end
end Go.Proofs.YtdfdllbebfoggaaGreatDoor
