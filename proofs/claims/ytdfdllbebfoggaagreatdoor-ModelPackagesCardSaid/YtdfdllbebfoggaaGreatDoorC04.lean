/- A part of the proof that ModelPackages holds. No condition. -/
import Derived.Test.YtdfdllbebfoggaaGreatDoorC01
import Derived.Test.YtdfdllbebfoggaaGreatDoorC02
import Derived.Test.YtdfdllbebfoggaaGreatDoorC03
set_option maxRecDepth 100000
set_option maxHeartbeats 20000000
set_option linter.unusedVariables false
set_option linter.unusedSimpArgs false
namespace Go.Proofs.YtdfdllbebfoggaaGreatDoor
section
open Go.RowKit
def ixB (s:ByteArray)(c:UInt8):Int:=Lib.indexByte (bl s) c
theorem ixB_neg (s:ByteArray)(c:UInt8)(h:(bl s).contains c=false):ixB s c<0:=by
 have:=Lib.contains_iff_indexByte (bl s) c
 rw[h] at this;unfold ixB
 have h2:=of_decide_eq_false this.symm;omega
theorem ixB_pos (s:ByteArray)(c:UInt8)(h:(bl s).contains c=true):0≤ixB s c:=by
 have:=Lib.contains_iff_indexByte (bl s) c
 rw[h] at this;unfold ixB
 exact of_decide_eq_true this.symm
theorem IndexByte_any (s:ByteArray)(c:UInt8)(w:World):
  Calls Tryz.prog 82 #[.string s,.int .u8 c.toNat] w fun e w'=>e=.returned (.int .i64 (ixB s c))∧w=w':=
 (Tryz.strings_IndexByte s c.toNat w).mono fun _ _ ⟨he,hw⟩=>⟨by rw[he];simp[ixB,bl],hw.symm⟩
theorem ddep_starts (s:ByteArray)(w:World)(hs:s.size≤9223372036854775807):
  Calls Tryz.prog 81 #[.string s] w fun e w'=>e=.returned (.bool (startsB (bl s)))∧w=w':=by
 by_cases h0:s.size=0
 ·have he:s.toList=[]:=by rw[bl_toList,bl_nil s h0]
  go_enter Tryz.func81,Tryz.ntmps81
  go_wp2
  go_ret
  exact⟨ret_bool (startsB_zero s h0).symm,rfl⟩
 ·have h1:0<s.size:=by omega
  have he:s.toList.isEmpty=false:=by rw[bl_toList,bl_isEmpty];simpa using h0
  have he':¬ s.toList=[]:=by intro h;rw[h] at he;simp at he
  go_enter Tryz.func81,Tryz.ntmps81
  go_wp2
  all_goals go_ret
  all_goals (refine⟨ret_bool ?_,rfl⟩;rw[startsB_pos s h1,Bool.eq_iff_iff];simp[lowB,smlB,digB];omega)
theorem ddep_starts_at (s:ByteArray)(k:Nat)(h:k<s.size)(w:World)(hs:s.size≤9223372036854775807):
  Calls Tryz.prog 81 #[.string (s.extract k s.size)] w fun e w'=>e=.returned (.bool (lowB s[k]))∧w=w':=
 (ddep_starts (s.extract k s.size) w (by simp[ByteArray.size_extract];omega)).mono fun _ _ ⟨he,hw⟩=>⟨by rw[he,startsB_drop s k h],hw⟩
theorem ddep_made (s o:ByteArray)(w:World)(hs:s.size≤9223372036854775807):
  Calls Tryz.prog 58 #[.string s,.string o] w fun e w'=>e=.returned (.bool (dmadeB (bl o) (bl s)))∧w=w':=by
 go_enter Tryz.func58,Tryz.ntmps58
 go_wp2
 go_loop [8] (fun i=>∃ k:Nat,k≤s.size∧i=.int .i64 k∧Hid (((bl s).take k).all (fun c=>lowB c||(bl o).contains c)=true)) (fun i=>s.size-(intOf i).toNat)
 case atStart=>exact⟨0,Nat.zero_le _,rfl,by simp[Hid]⟩
 case round=>
  obtain⟨k,hk,rfl,hw⟩:=hrel
  by_cases hlt:k<s.size
  ·cases hl:lowB s[k]
   ·cases hc:(bl o).contains s[k]
    ·have hn:=ixB_neg o s[k] hc
     have HC:=hid hc;clear hc
     go_wp2_with (first | (go_at_call 81;refine(ddep_starts_at s k hlt _ hs).mono ?_;rintro e w' ⟨rfl,rfl⟩) | (go_at_call 82;refine(IndexByte_any o s[k] _).mono ?_;rintro e w' ⟨rfl,rfl⟩))
     go_ret
     exact⟨ret_bool (dmade_bad _ s k hlt hl HC.out).symm,rfl⟩
    ·have hn:=ixB_pos o s[k] hc
     have HC:=hid hc;clear hc
     go_wp2_with (first | (go_at_call 81;refine(ddep_starts_at s k hlt _ hs).mono ?_;rintro e w' ⟨rfl,rfl⟩) | (go_at_call 82;refine(IndexByte_any o s[k] _).mono ?_;rintro e w' ⟨rfl,rfl⟩))
     go_round
     case rel=>exact⟨k+1,by omega,by go_num,dmade_next _ s k hlt hw.out (by rw[HC.out];simp)⟩
     case measure=>simp[intOf];omega
   ·go_wp2_with (first | (go_at_call 81;refine(ddep_starts_at s k hlt _ hs).mono ?_;rintro e w' ⟨rfl,rfl⟩))
    go_round
    case rel=>exact⟨k+1,by omega,by go_num,dmade_next _ s k hlt hw.out (by rw[hl];simp)⟩
    case measure=>simp[intOf];omega
  ·go_wp2_with (go_at_call 81;refine(ddep_starts s _ hs).mono ?_;rintro e w' ⟨rfl,rfl⟩)
   go_ret
   exact⟨ret_bool (dmade_good _ s k hlt hw.out).symm,rfl⟩
theorem ddep_Name (s:ByteArray)(w:World)(hs:s.size≤9223372036854775807):
  Calls Tryz.prog 30 #[.string s] w fun e w'=>e=.returned (.bool (dnameB (bl s)))∧w=w':=by
 have hb:=bl_length s
 have HB:=hid hb;clear hb
 by_cases h2:2≤s.size
 ·by_cases h3:s.size≤64
  ·go_enter Tryz.func30,Tryz.ntmps30
   go_wp2_with (go_at_call 58;refine(ddep_made s _ _ hs).mono ?_;rintro e w' ⟨rfl,rfl⟩)
   go_ret
   exact⟨ret_bool (by unfold dnameB;rw[HB.out,decide_eq_true h2,decide_eq_true h3];simp[bl]),rfl⟩
  ·go_enter Tryz.func30,Tryz.ntmps30
   go_wp2_with fail
   go_ret
   exact⟨ret_bool (by unfold dnameB;rw[HB.out,decide_eq_false h3];simp),rfl⟩
 ·go_enter Tryz.func30,Tryz.ntmps30
  go_wp2_with fail
  go_ret
  exact⟨ret_bool (by unfold dnameB;rw[HB.out,decide_eq_false h2];simp),rfl⟩
end
section
open Go.ChangeShapes Go.WideShapes Go.ChangeAt Go.RowKit
theorem cells_of_strs {H:Type}{enc:TypeId×Value→H}{P:Program}{w:World}{base:Nat}{sp:Nat→Bool}{held:Bool}{fuel:Nat}{t e:TypeId}{n:Nat}{cs:List Value}{zs:List (List UInt8)}{p:List MemPlace}
  (ht:P.underlying t=some (.array n e))(he:P.underlying e=some .string)(hce:P.cellsOf e=1)(hct:P.cellsOf t=n)
  (h:DataW.trod enc P w base sp held fuel t cs=some (.agg (zs.map fun z=>.lit (.string z)),p)):cs=zs.map fun z=>Value.string ⟨z.toArray⟩:=by
 cases fuel with
 | zero=>simp[DataW.trod] at h
 | succ fuel=>
  simp only[DataW.trod,ht,hce,hct,Nat.mul_one] at h
  split at h
  ·rename_i hl
   obtain⟨xs,hm,hx⟩:=Option.map_eq_some_iff.1 h
   have hxs:xs.map (·.1)=zs.map fun z=>(DataW.lit (.string z):DataW H):=by
    have:=congrArg Prod.fst hx
    simpa using this
   have hxl:xs.length=n:=by simpa using Lib.mapM_length hm
   have hzl:zs.length=n:=by
    have:=congrArg List.length hxs
    simp at this
    omega
   apply List.ext_getElem?
   intro i
   by_cases hi:i<n
   ·obtain⟨b,hb,hf⟩:=Lib.mapM_at hm i i (by simp[hi])
    obtain⟨z,hc,rfl,_⟩:=DataW.trod_string he hf
    have h1:cs[i]?=some (.string z):=by
     have:=congrArg (·[0]?) hc
     simpa [List.getElem?_take,List.getElem?_drop] using this
    have h2:(xs.map (·.1))[i]?=some (DataW.lit (.string z.data.toList):DataW H):=by simp[hb]
    rw[hxs] at h2
    simp only[List.getElem?_map,Option.map_eq_some_iff,DataW.lit.injEq,Lit.string.injEq] at h2
    obtain⟨z',hz',rfl⟩:=h2
    simp[h1,hz']
   ·rw[List.getElem?_eq_none (by omega),List.getElem?_eq_none (by simp;omega)]
  ·cases h
theorem laid_cut {P:Program}{w:World}{n:String}{d:DataW Unit}{r:List (String×DataW Unit)}{ps:List MemPlace}(h:DataW.LaidVars P w ((n,d)::r) ps):
  (∃ g t cs fuel p,P.globalNamed n=some g∧(P.globals[g]?).map (·.type)=some t∧w.var? P n=some cs∧DataW.trod (fun _=>()) P w 0 (fun _=>true) false fuel t cs.toList=some (d,p))∧∃ q,DataW.LaidVars P w r q:=by
 obtain⟨g,t,cs,fuel,p,q,h1,h2,h3,h4,h5,_⟩:=h
 exact⟨⟨g,t,cs,fuel,p,h1,h2,h3,h4⟩,q,h5⟩
theorem strs_cell {P:Program}{w:World}{name:String}{zs:List (List UInt8)}{g0:Nat}{t0 e:TypeId}{n:Nat}
  (hg:P.globalNamed name=some g0)(hty:(P.globals[g0]?).map (·.type)=some t0)(ht:P.underlying t0=some (.array n e))(he:P.underlying e=some .string)(hce:P.cellsOf e=1)(hct:P.cellsOf t0=n)
  (h:∃ g t cs fuel p,P.globalNamed name=some g∧(P.globals[g]?).map (·.type)=some t∧w.var? P name=some cs∧DataW.trod (fun _=>()) P w 0 (fun _=>true) false fuel t cs.toList=some (.agg (zs.map fun z=>.lit (.string z)),p))
  (i:Nat)(z:List UInt8)(hi:zs[i]?=some z):w.cell? ⟨g0,i,none⟩=some (.string ⟨z.toArray⟩):=by
 obtain⟨g',t',cs,fuel,p,hg',ht',hvar,hd⟩:=h
 obtain rfl:=Option.some.inj (hg.symm.trans hg')
 obtain rfl:=Option.some.inj (hty.symm.trans ht')
 have hc:=cells_of_strs ht he hce hct hd
 rw[World.var?_cell hg hvar i,←Array.getElem?_toList,hc]
 simp[hi]
theorem gl_of_laid {W:World}(h:laidMetH Tryz.prog laidAllL W)(hsh:W.ShapedOpen Tryz.prog):Gl W:=by
 obtain⟨ps,h0,_⟩:=data_of_laid h
 obtain⟨_,q1,h1⟩:=laid_cut h0
 obtain⟨c1,q2,h2⟩:=laid_cut h1
 obtain⟨c2,q3,h3⟩:=laid_cut h2
 obtain⟨c3,q4,h4⟩:=laid_cut h3
 obtain⟨c4,q5,h5⟩:=laid_cut h4
 obtain⟨c5,q6,h6⟩:=laid_cut h5
 refine⟨Tryz.laysM145.s1_3 W hsh,?_,?_,?_,?_,?_⟩
 ·intro i hi
  have e:=strs_cell (zs:=[[97,108,112,104,97],[98,101,116,97],[112,114,101],[114,99],[99,118,115],[115,118,110],[103,105,116],[104,103],[112]]) (g0:=1) (t0:=204) (e:=9) (n:=9) (by kernel_rfl) (by kernel_rfl) Tryz.underlying204 Tryz.underlying9 (by kernel_rfl) (by kernel_rfl) c1
  rcases(by omega:i=0∨i=1∨i=2∨i=3∨i=4∨i=5∨i=6∨i=7∨i=8) with rfl | rfl | rfl | rfl | rfl | rfl | rfl | rfl | rfl
  all_goals exact e _ _ rfl
 ·intro i hi
  have e:=strs_cell (zs:=[[],[60,60],[60,61],[61],[62,61],[62,62]]) (g0:=2) (t0:=208) (e:=9) (n:=6) (by kernel_rfl) (by kernel_rfl) Tryz.underlying208 Tryz.underlying9 (by kernel_rfl) (by kernel_rfl) c3
  rcases(by omega:i=0∨i=1∨i=2∨i=3∨i=4∨i=5) with rfl | rfl | rfl | rfl | rfl | rfl
  all_goals exact e _ _ rfl
 ·intro i hi
  have e:=strs_cell (zs:=[[],[60],[60,61],[61],[62,61],[62]]) (g0:=3) (t0:=208) (e:=9) (n:=6) (by kernel_rfl) (by kernel_rfl) Tryz.underlying208 Tryz.underlying9 (by kernel_rfl) (by kernel_rfl) c4
  rcases(by omega:i=0∨i=1∨i=2∨i=3∨i=4∨i=5) with rfl | rfl | rfl | rfl | rfl | rfl
  all_goals exact e _ _ rfl
 ·intro i hi
  have e:=strs_cell (zs:=[[97,110,100],[111,114],[105,102],[117,110,108,101,115,115],[119,105,116,104],[119,105,116,104,111,117,116]]) (g0:=6) (t0:=208) (e:=9) (n:=6) (by kernel_rfl) (by kernel_rfl) Tryz.underlying208 Tryz.underlying9 (by kernel_rfl) (by kernel_rfl) c5
  rcases(by omega:i=0∨i=1∨i=2∨i=3∨i=4∨i=5) with rfl | rfl | rfl | rfl | rfl | rfl
  all_goals exact e _ _ rfl
 ·intro i hi
  have e:=strs_cell (zs:=[[],[60],[60,61],[61],[62,61],[62],[126]]) (g0:=0) (t0:=179) (e:=9) (n:=7) (by kernel_rfl) (by kernel_rfl) Tryz.underlying179 Tryz.underlying9 (by kernel_rfl) (by kernel_rfl) c2
  rcases(by omega:i=0∨i=1∨i=2∨i=3∨i=4∨i=5∨i=6) with rfl | rfl | rfl | rfl | rfl | rfl | rfl
  all_goals exact e _ _ rfl
end
end Go.Proofs.YtdfdllbebfoggaaGreatDoor
