/- A part of the proof that ModelChecks holds. No condition. -/
import Derived.Test.YtdfdllbebfoggaaGreatDoorD50
set_option maxRecDepth 100000
set_option maxHeartbeats 20000000
set_option linter.unusedVariables false
set_option linter.unusedSimpArgs false
namespace Go.Proofs.YtdfdllbebfoggaaGreatDoor
section
open Go.RowKit
theorem smalls_of {l:List PkL}(h:wDb l≤1000000):∀ p∈l,p.small:=by
 intro p hp
 refine PkL.small_of ?_
 have:∀ (l:List PkL),p∈l→wsum p≤wDb l:=by
  intro l
  induction l with
  | nil=>intro h;simp at h
  | cons a r ih=>
   intro h
   unfold wDb at ih ⊢
   simp only[List.map_cons,List.sum_cons]
   rcases List.mem_cons.1 h with rfl | h
   ·omega
   ·have:=ih h;omega
 have:=this l hp;omega
theorem dbV_form (r:BA×BA×Int):∃ a b c,dbV r=.agg #[.string a,.string b,.int .i64 c]:=⟨_,_,_,rfl⟩
set_option maxRecDepth 100000 in
set_option maxHeartbeats 4000000 in
theorem law_ModelChecks (fmt:Int)(A:Option Addr)(c:Nat)(l:List PkL)(w:World)(hG:GlE w)(hd:DbOk w A l)(hl:l.length≤9223372036854775807)(hf:∀ p∈l,p.fits):
  Calls Tryz.prog 5 #[.int .i64 fmt,.slice A l.length c] w fun e w'=>e=.returned (.bool true)∧Below w.heap.size w w':=by
 have HG:=hid hG;have HD:=hid hd;have HF:=hid hf;have HLL:=hid hl
 clear hG hd hf hl
 go_enter Tryz.func5,Tryz.ntmps5
 go_wp2_with fail
 refine(law_awake _ HG.out.1).mono ?_;rintro e w1 ⟨rfl,hb1⟩
 have B1:=hid hb1;clear hb1
 go_wp2_with fail
 refine(ref_Light A c l 140 (by omega) 30000 (by omega) (by omega) _ (HD.out.below B1.out) HF.out HLL.out).mono ?_;rintro e w2 ⟨⟨b1,rfl,hb1⟩,hb2⟩
 have B2:=hid (bthen B1.out hb2);clear hb2
 have L1:=hid hb1;clear hb1
 cases b1
 ·go_wp2_with fail
  go_ret
  exact⟨rfl,B2.out⟩
 have LW:Hid (l.length≤140∧wDb l≤30000):=by have:=L1.out (by trivial);exact⟨this.1,by omega⟩
 have SM:=hid (smalls_of (l:=l) (by have:=LW.out.2;omega))
 obtain⟨a,b,n,hv⟩:=dbV_form (dbW (pkAll fmt) (fmtB fmt) l)
 have HM:=hid fun (W:World) (g:GlE W) (h:DbOk W A l)=>model_Check fmt A c l W g h (by have:=LW.out.1;omega) (by have:=LW.out.2;omega) SM.out
 have HR:=hid fun (W:World) (h:DbOk W A l)=>ref_Check fmt A c l W h (by have:=LW.out.1;omega) SM.out
 rw[hv] at HM HR
 clear hv
 go_wp2_with fail
 refine(HM.out w2 (HG.out.below B2.out) (HD.out.below B2.out)).mono ?_;rintro e w3 ⟨rfl,hb3⟩
 have B3:=hid (bthen B2.out hb3);clear hb3
 go_wp2_with fail
 refine(HR.out w3 (HD.out.below B3.out)).mono ?_;rintro e w4 ⟨rfl,hb4⟩
 have B4:=hid (bthen B3.out hb4);clear hb4
 go_wp2_with fail
 go_ret
 exact⟨rfl,B4.out⟩
end
end Go.Proofs.YtdfdllbebfoggaaGreatDoor
