/- A part of the proof that ModelChecks holds. No condition. -/
import Derived.Test.YtdfdllbebfoggaaGreatDoorD10
set_option maxRecDepth 100000
set_option maxHeartbeats 20000000
set_option linter.unusedVariables false
set_option linter.unusedSimpArgs false
namespace Go.Proofs.YtdfdllbebfoggaaGreatDoor
section
open Go.RowKit
def sumB (l:LU):Bool:=decide (1≤l.length)&&decide (l.length≤100)&&wthB 32 l&&l.head? != some 32&&l.getLast? != some 32
theorem head_bl (s:BA)(h:0<s.size):(bl s).head?=some s[0]:=by rw[bl_cons s h];rfl
theorem last_bl (s:BA)(h:0<s.size):(bl s).getLast?=some (s[s.size-1]):=by
 rw[List.getLast?_eq_getElem?,bl_length,bl_get? s (s.size-1) (by omega)]
theorem neq32 (a:UInt8):(((a.toNat:Nat):Int) != 32)=(some a != some 32):=by
 rw[bI];simp[←UInt8.toNat_inj];omega
theorem model_summaryRight (s:BA)(w:World)(hs:s.size≤9223372036854775807):
  Calls Tryz.prog 34 #[.string s] w fun e w'=>e=.returned (.bool (sumB (bl s)))∧w=w':=by
 have HB:=hid (bl_length s)
 by_cases h1:1≤s.size
 ·by_cases h2:s.size≤100
  ·have hh:=hid (head_bl s (by omega))
   have hl:=hid (last_bl s (by omega))
   cases hw:wthB 32 (bl s)
   ·go_enter Tryz.func34,Tryz.ntmps34
    go_wp2_with (go_at_call 41;refine(model_within _ 32 _ hs).mono ?_;rintro e w' ⟨rfl,rfl⟩)
    go_ret
    exact⟨ret_bool (by unfold sumB;rw[hw];simp),rfl⟩
   ·go_enter Tryz.func34,Tryz.ntmps34
    go_wp2_with (go_at_call 41;refine(model_within _ 32 _ hs).mono ?_;rintro e w' ⟨rfl,rfl⟩)
    all_goals go_ret
    all_goals (refine⟨ret_bool ?_,rfl⟩;unfold sumB;rw[hw,HB.out,dT h1,dT h2,hh.out,hl.out])
    ·rw[←neq32,←neq32];simp[‹_=(32:Int)›]
    ·rw[←neq32,←neq32];simp
  ·go_enter Tryz.func34,Tryz.ntmps34
   go_wp2_with fail
   go_ret
   exact⟨ret_bool (by unfold sumB;rw[HB.out,dF h2];simp),rfl⟩
 ·go_enter Tryz.func34,Tryz.ntmps34
  go_wp2_with fail
  go_ret
  exact⟨ret_bool (by unfold sumB;rw[HB.out,dF h1];simp),rfl⟩
theorem model_textsRight_nil (n:Int)(b:Bool)(w:World):
  Calls Tryz.prog 35 #[.int .i64 n,.slice none 0 0,.bool b] w fun e w'=>e=.returned (.bool true)∧w=w':=by
 go_enter Tryz.func35,Tryz.ntmps35
 go_wp2_with fail
 all_goals (refine wp_loop_rounds 1 ?_;rw[rounds_succ];go_wp2_with fail)
 all_goals (go_ret;exact⟨rfl,rfl⟩)
theorem model_givesRight_nil (n:Int)(w:World):
  Calls Tryz.prog 36 #[.int .i64 n,.slice none 0 0] w fun e w'=>e=.returned (.bool true)∧w=w':=by
 go_enter Tryz.func36,Tryz.ntmps36
 go_wp2_with fail
 all_goals (refine wp_loop_rounds 1 ?_;rw[rounds_succ];go_wp2_with fail)
 all_goals (go_ret;exact⟨rfl,rfl⟩)
theorem model_checkFiles_nil (n:Int)(w:World):
  Calls Tryz.prog 37 #[.int .i64 n,.slice none 0 0] w fun e w'=>e=.returned (.tuple #[.string ⟨#[]⟩,.int .i64 0])∧Below w.heap.size w w':=by
 have hmm:=@run_makeMap Tryz.prog
 go_enter Tryz.func37,Tryz.ntmps37
 go_wp2_with fail
 all_goals (refine wp_loop_rounds 1 ?_;rw[rounds_succ];go_wp2_with fail)
 all_goals go_ret2
 exact⟨rfl,(bR.alloc lr _).alloc (by simp) _⟩
theorem model_checkScripts_nil (n:Int)(w:World):
  Calls Tryz.prog 38 #[.int .i64 n,.slice none 0 0] w fun e w'=>e=.returned (.int .i64 0)∧w=w':=by
 go_enter Tryz.func38,Tryz.ntmps38
 go_wp2_with fail
 refine wp_loop_rounds 1 ?_;rw[rounds_succ];go_wp2_with fail
 refine wp_loop_rounds 1 ?_;rw[rounds_succ];go_wp2_with fail
 go_ret
 exact⟨rfl,rfl⟩
def verCode (r:Option (LU×LU×LU)):Int:=if r.isSome then 0 else 3
theorem version_Check_dpkg (s:BA)(w:World)(hG:Gl w)(hs:s.size≤64):
  Calls Tryz.prog 31 #[.int .i64 1,.string s] w fun e w'=>e=.returned (.int .i64 (verCode (splitD (bl s))))∧Below w.heap.size w w':=by
 have HG:=hid hG;clear hG
 go_enter Tryz.func31,Tryz.ntmps31
 go_wp2_with fail
 refine(version_Split_dpkg s _ HG.out hs).mono ?_
 rintro e w1 ⟨ep,pr,rv,c,rfl,hr,hb1⟩
 have HR:=hid hr;clear hr
 go_wp2_with fail
 go_ret
 refine⟨ret_int ?_,hb1⟩
 have hr:=HR.out
 cases h:splitD (bl s) with
 | none=>rw[h] at hr;exact hr.1
 | some x=>obtain⟨a,b,d⟩:=x;rw[h] at hr;exact hr.1
def noughtB:LU→Bool
 | a::_::_=>a==48
 | _=>false
theorem noughtB_short (s:BA)(h:¬ 1<s.size):noughtB (bl s)=false:=by
 have hl:=bl_length s
 cases hb:bl s with
 | nil=>rfl
 | cons a r=>cases r with
  | nil=>rfl
  | cons b r=>rw[hb] at hl;simp at hl;omega
theorem noughtB_long (s:BA)(h:1<s.size):noughtB (bl s)=(s[0]==48):=by
 have hl:=bl_length s
 have h0:=bl_cons s (by omega)
 cases hb:(bl s).tail with
 | nil=>rw[h0,hb] at hl;simp at hl;omega
 | cons b r=>rw[h0,hb];rfl
theorem beq48 (a:UInt8):(((a.toNat:Nat):Int)==48)=(a==48):=by
 rw[bI];simp[←UInt8.toNat_inj];omega
theorem version_nought (s:BA)(w:World)(hs:s.size≤9223372036854775807):
  Calls Tryz.prog 116 #[.string s] w fun e w'=>e=.returned (.bool (noughtB (bl s)))∧w=w':=by
 by_cases h:1<s.size
 ·have h0:0<s.size:=by omega
  have HN:=hid (noughtB_long s h)
  go_enter Tryz.func116,Tryz.ntmps116
  go_wp2
  go_ret
  exact⟨ret_bool (by rw[HN.out,beq48]),rfl⟩
 ·have HN:=hid (noughtB_short s h)
  go_enter Tryz.func116,Tryz.ntmps116
  go_wp2
  go_ret
  exact⟨ret_bool HN.out.symm,rfl⟩
theorem version_nought_is (s:BA)(b:Bool)(w:World)(hs:s.size≤9223372036854775807)(h:Hid (noughtB (bl s)=b)):
  Calls Tryz.prog 116 #[.string s] w fun e w'=>e=.returned (.bool b)∧w=w':=by rw[←h.out];exact version_nought s w hs
def rO:LU:=[46,95,43,126,94]
def epochR (l:LU):Option (LU×LU):=
 if (Lib.cut l [58]).2.2=true then (if numB (Lib.cut l [58]).1=true∧(Lib.cut l [58]).1.length≤9∧noughtB (Lib.cut l [58]).1=false then some ((Lib.cut l [58]).1,(Lib.cut l [58]).2.1) else none) else some ([],l)
def restR (p:LU):Option (LU×LU):=
 if (vmadeB rO (Lib.cut p [45]).1&&vmadeB rO (Lib.cut p [45]).2.1)=true then some ((Lib.cut p [45]).1,(Lib.cut p [45]).2.1) else none
def splitR (l:LU):Option (LU×LU×LU):=
 match epochR l with
 | none=>none
 | some (ep,p)=>(restR p).map fun r=>(ep,r.1,r.2)
theorem restR_eq (ep p:LU)(a b:Bool)(ha:vmadeB rO (Lib.cut p [45]).1=a)(hb:vmadeB rO (Lib.cut p [45]).2.1=b):
  (restR p).map (fun r=>(ep,r.1,r.2))=if (a&&b)=true then some (ep,(Lib.cut p [45]).1,(Lib.cut p [45]).2.1) else none:=by
 unfold restR;rw[ha,hb];split<;>rfl
theorem version_splitRpm0 (s:BA)(w:World)(hG:Gl w)(hs:s.size≤64)(hk:cutK s ⟨#[58]⟩=false):
  Calls Tryz.prog 84 #[.string s] w (SplitPost (splitR (bl s)) w):=by
 have HG:=hid hG;clear hG
 have HE:Hid (splitR (bl s)=(restR (bl s)).map fun r=>([],r.1,r.2)):=by
  show _=_;unfold splitR epochR;rw[show(Lib.cut (bl s) [58]).2.2=false from hk];rfl
 have z1:=cutA_le s ⟨#[45]⟩
 have z2:=cutB_le s ⟨#[45]⟩
 cases ha:vmadeB rO (bl (cutA s ⟨#[45]⟩))
 ·have HA:=hid ha;clear ha
  go_enter Tryz.func84,Tryz.ntmps84
  go_wp2_with fail
  refine(Cut_any s ⟨#[58]⟩ _ HG.out (by omega)).mono ?_;rintro e w1 ⟨rfl,hb1⟩
  go_wp2_with fail
  refine(Cut_any s ⟨#[45]⟩ _ (by exact HG.out.below hb1) (by omega)).mono ?_;rintro e w2 ⟨rfl,hb2⟩
  go_wp2_with fail
  refine(version_made_is (cutA s ⟨#[45]⟩) ⟨#[46,95,43,126,94]⟩ false _ (by omega) (by exact HA)).mono ?_;rintro e w3 ⟨rfl,hb3⟩
  go_wp2_with fail
  refine bodyPost_ret (results_tmp4 rfl _ _ _) rfl ?_
  exact⟨⟨#[]⟩,cutA s ⟨#[45]⟩,cutB s ⟨#[45]⟩,false,rfl,by rw[HE.out,restR_eq _ _ false (vmadeB rO (bl (cutB s ⟨#[45]⟩))) (by rw[←HA.out,bl_cutA];rfl) (by rw[bl_cutB];rfl)];rfl,by decide,by omega,by omega,bthen (bthen hb1 hb2) hb3⟩
 ·have HA:=hid ha;clear ha
  cases hb:vmadeB rO (bl (cutB s ⟨#[45]⟩))
  ·have HV:=hid hb;clear hb
   go_enter Tryz.func84,Tryz.ntmps84
   go_wp2_with fail
   refine(Cut_any s ⟨#[58]⟩ _ HG.out (by omega)).mono ?_;rintro e w1 ⟨rfl,hb1⟩
   go_wp2_with fail
   refine(Cut_any s ⟨#[45]⟩ _ (by exact HG.out.below hb1) (by omega)).mono ?_;rintro e w2 ⟨rfl,hb2⟩
   go_wp2_with fail
   refine(version_made_is (cutA s ⟨#[45]⟩) ⟨#[46,95,43,126,94]⟩ true _ (by omega) (by exact HA)).mono ?_;rintro e w3 ⟨rfl,hb3⟩
   go_wp2_with fail
   refine(version_made_is (cutB s ⟨#[45]⟩) ⟨#[46,95,43,126,94]⟩ false _ (by omega) (by exact HV)).mono ?_;rintro e w4 ⟨rfl,hb4⟩
   go_wp2_with fail
   refine bodyPost_ret (results_tmp4 rfl _ _ _) rfl ?_
   exact⟨⟨#[]⟩,cutA s ⟨#[45]⟩,cutB s ⟨#[45]⟩,false,rfl,by rw[HE.out,restR_eq _ _ true false (by rw[←HA.out,bl_cutA];rfl) (by rw[←HV.out,bl_cutB];rfl)];rfl,by decide,by omega,by omega,bthen (bthen (bthen hb1 hb2) hb3) hb4⟩
  ·have HV:=hid hb;clear hb
   go_enter Tryz.func84,Tryz.ntmps84
   go_wp2_with fail
   refine(Cut_any s ⟨#[58]⟩ _ HG.out (by omega)).mono ?_;rintro e w1 ⟨rfl,hb1⟩
   go_wp2_with fail
   refine(Cut_any s ⟨#[45]⟩ _ (by exact HG.out.below hb1) (by omega)).mono ?_;rintro e w2 ⟨rfl,hb2⟩
   go_wp2_with fail
   refine(version_made_is (cutA s ⟨#[45]⟩) ⟨#[46,95,43,126,94]⟩ true _ (by omega) (by exact HA)).mono ?_;rintro e w3 ⟨rfl,hb3⟩
   go_wp2_with fail
   refine(version_made_is (cutB s ⟨#[45]⟩) ⟨#[46,95,43,126,94]⟩ true _ (by omega) (by exact HV)).mono ?_;rintro e w4 ⟨rfl,hb4⟩
   go_wp2_with fail
   refine bodyPost_ret (results_tmp4 rfl _ _ _) rfl ?_
   exact⟨⟨#[]⟩,cutA s ⟨#[45]⟩,cutB s ⟨#[45]⟩,true,rfl,by rw[HE.out,restR_eq _ _ true true (by rw[←HA.out,bl_cutA];rfl) (by rw[←HV.out,bl_cutB];rfl)];simp only[Bool.and_self,if_true,bl_cutA,bl_cutB];rfl,by decide,by omega,by omega,bthen (bthen (bthen hb1 hb2) hb3) hb4⟩
theorem version_splitRpm1 (s t u:BA)(w:World)(hG:Gl w)(hs:s.size≤64)(hk:cutK s ⟨#[58]⟩=true)(ht:t=cutB s ⟨#[58]⟩)(hu:u=cutA s ⟨#[58]⟩)
  (hn:numB (bl u)=true)(hl:u.size≤9)(ho:noughtB (bl u)=false):
  Calls Tryz.prog 84 #[.string s] w (SplitPost (splitR (bl s)) w):=by
 have HG:=hid hG;clear hG
 have HE:Hid (splitR (bl s)=(restR (bl t)).map fun r=>(bl u,r.1,r.2)):=by
  show _=_;unfold splitR epochR
  have e1:bl u=(Lib.cut (bl s) [58]).1:=by rw[hu,bl_cutA];rfl
  have e2:bl t=(Lib.cut (bl s) [58]).2.1:=by rw[ht,bl_cutB];rfl
  rw[show(Lib.cut (bl s) [58]).2.2=true from hk,if_pos rfl,←e1,←e2,if_pos ⟨hn,by rw[bl_length];exact hl,ho⟩]
 have hts:t.size≤64:=by have:=cutB_le s ⟨#[58]⟩;rw[ht];omega
 have HN:=hid hn;have HO:=hid ho;clear hn ho
 have ht':=ht.symm;have hu':=hu.symm;clear ht hu
 have z1:=cutA_le t ⟨#[45]⟩
 have z2:=cutB_le t ⟨#[45]⟩
 cases ha:vmadeB rO (bl (cutA t ⟨#[45]⟩))
 ·have HA:=hid ha;clear ha
  go_enter Tryz.func84,Tryz.ntmps84
  go_wp2_with fail
  refine(Cut_any s ⟨#[58]⟩ _ HG.out (by omega)).mono ?_;rintro e w1 ⟨rfl,hb1⟩
  go_wp2_with fail
  refine(version_number_is _ _ _ (by omega) HN).mono ?_;rintro e w1' ⟨rfl,rfl⟩
  go_wp2_with fail
  refine(version_nought_is _ _ _ (by omega) HO).mono ?_;rintro e w1' ⟨rfl,rfl⟩
  go_wp2_with fail
  refine(Cut_any t ⟨#[45]⟩ _ (by exact HG.out.below hb1) (by omega)).mono ?_;rintro e w2 ⟨rfl,hb2⟩
  go_wp2_with fail
  refine(version_made_is (cutA t ⟨#[45]⟩) ⟨#[46,95,43,126,94]⟩ false _ (by omega) (by exact HA)).mono ?_;rintro e w3 ⟨rfl,hb3⟩
  go_wp2_with fail
  refine bodyPost_ret (results_tmp4 rfl _ _ _) rfl ?_
  exact⟨u,cutA t ⟨#[45]⟩,cutB t ⟨#[45]⟩,false,rfl,by rw[HE.out,restR_eq _ _ false (vmadeB rO (bl (cutB t ⟨#[45]⟩))) (by rw[←HA.out,bl_cutA];rfl) (by rw[bl_cutB];rfl)];rfl,by omega,by omega,by omega,bthen (bthen hb1 hb2) hb3⟩
 ·have HA:=hid ha;clear ha
  cases hb:vmadeB rO (bl (cutB t ⟨#[45]⟩))
  ·have HV:=hid hb;clear hb
   go_enter Tryz.func84,Tryz.ntmps84
   go_wp2_with fail
   refine(Cut_any s ⟨#[58]⟩ _ HG.out (by omega)).mono ?_;rintro e w1 ⟨rfl,hb1⟩
   go_wp2_with fail
   refine(version_number_is _ _ _ (by omega) HN).mono ?_;rintro e w1' ⟨rfl,rfl⟩
   go_wp2_with fail
   refine(version_nought_is _ _ _ (by omega) HO).mono ?_;rintro e w1' ⟨rfl,rfl⟩
   go_wp2_with fail
   refine(Cut_any t ⟨#[45]⟩ _ (by exact HG.out.below hb1) (by omega)).mono ?_;rintro e w2 ⟨rfl,hb2⟩
   go_wp2_with fail
   refine(version_made_is (cutA t ⟨#[45]⟩) ⟨#[46,95,43,126,94]⟩ true _ (by omega) (by exact HA)).mono ?_;rintro e w3 ⟨rfl,hb3⟩
   go_wp2_with fail
   refine(version_made_is (cutB t ⟨#[45]⟩) ⟨#[46,95,43,126,94]⟩ false _ (by omega) (by exact HV)).mono ?_;rintro e w4 ⟨rfl,hb4⟩
   go_wp2_with fail
   refine bodyPost_ret (results_tmp4 rfl _ _ _) rfl ?_
   exact⟨u,cutA t ⟨#[45]⟩,cutB t ⟨#[45]⟩,false,rfl,by rw[HE.out,restR_eq _ _ true false (by rw[←HA.out,bl_cutA];rfl) (by rw[←HV.out,bl_cutB];rfl)];rfl,by omega,by omega,by omega,bthen (bthen (bthen hb1 hb2) hb3) hb4⟩
  ·have HV:=hid hb;clear hb
   go_enter Tryz.func84,Tryz.ntmps84
   go_wp2_with fail
   refine(Cut_any s ⟨#[58]⟩ _ HG.out (by omega)).mono ?_;rintro e w1 ⟨rfl,hb1⟩
   go_wp2_with fail
   refine(version_number_is _ _ _ (by omega) HN).mono ?_;rintro e w1' ⟨rfl,rfl⟩
   go_wp2_with fail
   refine(version_nought_is _ _ _ (by omega) HO).mono ?_;rintro e w1' ⟨rfl,rfl⟩
   go_wp2_with fail
   refine(Cut_any t ⟨#[45]⟩ _ (by exact HG.out.below hb1) (by omega)).mono ?_;rintro e w2 ⟨rfl,hb2⟩
   go_wp2_with fail
   refine(version_made_is (cutA t ⟨#[45]⟩) ⟨#[46,95,43,126,94]⟩ true _ (by omega) (by exact HA)).mono ?_;rintro e w3 ⟨rfl,hb3⟩
   go_wp2_with fail
   refine(version_made_is (cutB t ⟨#[45]⟩) ⟨#[46,95,43,126,94]⟩ true _ (by omega) (by exact HV)).mono ?_;rintro e w4 ⟨rfl,hb4⟩
   go_wp2_with fail
   refine bodyPost_ret (results_tmp4 rfl _ _ _) rfl ?_
   exact⟨u,cutA t ⟨#[45]⟩,cutB t ⟨#[45]⟩,true,rfl,by rw[HE.out,restR_eq _ _ true true (by rw[←HA.out,bl_cutA];rfl) (by rw[←HV.out,bl_cutB];rfl)];simp only[Bool.and_self,if_true,bl_cutA,bl_cutB];rfl,by omega,by omega,by omega,bthen (bthen (bthen hb1 hb2) hb3) hb4⟩
theorem version_splitRpm2 (s u:BA)(w:World)(hG:Gl w)(hs:s.size≤64)(hk:cutK s ⟨#[58]⟩=true)(hu:u=cutA s ⟨#[58]⟩)
  (hn:¬ (numB (bl u)=true∧u.size≤9∧noughtB (bl u)=false)):
  Calls Tryz.prog 84 #[.string s] w (SplitPost (splitR (bl s)) w):=by
 have HG:=hid hG;clear hG
 have HE:Hid (splitR (bl s)=none):=by
  show _=_;unfold splitR epochR
  have e1:bl u=(Lib.cut (bl s) [58]).1:=by rw[hu,bl_cutA];rfl
  rw[show(Lib.cut (bl s) [58]).2.2=true from hk,if_pos rfl,←e1,if_neg (by rw[bl_length];exact hn)]
 have hus:u.size≤64:=by have:=cutA_le s ⟨#[58]⟩;rw[hu];omega
 have hu':=hu.symm;clear hu
 cases hb:numB (bl u)
 ·have HN:=hid hb;clear hb hn
  go_enter Tryz.func84,Tryz.ntmps84
  go_wp2_with fail
  refine(Cut_any s ⟨#[58]⟩ _ HG.out (by omega)).mono ?_;rintro e w1 ⟨rfl,hb1⟩
  go_wp2_with fail
  refine(version_number_is _ _ _ (by omega) HN).mono ?_;rintro e w1' ⟨rfl,rfl⟩
  go_wp2_with fail
  refine bodyPost_ret (results_tmp4 rfl _ _ _) rfl ?_
  exact SplitPost.no HE.out hb1
 ·by_cases hl:u.size≤9
  ·have ho:noughtB (bl u)=true:=by cases h:noughtB (bl u) with | true=>rfl | false=>exact absurd ⟨hb,hl,h⟩ hn
   have HN:=hid hb;have HO:=hid ho;clear hb hn ho
   go_enter Tryz.func84,Tryz.ntmps84
   go_wp2_with fail
   refine(Cut_any s ⟨#[58]⟩ _ HG.out (by omega)).mono ?_;rintro e w1 ⟨rfl,hb1⟩
   go_wp2_with fail
   refine(version_number_is _ _ _ (by omega) HN).mono ?_;rintro e w1' ⟨rfl,rfl⟩
   go_wp2_with fail
   refine(version_nought_is _ _ _ (by omega) HO).mono ?_;rintro e w1' ⟨rfl,rfl⟩
   go_wp2_with fail
   refine bodyPost_ret (results_tmp4 rfl _ _ _) rfl ?_
   exact SplitPost.no HE.out hb1
  ·have HN:=hid hb;clear hb hn
   go_enter Tryz.func84,Tryz.ntmps84
   go_wp2_with fail
   refine(Cut_any s ⟨#[58]⟩ _ HG.out (by omega)).mono ?_;rintro e w1 ⟨rfl,hb1⟩
   go_wp2_with fail
   refine(version_number_is _ _ _ (by omega) HN).mono ?_;rintro e w1' ⟨rfl,rfl⟩
   go_wp2_with fail
   refine bodyPost_ret (results_tmp4 rfl _ _ _) rfl ?_
   exact SplitPost.no HE.out hb1
theorem version_splitRpm (s:BA)(w:World)(hG:Gl w)(hs:s.size≤64):
  Calls Tryz.prog 84 #[.string s] w (SplitPost (splitR (bl s)) w):=by
 cases hk:cutK s ⟨#[58]⟩
 ·exact version_splitRpm0 s w hG hs hk
 ·by_cases hn:numB (bl (cutA s ⟨#[58]⟩))=true∧(cutA s ⟨#[58]⟩).size≤9∧noughtB (bl (cutA s ⟨#[58]⟩))=false
  ·exact version_splitRpm1 s _ _ w hG hs hk rfl rfl hn.1 hn.2.1 hn.2.2
  ·exact version_splitRpm2 s _ w hG hs hk rfl hn
theorem version_Split_rpm (s:BA)(w:World)(hG:Gl w)(hs:s.size≤64):
  Calls Tryz.prog 59 #[.int .i64 2,.string s] w (SplitAns (splitR (bl s)) w):=by
 have HG:=hid hG;clear hG
 go_enter Tryz.func59,Tryz.ntmps59
 go_wp2_with fail
 refine(version_splitRpm s _ HG.out hs).mono ?_
 rintro e w1 ⟨ep,pr,rv,ok,rfl,hr,h1,h2,h3,hb1⟩
 have HR:=hid hr;clear hr
 cases ok
 ·go_wp2_with fail
  refine bodyPost_ret (results_tmp4 rfl _ _ _) rfl ?_
  exact⟨⟨#[]⟩,⟨#[]⟩,⟨#[]⟩,3,rfl,by rw[HR.out];exact⟨rfl,rfl,rfl,rfl⟩,hb1⟩
 ·go_wp2_with fail
  refine bodyPost_ret (results_tmp4 rfl _ _ _) rfl ?_
  exact⟨ep,pr,rv,0,rfl,by rw[HR.out];exact⟨rfl,rfl,rfl,rfl⟩,hb1⟩
end
end Go.Proofs.YtdfdllbebfoggaaGreatDoor
