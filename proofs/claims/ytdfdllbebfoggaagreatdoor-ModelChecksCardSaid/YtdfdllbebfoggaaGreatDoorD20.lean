/- A part of the proof that ModelChecks holds. No condition. -/
import Derived.Test.YtdfdllbebfoggaaGreatDoorD19
set_option maxRecDepth 100000
set_option maxHeartbeats 20000000
set_option linter.unusedVariables false
set_option linter.unusedSimpArgs false
namespace Go.Proofs.YtdfdllbebfoggaaGreatDoor
section
open Go.RowKit
theorem part_no {r:Option (LU×LU×LU)}{w w':World}(h:r=none)(hb:Below w.heap.size w w'):PartPost r w (.returned (.agg #[.string ⟨#[]⟩,.string ⟨#[]⟩,.string ⟨#[]⟩,.bool false])) w':=
 ⟨_,_,_,_,rfl,by rw[h],hb⟩
theorem part_yes {r:Option (LU×LU×LU)}{w w':World}{ep pr rv:BA}(h:r=some (bl ep,bl pr,bl rv))(hb:Below w.heap.size w w'):PartPost r w (.returned (.agg #[.string ep,.string pr,.string rv,.bool true])) w':=
 ⟨_,_,_,_,rfl,by rw[h];exact⟨rfl,rfl,rfl,rfl⟩,hb⟩
theorem r12_made_is (s o:BA)(b:Bool)(w:World)(hs:s.size≤9223372036854775807)(ho:o.size≤9223372036854775807)(h:Hid (vmadeB (bl o) (bl s)=b)):
  Calls Tryz.prog 146 #[.string s,.string o] w fun e w'=>e=.returned (.bool b)∧w=w':=by rw[←h.out];exact r12_made s o w hs ho
theorem r12_place_is (s:BA)(c:UInt8)(k:Int)(w:World)(hs:s.size≤9223372036854775807)(h:Hid (lastI c (bl s)=k)):
  Calls Tryz.prog 145 #[.string s,.int .u8 c.toNat] w fun e w'=>e=.returned (.int .i64 k)∧w=w':=by rw[←h.out];exact r12_place s c w hs
theorem r12_Digits_is (s:BA)(k:Nat)(w:World)(hs:s.size≤9223372036854775807)(h:Hid (runN digB (bl s)=k)):
  Calls Tryz.prog 144 #[.string s] w fun e w'=>e=.returned (.int .i64 k)∧w=w':=by rw[←h.out];exact r12_Digits s w hs
theorem r12_digit_is (c:UInt8)(b:Bool)(w:World)(h:Hid (digB c=b)):
  Calls Tryz.prog 147 #[.int .u8 c.toNat] w fun e w'=>e=.returned (.bool b)∧w=w':=by rw[←h.out];exact r12_digit c w
theorem r12_Part_dr (fmt:Int)(hf:fmt=1∨fmt=2)(s:BA)(w:World)(hs:s.size≤64):
  Calls Tryz.prog 100 #[.int .i64 fmt,.string s] w (PartPost (splitF fmt (bl s)) w):=by
 have h3:(fmt==3)=false:=by simp;omega
 have HF:=hid hf
 go_enter Tryz.func100,Tryz.ntmps100
 go_upto_block 0 with(fail)
 go_cut [8] (fun s8 wx=>∃ ep pr:BA,wx=(w.alloc (.cells #[.string ⟨#[]⟩,.string ⟨#[]⟩,.string ⟨#[]⟩,.bool false] 133)).alloc (.cells #[.string ep,.string pr,.string ⟨#[]⟩,.bool false] 133)∧Hid (epochOf (bl s)=some (bl ep,bl pr))∧ep.size≤64∧pr.size≤64)
 case first=>
  clear hf
  go_wp2_with fail
  go_loop [8] (fun i=>∃ k:Nat,k≤s.size∧i=.int .i64 k∧Hid (((bl s).take k).contains 58=false)) (fun i=>s.size-(intOf i).toNat)
  case atStart=>exact⟨0,z0,rfl,by simp[Hid]⟩
  case round=>
   obtain⟨k,hk,rfl,HA⟩:=hrel
   by_cases hlt:k<s.size
   ·by_cases hc:s[k]=58
    ·have hc1:((s[k].toNat:Int)==58)=true:=by rw[hc];rfl
     have HE:=hid (epoch_at HA.out (by rw[bl_get? s k hlt,hc]))
     clear hc
     by_cases k1:k<1
     ·skip
      have E:Hid (splitF fmt (bl s)=none):=splitF_none HF.out (by rw[HE.out,if_neg (by omega)])
      go_wp2_with fail
      refine bodyPost_ret (v:=.agg #[.string ⟨#[]⟩,.string ⟨#[]⟩,.string ⟨#[]⟩,.bool false]) (by simp[results,Tryz.results100,go_sem]) rfl ?_
      exact part_no E.out ((bR.alloc lr _).alloc (by simp) _)
     by_cases k9:9<k
     ·skip
      have E:Hid (splitF fmt (bl s)=none):=splitF_none HF.out (by rw[HE.out,if_neg (by omega)])
      go_wp2_with fail
      refine bodyPost_ret (v:=.agg #[.string ⟨#[]⟩,.string ⟨#[]⟩,.string ⟨#[]⟩,.bool false]) (by simp[results,Tryz.results100,go_sem]) rfl ?_
      exact part_no E.out ((bR.alloc lr _).alloc (by simp) _)
     by_cases kd:runN digB (bl s)=k
     ·have HD:=hid kd
      have HE2:Hid (epochOf (bl s)=some (bl (s.extract 0 k),bl (s.extract (k+1) s.size))):=by show _=_;rw[HE.out,if_pos ⟨by omega,by omega,kd⟩,bl_take,bl_drop]
      have z1:(s.extract 0 k).size≤64:=by have:=congrArg List.length (bl_take s k);rw[bl_length,List.length_take,bl_length] at this;omega
      have z2:(s.extract (k+1) s.size).size≤64:=by rw[size_drop];omega
      have hne:((k:Int) != (k:Int))=false:=by simp
      clear kd
      go_wp2_with fail
      refine(r12_Digits_is s k _ (by omega) HD).mono ?_;rintro e w' ⟨rfl,rfl⟩
      go_wp2_with fail
      go_meet
      exact⟨_,_,rfl,HE2,z1,z2⟩
     ·skip
      have E:Hid (splitF fmt (bl s)=none):=splitF_none HF.out (by rw[HE.out,if_neg (fun hh=>kd hh.2.2)])
      obtain⟨m,hm⟩:∃ m,runN digB (bl s)=m:=⟨_,rfl⟩
      have hne:((m:Int) != (k:Int))=true:=by rw[hm] at kd;simp[bne];omega
      have HM:=hid hm
      clear kd hm
      go_wp2_with fail
      refine(r12_Digits_is s m _ (by omega) HM).mono ?_;rintro e w' ⟨rfl,rfl⟩
      go_wp2_with fail
      refine bodyPost_ret (v:=.agg #[.string ⟨#[]⟩,.string ⟨#[]⟩,.string ⟨#[]⟩,.bool false]) (by simp[results,Tryz.results100,go_sem]) rfl ?_
      exact part_no E.out ((bR.alloc lr _).alloc (by simp) _)
    ·have hc1:((s[k].toNat:Int)==58)=false:=by
      simp only[bF,ne_eq];intro h;apply hc;apply UInt8.toNat_inj.1;show _=58;omega
     have HC:=hid hc
     clear hc
     go_wp2_with fail
     go_round
     case rel=>exact⟨k+1,by omega,by go_num,hid (contains_take_next s 58 k hlt HA.out (by simpa using HC.out))⟩
     case measure=>simp[intOf];omega
   ·have HE:Hid (epochOf (bl s)=some ([],bl s)):=epoch_none (by have:=HA.out;rw[bl_take_ge s k (by omega)] at this;exact this)
    go_wp2_with fail
    go_meet
    exact⟨⟨#[]⟩,s,rfl,HE,by decide,hs⟩
 case rest=>
 obtain⟨ep,pr,rfl,HE,z1,z2⟩:=hcut
 have EF:Hid (splitF fmt (bl s)=partF fmt (bl ep) (bl pr)):=splitF_some HF.out HE.out
 unfold partF at EF
 cases hl:lastL 45 (bl pr) with
 | none=>
  have HI:Hid (lastI 45 (bl pr)=-1):=by show _=_;unfold lastI;rw[hl]
  rw[hl] at EF
  clear hl
  go_wp2_with fail
  refine(r12_place_is pr 45 (-1) _ (by omega) HI).mono ?_;rintro e w' ⟨rfl,rfl⟩
  by_cases f2:fmt=2
  ·have f2':(fmt==2)=true:=by simpa using f2
   have E:Hid (splitF fmt (bl s)=none):=by show _=_;rw[EF.out];simp only[if_pos f2]
   clear f2 hf
   go_wp2_with fail
   refine bodyPost_ret (v:=.agg #[.string ⟨#[]⟩,.string ⟨#[]⟩,.string ⟨#[]⟩,.bool false]) (by simp[results,Tryz.results100,go_sem]) rfl ?_
   exact part_no E.out ((bR.alloc lr _).alloc (by simp) _)
  ·have f2':(fmt==2)=false:=by simpa using f2
   cases g1:vmadeB [46,43,126] (bl pr)
   ·skip
    have E:Hid (splitF fmt (bl s)=none):=by show _=_;rw[EF.out];simp only[if_neg f2];rw[g1];rfl
    have G1:Hid (vmadeB (bl ⟨#[46,43,126]⟩) (bl pr)=false):=g1
    clear f2 hf g1
    go_wp2_with fail
    refine(r12_made_is pr ⟨#[46,43,126]⟩ false _ (by omega) (by decide) G1).mono ?_;rintro e w' ⟨rfl,rfl⟩
    go_wp2_with fail
    refine bodyPost_ret (v:=.agg #[.string ⟨#[]⟩,.string ⟨#[]⟩,.string ⟨#[]⟩,.bool false]) (by simp[results,Tryz.results100,go_sem]) rfl ?_
    exact part_no E.out ((bR.alloc lr _).alloc (by simp) _)
   have hp0:0<pr.size:=vmade_pos _ pr g1
   have G1:Hid (vmadeB (bl ⟨#[46,43,126]⟩) (bl pr)=true):=g1
   have hh:=headDig_pos pr hp0
   cases g2:digB pr[0]
   ·skip
    have E:Hid (splitF fmt (bl s)=none):=by show _=_;rw[EF.out];simp only[if_neg f2];rw[g1,hh,g2];rfl
    have G2:=hid g2
    clear f2 hf g1 g2 hh
    go_wp2_with fail
    refine(r12_made_is pr ⟨#[46,43,126]⟩ true _ (by omega) (by decide) G1).mono ?_;rintro e w' ⟨rfl,rfl⟩
    go_wp2_with fail
    refine(r12_digit_is pr[0] false _ G2).mono ?_;rintro e w' ⟨rfl,rfl⟩
    go_wp2_with fail
    refine bodyPost_ret (v:=.agg #[.string ⟨#[]⟩,.string ⟨#[]⟩,.string ⟨#[]⟩,.bool false]) (by simp[results,Tryz.results100,go_sem]) rfl ?_
    exact part_no E.out ((bR.alloc lr _).alloc (by simp) _)
   ·skip
    have E:Hid (splitF fmt (bl s)=some (bl ep,bl pr,bl ⟨#[]⟩)):=by show _=_;rw[EF.out];simp only[if_neg f2];rw[g1,hh,g2];rfl
    have G2:=hid g2
    clear f2 hf g1 g2 hh
    go_wp2_with fail
    refine(r12_made_is pr ⟨#[46,43,126]⟩ true _ (by omega) (by decide) G1).mono ?_;rintro e w' ⟨rfl,rfl⟩
    go_wp2_with fail
    refine(r12_digit_is pr[0] true _ G2).mono ?_;rintro e w' ⟨rfl,rfl⟩
    go_wp2_with fail
    refine bodyPost_ret (v:=.agg #[.string ep,.string pr,.string ⟨#[]⟩,.bool true]) (by simp[results,Tryz.results100,go_sem]) rfl ?_
    exact part_yes E.out ((bR.alloc lr _).alloc (by simp) _)
 | some i=>
  have HI:Hid (lastI 45 (bl pr)=i):=by show _=_;unfold lastI;rw[hl]
  have hi:i<pr.size:=by have:=lastL_lt _ _ _ hl;rw[bl_length] at this;exact this
  rw[hl] at EF
  obtain⟨p1,hp1⟩:∃ p1,pr.extract 0 i=p1:=⟨_,rfl⟩
  obtain⟨q1,hq1⟩:∃ q1,pr.extract (i+1) pr.size=q1:=⟨_,rfl⟩
  have bp:(bl pr).take i=bl p1:=by rw[←hp1,bl_take]
  have bq:(bl pr).drop (i+1)=bl q1:=by rw[←hq1,bl_drop]
  dsimp only at EF
  rw[bp,bq] at EF
  have zp:p1.size≤64:=by have:=congrArg List.length bp;rw[List.length_take,bl_length,bl_length] at this;omega
  have zq:q1.size≤64:=by rw[←hq1,size_drop];omega
  clear hl bp bq
  go_wp2_with fail
  refine(r12_place_is pr 45 i _ (by omega) HI).mono ?_;rintro e w' ⟨rfl,rfl⟩
  go_upto_region 23 with(fail)
  try simp only[hp1,hq1]
  clear hp1 hq1
  by_cases f2:fmt=2
  ·have f2':(fmt==2)=true:=by simpa using f2
   cases g1:vmadeB rO (bl p1)
   ·skip
    have E:Hid (splitF fmt (bl s)=none):=by show _=_;rw[EF.out];simp only[if_pos f2];rw[g1];rfl
    have G1:Hid (vmadeB (bl ⟨#[46,95,43,126,94]⟩) (bl p1)=false):=g1
    clear f2 hf g1
    go_wp2_with fail
    refine(r12_made_is p1 ⟨#[46,95,43,126,94]⟩ false _ (by omega) (by decide) G1).mono ?_;rintro e w' ⟨rfl,rfl⟩
    go_wp2_with fail
    refine bodyPost_ret (v:=.agg #[.string ⟨#[]⟩,.string ⟨#[]⟩,.string ⟨#[]⟩,.bool false]) (by simp[results,Tryz.results100,go_sem]) rfl ?_
    exact part_no E.out ((bR.alloc lr _).alloc (by simp) _)
   have G1:Hid (vmadeB (bl ⟨#[46,95,43,126,94]⟩) (bl p1)=true):=g1
   cases g2:vmadeB rO (bl q1)
   ·skip
    have E:Hid (splitF fmt (bl s)=none):=by show _=_;rw[EF.out];simp only[if_pos f2];rw[g1,g2];rfl
    have G2:Hid (vmadeB (bl ⟨#[46,95,43,126,94]⟩) (bl q1)=false):=g2
    clear f2 hf g1 g2
    go_wp2_with fail
    refine(r12_made_is p1 ⟨#[46,95,43,126,94]⟩ true _ (by omega) (by decide) G1).mono ?_;rintro e w' ⟨rfl,rfl⟩
    go_wp2_with fail
    refine(r12_made_is q1 ⟨#[46,95,43,126,94]⟩ false _ (by omega) (by decide) G2).mono ?_;rintro e w' ⟨rfl,rfl⟩
    go_wp2_with fail
    refine bodyPost_ret (v:=.agg #[.string ⟨#[]⟩,.string ⟨#[]⟩,.string ⟨#[]⟩,.bool false]) (by simp[results,Tryz.results100,go_sem]) rfl ?_
    exact part_no E.out ((bR.alloc lr _).alloc (by simp) _)
   have G2:Hid (vmadeB (bl ⟨#[46,95,43,126,94]⟩) (bl q1)=true):=g2
   by_cases e2:ep.size<2
   ·skip
    have E:Hid (splitF fmt (bl s)=some (bl ep,bl p1,bl q1)):=by show _=_;rw[EF.out];simp only[if_pos f2];rw[g1,g2,noughtB_short ep (by omega)];rfl
    clear f2 hf g1 g2
    go_wp2_with fail
    refine(r12_made_is p1 ⟨#[46,95,43,126,94]⟩ true _ (by omega) (by decide) G1).mono ?_;rintro e w' ⟨rfl,rfl⟩
    go_wp2_with fail
    refine(r12_made_is q1 ⟨#[46,95,43,126,94]⟩ true _ (by omega) (by decide) G2).mono ?_;rintro e w' ⟨rfl,rfl⟩
    go_wp2_with fail
    refine bodyPost_ret (v:=.agg #[.string ep,.string p1,.string q1,.bool true]) (by simp[results,Tryz.results100,go_sem]) rfl ?_
    exact part_yes E.out ((bR.alloc lr _).alloc (by simp) _)
   have hn:=noughtB_long ep (by omega)
   have e0:0<ep.size:=by omega
   have t2:decide ((ep.size:Int)<2)=false:=dF (by omega)
   by_cases e48:ep[0].toNat=48
   ·have t48:((ep[0].toNat:Int) != 48)=false:=u8_beqN e48
    have hb:(ep[0]==48)=true:=by rw[show ep[0]=48 from UInt8.toNat_inj.1 e48];rfl
    have E:Hid (splitF fmt (bl s)=none):=by show _=_;rw[EF.out];simp only[if_pos f2];rw[g1,g2,hn,hb];rfl
    clear e48 hb hn
    clear f2 hf g1 g2
    go_wp2_with fail
    refine(r12_made_is p1 ⟨#[46,95,43,126,94]⟩ true _ (by omega) (by decide) G1).mono ?_;rintro e w' ⟨rfl,rfl⟩
    go_wp2_with fail
    refine(r12_made_is q1 ⟨#[46,95,43,126,94]⟩ true _ (by omega) (by decide) G2).mono ?_;rintro e w' ⟨rfl,rfl⟩
    go_wp2_with fail
    refine bodyPost_ret (v:=.agg #[.string ⟨#[]⟩,.string ⟨#[]⟩,.string ⟨#[]⟩,.bool false]) (by simp[results,Tryz.results100,go_sem]) rfl ?_
    exact part_no E.out ((bR.alloc lr _).alloc (by simp) _)
   ·have t48:((ep[0].toNat:Int) != 48)=true:=u8_bneN e48
    have hb:(ep[0]==48)=false:=by simp only[bF,ne_eq];intro h;exact e48 (by rw[h];rfl)
    have E:Hid (splitF fmt (bl s)=some (bl ep,bl p1,bl q1)):=by show _=_;rw[EF.out];simp only[if_pos f2];rw[g1,g2,hn,hb];rfl
    clear e48 hb hn
    clear f2 hf g1 g2
    go_wp2_with fail
    refine(r12_made_is p1 ⟨#[46,95,43,126,94]⟩ true _ (by omega) (by decide) G1).mono ?_;rintro e w' ⟨rfl,rfl⟩
    go_wp2_with fail
    refine(r12_made_is q1 ⟨#[46,95,43,126,94]⟩ true _ (by omega) (by decide) G2).mono ?_;rintro e w' ⟨rfl,rfl⟩
    go_wp2_with fail
    refine bodyPost_ret (v:=.agg #[.string ep,.string p1,.string q1,.bool true]) (by simp[results,Tryz.results100,go_sem]) rfl ?_
    exact part_yes E.out ((bR.alloc lr _).alloc (by simp) _)
  ·have f2':(fmt==2)=false:=by simpa using f2
   cases g1:vmadeB [46,43,126,45] (bl p1)
   ·skip
    have E:Hid (splitF fmt (bl s)=none):=by show _=_;rw[EF.out];simp only[if_neg f2];rw[g1];rfl
    have G1:Hid (vmadeB (bl ⟨#[46,43,126,45]⟩) (bl p1)=false):=g1
    clear f2 hf g1
    go_wp2_with fail
    refine(r12_made_is p1 ⟨#[46,43,126,45]⟩ false _ (by omega) (by decide) G1).mono ?_;rintro e w' ⟨rfl,rfl⟩
    go_wp2_with fail
    refine bodyPost_ret (v:=.agg #[.string ⟨#[]⟩,.string ⟨#[]⟩,.string ⟨#[]⟩,.bool false]) (by simp[results,Tryz.results100,go_sem]) rfl ?_
    exact part_no E.out ((bR.alloc lr _).alloc (by simp) _)
   have hp0:0<p1.size:=vmade_pos _ p1 g1
   have G1:Hid (vmadeB (bl ⟨#[46,43,126,45]⟩) (bl p1)=true):=g1
   have hh:=headDig_pos p1 hp0
   cases g2:digB p1[0]
   ·skip
    have E:Hid (splitF fmt (bl s)=none):=by show _=_;rw[EF.out];simp only[if_neg f2];rw[g1,hh,g2];rfl
    have G2:=hid g2
    clear f2 hf g1 g2 hh
    go_wp2_with fail
    refine(r12_made_is p1 ⟨#[46,43,126,45]⟩ true _ (by omega) (by decide) G1).mono ?_;rintro e w' ⟨rfl,rfl⟩
    go_wp2_with fail
    refine(r12_digit_is p1[0] false _ G2).mono ?_;rintro e w' ⟨rfl,rfl⟩
    go_wp2_with fail
    refine bodyPost_ret (v:=.agg #[.string ⟨#[]⟩,.string ⟨#[]⟩,.string ⟨#[]⟩,.bool false]) (by simp[results,Tryz.results100,go_sem]) rfl ?_
    exact part_no E.out ((bR.alloc lr _).alloc (by simp) _)
   have G2:=hid g2
   cases g3:vmadeB [46,43,126] (bl q1)
   ·skip
    have E:Hid (splitF fmt (bl s)=none):=by show _=_;rw[EF.out];simp only[if_neg f2];rw[g1,hh,g2,g3];rfl
    have G3:Hid (vmadeB (bl ⟨#[46,43,126]⟩) (bl q1)=false):=g3
    clear f2 hf g1 g2 g3 hh
    go_wp2_with fail
    refine(r12_made_is p1 ⟨#[46,43,126,45]⟩ true _ (by omega) (by decide) G1).mono ?_;rintro e w' ⟨rfl,rfl⟩
    go_wp2_with fail
    refine(r12_digit_is p1[0] true _ G2).mono ?_;rintro e w' ⟨rfl,rfl⟩
    go_wp2_with fail
    refine(r12_made_is q1 ⟨#[46,43,126]⟩ false _ (by omega) (by decide) G3).mono ?_;rintro e w' ⟨rfl,rfl⟩
    go_wp2_with fail
    refine bodyPost_ret (v:=.agg #[.string ⟨#[]⟩,.string ⟨#[]⟩,.string ⟨#[]⟩,.bool false]) (by simp[results,Tryz.results100,go_sem]) rfl ?_
    exact part_no E.out ((bR.alloc lr _).alloc (by simp) _)
   ·skip
    have E:Hid (splitF fmt (bl s)=some (bl ep,bl p1,bl q1)):=by show _=_;rw[EF.out];simp only[if_neg f2];rw[g1,hh,g2,g3];rfl
    have G3:Hid (vmadeB (bl ⟨#[46,43,126]⟩) (bl q1)=true):=g3
    clear f2 hf g1 g2 g3 hh
    go_wp2_with fail
    refine(r12_made_is p1 ⟨#[46,43,126,45]⟩ true _ (by omega) (by decide) G1).mono ?_;rintro e w' ⟨rfl,rfl⟩
    go_wp2_with fail
    refine(r12_digit_is p1[0] true _ G2).mono ?_;rintro e w' ⟨rfl,rfl⟩
    go_wp2_with fail
    refine(r12_made_is q1 ⟨#[46,43,126]⟩ true _ (by omega) (by decide) G3).mono ?_;rintro e w' ⟨rfl,rfl⟩
    go_wp2_with fail
    refine bodyPost_ret (v:=.agg #[.string ep,.string p1,.string q1,.bool true]) (by simp[results,Tryz.results100,go_sem]) rfl ?_
    exact part_yes E.out ((bR.alloc lr _).alloc (by simp) _)
end
end Go.Proofs.YtdfdllbebfoggaaGreatDoor
