/- A part of the proof of a law on dependencies in three formats. No condition. -/
import Derived.Test.YtkjdbpjglobbjaaGreatDoorE64
import Derived.Test.YtkjdbpjglobbjaaGreatDoorE65
set_option maxRecDepth 100000
set_option maxHeartbeats 20000000
set_option linter.unusedVariables false
set_option linter.unusedSimpArgs false
namespace Go.Proofs.YtkjdbpjglobbjaaGreatDoor.dmapBack
open Go.ChangeShapes Go.WideShapes Go.ChangeAt Go.RowKit
open Go.ChangeMaps (open_string shut_string)
theorem laidOut:laidOutB Tryz.prog=true:=by kernel_rfl
theorem contract (H:Type)(enc:TypeId×Value→H)(W:World)(base:Nat)(args:Array Value)(ds gs:List (DataW H))(before:List MemPlace)
  (hval:∀ (j:Nat) t v,Tryz.f3.params[j]?=some t→args[j]?=some v→Value.okWide Tryz.prog W .any base t v)
  (hW:DataW.Whole enc Tryz.prog Tryz.f3.params.toList Rows.dmapBackSpec.vars false W args.toList ds gs before)(hL:laidMetH Tryz.prog Rows.dmapBackRow.laid W)(hsh:W.ShapedOpen Tryz.prog):
  Calls Tryz.prog 3 args W fun e W'=>∃ v,e=.returned v∧Rows.dmapBackSpec.post enc Tryz.prog Tryz.f3 false true false false W args v W':=by
 have hW':=hW
 obtain⟨p,q,hA0,hV,rfl,hfz,hnd⟩:=hW
 have hA:DataW.TrodAll enc Tryz.prog W 0 (fun _=>true) true Tryz.f3.params.toList args.toList ds p:=hA0
 rw[Tryz.params3] at hA hval
 obtain⟨v0,vs0,d0,ds0,p0,q0,hargs,rfl,rfl,h0,r0⟩:=trodAll_cons hA
 obtain⟨v1,vs1,d1,ds1,p1,q1,rfl,rfl,rfl,h1,r1⟩:=trodAll_cons r0
 obtain⟨rfl,rfl,rfl⟩:=trodAll_nil r1
 obtain rfl:args=#[v0,v1]:=Array.toList_inj.1 hargs
 obtain⟨rfl,rfl⟩:=trodVars_none hV
 obtain⟨x0,rfl,rfl,rfl,wf0⟩:=open_int Tryz.underlying3 (hval 0 3 v0 rfl rfl) h0
 have mv:=h1
 obtain⟨a1,len1,cap1,rfl⟩:=okWide_slice Tryz.underlying22 (hval 1 22 v1 rfl rfl)
 obtain⟨fuel1,hf1⟩:=h1
 obtain⟨A1,c1,l1,hv1,db1,fit1,n1⟩:=Nl (v:=.slice a1 len1 cap1) hf1
 injection hv1 with e1 e2 e3;subst e1 e2 e3
 clear hA0
 have hlt:∀ x∈[]++p1,x.block<W.heap.size:=fun x hx=>hW'.lt x (by simpa using hx)
 refine(Eb x0 a1 cap1 l1 W (nX hL hsh) db1 fit1 n1).mono fun e W' ⟨he,hb⟩=>?_
 subst he
 exact⟨_,rfl,lJ (pa:=[]++(p1++[])) (pv:=[]) hW' (fun _ _ _=>trodAll_cons_mk (shut_bool Tryz.underlying4 _) trodAll_mk0)
  (fun sp hsp=>trodAll_cons_mk (shut_int Tryz.underlying3 wf0) (trodAll_cons_mk (WideElems.Trod_stays laidOut (by kernel_rfl) (dO (by kernel_rfl)) mv (fun x hx=>hb.same (hlt x (by simp[hx]))) (fun x hx=>hsp x (by simp[hx]))) trodAll_mk0))
  (fun _ _=>rfl) (by simp) hb (ok_one (by kernel_rfl) rfl (okWide_bool_mk Tryz.underlying4 _))⟩
end Go.Proofs.YtkjdbpjglobbjaaGreatDoor.dmapBack
namespace Go.Proofs.YtkjdbpjglobbjaaGreatDoor.dmapBack
open Go.ChangeShapes Go.WideShapes Go.ChangeAt Go.RowKit
theorem reads (os:Os){H:Type}(enc:TypeId×Value→H):∃ places,DataW.whole enc Tryz.prog ((eH os).forCall (fun _ _=>0) ⟨#[],#[.int .i64 0,.slice none 0 0],[]⟩).memory Tryz.f3.params.toList Rows.dmapBackSpec.vars false #[Value.int .i64 0,Value.slice none 0 0].toList 8=some ([.lit (.int .i64 0),.nil],[],places):=
 ⟨[],by kernel_rfl⟩
theorem lifted (os:Os)(started:os.Started)(H:Type)(enc:TypeId×Value→H)(F:Stop.Interp):
  ReturnsInHanded {} Tryz.checked os 3 .any ((OpenSpec.ofChange Rows.dmapBackSpec).preRow enc Tryz.prog Tryz.f3 Rows.dmapBackRow.domain false Rows.dmapBackRow.laid) (((OpenSpec.ofChange Rows.dmapBackSpec).at F).post enc Tryz.prog Tryz.f3 false true false false):=by
 obtain⟨places,hx⟩:=reads os enc
 refine returnsInHanded_of_row (C:=Tryz.checked) (s:=OpenSpec.ofChange Rows.dmapBackSpec) own started (by kernel_rfl) Tryz.func3
  (witness_row_atRef (enc:=enc) (C:=Tryz.checked) false (eH os) #[.int .i64 0,.slice none 0 0] (mN os) (yR os _) (yS os _) (by kernel_rfl)
   (OpenSpec.preRow_of_cond 8 hx (by kernel_rfl) (fun k hk=>by cases hk) (by kernel_rfl) (yQ os _))) ?_
 intro W base args ds gs before hval hW _ _ _ hL hsh _
 exact contract H enc W base args ds gs before hval hW hL hsh
theorem said:Rows.DmapBackSaid:=
 OpenClaim.holds_of_cond 3 Tryz.f3 rfl rfl rfl rfl rfl rfl rfl ⟨rfl,rfl,rfl,rfl,rfl⟩ rfl rfl rfl rfl rfl (by kernel_rfl) Tryz.func3 closed
  (dO (by kernel_rfl)) (by unfold Func.isWrapper;first | (rw[if_pos (by decide +kernel)];kernel_rfl) | (rw[if_neg (by decide +kernel)];exact⟨rfl,rfl⟩))
  (fun os started H enc _ F=>by rw[OpenClaim.pre_eq_preRow];exact lifted os started H enc F)
theorem plain (f : FuncId) (fn : Func) (hf : Tryz.pinned.checked.prog.funcNamed "drayage/drayagelaw17.DmapBack" = some f) (hfn : Tryz.pinned.checked.prog.funcs[f]? = some fn) :
  true=Tryz.pinned.checked.prog.looks []∧∀ (j:Nat) t,fn.params[j]?=some t→Tryz.pinned.checked.prog.wantsStandIn t=false:=by
 obtain rfl : f = 3 := Option.some.inj ((show Tryz.prog.funcNamed "drayage/drayagelaw17.DmapBack" = some 3 by kernel_rfl).symm.trans hf) |>.symm
 obtain rfl:fn=Tryz.f3:=(Option.some.inj (Tryz.func3.symm.trans hfn)).symm
 refine⟨by kernel_rfl,fun j t ht=>?_⟩
 rw[Tryz.params3] at ht
 have hm:=Array.mem_of_getElem? ht
 have ht':t=3∨t=22:=by simpa using hm
 rcases ht' with rfl | rfl
 ·exact(show Tryz.prog.wantsStandIn 3=false by kernel_rfl)
 ·exact(show Tryz.prog.wantsStandIn 22=false by kernel_rfl)
end Go.Proofs.YtkjdbpjglobbjaaGreatDoor.dmapBack
namespace Go.Proofs.YtkjdbpjglobbjaaGreatDoor
theorem dmapBack_card:Rows.DmapBackCardSaid:=
 Claim7.holds_tied_plain_at .later [] _ _ _ _ dmapBack.said (fun _ h=>by cases h) (by kernel_rfl) (fun _ h=>by cases h) dmapBack_row_tie rfl ⟨rfl,rfl⟩ (by kernel_rfl) rfl dmapBack.plain (by kernel_rfl)
end Go.Proofs.YtkjdbpjglobbjaaGreatDoor
