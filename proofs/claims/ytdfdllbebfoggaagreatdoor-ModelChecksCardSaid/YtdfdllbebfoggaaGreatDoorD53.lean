/- A part of the proof that ModelChecks holds. No condition. -/
import Derived.Test.YtdfdllbebfoggaaGreatDoorD51
import Derived.Test.YtdfdllbebfoggaaGreatDoorD52
set_option maxRecDepth 100000
set_option maxHeartbeats 20000000
set_option linter.unusedVariables false
set_option linter.unusedSimpArgs false
namespace Go.Proofs.YtdfdllbebfoggaaGreatDoor.modelChecks
open Go.ChangeShapes Go.WideShapes Go.ChangeAt Go.RowKit
open Go.ChangeMaps (open_string shut_string)
theorem laidOut:laidOutB Tryz.prog=true:=by kernel_rfl
set_option maxRecDepth 100000 in
theorem contract (H:Type)(enc:TypeId×Value→H)(W:World)(base:Nat)(args:Array Value)(ds gs:List (DataW H))(before:List MemPlace)
  (hval:∀ (j:Nat) t v,Tryz.f5.params[j]?=some t→args[j]?=some v→Value.okWide Tryz.prog W .any base t v)
  (hW:DataW.Whole enc Tryz.prog Tryz.f5.params.toList Rows.modelChecksSpec.vars false W args.toList ds gs before)(hL:laidMetH Tryz.prog Rows.modelChecksRow.laid W)(hsh:W.ShapedOpen Tryz.prog):
  Calls Tryz.prog 5 args W fun e W'=>∃ v,e=.returned v∧Rows.modelChecksSpec.post enc Tryz.prog Tryz.f5 false true false false W args v W':=by
 have hW':=hW
 obtain⟨p,q,hA0,hV,rfl,hfz,hnd⟩:=hW
 have hA:DataW.TrodAll enc Tryz.prog W 0 (fun _=>true) true Tryz.f5.params.toList args.toList ds p:=hA0
 rw[Tryz.params5] at hA hval
 obtain⟨v0,vs0,d0,ds0,p0,q0,hargs,rfl,rfl,h0,r0⟩:=trodAll_cons hA
 obtain⟨v1,vs1,d1,ds1,p1,q1,rfl,rfl,rfl,h1,r1⟩:=trodAll_cons r0
 obtain⟨rfl,rfl,rfl⟩:=trodAll_nil r1
 obtain rfl:args=#[v0,v1]:=Array.toList_inj.1 hargs
 obtain⟨rfl,rfl⟩:=trodVars_none hV
 obtain⟨x0,rfl,rfl,rfl,wf0⟩:=open_int Tryz.underlying3 (hval 0 3 v0 rfl rfl) h0
 have hd1:=h1
 obtain⟨a1,len1,cap1,rfl⟩:=okWide_slice Tryz.underlying40 (hval 1 40 v1 rfl rfl)
 obtain⟨fuel1,hf1⟩:=h1
 obtain⟨A1,c1,l1,hv1,db1,fit1,n1,kap1,nc1⟩:=open_db (v:=.slice a1 len1 cap1) hf1
 injection hv1 with e1 e2 e3;subst e1 e2 e3
 clear hA0
 have hlt:∀ x∈[]++p1,x.block<W.heap.size:=fun x hx=>hW'.lt x (by simpa using hx)
 refine(law_ModelChecks x0 _ _ l1 W (gle_of_laid hL hsh) db1 n1 fit1).mono fun e W' ⟨he,hb⟩=>?_
 subst he
 exact⟨_,rfl,post_of_below (pa:=[]++(p1++[])) (pv:=[]) hW' (fun _ _ _=>trodAll_cons_mk (shut_bool Tryz.underlying4 _) trodAll_mk0)
  (fun sp hsp=>trodAll_cons_mk (shut_int Tryz.underlying3 wf0) (trodAll_cons_mk (WideElems.Trod_stays laidOut (by kernel_rfl) (dO (by kernel_rfl)) hd1 (fun x hx=>hb.same (hlt x (by simp[hx]))) (fun x hx=>hsp x (by simp[hx]))) trodAll_mk0))
  (fun _ _=>rfl) (by simp) hb (ok_one (by kernel_rfl) rfl (okWide_bool_mk Tryz.underlying4 _))⟩
end Go.Proofs.YtdfdllbebfoggaaGreatDoor.modelChecks
namespace Go.Proofs.YtdfdllbebfoggaaGreatDoor.modelChecks
open Go.ChangeShapes Go.WideShapes Go.ChangeAt Go.RowKit
theorem reads (os:Os){H:Type}(enc:TypeId×Value→H):∃ places,DataW.whole enc Tryz.prog ((laidWorld os).forCall (fun _ _=>0) ⟨#[],#[.int .i64 0,.slice none 0 0],[]⟩).memory Tryz.f5.params.toList Rows.modelChecksSpec.vars false #[Value.int .i64 0,Value.slice none 0 0].toList 8=some ([.lit (.int .i64 0),.nil],[],places):=
 ⟨[],by kernel_rfl⟩
set_option maxRecDepth 100000 in
theorem lifted (os:Os)(started:os.Started)(H:Type)(enc:TypeId×Value→H)(F:Stop.Interp):
  ReturnsInHanded {} Tryz.checked os 5 .any ((OpenSpec.ofChange Rows.modelChecksSpec).preRow enc Tryz.prog Tryz.f5 Rows.modelChecksRow.domain false Rows.modelChecksRow.laid) (((OpenSpec.ofChange Rows.modelChecksSpec).at F).post enc Tryz.prog Tryz.f5 false true false false):=by
 obtain⟨places,hx⟩:=reads os enc
 refine returnsInHanded_of_row (C:=Tryz.checked) (s:=OpenSpec.ofChange Rows.modelChecksSpec) own started (by kernel_rfl) Tryz.func5
  (witness_row_atRef (enc:=enc) (C:=Tryz.checked) false (laidWorld os) #[.int .i64 0,.slice none 0 0] (laidWorld_os os) (wit_vars os _) (wit_rest os _) (by kernel_rfl)
   (OpenSpec.preRow_of_cond 8 hx (by kernel_rfl) (fun k hk=>by cases hk) (by kernel_rfl) (wit_laid os _))) ?_
 intro W base args ds gs before hval hW _ _ _ hL hsh _
 exact contract H enc W base args ds gs before hval hW hL hsh
theorem said:Rows.ModelChecksSaid:=
 OpenClaim.holds_of_cond 5 Tryz.f5 rfl rfl rfl rfl rfl rfl rfl ⟨rfl,rfl,rfl,rfl,rfl⟩ rfl rfl rfl rfl rfl (by kernel_rfl) Tryz.func5 closed
  (dO (by kernel_rfl)) (by unfold Func.isWrapper;first | (rw[if_pos (by decide +kernel)];kernel_rfl) | (rw[if_neg (by decide +kernel)];exact⟨rfl,rfl⟩))
  (fun os started H enc _ F=>by rw[OpenClaim.pre_eq_preRow];exact lifted os started H enc F)
theorem plain (f : FuncId) (fn : Func) (hf : Tryz.pinned.checked.prog.funcNamed "drayage/drayagelaw19.ModelChecks" = some f) (hfn : Tryz.pinned.checked.prog.funcs[f]? = some fn) :
  true=Tryz.pinned.checked.prog.looks []∧∀ (j:Nat) t,fn.params[j]?=some t→Tryz.pinned.checked.prog.wantsStandIn t=false:=by
 obtain rfl : f = 5 := Option.some.inj ((show Tryz.prog.funcNamed "drayage/drayagelaw19.ModelChecks" = some 5 by kernel_rfl).symm.trans hf) |>.symm
 obtain rfl:fn=Tryz.f5:=(Option.some.inj (Tryz.func5.symm.trans hfn)).symm
 refine⟨by kernel_rfl,fun j t ht=>?_⟩
 rw[Tryz.params5] at ht
 have hm:=Array.mem_of_getElem? ht
 have ht':t=3∨t=40:=by simpa using hm
 rcases ht' with rfl | rfl
 ·exact(show Tryz.prog.wantsStandIn 3=false by kernel_rfl)
 ·exact(show Tryz.prog.wantsStandIn 40=false by kernel_rfl)
end Go.Proofs.YtdfdllbebfoggaaGreatDoor.modelChecks
namespace Go.Proofs.YtdfdllbebfoggaaGreatDoor
theorem modelChecks_card:Rows.ModelChecksCardSaid:=
 Claim7.holds_tied_plain_at .later [] _ _ _ _ modelChecks.said (fun _ h=>by cases h) (by kernel_rfl) (fun _ h=>by cases h) modelChecks_row_tie rfl ⟨rfl,rfl⟩ (by kernel_rfl) rfl modelChecks.plain (by kernel_rfl)
end Go.Proofs.YtdfdllbebfoggaaGreatDoor
