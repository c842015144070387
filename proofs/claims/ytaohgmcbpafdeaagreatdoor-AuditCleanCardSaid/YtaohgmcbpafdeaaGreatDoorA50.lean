/- A part of the proof. -/
import Derived.Test.YtaohgmcbpafdeaaGreatDoorA49
set_option maxRecDepth 100000
set_option maxHeartbeats 20000000
set_option linter.unusedVariables false
set_option linter.unusedSimpArgs false
namespace Go.Proofs.YtaohgmcbpafdeaaGreatDoor.auditClean
open Go.ChangeShapes Go.WideShapes Go.ChangeAt Go.RowKit
open Go.ChangeMaps (open_string shut_string)
theorem laidOut:laidOutB Tryz.prog=true:=by kernel_rfl
theorem contract (H:Type)(enc:TypeId×Value→H)(W:World)(base:Nat)(args:Array Value)(ds gs:List (DataW H))(before:List MemPlace)
  (hval:∀ (j:Nat) t v,Tryz.f3.params[j]?=some t→args[j]?=some v→Value.okWide Tryz.prog W .any base t v)
  (hW:DataW.Whole enc Tryz.prog Tryz.f3.params.toList Rows.auditCleanSpec.vars false W args.toList ds gs before)(hL:laidMetH Tryz.prog Rows.auditCleanRow.laid W)(hsh:W.ShapedOpen Tryz.prog):
  Calls Tryz.prog 3 args W fun e W'=>∃ v,e=.returned v∧Rows.auditCleanSpec.post enc Tryz.prog Tryz.f3 false true false false W args v W':=by
 have hW':=hW
 obtain⟨p,q,hA0,hV,rfl,hfz,hnd⟩:=hW
 have hA:DataW.TrodAll enc Tryz.prog W 0 (fun _=>true) true Tryz.f3.params.toList args.toList ds p:=hA0
 rw[Tryz.params3] at hA hval
 obtain⟨v0,vs0,d0,ds0,p0,q0,hargs,rfl,rfl,h0,r0⟩:=trodAll_cons hA
 obtain⟨v1,vs1,d1,ds1,p1,q1,rfl,rfl,rfl,h1,r1⟩:=trodAll_cons r0
 obtain⟨v2,vs2,d2,ds2,p2,q2,rfl,rfl,rfl,h2,r2⟩:=trodAll_cons r1
 obtain⟨v3,vs3,d3,ds3,p3,q3,rfl,rfl,rfl,h3,r3⟩:=trodAll_cons r2
 obtain⟨rfl,rfl,rfl⟩:=trodAll_nil r3
 obtain rfl:args=#[v0,v1,v2,v3]:=Array.toList_inj.1 hargs
 obtain⟨rfl,rfl⟩:=trodVars_none hV
 obtain⟨x0,rfl,rfl,rfl,wf0⟩:=open_int Tryz.underlying3 (hval 0 3 v0 rfl rfl) h0
 have hd1:=h1
 obtain⟨a1,len1,cap1,rfl⟩:=okWide_slice Tryz.underlying22 (hval 1 22 v1 rfl rfl)
 obtain⟨fuel1,hf1⟩:=h1
 obtain⟨A1,c1,l1,hv1,db1,fit1,n1,kap1,nc1⟩:=Mt (v:=.slice a1 len1 cap1) hf1
 injection hv1 with e1 e2 e3;subst e1 e2 e3
 have hd2:=h2
 obtain⟨a2,len2,cap2,rfl⟩:=okWide_slice Tryz.underlying23 (hval 2 23 v2 rfl rfl)
 obtain⟨fuel2,hf2⟩:=h2
 obtain⟨A2,c2,l2,hv2,rd2,eok2,n2,nc2⟩:=Hz (v:=.slice a2 len2 cap2) hf2
 injection hv2 with e1 e2 e3;subst e1 e2 e3
 have db2:dz W a2 l2:=⟨rd2,fun x hx=>(eok2 x hx).2.1⟩
 obtain⟨x3,rfl,rfl,rfl,wf3⟩:=open_string Tryz.underlying9 (hval 3 9 v3 rfl rfl) h3
 have hs3:x3.size≤9223372036854775807:=by unfold maxLen at wf3;omega
 clear hA0
 have hlt:∀ x∈[]++p1++p2++[],x.block<W.heap.size:=fun x hx=>hW'.lt x (by simpa using hx)
 refine(Hw x0 a1 cap1 l1 a2 cap2 l2 x3 W (AY hL hsh) (AZ hL) db1 fit1 n1 db2 (fun x hx=>(eok2 x hx).1) n2 (fun x hx=>(eok2 x hx).2.2) hs3).mono fun e W' ⟨he,hb⟩=>?_
 subst he
 exact⟨_,rfl,vn (pa:=[]++(p1++(p2++([]++[])))) (pv:=[]) hW' (fun _ _ _=>trodAll_cons_mk (shut_bool Tryz.underlying4 _) trodAll_mk0)
  (fun sp hsp=>trodAll_cons_mk (shut_int Tryz.underlying3 wf0) (trodAll_cons_mk (WideElems.Trod_stays laidOut (by kernel_rfl) (dO (by kernel_rfl)) hd1 (fun x hx=>hb.same (hlt x (by simp[hx]))) (fun x hx=>hsp x (by simp[hx]))) (trodAll_cons_mk (WideElems.Trod_stays laidOut (by kernel_rfl) (dO (by kernel_rfl)) hd2 (fun x hx=>hb.same (hlt x (by simp[hx]))) (fun x hx=>hsp x (by simp[hx]))) (trodAll_cons_mk (shut_string Tryz.underlying9 wf3) trodAll_mk0))))
  (fun _ _=>rfl) (by simp) hb (ok_one (by kernel_rfl) rfl (okWide_bool_mk Tryz.underlying4 _))⟩
end Go.Proofs.YtaohgmcbpafdeaaGreatDoor.auditClean
namespace Go.Proofs.YtaohgmcbpafdeaaGreatDoor.auditClean
theorem and_tt {a b:Bool}(h:a=true)(k:b=true):(a&&b)=true:=by rw[h,k];rfl
theorem closed:joinedFacts Tryz.pinned.checked.prog 3 Tryz.f3 (OpenSpec.ofChange Rows.auditCleanSpec).bare Rows.auditCleanRow=true:=by
 unfold joinedFacts
 repeat' (with_reducible refine and_tt ?_ ?_)
 all_goals (as_aux_lemma=>kernel_rfl)
end Go.Proofs.YtaohgmcbpafdeaaGreatDoor.auditClean
namespace Go.Proofs.YtaohgmcbpafdeaaGreatDoor.auditClean
open Go.ChangeShapes Go.WideShapes Go.ChangeAt Go.RowKit
theorem reads (os:Os){H:Type}(enc:TypeId×Value→H):∃ places,DataW.whole enc Tryz.prog ((fD os).forCall (fun _ _=>0) ⟨#[],#[.int .i64 0,.slice none 0 0,.slice none 0 0,.string ⟨#[]⟩],[]⟩).memory Tryz.f3.params.toList Rows.auditCleanSpec.vars false #[Value.int .i64 0,Value.slice none 0 0,Value.slice none 0 0,Value.string ⟨#[]⟩].toList 8=some ([.lit (.int .i64 0),.nil,.nil,.lit (.string [])],[],places):=
 ⟨[],by kernel_rfl⟩
theorem lifted (os:Os)(started:os.Started)(H:Type)(enc:TypeId×Value→H)(F:Stop.Interp):
  ReturnsInHanded {} Tryz.checked os 3 .any ((OpenSpec.ofChange Rows.auditCleanSpec).preRow enc Tryz.prog Tryz.f3 Rows.auditCleanRow.domain false Rows.auditCleanRow.laid) (((OpenSpec.ofChange Rows.auditCleanSpec).at F).post enc Tryz.prog Tryz.f3 false true false false):=by
 obtain⟨places,hx⟩:=reads os enc
 refine returnsInHanded_of_row (C:=Tryz.checked) (s:=OpenSpec.ofChange Rows.auditCleanSpec) own started (by kernel_rfl) Tryz.func3
  (witness_row_atRef (enc:=enc) (C:=Tryz.checked) false (fD os) #[.int .i64 0,.slice none 0 0,.slice none 0 0,.string ⟨#[]⟩] (yi os) (KI os _) (KJ os _) (by kernel_rfl)
   (OpenSpec.preRow_of_cond 8 hx (by kernel_rfl) (fun k hk=>by cases hk) (by kernel_rfl) (KH os _))) ?_
 intro W base args ds gs before hval hW _ _ _ hL hsh _
 exact contract H enc W base args ds gs before hval hW hL hsh
theorem said:Rows.AuditCleanSaid:=
 OpenClaim.holds_of_cond 3 Tryz.f3 rfl rfl rfl rfl rfl rfl rfl ⟨rfl,rfl,rfl,rfl,rfl⟩ rfl rfl rfl rfl rfl (by kernel_rfl) Tryz.func3 closed
  (dO (by kernel_rfl)) (by unfold Func.isWrapper;first | (rw[if_pos (by decide +kernel)];kernel_rfl) | (rw[if_neg (by decide +kernel)];exact⟨rfl,rfl⟩))
  (fun os started H enc _ F=>by rw[OpenClaim.pre_eq_preRow];exact lifted os started H enc F)
theorem plain (f : FuncId) (fn : Func) (hf : Tryz.pinned.checked.prog.funcNamed "drayage/drayagelaw30.AuditClean" = some f) (hfn : Tryz.pinned.checked.prog.funcs[f]? = some fn) :
  true=Tryz.pinned.checked.prog.looks []∧∀ (j:Nat) t,fn.params[j]?=some t→Tryz.pinned.checked.prog.wantsStandIn t=false:=by
 obtain rfl : f = 3 := Option.some.inj ((show Tryz.prog.funcNamed "drayage/drayagelaw30.AuditClean" = some 3 by kernel_rfl).symm.trans hf) |>.symm
 obtain rfl:fn=Tryz.f3:=(Option.some.inj (Tryz.func3.symm.trans hfn)).symm
 refine⟨by kernel_rfl,fun j t ht=>?_⟩
 rw[Tryz.params3] at ht
 have hm:=Array.mem_of_getElem? ht
 have ht':t=3∨t=22∨t=23∨t=9:=by simpa using hm
 rcases ht' with rfl | rfl | rfl | rfl
 ·exact(show Tryz.prog.wantsStandIn 3=false by kernel_rfl)
 ·exact(show Tryz.prog.wantsStandIn 22=false by kernel_rfl)
 ·exact(show Tryz.prog.wantsStandIn 23=false by kernel_rfl)
 ·exact(show Tryz.prog.wantsStandIn 9=false by kernel_rfl)
end Go.Proofs.YtaohgmcbpafdeaaGreatDoor.auditClean
namespace Go.Proofs.YtaohgmcbpafdeaaGreatDoor
theorem auditClean_card:Rows.AuditCleanCardSaid:=
 Claim7.holds_tied_plain_at .later [] _ _ _ _ auditClean.said (fun _ h=>by cases h) (by kernel_rfl) (fun _ h=>by cases h) auditClean_row_tie rfl ⟨rfl,rfl⟩ (by kernel_rfl) rfl auditClean.plain (by kernel_rfl)
end Go.Proofs.YtaohgmcbpafdeaaGreatDoor
