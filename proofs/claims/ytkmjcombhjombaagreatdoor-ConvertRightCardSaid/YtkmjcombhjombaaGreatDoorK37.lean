/- A part of the proof. -/
import Derived.Test.YtkmjcombhjombaaGreatDoorK35
set_option maxRecDepth 100000
set_option maxHeartbeats 20000000
set_option linter.unusedVariables false
set_option linter.unusedSimpArgs false
namespace Go.Proofs.YtkmjcombhjombaaGreatDoor.convertRight
open Go.ChangeShapes Go.WideShapes Go.ChangeAt Go.RowKit
open Go.ChangeMaps (open_string shut_string)
theorem laidOut:laidOutB Tryz.prog=true:=by kernel_rfl
theorem contract (H:Type)(enc:TypeId×Value->H)(W:World)(base:Nat)(args:Array Value)(ds gs:List (DataW H))(before:List MemPlace)
  (hval:∀ (j:Nat) t v,Tryz.f5.params[j]?=some t->args[j]?=some v->Value.okWide Tryz.prog W .any base t v)
  (hW:DataW.Whole enc Tryz.prog Tryz.f5.params.toList Rows.convertRightSpec.vars false W args.toList ds gs before)(hL:laidMetH Tryz.prog Rows.convertRightRow.laid W)(hsh:W.ShapedOpen Tryz.prog):Calls Tryz.prog 5 args W fun e W'=>∃ v,e=.returned v/\Rows.convertRightSpec.post enc Tryz.prog Tryz.f5 false true false false W args v W':=by
 have N:=hW;obtain⟨p,q,R,hV,rfl,ak,av⟩:=hW;have hA:DataW.TrodAll enc Tryz.prog W 0 (fun _=>true) true Tryz.f5.params.toList args.toList ds p:=R;rw[Tryz.params5] at hA hval;obtain⟨v0,ap,d0,am,p0,q0,F,rfl,rfl,h0,r0⟩:=trodAll_cons hA;obtain⟨v1,ao,d1,aj,p1,q1,rfl,rfl,rfl,h1,r1⟩:=trodAll_cons r0;obtain⟨v2,al,d2,aq,p2,q2,rfl,rfl,rfl,h2,r2⟩:=trodAll_cons r1;obtain⟨v3,ar,d3,an,p3,q3,rfl,rfl,rfl,h3,r3⟩:=trodAll_cons r2;obtain⟨rfl,rfl,rfl⟩:=trodAll_nil r3;obtain rfl:args=#[v0,v1,v2,v3]:=Array.toList_inj.1 F;obtain⟨rfl,rfl⟩:=trodVars_none hV;obtain⟨x0,rfl,rfl,rfl,Y⟩:=open_int Tryz.underlying3 (hval 0 3 v0 rfl rfl) h0;obtain⟨x1,rfl,rfl,rfl,aa⟩:=open_int Tryz.underlying3 (hval 1 3 v1 rfl rfl) h1;have ad:=h2;obtain⟨a2,I,D,rfl⟩:=okWide_slice Tryz.underlying22 (hval 2 22 v2 rfl rfl);obtain⟨ab,X⟩:=h2;obtain⟨A2,c2,l2,Z,ah,U,n2,ai,au⟩:=RN (v:=.slice a2 I D) X;injection Z with e1 e2 e3;subst e1 e2 e3;have ac:=h3;obtain⟨a3,J,z,rfl⟩:=okWide_slice Tryz.underlying23 (hval 3 23 v3 rfl rfl);obtain⟨ag,ae⟩:=h3;obtain⟨A3,c3,l3,V,af,O,n3⟩:=FI (v:=.slice a3 J z) ae;injection V with e1 e2 e3;subst e1 e2 e3;clear R;have M:∀ x∈[]++[]++p2++p3,x.block<W.heap.size:=fun x y=>N.lt x (by simpa using y);refine(As x0 x1 a2 D l2 a3 z l3 W (Bj hL hsh) ah U n2 af O n3).mono fun e W' ⟨he,hb⟩=>?_;subst he
 exact⟨_,rfl,ww (pa:=[]++([]++(p2++(p3++[])))) (pv:=[]) N (fun _ _ _=>trodAll_cons_mk (shut_bool Tryz.underlying4 _) trodAll_mk0)
  (fun sp K=>trodAll_cons_mk (shut_int Tryz.underlying3 Y) (trodAll_cons_mk (shut_int Tryz.underlying3 aa) (trodAll_cons_mk (WideElems.Trod_stays laidOut (by kernel_rfl) (dO (by kernel_rfl)) ad (fun x y=>hb.same (M x (by simp[y]))) (fun x y=>K x (by simp[y]))) (trodAll_cons_mk (WideElems.Trod_stays laidOut (by kernel_rfl) (dO (by kernel_rfl)) ac (fun x y=>hb.same (M x (by simp[y]))) (fun x y=>K x (by simp[y]))) trodAll_mk0))))
  (fun _ _=>rfl) (by simp) hb (ok_one (by kernel_rfl) rfl (okWide_bool_mk Tryz.underlying4 _))⟩
end Go.Proofs.YtkmjcombhjombaaGreatDoor.convertRight
namespace Go.Proofs.YtkmjcombhjombaaGreatDoor.convertRight
theorem and_tt {a b:Bool}(h:a=true)(k:b=true):(a&&b)=true:=by rw[h,k];rfl
theorem closed:joinedFacts Tryz.pinned.checked.prog 5 Tryz.f5 (OpenSpec.ofChange Rows.convertRightSpec).bare Rows.convertRightRow=true:=by
 unfold joinedFacts
 repeat' (with_reducible refine and_tt ?_ ?_)
 all_goals (as_aux_lemma=>kernel_rfl)
end Go.Proofs.YtkmjcombhjombaaGreatDoor.convertRight
namespace Go.Proofs.YtkmjcombhjombaaGreatDoor.convertRight
open Go.ChangeShapes Go.WideShapes Go.ChangeAt Go.RowKit
theorem reads (os:Os){H:Type}(enc:TypeId×Value->H):∃ places,DataW.whole enc Tryz.prog ((oh os).forCall (fun _ _=>0) ⟨#[],#[.int .i64 0,.int .i64 0,.slice none 0 0,.slice none 0 0],[]⟩).memory Tryz.f5.params.toList Rows.convertRightSpec.vars false #[Value.int .i64 0,Value.int .i64 0,Value.slice none 0 0,Value.slice none 0 0].toList 8=some ([.lit (.int .i64 0),.lit (.int .i64 0),.nil,.nil],[],places):=
 ⟨[],by kernel_rfl⟩
theorem lifted (os:Os)(started:os.Started)(H:Type)(enc:TypeId×Value->H)(F:Stop.Interp):
  ReturnsInHanded {} Tryz.checked os 5 .any ((OpenSpec.ofChange Rows.convertRightSpec).preRow enc Tryz.prog Tryz.f5 Rows.convertRightRow.domain false Rows.convertRightRow.laid) (((OpenSpec.ofChange Rows.convertRightSpec).at F).post enc Tryz.prog Tryz.f5 false true false false):=by
 obtain⟨I,R⟩:=reads os enc
 refine returnsInHanded_of_row (C:=Tryz.checked) (s:=OpenSpec.ofChange Rows.convertRightSpec) own started (by kernel_rfl) Tryz.func5
  (witness_row_atRef (enc:=enc) (C:=Tryz.checked) false (oh os) #[.int .i64 0,.int .i64 0,.slice none 0 0,.slice none 0 0] (yU os) (Nq os _) (Nr os _) (by kernel_rfl)
   (OpenSpec.preRow_of_cond 8 R (by kernel_rfl) (fun k K=>by cases K) (by kernel_rfl) (Np os _))) ?_
 intro W base z M N y D O _ _ _ U J _;exact contract H enc W base z M N y D O U J
theorem said:Rows.ConvertRightSaid:=
 OpenClaim.holds_of_cond 5 Tryz.f5 rfl rfl rfl rfl rfl rfl rfl ⟨rfl,rfl,rfl,rfl,rfl⟩ rfl rfl rfl rfl rfl (by kernel_rfl) Tryz.func5 closed
  (dO (by kernel_rfl)) (by unfold Func.isWrapper;first | (rw[if_pos (by decide +kernel)];kernel_rfl) | (rw[if_neg (by decide +kernel)];exact⟨rfl,rfl⟩))
  (fun D y H z _ F=>by rw[OpenClaim.pre_eq_preRow];exact lifted D y H z F)
theorem plain (f : FuncId) (fn : Func) (hf : Tryz.pinned.checked.prog.funcNamed "drayage/drayagelaw24.ConvertRight" = some f) (hfn : Tryz.pinned.checked.prog.funcs[f]? = some fn) :
  true=Tryz.pinned.checked.prog.looks []/\∀ (j:Nat) t,fn.params[j]?=some t->Tryz.pinned.checked.prog.wantsStandIn t=false:=by
 obtain rfl : f = 5 := Option.some.inj ((show Tryz.prog.funcNamed "drayage/drayagelaw24.ConvertRight" = some 5 by kernel_rfl).symm.trans hf) |>.symm;obtain rfl:fn=Tryz.f5:=(Option.some.inj (Tryz.func5.symm.trans hfn)).symm;refine⟨by kernel_rfl,fun j t ht=>?_⟩;rw[Tryz.params5] at ht;have z:=Array.mem_of_getElem? ht;have y:t=3\/t=22\/t=23:=by simpa using z
 rcases y with rfl | rfl | rfl
 ·exact(show Tryz.prog.wantsStandIn 3=false by kernel_rfl)
 ·exact(show Tryz.prog.wantsStandIn 22=false by kernel_rfl)
 ·exact(show Tryz.prog.wantsStandIn 23=false by kernel_rfl)
end Go.Proofs.YtkmjcombhjombaaGreatDoor.convertRight
namespace Go.Proofs.YtkmjcombhjombaaGreatDoor
theorem convertRight_card:Rows.ConvertRightCardSaid:=
 Claim7.holds_tied_plain_at .later [] _ _ _ _ convertRight.said (fun _ h=>by cases h) (by kernel_rfl) (fun _ h=>by cases h) convertRight_row_tie rfl ⟨rfl,rfl⟩ (by kernel_rfl) rfl convertRight.plain (by kernel_rfl)
end Go.Proofs.YtkmjcombhjombaaGreatDoor
