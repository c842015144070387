/- A part of the proof. -/
import Derived.Test.YtkmjcombhjombaaGreatDoorJ21
set_option maxRecDepth 100000
set_option maxHeartbeats 20000000
set_option linter.unusedVariables false
set_option linter.unusedSimpArgs false
namespace Go.Proofs.YtkmjcombhjombaaGreatDoor.convertHolds
open Go.ChangeShapes Go.WideShapes Go.ChangeAt Go.RowKit Go.Proofs.Tryz
open Go.ChangeMaps (open_string shut_string)
theorem laidOut:laidOutB prog=true:=by kernel_rfl
theorem contract (H:Type)(enc:TypeId×Value->H)(W:World)(base:Nat)(z:Array Value)(ds gs:List (DataW H))(I:List MemPlace)
  (D:∀ (j:Nat) t v,Tryz.f4.params[j]?=some t->z[j]?=some v->Value.okWide prog W .any base t v)
  (hW:DataW.Whole enc prog Tryz.f4.params.toList Rows.convertHoldsSpec.vars false W z.toList ds gs I)(hL:laidMetH prog Rows.convertHoldsRow.laid W)(am:W.ShapedOpen prog):Calls prog 4 z W fun e W'=>∃ v,e=.returned v/\Rows.convertHoldsSpec.post enc prog Tryz.f4 false true false false W z v W':=by
 have V:=hW;obtain⟨p,q,U,hV,rfl,ay,aC⟩:=hW;have hA:DataW.TrodAll enc prog W 0 (fun _=>true) true Tryz.f4.params.toList z.toList ds p:=U;rw[Tryz.params4] at hA D;obtain⟨v0,au,d0,aq,p0,q0,M,rfl,rfl,h0,r0⟩:=trodAll_cons hA;obtain⟨v1,ap,d1,az,p1,q1,rfl,rfl,rfl,h1,r1⟩:=trodAll_cons r0;obtain⟨v2,aB,d2,av,p2,q2,rfl,rfl,rfl,h2,r2⟩:=trodAll_cons r1;obtain⟨v3,aA,d3,ax,p3,q3,rfl,rfl,rfl,h3,r3⟩:=trodAll_cons r2;obtain⟨rfl,rfl,rfl⟩:=trodAll_nil r3;obtain rfl:z=#[v0,v1,v2,v3]:=Array.toList_inj.1 M;obtain⟨rfl,rfl⟩:=trodVars_none hV;obtain⟨x0,rfl,rfl,rfl,ad⟩:=open_int underlying3 (D 0 3 v0 rfl rfl) h0;obtain⟨x1,rfl,rfl,rfl,an⟩:=open_int underlying3 (D 1 3 v1 rfl rfl) h1;have ag:=h2;obtain⟨a2,O,K,rfl⟩:=okWide_slice underlying22 (D 2 22 v2 rfl rfl);obtain⟨al,af⟩:=h2;obtain⟨A2,c2,l2,ah,ak,aa,n2,ao,ar⟩:=abH (v:=.slice a2 O K) af;injection ah with e1 e2 e3;subst e1 e2 e3;have ab:=h3;obtain⟨a3,Y,J,rfl⟩:=okWide_slice underlying23 (D 3 23 v3 rfl rfl);obtain⟨ai,ac⟩:=h3;obtain⟨A3,c3,l3,aj,ae,Z,n3⟩:=Sf (v:=.slice a3 Y J) ac;injection aj with e1 e2 e3;subst e1 e2 e3;clear U;have R:∀ x∈[]++[]++p2++p3,x.block<W.heap.size:=fun x F=>V.lt x (by simpa using F);refine(Ah x0 x1 a2 K l2 a3 J l3 W (OV hL am) ak aa n2 ae Z n3).mono fun e W' ⟨he,hb⟩=>?_;subst he
 exact⟨_,rfl,Ib (pa:=[]++([]++(p2++(p3++[])))) (pv:=[]) V (fun _ _ _=>trodAll_cons_mk (shut_bool underlying4 _) trodAll_mk0)
  (fun sp X=>trodAll_cons_mk (shut_int underlying3 ad) (trodAll_cons_mk (shut_int underlying3 an) (trodAll_cons_mk (WideElems.Trod_stays laidOut (by kernel_rfl) (dO (by kernel_rfl)) ag (fun x F=>hb.same (R x (by simp[F]))) (fun x F=>X x (by simp[F]))) (trodAll_cons_mk (WideElems.Trod_stays laidOut (by kernel_rfl) (dO (by kernel_rfl)) ab (fun x F=>hb.same (R x (by simp[F]))) (fun x F=>X x (by simp[F]))) trodAll_mk0))))
  (fun _ _=>rfl) (by simp) hb (ok_one (by kernel_rfl) rfl (okWide_bool_mk underlying4 _))⟩
end Go.Proofs.YtkmjcombhjombaaGreatDoor.convertHolds
namespace Go.Proofs.YtkmjcombhjombaaGreatDoor.convertHolds
theorem and_tt {a b:Bool}(h:a=true)(k:b=true):(a&&b)=true:=by rw[h,k];rfl
theorem closed:joinedFacts Tryz.pinned.checked.prog 4 Tryz.f4 (OpenSpec.ofChange Rows.convertHoldsSpec).bare Rows.convertHoldsRow=true:=by
 unfold joinedFacts
 repeat' (with_reducible refine and_tt ?_ ?_)
 all_goals (as_aux_lemma=>kernel_rfl)
end Go.Proofs.YtkmjcombhjombaaGreatDoor.convertHolds
namespace Go.Proofs.YtkmjcombhjombaaGreatDoor.convertHolds
open Go.ChangeShapes Go.WideShapes Go.ChangeAt Go.RowKit
theorem reads (z:Os){H:Type}(enc:TypeId×Value->H):∃ places,DataW.whole enc Tryz.prog ((nJ z).forCall (fun _ _=>0) ⟨#[],#[.int .i64 0,.int .i64 0,.slice none 0 0,.slice none 0 0],[]⟩).memory Tryz.f4.params.toList Rows.convertHoldsSpec.vars false #[Value.int .i64 0,Value.int .i64 0,Value.slice none 0 0,Value.slice none 0 0].toList 8=some ([.lit (.int .i64 0),.lit (.int .i64 0),.nil,.nil],[],places):=
 ⟨[],by kernel_rfl⟩
theorem lifted (I:Os)(z:I.Started)(H:Type)(enc:TypeId×Value->H)(F:Stop.Interp):
  ReturnsInHanded {} Tryz.checked I 4 .any ((OpenSpec.ofChange Rows.convertHoldsSpec).preRow enc Tryz.prog Tryz.f4 Rows.convertHoldsRow.domain false Rows.convertHoldsRow.laid) (((OpenSpec.ofChange Rows.convertHoldsSpec).at F).post enc Tryz.prog Tryz.f4 false true false false):=by
 obtain⟨M,Z⟩:=reads I enc
 refine returnsInHanded_of_row (C:=Tryz.checked) (s:=OpenSpec.ofChange Rows.convertHoldsSpec) own z (by kernel_rfl) Tryz.func4
  (witness_row_atRef (enc:=enc) (C:=Tryz.checked) false (nJ I) #[.int .i64 0,.int .i64 0,.slice none 0 0,.slice none 0 0] (Ly I) (ZP I _) (ZQ I _) (by kernel_rfl)
   (OpenSpec.preRow_of_cond 8 Z (by kernel_rfl) (fun k U=>by cases U) (by kernel_rfl) (ZO I _))) ?_
 intro W base J X V D K R _ _ _ Y O _;exact contract H enc W base J X V D K R Y O
theorem said:Rows.ConvertHoldsSaid:=
 OpenClaim.holds_of_cond 4 Tryz.f4 rfl rfl rfl rfl rfl rfl rfl ⟨rfl,rfl,rfl,rfl,rfl⟩ rfl rfl rfl rfl rfl (by kernel_rfl) Tryz.func4 closed
  (dO (by kernel_rfl)) (by unfold Func.isWrapper;first | (rw[if_pos (by decide +kernel)];kernel_rfl) | (rw[if_neg (by decide +kernel)];exact⟨rfl,rfl⟩))
  (fun I z H D _ F=>by rw[OpenClaim.pre_eq_preRow];exact lifted I z H D F)
theorem plain (f : FuncId) (F : Func) (I : Tryz.pinned.checked.prog.funcNamed "drayage/drayagelaw24.ConvertHolds" = some f) (D : Tryz.pinned.checked.prog.funcs[f]? = some F) :
  true=Tryz.pinned.checked.prog.looks []/\∀ (j:Nat) t,F.params[j]?=some t->Tryz.pinned.checked.prog.wantsStandIn t=false:=by
 obtain rfl : f = 4 := Option.some.inj ((show Tryz.prog.funcNamed "drayage/drayagelaw24.ConvertHolds" = some 4 by kernel_rfl).symm.trans I) |>.symm;obtain rfl:F=Tryz.f4:=(Option.some.inj (Tryz.func4.symm.trans D)).symm;refine⟨by kernel_rfl,fun j t ht=>?_⟩;rw[Tryz.params4] at ht;have H:=Array.mem_of_getElem? ht;have z:t=3\/t=22\/t=23:=by simpa using H
 rcases z with rfl | rfl | rfl
 ·exact(show Tryz.prog.wantsStandIn 3=false by kernel_rfl)
 ·exact(show Tryz.prog.wantsStandIn 22=false by kernel_rfl)
 ·exact(show Tryz.prog.wantsStandIn 23=false by kernel_rfl)
end Go.Proofs.YtkmjcombhjombaaGreatDoor.convertHolds
namespace Go.Proofs.YtkmjcombhjombaaGreatDoor
theorem convertHolds_card:Rows.ConvertHoldsCardSaid:=
 Claim7.holds_tied_plain_at .later [] _ _ _ _ convertHolds.said (fun _ h=>by cases h) (by kernel_rfl) (fun _ h=>by cases h) convertHolds_row_tie rfl ⟨rfl,rfl⟩ (by kernel_rfl) rfl convertHolds.plain (by kernel_rfl)
end Go.Proofs.YtkmjcombhjombaaGreatDoor
