/- Proved: for every two numbers and every text drayagelaw19.ModelWords returns true, and the arguments read afterwards as before (the tied card). Conditions: none beyond the given row's own. -/
import Derived.Test.YtdfdllbebfoggaaGreatDoorMwRow
namespace Go.Proofs.YtdfdllbebfoggaaGreatDoor.modelWords
open Go.ChangeShapes Go.WideShapes Go.ChangeAt Go.RowKit

theorem reads (os : Os) {H : Type} (enc : TypeId × Value → H) : ∃ places, DataW.whole enc Tryz.prog ((laidWorld os).forCall (fun _ _ => 0) ⟨#[], #[.int .i64 0, .int .i64 0, .string ⟨#[]⟩], []⟩).memory Tryz.f4.params.toList Rows.modelWordsSpec.vars false #[Value.int .i64 0, Value.int .i64 0, Value.string ⟨#[]⟩].toList 8 = some ([.lit (.int .i64 0), .lit (.int .i64 0), .lit (.string [])], [], places) :=
  ⟨[], by kernel_rfl⟩

set_option maxRecDepth 100000 in
theorem lifted (os : Os) (started : os.Started) (H : Type) (enc : TypeId × Value → H) (F : Stop.Interp) :
    ReturnsInHanded {} Tryz.checked os 4 .any ((OpenSpec.ofChange Rows.modelWordsSpec).preRow enc Tryz.prog Tryz.f4 Rows.modelWordsRow.domain false Rows.modelWordsRow.laid) (((OpenSpec.ofChange Rows.modelWordsSpec).at F).post enc Tryz.prog Tryz.f4 false true false false) := by
  obtain ⟨places, hx⟩ := reads os enc
  refine returnsInHanded_of_row (C := Tryz.checked) (s := OpenSpec.ofChange Rows.modelWordsSpec) own started (by kernel_rfl) Tryz.func4
    (witness_row_atRef (enc := enc) (C := Tryz.checked) false (laidWorld os) #[.int .i64 0, .int .i64 0, .string ⟨#[]⟩] (laidWorld_os os) (wit_vars os _) (wit_rest os _) (by kernel_rfl)
      (OpenSpec.preRow_of_cond 8 hx (by kernel_rfl) (fun k hk => by cases hk) (by kernel_rfl) (wit_laid os _))) ?_
  intro W base args ds gs before hval hW _ _ _ hL hsh _
  exact contract H enc W base args ds gs before hval hW hL hsh

theorem said : Rows.ModelWordsSaid :=
  OpenClaim.holds_of_cond 4 Tryz.f4 rfl rfl rfl rfl rfl rfl rfl ⟨rfl, rfl, rfl, rfl, rfl⟩ rfl rfl rfl rfl rfl (by kernel_rfl) Tryz.func4 (by kernel_rfl)
    (of_decide_eq_true (by kernel_rfl)) (by unfold Func.isWrapper; first | (rw [if_pos (by decide +kernel)]; kernel_rfl) | (rw [if_neg (by decide +kernel)]; exact ⟨rfl, rfl⟩))
    (fun os started H enc _ F => by rw [OpenClaim.pre_eq_preRow]; exact lifted os started H enc F)

theorem plain (f : FuncId) (fn : Func) (hf : Tryz.pinned.checked.prog.funcNamed "drayage/drayagelaw19.ModelWords" = some f) (hfn : Tryz.pinned.checked.prog.funcs[f]? = some fn) :
    true = Tryz.pinned.checked.prog.looks [] ∧ ∀ (j : Nat) t, fn.params[j]? = some t → Tryz.pinned.checked.prog.wantsStandIn t = false := by
  obtain rfl : f = 4 := Option.some.inj ((show Tryz.prog.funcNamed "drayage/drayagelaw19.ModelWords" = some 4 by kernel_rfl).symm.trans hf) |>.symm
  obtain rfl : fn = Tryz.f4 := (Option.some.inj (Tryz.func4.symm.trans hfn)).symm
  refine ⟨by kernel_rfl, fun j t ht => ?_⟩
  rw [Tryz.params4] at ht
  have hm := Array.mem_of_getElem? ht
  have ht' : t = 3 ∨ t = 9 := by simpa using hm
  rcases ht' with rfl | rfl
  · exact (show Tryz.prog.wantsStandIn 3 = false by kernel_rfl)
  · exact (show Tryz.prog.wantsStandIn 9 = false by kernel_rfl)

end Go.Proofs.YtdfdllbebfoggaaGreatDoor.modelWords
namespace Go.Proofs.YtdfdllbebfoggaaGreatDoor
theorem modelWords_card : Rows.ModelWordsCardSaid :=
  Claim7.holds_tied_plain_at .later [] _ _ _ _ modelWords.said (fun _ h => by cases h) (by kernel_rfl) (fun _ h => by cases h) modelWords_row_tie rfl ⟨rfl, rfl⟩ (by kernel_rfl) rfl modelWords.plain (by kernel_rfl)
end Go.Proofs.YtdfdllbebfoggaaGreatDoor
