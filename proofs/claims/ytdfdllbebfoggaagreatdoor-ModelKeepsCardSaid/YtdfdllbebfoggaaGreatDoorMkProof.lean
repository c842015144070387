/- Proved: for every two databases of packages drayagelaw19.ModelKeeps returns true, and the arguments read afterwards as before (the tied card). Conditions: none beyond the given row's own. -/
import Derived.Test.YtdfdllbebfoggaaGreatDoorMkRow
import Derived.Test.YtdfdllbebfoggaaGreatDoorMkFacts
namespace Go.Proofs.YtdfdllbebfoggaaGreatDoor.modelKeeps
open Go.ChangeShapes Go.WideShapes Go.ChangeAt Go.RowKit

theorem reads (os : Os) {H : Type} (enc : TypeId × Value → H) : ∃ places, DataW.whole enc Tryz.prog ((laidWorld os).forCall (fun _ _ => 0) ⟨#[], #[.slice none 0 0, .slice none 0 0], []⟩).memory Tryz.f6.params.toList Rows.modelKeepsSpec.vars false #[Value.slice none 0 0, Value.slice none 0 0].toList 8 = some ([.nil, .nil], [], places) :=
  ⟨[], by kernel_rfl⟩

set_option maxRecDepth 100000 in
theorem lifted (os : Os) (started : os.Started) (H : Type) (enc : TypeId × Value → H) (F : Stop.Interp) :
    ReturnsInHanded {} Tryz.checked os 6 .any ((OpenSpec.ofChange Rows.modelKeepsSpec).preRow enc Tryz.prog Tryz.f6 Rows.modelKeepsRow.domain false Rows.modelKeepsRow.laid) (((OpenSpec.ofChange Rows.modelKeepsSpec).at F).post enc Tryz.prog Tryz.f6 false true false false) := by
  obtain ⟨places, hx⟩ := reads os enc
  refine returnsInHanded_of_row (C := Tryz.checked) (s := OpenSpec.ofChange Rows.modelKeepsSpec) own started (by kernel_rfl) Tryz.func6
    (witness_row_atRef (enc := enc) (C := Tryz.checked) false (laidWorld os) #[.slice none 0 0, .slice none 0 0] (laidWorld_os os) (wit_vars os _) (wit_rest os _) (by kernel_rfl)
      (OpenSpec.preRow_of_cond 8 hx (by kernel_rfl) (fun k hk => by cases hk) (by kernel_rfl) (wit_laid os _))) ?_
  intro W base args ds gs before hval hW _ _ _ hL hsh _
  exact contract H enc W base args ds gs before hval hW hL hsh

theorem said : Rows.ModelKeepsSaid :=
  OpenClaim.holds_of_cond 6 Tryz.f6 rfl rfl rfl rfl rfl rfl rfl ⟨rfl, rfl, rfl, rfl, rfl⟩ rfl rfl rfl rfl rfl (by kernel_rfl) Tryz.func6 closed
    (of_decide_eq_true (by kernel_rfl)) (by unfold Func.isWrapper; first | (rw [if_pos (by decide +kernel)]; kernel_rfl) | (rw [if_neg (by decide +kernel)]; exact ⟨rfl, rfl⟩))
    (fun os started H enc _ F => by rw [OpenClaim.pre_eq_preRow]; exact lifted os started H enc F)

theorem plain (f : FuncId) (fn : Func) (hf : Tryz.pinned.checked.prog.funcNamed "drayage/drayagelaw19.ModelKeeps" = some f) (hfn : Tryz.pinned.checked.prog.funcs[f]? = some fn) :
    true = Tryz.pinned.checked.prog.looks [] ∧ ∀ (j : Nat) t, fn.params[j]? = some t → Tryz.pinned.checked.prog.wantsStandIn t = false := by
  obtain rfl : f = 6 := Option.some.inj ((show Tryz.prog.funcNamed "drayage/drayagelaw19.ModelKeeps" = some 6 by kernel_rfl).symm.trans hf) |>.symm
  obtain rfl : fn = Tryz.f6 := (Option.some.inj (Tryz.func6.symm.trans hfn)).symm
  refine ⟨by kernel_rfl, fun j t ht => ?_⟩
  rw [Tryz.params6] at ht
  have hm := Array.mem_of_getElem? ht
  have ht' : t = 40 := by simpa using hm
  subst ht'
  exact (show Tryz.prog.wantsStandIn 40 = false by kernel_rfl)

end Go.Proofs.YtdfdllbebfoggaaGreatDoor.modelKeeps
namespace Go.Proofs.YtdfdllbebfoggaaGreatDoor
theorem modelKeeps_card : Rows.ModelKeepsCardSaid :=
  Claim7.holds_tied_plain_at .later [] _ _ _ _ modelKeeps.said (fun _ h => by cases h) (by kernel_rfl) (fun _ h => by cases h) modelKeeps_row_tie rfl ⟨rfl, rfl⟩ (by kernel_rfl) rfl modelKeeps.plain (by kernel_rfl)
end Go.Proofs.YtdfdllbebfoggaaGreatDoor
