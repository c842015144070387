/- Proved: for every database of packages drayagelaw19.ModelOwners returns true, and the argument reads afterwards as before (the tied card). Conditions: none beyond the given row's own. -/
import Derived.Test.YtdfdllbebfoggaaGreatDoorMoRow
import Derived.Test.YtdfdllbebfoggaaGreatDoorMoFacts
namespace Go.Proofs.YtdfdllbebfoggaaGreatDoor.modelOwners
open Go.ChangeShapes Go.WideShapes Go.ChangeAt Go.RowKit

theorem reads (os : Os) {H : Type} (enc : TypeId × Value → H) : ∃ places, DataW.whole enc Tryz.prog ((laidWorld os).forCall (fun _ _ => 0) ⟨#[], #[.slice none 0 0], []⟩).memory Tryz.f7.params.toList Rows.modelOwnersSpec.vars false #[Value.slice none 0 0].toList 8 = some ([.nil], [], places) :=
  ⟨[], by kernel_rfl⟩

set_option maxRecDepth 100000 in
theorem lifted (os : Os) (started : os.Started) (H : Type) (enc : TypeId × Value → H) (F : Stop.Interp) :
    ReturnsInHanded {} Tryz.checked os 7 .any ((OpenSpec.ofChange Rows.modelOwnersSpec).preRow enc Tryz.prog Tryz.f7 Rows.modelOwnersRow.domain false Rows.modelOwnersRow.laid) (((OpenSpec.ofChange Rows.modelOwnersSpec).at F).post enc Tryz.prog Tryz.f7 false true false false) := by
  obtain ⟨places, hx⟩ := reads os enc
  refine returnsInHanded_of_row (C := Tryz.checked) (s := OpenSpec.ofChange Rows.modelOwnersSpec) own started (by kernel_rfl) Tryz.func7
    (witness_row_atRef (enc := enc) (C := Tryz.checked) false (laidWorld os) #[.slice none 0 0] (laidWorld_os os) (wit_vars os _) (wit_rest os _) (by kernel_rfl)
      (OpenSpec.preRow_of_cond 8 hx (by kernel_rfl) (fun k hk => by cases hk) (by kernel_rfl) (wit_laid os _))) ?_
  intro W base args ds gs before hval hW _ _ _ hL hsh _
  exact contract H enc W base args ds gs before hval hW hL hsh

theorem said : Rows.ModelOwnersSaid :=
  OpenClaim.holds_of_cond 7 Tryz.f7 rfl rfl rfl rfl rfl rfl rfl ⟨rfl, rfl, rfl, rfl, rfl⟩ rfl rfl rfl rfl rfl (by kernel_rfl) Tryz.func7 closed
    (of_decide_eq_true (by kernel_rfl)) (by unfold Func.isWrapper; first | (rw [if_pos (by decide +kernel)]; kernel_rfl) | (rw [if_neg (by decide +kernel)]; exact ⟨rfl, rfl⟩))
    (fun os started H enc _ F => by rw [OpenClaim.pre_eq_preRow]; exact lifted os started H enc F)

theorem plain (f : FuncId) (fn : Func) (hf : Tryz.pinned.checked.prog.funcNamed "drayage/drayagelaw19.ModelOwners" = some f) (hfn : Tryz.pinned.checked.prog.funcs[f]? = some fn) :
    true = Tryz.pinned.checked.prog.looks [] ∧ ∀ (j : Nat) t, fn.params[j]? = some t → Tryz.pinned.checked.prog.wantsStandIn t = false := by
  obtain rfl : f = 7 := Option.some.inj ((show Tryz.prog.funcNamed "drayage/drayagelaw19.ModelOwners" = some 7 by kernel_rfl).symm.trans hf) |>.symm
  obtain rfl : fn = Tryz.f7 := (Option.some.inj (Tryz.func7.symm.trans hfn)).symm
  refine ⟨by kernel_rfl, fun j t ht => ?_⟩
  rw [Tryz.params7] at ht
  have hm := Array.mem_of_getElem? ht
  have ht' : t = 40 := by simpa using hm
  subst ht'
  exact (show Tryz.prog.wantsStandIn 40 = false by kernel_rfl)

end Go.Proofs.YtdfdllbebfoggaaGreatDoor.modelOwners
namespace Go.Proofs.YtdfdllbebfoggaaGreatDoor
theorem modelOwners_card : Rows.ModelOwnersCardSaid :=
  Claim7.holds_tied_plain_at .later [] _ _ _ _ modelOwners.said (fun _ h => by cases h) (by kernel_rfl) (fun _ h => by cases h) modelOwners_row_tie rfl ⟨rfl, rfl⟩ (by kernel_rfl) rfl modelOwners.plain (by kernel_rfl)
end Go.Proofs.YtdfdllbebfoggaaGreatDoor
