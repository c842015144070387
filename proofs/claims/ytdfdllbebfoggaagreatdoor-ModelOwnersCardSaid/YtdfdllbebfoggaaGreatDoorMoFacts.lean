/- The closed facts of the row of drayagelaw19.ModelOwners, one by one. -/
import Derived.Test.YtdfdllbebfoggaaGreatDoorWit2
namespace Go.Proofs.YtdfdllbebfoggaaGreatDoor.modelOwners
theorem and_tt {a b : Bool} (h : a = true) (k : b = true) : (a && b) = true := by rw [h, k]; rfl
set_option maxHeartbeats 10000000 in
theorem closed : joinedFacts Tryz.pinned.checked.prog 7 Tryz.f7 (OpenSpec.ofChange Rows.modelOwnersSpec).bare Rows.modelOwnersRow = true := by
  unfold joinedFacts
  repeat' (with_reducible refine and_tt ?_ ?_)
  all_goals (as_aux_lemma => kernel_rfl)
end Go.Proofs.YtdfdllbebfoggaaGreatDoor.modelOwners
