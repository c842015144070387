/- A part of the proof of a law on which findings a policy admits. No condition. -/
import Derived.Test.YtfgidaaipmbibaaGreatDoorF39
set_option maxRecDepth 100000
set_option maxHeartbeats 20000000
set_option linter.unusedVariables false
set_option linter.unusedSimpArgs false
namespace Go.Proofs.YtfgidaaipmbibaaGreatDoor
section
open Go.RowKit Go.Shelf
theorem Keys_f (b : Nat) (w : World) : Calls Tryz.prog 18 #[.map (some b)] w fun e w' => e = .returned (.func (.func 37) #[] #[.pointer (some ⟨w.heap.size, 0, none⟩)]) ∧ w' = w.alloc (.cells #[.map (some b)] 51) := by
  go_enter Tryz.func18, Tryz.ntmps18
  go_wp2_with fail
  go_ret
  exact ⟨rfl, rfl⟩
theorem AppendSeq_f (Bm b : Nat) (w : World) (hBm : Bm < w.heap.size) (hm : w.cell? ⟨Bm, 0, none⟩ = some (.map (some b))) (hb : w.heap[b]? = some (.map E2 2)) :
    Calls Tryz.prog 58 #[.slice none 0 0, .func (.func 37) #[] #[.pointer (some ⟨Bm, 0, none⟩)]] w fun e W' => ∃ v ss, e = .returned v ∧ BothF ss ∧ W'.ownsRow w.heap.size 45 2 v 2 (flatF ss) ∧ Below w.heap.size w W' :=
  (callsIn_wide (n := 3)).1 (AppendSeq_in _ 3 trivial trivial rfl (Nat.le_refl 3) Bm b w hBm hm hb)
theorem owns_blk {W : World} {base k : Nat} {e : TypeId} {size : Nat} {v : Value} {xs : List Value} (h : W.ownsRow base e size v (k + 1) xs) : ∃ g cap, v = .slice (some ⟨g, 0, none⟩) (k + 1) cap ∧ base ≤ g ∧ Blk W g xs := by
  obtain ⟨hl, h0 | ⟨g, cap, cur, rfl, hg, hb, hn, hc, hs, ht⟩⟩ := h
  · exact absurd h0.2 (by omega)
  · have hlen : xs.length ≤ cur.size := by rw [← ht, List.length_take, Array.length_toList]; exact Nat.min_le_right _ _
    refine ⟨g, cap, rfl, hg, (Array.getElem?_eq_some_iff.1 hb).1, fun j u hu => ?_, fun j hj => ?_⟩
    · have h2 : cur[j]? = some u := by
        have : (cur.toList.take ((k + 1) * size))[j]? = some u := by rw [ht]; exact hu
        rw [List.getElem?_take] at this
        split at this
        · simpa using this
        · cases this
      simp [World.cell?, hb, h2]
    · have : j < cur.size := Nat.lt_of_lt_of_le hj hlen
      simp [World.frozen?, hb, this]
theorem Collect_f (Bm b : Nat) (w : World) (hBm : Bm < w.heap.size) (hm : w.cell? ⟨Bm, 0, none⟩ = some (.map (some b))) (hb : w.heap[b]? = some (.map E2 2)) :
    Calls Tryz.prog 35 #[.func (.func 37) #[] #[.pointer (some ⟨Bm, 0, none⟩)]] w fun e W' => ∃ g cap ss, e = .returned (.slice (some ⟨g, 0, none⟩) 2 cap) ∧ BothF ss ∧ w.heap.size ≤ g ∧ Blk W' g (flatF ss) ∧ Below w.heap.size w W' := by
  have hA := AppendSeq_f Bm b w hBm hm hb
  clear hm hb hBm
  go_enter Tryz.func35, Tryz.ntmps35
  go_wp2_with fail
  refine hA.mono ?_; rintro e w' ⟨v, ss, rfl, hB, hO, hb⟩
  obtain ⟨g, cap, rfl, hg, hk⟩ := owns_blk hO
  clear hO hA
  go_wp2_with fail
  go_ret
  exact ⟨g, cap, ss, rfl, hB, hg, hk, hb⟩
theorem SortedFunc_f (Bm b : Nat) (w : World) (hBm : Bm < w.heap.size) (hm : w.cell? ⟨Bm, 0, none⟩ = some (.map (some b))) (hb : w.heap[b]? = some (.map E2 2)) :
    Calls Tryz.prog 17 #[.func (.func 37) #[] #[.pointer (some ⟨Bm, 0, none⟩)], .func (.func 19) #[] #[]] w fun e W' => ∃ g cap, e = .returned (.slice (some ⟨g, 0, none⟩) 2 cap) ∧ Below w.heap.size w W' ∧
      (W'.cell? ⟨g, 0, none⟩ = some (.string ⟨#[97]⟩) ∧ W'.cell? ⟨g, 1, none⟩ = some (.int .i64 1) ∧ W'.cell? ⟨g, 2, none⟩ = some (.string ⟨#[98]⟩) ∧ W'.cell? ⟨g, 3, none⟩ = some (.int .i64 5)) := by
  have hC := Collect_f Bm b w hBm hm hb
  clear hm hb hBm
  go_enter Tryz.func17, Tryz.ntmps17
  go_wp2_with fail
  refine hC.mono ?_; rintro e w1 ⟨g, cap, ss, rfl, hB, hg, hk, hb⟩
  have hS : Calls Tryz.prog 36 #[.slice (some ⟨g, 0, none⟩) 2 cap, .func (.func 19) #[] #[]] w1 fun e w' => e = .returned (.tuple #[]) ∧ w1.grownBy w' (some g) ∧
      (w'.cell? ⟨g, 0, none⟩ = some (.string ⟨#[97]⟩) ∧ w'.cell? ⟨g, 1, none⟩ = some (.int .i64 1) ∧ w'.cell? ⟨g, 2, none⟩ = some (.string ⟨#[98]⟩) ∧ w'.cell? ⟨g, 3, none⟩ = some (.int .i64 5)) := by
    rcases hB with rfl | rfl
    · exact SortFunc_two g cap fA fB sort_ab w1 hk
    · exact SortFunc_two g cap fB fA sort_ba w1 hk
  have HB := Lib.hid hb; have HG := Lib.hid hg
  clear hC hB hk hb hg
  go_wp2_with fail
  refine hS.mono ?_; rintro e w2 ⟨rfl, hgr, hcells⟩
  have HB2 : Hid (Below w.heap.size w w2) := HB.out.grown hgr HB.out.size (fun j hj => by injection hj with hj; rw [← hj]; exact HG.out)
  have HCE := Lib.hid hcells
  clear hgr hcells hS
  go_wp2_with fail
  go_ret
  exact ⟨g, cap, rfl, HB2.out, HCE.out⟩
end
end Go.Proofs.YtfgidaaipmbibaaGreatDoor
