/- A part of the proof that the digests of any content are the three of it, and that an installed set is new memory. No condition. -/
import Derived.Test.YtlhchpeecfbgnaaGreatDoorG28
set_option maxRecDepth 100000
set_option maxHeartbeats 20000000
set_option linter.unusedVariables false
set_option linter.unusedSimpArgs false
namespace Go.Proofs.YtlhchpeecfbgnaaGreatDoor
section
open Go.RowKit Go.Sort
structure GlP (w : World) : Prop where
  gl : Gl w
  prs : ∀ i, i < 4 → w.cell? ⟨2, i, none⟩ = some (.string (vWord i))
  tab : Lib.TabIs Tryz.prog w "internal/strconv.uint64pow10" .u64 Lib.pow10Tab
theorem tab_named : Tryz.prog.globalNamed "internal/strconv.uint64pow10" = some 13 := by kernel_rfl
theorem GlP.below {w w' : World} (h : GlP w) (hb : Below w.heap.size w w') : GlP w' := by
  refine ⟨h.gl.below hb, fun i hi => (hb.cell (World.block_lt_of_cell? _ _ (h.prs i hi))).trans (h.prs i hi), ?_⟩
  have ht := h.tab
  unfold Lib.TabIs at ht ⊢
  refine var?_below hb tab_named ?_ ht
  unfold World.var? at ht
  rw [tab_named] at ht
  simp only [Option.bind_some] at ht
  apply Classical.byContradiction
  intro hn
  rw [Array.getElem?_eq_none (by omega)] at ht
  cases ht
theorem below_grow (w : World) (k : Nat) (os : Array Obj) : Below w.heap.size w (grow (w.drewN k) os) :=
  ⟨rfl, rfl, rfl, by simp [grow, World.drewN], fun i hi => by simp [grow, World.drewN, Array.getElem?_append_left hi]⟩
theorem codec_Dec (n : Nat) (w : World) (hG : GlP w) (hn : n ≤ 4611686018427387903) :
    Calls Tryz.prog 152 #[.int .i64 n] w fun e w' => e = .returned (.string (decS n)) ∧ Below w.heap.size w w' := by
  have h0 : decide ((n : Int) < 0) = false := decide_eq_false (by omega)
  have E : Hid ((⟨(Lib.itoa (n : Int)).toArray⟩ : ByteArray) = decS n) := by
    show _ = _
    unfold Lib.itoa decS
    rw [if_neg (by omega), Int.toNat_natCast, decDigits_decL]
  have HT := Lib.hid hG.tab
  clear hG
  go_enter Tryz.func152, Tryz.ntmps152
  go_wp2_with fail
  refine (Tryz.strconv_Itoa n (by omega) (by omega) _ HT.out).mono ?_; rintro e w' ⟨rfl, k, os, rfl⟩
  rw [E.out]
  go_wp2_with fail
  go_ret
  exact ⟨rfl, below_grow w k os⟩
def rank (s : ByteArray) : Nat := if vWord 0 = s then 0 else if vWord 1 = s then 1 else if vWord 2 = s then 2 else if vWord 3 = s then 3 else 4
theorem idx4 (k : Nat) (hk : k < 4) (x : Nat → ByteArray) (w : World) : (Instr.index 33 (.agg #[.string (x 0), .string (x 1), .string (x 2), .string (x 3)]) (.int .i64 k)).run Tryz.prog w = .ok (.string (x k)) w := by
  rcases (by omega : k = 0 ∨ k = 1 ∨ k = 2 ∨ k = 3) with rfl | rfl | rfl | rfl <;> kernel_rfl
theorem rank_hit {s : ByteArray} {k : Nat} (hk : k < 4) (hn : ∀ j, j < k → ¬ vWord j = s) (h : vWord k = s) : rank s = k := by
  unfold rank
  rcases (by omega : k = 0 ∨ k = 1 ∨ k = 2 ∨ k = 3) with rfl | rfl | rfl | rfl
  · rw [if_pos h]
  · rw [if_neg (hn 0 (by omega)), if_pos h]
  · rw [if_neg (hn 0 (by omega)), if_neg (hn 1 (by omega)), if_pos h]
  · rw [if_neg (hn 0 (by omega)), if_neg (hn 1 (by omega)), if_neg (hn 2 (by omega)), if_pos h]
theorem rank_miss {s : ByteArray} (hn : ∀ j, j < 4 → ¬ vWord j = s) : rank s = 4 := by
  unfold rank
  rw [if_neg (hn 0 (by omega)), if_neg (hn 1 (by omega)), if_neg (hn 2 (by omega)), if_neg (hn 3 (by omega))]
theorem rank_pres (s : ByteArray) : decide (rank s < 4) = presL.contains (bl s) := by
  have hp : presL = [bl (vWord 0), bl (vWord 1), bl (vWord 2), bl (vWord 3)] := rfl
  rw [Bool.eq_iff_iff, decide_eq_true_iff, hp, List.contains_iff_mem]
  simp only [List.mem_cons, List.not_mem_nil, or_false]
  have hinj : ∀ k, bl s = bl (vWord k) ↔ vWord k = s := fun k => ⟨fun e => (bl_inj e).symm, fun e => by rw [e]⟩
  rw [hinj 0, hinj 1, hinj 2, hinj 3]
  unfold rank
  repeat' split
  all_goals simp_all
theorem vmap_preRank (s : ByteArray) (w : World) (hG : GlP w) :
    Calls Tryz.prog 150 #[.string s] w fun e w' => e = .returned (.int .i64 (rank s)) ∧ w = w' := by
  have g0 := hG.prs 0 (by omega)
  have g1 := hG.prs 1 (by omega)
  have g2 := hG.prs 2 (by omega)
  have g3 := hG.prs 3 (by omega)
  clear hG
  go_enter Tryz.func150, Tryz.ntmps150
  go_wp2_with fail
  clear g0 g1 g2 g3
  go_loop [6] (fun i => ∃ k : Nat, k ≤ 4 ∧ i = .int .i64 k ∧ Hid (∀ j, j < k → ¬ vWord j = s)) (fun i => 4 - (intOf i).toNat)
  case atStart => exact ⟨0, by omega, rfl, Lib.hid (fun j hj => by omega)⟩
  case round =>
    obtain ⟨k, hk, rfl, HN⟩ := hrel
    by_cases hlt : k < 4
    · have hix := fun W => idx4 k hlt vWord W
      cases hE : ((vWord k).toList == s.toList)
      · have HNE : Hid (¬ vWord k = s) := by show ¬ _; rw [beq_bl] at hE; exact of_decide_eq_false hE
        go_wp2_with fail
        go_round
        case rel => exact ⟨k + 1, by omega, by go_num, Lib.hid (fun j hj => by
          by_cases e : j = k
          · subst e; exact HNE.out
          · exact HN.out j (by omega))⟩
        case measure => simp [intOf]; omega
      · have HE : Hid (vWord k = s) := by show _ = _; rw [beq_bl] at hE; exact of_decide_eq_true hE
        go_wp2_with fail
        go_ret
        exact ⟨ret_int (by rw [rank_hit hlt HN.out HE.out]), rfl⟩
    · go_wp2_with fail
      go_ret
      exact ⟨ret_int (by rw [rank_miss (fun j hj => HN.out j (by omega))]; rfl), rfl⟩
end
end Go.Proofs.YtlhchpeecfbgnaaGreatDoor
