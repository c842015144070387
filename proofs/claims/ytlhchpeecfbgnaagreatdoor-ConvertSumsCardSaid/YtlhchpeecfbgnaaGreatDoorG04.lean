/- A part of the proof that the digests of any content are the three of it, and that an installed set is new memory. No condition. -/
import Derived.Test.YtlhchpeecfbgnaaGreatDoorG01
import Derived.Test.YtlhchpeecfbgnaaGreatDoorG02
import Derived.Test.YtlhchpeecfbgnaaGreatDoorG03
set_option maxRecDepth 100000
set_option maxHeartbeats 20000000
set_option linter.unusedVariables false
set_option linter.unusedSimpArgs false
namespace Go.Proofs.YtlhchpeecfbgnaaGreatDoor
section
open Go.RowKit
def ixB (s : ByteArray) (c : UInt8) : Int := Lib.indexByte (bl s) c
theorem ixB_neg (s : ByteArray) (c : UInt8) (h : (bl s).contains c = false) : ixB s c < 0 := by
  have := Lib.contains_iff_indexByte (bl s) c
  rw [h] at this; unfold ixB
  have h2 := of_decide_eq_false this.symm; omega
theorem ixB_pos (s : ByteArray) (c : UInt8) (h : (bl s).contains c = true) : 0 ≤ ixB s c := by
  have := Lib.contains_iff_indexByte (bl s) c
  rw [h] at this; unfold ixB
  exact of_decide_eq_true this.symm
theorem IndexByte_any (s : ByteArray) (c : UInt8) (w : World) :
    Calls Tryz.prog 127 #[.string s, .int .u8 c.toNat] w fun e w' => e = .returned (.int .i64 (ixB s c)) ∧ w = w' :=
  (Tryz.strings_IndexByte s c.toNat w).mono fun _ _ ⟨he, hw⟩ => ⟨by rw [he]; simp [ixB, bl], hw.symm⟩
theorem ddep_starts (s : ByteArray) (w : World) (hs : s.size ≤ 9223372036854775807) :
    Calls Tryz.prog 126 #[.string s] w fun e w' => e = .returned (.bool (startsB (bl s))) ∧ w = w' := by
  by_cases h0 : s.size = 0
  · have he : s.toList = [] := by rw [bl_toList, bl_nil s h0]
    go_enter Tryz.func126, Tryz.ntmps126
    go_wp2
    go_ret
    exact ⟨ret_bool (startsB_zero s h0).symm, rfl⟩
  · have h1 : 0 < s.size := by omega
    have he : s.toList.isEmpty = false := by rw [bl_toList, bl_isEmpty]; simpa using h0
    have he' : ¬ s.toList = [] := by intro h; rw [h] at he; simp at he
    go_enter Tryz.func126, Tryz.ntmps126
    go_wp2
    all_goals go_ret
    all_goals (refine ⟨ret_bool ?_, rfl⟩; rw [startsB_pos s h1, Bool.eq_iff_iff]; simp [lowB, smlB, digB]; omega)
theorem ddep_starts_at (s : ByteArray) (k : Nat) (h : k < s.size) (w : World) (hs : s.size ≤ 9223372036854775807) :
    Calls Tryz.prog 126 #[.string (s.extract k s.size)] w fun e w' => e = .returned (.bool (lowB s[k])) ∧ w = w' :=
  (ddep_starts (s.extract k s.size) w (by simp [ByteArray.size_extract]; omega)).mono fun _ _ ⟨he, hw⟩ => ⟨by rw [he, startsB_drop s k h], hw⟩
theorem ddep_made (s o : ByteArray) (w : World) (hs : s.size ≤ 9223372036854775807) :
    Calls Tryz.prog 83 #[.string s, .string o] w fun e w' => e = .returned (.bool (dmadeB (bl o) (bl s))) ∧ w = w' := by
  go_enter Tryz.func83, Tryz.ntmps83
  go_wp2
  go_loop [8] (fun i => ∃ k : Nat, k ≤ s.size ∧ i = .int .i64 k ∧ Hid (((bl s).take k).all (fun c => lowB c || (bl o).contains c) = true)) (fun i => s.size - (intOf i).toNat)
  case atStart => exact ⟨0, Nat.zero_le _, rfl, by simp [Hid]⟩
  case round =>
    obtain ⟨k, hk, rfl, hw⟩ := hrel
    by_cases hlt : k < s.size
    · cases hl : lowB s[k]
      · cases hc : (bl o).contains s[k]
        · have hn := ixB_neg o s[k] hc
          have HC := Lib.hid hc; clear hc
          go_wp2_with (first | (go_at_call 126; refine (ddep_starts_at s k hlt _ hs).mono ?_; rintro e w' ⟨rfl, rfl⟩) | (go_at_call 127; refine (IndexByte_any o s[k] _).mono ?_; rintro e w' ⟨rfl, rfl⟩))
          go_ret
          exact ⟨ret_bool (dmade_bad _ s k hlt hl HC.out).symm, rfl⟩
        · have hn := ixB_pos o s[k] hc
          have HC := Lib.hid hc; clear hc
          go_wp2_with (first | (go_at_call 126; refine (ddep_starts_at s k hlt _ hs).mono ?_; rintro e w' ⟨rfl, rfl⟩) | (go_at_call 127; refine (IndexByte_any o s[k] _).mono ?_; rintro e w' ⟨rfl, rfl⟩))
          go_round
          case rel => exact ⟨k + 1, by omega, by go_num, dmade_next _ s k hlt hw.out (by rw [HC.out]; simp)⟩
          case measure => simp [intOf]; omega
      · go_wp2_with (first | (go_at_call 126; refine (ddep_starts_at s k hlt _ hs).mono ?_; rintro e w' ⟨rfl, rfl⟩))
        go_round
        case rel => exact ⟨k + 1, by omega, by go_num, dmade_next _ s k hlt hw.out (by rw [hl]; simp)⟩
        case measure => simp [intOf]; omega
    · go_wp2_with (go_at_call 126; refine (ddep_starts s _ hs).mono ?_; rintro e w' ⟨rfl, rfl⟩)
      go_ret
      exact ⟨ret_bool (dmade_good _ s k hlt hw.out).symm, rfl⟩
theorem ddep_Name (s : ByteArray) (w : World) (hs : s.size ≤ 9223372036854775807) :
    Calls Tryz.prog 48 #[.string s] w fun e w' => e = .returned (.bool (dnameB (bl s))) ∧ w = w' := by
  have hb := bl_length s
  have HB := Lib.hid hb; clear hb
  by_cases h2 : 2 ≤ s.size
  · by_cases h3 : s.size ≤ 64
    · go_enter Tryz.func48, Tryz.ntmps48
      go_wp2_with (go_at_call 83; refine (ddep_made s _ _ hs).mono ?_; rintro e w' ⟨rfl, rfl⟩)
      go_ret
      exact ⟨ret_bool (by unfold dnameB; rw [HB.out, decide_eq_true h2, decide_eq_true h3]; simp [bl]), rfl⟩
    · go_enter Tryz.func48, Tryz.ntmps48
      go_wp2_with fail
      go_ret
      exact ⟨ret_bool (by unfold dnameB; rw [HB.out, decide_eq_false h3]; simp), rfl⟩
  · go_enter Tryz.func48, Tryz.ntmps48
    go_wp2_with fail
    go_ret
    exact ⟨ret_bool (by unfold dnameB; rw [HB.out, decide_eq_false h2]; simp), rfl⟩
end
end Go.Proofs.YtlhchpeecfbgnaaGreatDoor
