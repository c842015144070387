/- A part of the proof that the digests of any content are the three of it, and that an installed set is new memory. No condition. -/
import Derived.Test.YtlhchpeecfbgnaaGreatDoorProg
import Derived.Lib.Hide
import Derived.ProofKit
import Derived.WalkKit
import Derived.WalkLawsBesides
import Derived.WalkSpells
import Derived.Test.YtlhchpeecfbgnaaGreatDoorG00
set_option maxRecDepth 100000
set_option maxHeartbeats 20000000
set_option linter.unusedVariables false
set_option linter.unusedSimpArgs false
namespace Go.Proofs.YtlhchpeecfbgnaaGreatDoor
section
open Go.RowKit
theorem bl_toList (s : ByteArray) : s.toList = bl s := ByteArray.toList_eq s
theorem bl_isEmpty (s : ByteArray) : (bl s).isEmpty = decide (s.size = 0) := by
  rw [Bool.eq_iff_iff, List.isEmpty_iff, ← List.length_eq_zero_iff, bl_length]; simp
theorem ret_bool {a b : Bool} (h : a = b) : Ending.returned (.bool a) = .returned (.bool b) := by rw [h]
theorem ret_int {k : IntKind} {a b : Int} (h : a = b) : Ending.returned (.int k a) = .returned (.int k b) := by rw [h]
def fmtB (n : Int) : Bool := decide (n = 1 ∨ n = 2 ∨ n = 3)
theorem model_isFormat (n : Int) (w : World) :
    Calls Tryz.prog 35 #[.int .i64 n] w fun e w' => e = .returned (.bool (fmtB n)) ∧ w = w' := by
  go_enter Tryz.func35, Tryz.ntmps35
  go_wp2
  all_goals (go_ret; refine ⟨ret_bool ?_, rfl⟩; rw [Bool.eq_iff_iff]; simp_all [fmtB]; try omega)
def wthB (least : Nat) (l : List UInt8) : Bool := l.all fun c => least ≤ c.toNat && c.toNat ≤ 126
def plainB (l : List UInt8) : Bool := !l.isEmpty && wthB 33 l
theorem wthB_next (least : Nat) (s : ByteArray) (k : Nat) (h : k < s.size) (h0 : wthB least ((bl s).take k) = true) (h1 : least ≤ s[k].toNat) (h2 : ¬ s[k].toNat < least ∧ (s[k].toNat : Int) ≤ 126) : wthB least ((bl s).take (k + 1)) = true := by
  unfold wthB at *; rw [bl_take_all s k h, h0]; simp; omega
theorem wthB_bad (least : Nat) (s : ByteArray) (k : Nat) (h : k < s.size) (h1 : s[k].toNat < least ∨ 126 < (s[k].toNat : Int)) : wthB least (bl s) = false := by
  unfold wthB; apply bl_all_false s k h; simp; omega
theorem model_within (s : ByteArray) (least : Nat) (w : World) (hs : s.size ≤ 9223372036854775807) :
    Calls Tryz.prog 93 #[.string s, .int .u8 least] w fun e w' => e = .returned (.bool (wthB least (bl s))) ∧ w = w' := by
  go_enter Tryz.func93, Tryz.ntmps93
  go_wp2
  go_loop [8] (fun i => ∃ k : Nat, k ≤ s.size ∧ i = .int .i64 k ∧ Hid (wthB least ((bl s).take k) = true)) (fun i => s.size - (intOf i).toNat)
  case atStart => exact ⟨0, Nat.zero_le _, rfl, by simp [wthB, Hid]⟩
  case round =>
    obtain ⟨k, hk, rfl, hw⟩ := hrel
    by_cases hlt : k < s.size
    · by_cases h1 : least ≤ s[k].toNat
      · by_cases h2 : (s[k].toNat : Int) ≤ 126
        · go_wp2
          go_round
          case rel => exact ⟨k + 1, by omega, by go_num, wthB_next least s k hlt hw.out h1 ⟨by omega, h2⟩⟩
          case measure => simp [intOf]; omega
        · go_wp2
          go_ret
          exact ⟨ret_bool (by rw [wthB_bad least s k hlt (by omega)]), rfl⟩
      · go_wp2
        go_ret
        exact ⟨ret_bool (by rw [wthB_bad least s k hlt (by omega)]), rfl⟩
    · go_wp2
      go_ret
      exact ⟨ret_bool (by have := hw.out; rw [bl_take_ge s k (by omega)] at this; rw [this]), rfl⟩
end
end Go.Proofs.YtlhchpeecfbgnaaGreatDoor
