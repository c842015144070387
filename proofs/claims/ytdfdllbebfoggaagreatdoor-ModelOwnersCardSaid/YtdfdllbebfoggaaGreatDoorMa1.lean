/- Contracts of small functions of the model layer that only compute: Kind, isFormat. -/
import Derived.Test.YtdfdllbebfoggaaGreatDoorProg
import Derived.WalkKit
import Derived.ProofKit
import Derived.WalkSpells
import Derived.WalkLawsBesides
import Derived.Lib.Hide
import Derived.Test.YtdfdllbebfoggaaGreatDoorPlain
namespace Go.Proofs.YtdfdllbebfoggaaGreatDoor
open Go.RowKit

theorem bl_toList (s : ByteArray) : s.toList = bl s := ByteArray.toList_eq s
theorem bl_isEmpty (s : ByteArray) : (bl s).isEmpty = decide (s.size = 0) := by
  rw [Bool.eq_iff_iff, List.isEmpty_iff, ← List.length_eq_zero_iff, bl_length]; simp
theorem pos_not_zero (n : Nat) : decide (0 < n) = (!decide (n = 0) && true) := by
  cases n <;> simp
theorem ret_bool {a b : Bool} (h : a = b) : Ending.returned (.bool a) = .returned (.bool b) := by rw [h]
theorem ret_int {k : IntKind} {a b : Int} (h : a = b) : Ending.returned (.int k a) = .returned (.int k b) := by rw [h]

def kindOf (n : Int) : Int := if n = 1 then 1 else if n = 2 then 3 else if n = 3 then 2 else 0
def fmtB (n : Int) : Bool := decide (n = 1 ∨ n = 2 ∨ n = 3)

set_option maxHeartbeats 400000 in
theorem model_Kind (n : Int) (w : World) :
    Calls Tryz.prog 14 #[.int .i64 n] w fun e w' => e = .returned (.int .i64 (kindOf n)) ∧ w = w' := by
  go_enter Tryz.func14, Tryz.ntmps14
  go_wp2
  all_goals (go_ret; refine ⟨?_, rfl⟩; simp_all [kindOf])

set_option maxHeartbeats 400000 in
theorem ref_Kind (n : Int) (w : World) :
    Calls Tryz.prog 15 #[.int .i64 n] w fun e w' => e = .returned (.int .i64 (kindOf n)) ∧ w = w' := by
  go_enter Tryz.func15, Tryz.ntmps15
  go_wp2
  all_goals (go_ret; refine ⟨?_, rfl⟩; simp_all [kindOf])

set_option maxHeartbeats 400000 in
theorem model_isFormat (n : Int) (w : World) :
    Calls Tryz.prog 29 #[.int .i64 n] w fun e w' => e = .returned (.bool (fmtB n)) ∧ w = w' := by
  go_enter Tryz.func29, Tryz.ntmps29
  go_wp2
  all_goals (go_ret; refine ⟨ret_bool ?_, rfl⟩; rw [Bool.eq_iff_iff]; simp_all [fmtB]; try omega)

def wthB (least : Nat) (l : List UInt8) : Bool := l.all fun c => least ≤ c.toNat && c.toNat ≤ 126
def plainB (l : List UInt8) : Bool := !l.isEmpty && wthB 33 l

theorem wthB_next (least : Nat) (s : ByteArray) (k : Nat) (h : k < s.size) (h0 : wthB least ((bl s).take k) = true) (h1 : least ≤ s[k].toNat) (h2 : ¬ s[k].toNat < least ∧ (s[k].toNat : Int) ≤ 126) : wthB least ((bl s).take (k + 1)) = true := by
  unfold wthB at *; rw [bl_take_all s k h, h0]; simp; omega
theorem wthB_bad (least : Nat) (s : ByteArray) (k : Nat) (h : k < s.size) (h1 : s[k].toNat < least ∨ 126 < (s[k].toNat : Int)) : wthB least (bl s) = false := by
  unfold wthB; apply bl_all_false s k h; simp; omega

set_option maxHeartbeats 400000 in
theorem model_within (s : ByteArray) (least : Nat) (w : World) (hs : s.size ≤ 9223372036854775807) :
    Calls Tryz.prog 41 #[.string s, .int .u8 least] w fun e w' => e = .returned (.bool (wthB least (bl s))) ∧ w = w' := by
  go_enter Tryz.func41, Tryz.ntmps41
  go_wp2
  go_loop [8] (fun i => ∃ k : Nat, k ≤ s.size ∧ i = .int .i64 k ∧ Hid (wthB least ((bl s).take k) = true)) (fun i => s.size - (intOf i).toNat)
  case atStart => exact ⟨0, Nat.zero_le _, rfl, by simp [wthB, Hid]⟩
  case round =>
    obtain ⟨k, hk, rfl, hw⟩ := hrel
    by_cases hlt : k < s.size
    · by_cases h1 : least ≤ s[k].toNat
      · by_cases h2 : (s[k].toNat : Int) ≤ 126
        · go_wp2
          go_round
          case rel => exact ⟨k + 1, by omega, by go_num, wthB_next least s k hlt hw.out h1 ⟨by omega, h2⟩⟩
          case measure => simp [intOf]; omega
        · go_wp2
          go_ret
          exact ⟨ret_bool (by rw [wthB_bad least s k hlt (by omega)]), rfl⟩
      · go_wp2
        go_ret
        exact ⟨ret_bool (by rw [wthB_bad least s k hlt (by omega)]), rfl⟩
    · go_wp2
      go_ret
      exact ⟨ret_bool (by have := hw.out; rw [bl_take_ge s k (by omega)] at this; rw [this]), rfl⟩

set_option maxHeartbeats 400000 in
theorem model_Plain (s : ByteArray) (w : World) (hs : s.size ≤ 9223372036854775807) :
    Calls Tryz.prog 16 #[.string s] w fun e w' => e = .returned (.bool (plainB (bl s))) ∧ w = w' := by
  go_enter Tryz.func16, Tryz.ntmps16
  go_wp2_with (go_at_call 41; refine (model_within _ 33 _ hs).mono ?_; rintro e w' ⟨rfl, rfl⟩)
  all_goals (go_ret; refine ⟨ret_bool ?_, rfl⟩; simp_all [plainB, bl_toList])

set_option maxHeartbeats 400000 in
theorem ref_Plain (s : ByteArray) (w : World) (hs : s.size ≤ 9223372036854775807) :
    Calls Tryz.prog 17 #[.string s] w fun e w' => e = .returned (.bool (plainB (bl s))) ∧ w = w' := by
  go_enter Tryz.func17, Tryz.ntmps17
  go_wp2
  go_loop [3] (fun i => ∃ k : Nat, k ≤ s.size ∧ i = .int .i64 k ∧ Hid (wthB 33 ((bl s).take k) = true)) (fun i => s.size - (intOf i).toNat)
  case atStart => exact ⟨0, Nat.zero_le _, rfl, by simp [wthB, Hid]⟩
  case round =>
    obtain ⟨k, hk, rfl, hw⟩ := hrel
    by_cases hlt : k < s.size
    · by_cases h1 : 33 ≤ s[k].toNat
      · by_cases h2 : (s[k].toNat : Int) ≤ 126
        · go_wp2
          go_round
          case rel => exact ⟨k + 1, by omega, by go_num, wthB_next 33 s k hlt hw.out h1 ⟨by omega, h2⟩⟩
          case measure => simp [intOf]; omega
        · go_wp2
          go_ret
          exact ⟨ret_bool (by unfold plainB; rw [wthB_bad 33 s k hlt (by omega)]; simp), rfl⟩
      · go_wp2
        go_ret
        exact ⟨ret_bool (by unfold plainB; rw [wthB_bad 33 s k hlt (by omega)]; simp), rfl⟩
    · go_wp2
      go_ret
      have := hw.out
      rw [bl_take_ge s k (by omega)] at this
      refine ⟨ret_bool ?_, rfl⟩
      unfold plainB
      rw [this, bl_isEmpty]
      exact pos_not_zero s.size
end Go.Proofs.YtdfdllbebfoggaaGreatDoor
