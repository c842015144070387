/- A part of the proof that the digests of any content are the three of it, and that an installed set is new memory. No condition. -/
import Derived.Shelf.LaysM
import Derived.Shelf.Slices.Turned
import Derived.Shelf.Small.Strs
import Derived.Shelf.Small.Utf8
import Derived.Shelf.Small.Wraps
import Derived.Shelf.Strconv.Itoa0
import Derived.Shelf.Strconv.Itoa1
import Derived.Shelf.Strconv.Itoa2
import Derived.Shelf.Strconv.Itoa3
import Derived.Shelf.Strings.AsciiSet
import Derived.Shelf.Strings.Builder1
import Derived.Shelf.Strings.Builder2
import Derived.Shelf.Strings.BuilderF
import Derived.Shelf.Strings.Count
import Derived.Shelf.Strings.Cut
import Derived.Shelf.Strings.IndexAny
import Derived.Shelf.Strings.IndexAnyAll
import Derived.Shelf.Strings.LastIndex
import Derived.Shelf.Strings.OnBuilder
import Derived.Shelf.Strings.Prefix
import Derived.Shelf.Strings.Runes
import Derived.Shelf.Strings.Search1
import Derived.Shelf.Strings.Search2
import Derived.Shelf.Strings.Search3
import Derived.Shelf.Strings.Shaped
import Derived.Shelf.Strings.Split
import Derived.Shelf.Strings.SplitShaped
import Derived.Shelf.Strings.Trim
import Derived.Shelf.Unicode.Decode
import Derived.Shelf.Unicode.DecodeAny
import Derived.Shelf.Unicode.DecodeSlow
import Derived.Test.YtlhchpeecfbgnaaGreatDoorG01
import Derived.Test.YtlhchpeecfbgnaaGreatDoorG02
set_option maxRecDepth 100000
set_option maxHeartbeats 20000000
set_option linter.unusedVariables false
set_option linter.unusedSimpArgs false
namespace Go.Proofs.YtlhchpeecfbgnaaGreatDoor
section
open Go.RowKit
theorem version_digit (c : UInt8) (w : World) :
    Calls Tryz.prog 163 #[.int .u8 c.toNat] w fun e w' => e = .returned (.bool (digB c)) ∧ w = w' := by
  go_enter Tryz.func163, Tryz.ntmps163
  go_wp2
  all_goals (go_ret; refine ⟨ret_bool ?_, rfl⟩; rw [Bool.eq_iff_iff]; simp [digB]; omega)
theorem version_small (c : UInt8) (w : World) :
    Calls Tryz.prog 167 #[.int .u8 c.toNat] w fun e w' => e = .returned (.bool (smlB c)) ∧ w = w' := by
  go_enter Tryz.func167, Tryz.ntmps167
  go_wp2
  all_goals (go_ret; refine ⟨ret_bool ?_, rfl⟩; rw [Bool.eq_iff_iff]; simp [smlB]; omega)
theorem version_letter (c : UInt8) (w : World) :
    Calls Tryz.prog 197 #[.int .u8 c.toNat] w fun e w' => e = .returned (.bool (letB c)) ∧ w = w' := by
  cases h : smlB c
  all_goals
    go_enter Tryz.func197, Tryz.ntmps197
    go_wp2_with (go_at_call 167; refine (version_small _ _).mono ?_; rintro e w' ⟨rfl, rfl⟩)
  all_goals (go_ret; refine ⟨ret_bool ?_, rfl⟩; rw [Bool.eq_iff_iff]; simp [letB, capB, h]; try omega)
def runN (p : UInt8 → Bool) (l : List UInt8) : Nat := (l.takeWhile p).length
theorem takeWhile_all {p : UInt8 → Bool} : ∀ (l : List UInt8), l.all p = true → l.takeWhile p = l
  | [], _ => rfl
  | c :: r, h => by
    simp only [List.all_cons, Bool.and_eq_true] at h
    rw [List.takeWhile_cons_of_pos h.1, takeWhile_all r h.2]
theorem runN_stop (p : UInt8 → Bool) (s : ByteArray) (k : Nat) (h : k < s.size) (h0 : ((bl s).take k).all p = true) (h1 : p s[k] = false) : runN p (bl s) = k := by
  have hl : k < (bl s).length := by rw [bl_length]; exact h
  have e : bl s = (bl s).take k ++ (bl s)[k] :: (bl s).drop (k + 1) := by rw [← List.drop_eq_getElem_cons hl, List.take_append_drop]
  unfold runN
  rw [e, List.takeWhile_append_of_pos (by simpa using h0), bl_get s k h, List.takeWhile_cons_of_neg (by simp [h1])]
  simp; omega
theorem runN_all (p : UInt8 → Bool) (s : ByteArray) (k : Nat) (h : ¬ k < s.size) (h0 : ((bl s).take k).all p = true) : runN p (bl s) = s.size := by
  rw [bl_take_ge s k (by omega)] at h0
  unfold runN
  rw [takeWhile_all _ h0, bl_length]
theorem version_run (f : FuncId) (p : UInt8 → Bool) (s : ByteArray) (w : World) (hs : s.size ≤ 9223372036854775807)
    (hcall : ∀ (args : Array Value) (w : World), (callFunc f args).run Tryz.prog w = .ok (.enter f args) w)
    (hf : Hid (∀ c : UInt8, Calls Tryz.prog f #[.int .u8 c.toNat] w fun e w' => e = .returned (.bool (p c)) ∧ w = w')) :
    Calls Tryz.prog 166 #[.string s, .func (.func f) #[] #[]] w fun e w' => e = .returned (.int .i64 (runN p (bl s))) ∧ w = w' := by
  go_enter Tryz.func166, Tryz.ntmps166
  go_wp2
  go_loop [5] (fun i => ∃ k : Nat, k ≤ s.size ∧ i = .int .i64 k ∧ Hid (((bl s).take k).all p = true)) (fun i => s.size - (intOf i).toNat)
  case atStart => exact ⟨0, Nat.zero_le _, rfl, by simp [Hid]⟩
  case round =>
    obtain ⟨k, hk, rfl, hw⟩ := hrel
    by_cases hlt : k < s.size
    · cases hl : p s[k]
      · have HL := Lib.hid hl; clear hl
        go_wp2_with fail
        refine (hf.out s[k]).mono ?_; rintro e w' ⟨rfl, rfl⟩
        rw [HL.out]
        go_wp2_with fail
        go_ret
        exact ⟨ret_int (by rw [runN_stop p s k hlt hw.out HL.out]), rfl⟩
      · have HL := Lib.hid hl; clear hl
        go_wp2_with fail
        refine (hf.out s[k]).mono ?_; rintro e w' ⟨rfl, rfl⟩
        rw [HL.out]
        go_wp2_with fail
        go_round
        case rel => exact ⟨k + 1, by omega, by go_num, by show _ = _; rw [bl_take_all s k hlt, hw.out, HL.out]; rfl⟩
        case measure => simp [intOf]; omega
    · go_wp2_with fail
      go_ret
      exact ⟨ret_int (by rw [runN_all p s k hlt hw.out]; congr; omega), rfl⟩
theorem version_run1 (f : FuncId) (x : Value) (p : UInt8 → Bool) (s : ByteArray) (w : World) (hs : s.size ≤ 9223372036854775807)
    (hcall : ∀ (args : Array Value) (w : World), (callFunc f args).run Tryz.prog w = .ok (.enter f args) w)
    (hf : Hid (∀ c : UInt8, Calls Tryz.prog f #[.int .u8 c.toNat, x] w fun e w' => e = .returned (.bool (p c)) ∧ w = w')) :
    Calls Tryz.prog 166 #[.string s, .func (.func f) #[] #[x]] w fun e w' => e = .returned (.int .i64 (runN p (bl s))) ∧ w = w' := by
  go_enter Tryz.func166, Tryz.ntmps166
  go_wp2
  go_loop [5] (fun i => ∃ k : Nat, k ≤ s.size ∧ i = .int .i64 k ∧ Hid (((bl s).take k).all p = true)) (fun i => s.size - (intOf i).toNat)
  case atStart => exact ⟨0, Nat.zero_le _, rfl, by simp [Hid]⟩
  case round =>
    obtain ⟨k, hk, rfl, hw⟩ := hrel
    by_cases hlt : k < s.size
    · cases hl : p s[k]
      · have HL := Lib.hid hl; clear hl
        go_wp2_with fail
        refine (hf.out s[k]).mono ?_; rintro e w' ⟨rfl, rfl⟩
        rw [HL.out]
        go_wp2_with fail
        go_ret
        exact ⟨ret_int (by rw [runN_stop p s k hlt hw.out HL.out]), rfl⟩
      · have HL := Lib.hid hl; clear hl
        go_wp2_with fail
        refine (hf.out s[k]).mono ?_; rintro e w' ⟨rfl, rfl⟩
        rw [HL.out]
        go_wp2_with fail
        go_round
        case rel => exact ⟨k + 1, by omega, by go_num, by show _ = _; rw [bl_take_all s k hlt, hw.out, HL.out]; rfl⟩
        case measure => simp [intOf]; omega
    · go_wp2_with fail
      go_ret
      exact ⟨ret_int (by rw [runN_all p s k hlt hw.out]; congr; omega), rfl⟩
theorem run_digit (s : ByteArray) (w : World) (hs : s.size ≤ 9223372036854775807) :
    Calls Tryz.prog 166 #[.string s, .func (.func 163) #[] #[]] w fun e w' => e = .returned (.int .i64 (runN digB (bl s))) ∧ w = w' :=
  version_run _ digB s w hs Tryz.call163 (Lib.hid fun c => version_digit c w)
theorem run_small (s : ByteArray) (w : World) (hs : s.size ≤ 9223372036854775807) :
    Calls Tryz.prog 166 #[.string s, .func (.func 167) #[] #[]] w fun e w' => e = .returned (.int .i64 (runN smlB (bl s))) ∧ w = w' :=
  version_run _ smlB s w hs Tryz.call167 (Lib.hid fun c => version_small c w)
end
end Go.Proofs.YtlhchpeecfbgnaaGreatDoor
