/- A part of the proof that the digests of any content are the three of it, and that an installed set is new memory. No condition. -/
import Derived.Test.YtlhchpeecfbgnaaGreatDoorG04
import Derived.Test.YtlhchpeecfbgnaaGreatDoorG05
import Derived.Test.YtlhchpeecfbgnaaGreatDoorG07
import Derived.Test.YtlhchpeecfbgnaaGreatDoorG08
set_option maxRecDepth 100000
set_option maxHeartbeats 20000000
set_option linter.unusedVariables false
set_option linter.unusedSimpArgs false
namespace Go.Proofs.YtlhchpeecfbgnaaGreatDoor
section
open Go.RowKit
theorem runN_le (p : UInt8 → Bool) (l : List UInt8) : runN p l ≤ l.length := by
  unfold runN; exact (List.takeWhile_sublist p).length_le
theorem runN_eq (p : UInt8 → Bool) (l : List UInt8) : decide (runN p l = l.length) = l.all p := by
  rw [Bool.eq_iff_iff]
  constructor
  · intro h
    have h := of_decide_eq_true h
    have := (List.takeWhile_sublist p (l := l)).eq_of_length h
    rw [← this]; simp
  · intro h
    unfold runN; rw [takeWhile_all _ h]; simp
theorem runN_beq (p : UInt8 → Bool) (s : ByteArray) : (((runN p (bl s) : Nat) : Int) == (s.size : Int)) = (bl s).all p := by
  rw [← runN_eq, bl_length, Bool.eq_iff_iff]; simp; omega
theorem data_get (s : ByteArray) (j : Nat) (c : UInt8) (h : j < s.size) : ((s.data[j]!).toNat : Int) = c.toNat ↔ (bl s)[j]? = some c := by
  rw [bl_get? s j h]
  have e : s.data[j]! = s[j] := getElem!_pos s.data j h
  rw [e]
  constructor
  · intro hh; congr 1; apply UInt8.toNat_inj.1; omega
  · intro hh; injection hh with hh; rw [hh]
theorem bl_none (s : ByteArray) (j : Nat) (h : ¬ j < s.size) : (bl s)[j]? = none := by
  apply List.getElem?_eq_none; rw [bl_length]; omega
theorem lastIx_none (s : ByteArray) (c : UInt8) (h : lastL c (bl s) = none) : Lib.lastIndexByte s c.toNat = -1 := by
  rcases Lib.lastIndexByte_spec s c.toNat with ⟨e, _⟩ | ⟨i, hi, e, hc, hn⟩
  · exact e
  · have := lastL_some c (bl s) i ((data_get s i c hi).1 hc) (fun j hj hh => by
      by_cases hjs : j < s.size
      · exact hn j hj hjs ((data_get s j c hjs).2 hh)
      · rw [bl_none s j hjs] at hh; cases hh)
    rw [this] at h; cases h
theorem lastIx_some (s : ByteArray) (c : UInt8) (i : Nat) (h : lastL c (bl s) = some i) : Lib.lastIndexByte s c.toNat = i := by
  rcases Lib.lastIndexByte_spec s c.toNat with ⟨e, hn⟩ | ⟨k, hk, e, hc, hn⟩
  · have := lastL_none c (bl s) (fun j hh => by
      by_cases hjs : j < s.size
      · exact hn j hjs ((data_get s j c hjs).2 hh)
      · rw [bl_none s j hjs] at hh; cases hh)
    rw [this] at h; cases h
  · have := lastL_some c (bl s) k ((data_get s k c hk).1 hc) (fun j hj hh => by
      by_cases hjs : j < s.size
      · exact hn j hj hjs ((data_get s j c hjs).2 hh)
      · rw [bl_none s j hjs] at hh; cases hh)
    rw [this] at h; injection h with h; rw [e, h]
theorem version_made1 (c : UInt8) (a : Addr) (o : ByteArray) (w : World) (ha : w.cell? a = some (.string o)) :
    Calls Tryz.prog 196 #[.int .u8 c.toNat, .pointer (some a)] w fun e w' => e = .returned (.bool (letB c || digB c || (bl o).contains c)) ∧ w = w' := by
  cases h1 : letB c
  · cases h2 : digB c
    · cases h3 : (bl o).contains c
      · have hn := ixB_neg o c h3
        have H3 := Lib.hid h3; clear h3
        go_enter Tryz.func196, Tryz.ntmps196
        go_wp2_with (first | (go_at_call 197; refine (version_letter _ _).mono ?_; rintro e w' ⟨rfl, rfl⟩) | (go_at_call 163; refine (version_digit _ _).mono ?_; rintro e w' ⟨rfl, rfl⟩) | (go_at_call 127; refine (IndexByte_any _ _ _).mono ?_; rintro e w' ⟨rfl, rfl⟩))
        go_ret
        exact ⟨ret_bool (decide_eq_false (by omega)), rfl⟩
      · have hn := ixB_pos o c h3
        have H3 := Lib.hid h3; clear h3
        go_enter Tryz.func196, Tryz.ntmps196
        go_wp2_with (first | (go_at_call 197; refine (version_letter _ _).mono ?_; rintro e w' ⟨rfl, rfl⟩) | (go_at_call 163; refine (version_digit _ _).mono ?_; rintro e w' ⟨rfl, rfl⟩) | (go_at_call 127; refine (IndexByte_any _ _ _).mono ?_; rintro e w' ⟨rfl, rfl⟩))
        go_ret
        exact ⟨ret_bool rfl, rfl⟩
    · go_enter Tryz.func196, Tryz.ntmps196
      go_wp2_with (first | (go_at_call 197; refine (version_letter _ _).mono ?_; rintro e w' ⟨rfl, rfl⟩) | (go_at_call 163; refine (version_digit _ _).mono ?_; rintro e w' ⟨rfl, rfl⟩))
      go_ret
      exact ⟨rfl, rfl⟩
  · go_enter Tryz.func196, Tryz.ntmps196
    go_wp2_with (first | (go_at_call 197; refine (version_letter _ _).mono ?_; rintro e w' ⟨rfl, rfl⟩))
    go_ret
    exact ⟨rfl, rfl⟩
theorem run_made1 (s o : ByteArray) (a : Addr) (w : World) (ha : w.cell? a = some (.string o)) (hs : s.size ≤ 9223372036854775807) :
    Calls Tryz.prog 166 #[.string s, .func (.func 196) #[] #[.pointer (some a)]] w fun e w' => e = .returned (.int .i64 (runN (vchB (bl o)) (bl s))) ∧ w = w' :=
  version_run1 _ _ _ s w hs Tryz.call196 (Lib.hid fun c => version_made1 c a o w ha)
theorem version_made (s o : ByteArray) (w : World) (hs : s.size ≤ 9223372036854775807) :
    Calls Tryz.prog 162 #[.string s, .string o] w fun e w' => e = .returned (.bool (vmadeB (bl o) (bl s))) ∧ Below w.heap.size w w' := by
  by_cases h0 : s.size = 0
  · have he : s.toList = [] := by rw [bl_toList, bl_nil s h0]
    go_enter Tryz.func162, Tryz.ntmps162
    go_wp2_with fail
    go_ret
    exact ⟨ret_bool (by rw [bl_nil s h0]; rfl), (Below.refl _ _).alloc (Nat.le_refl _) _⟩
  · have he : s.toList.isEmpty = false := by rw [bl_toList, bl_isEmpty]; simpa using h0
    have he' : ¬ s.toList = [] := by intro h; rw [h] at he; simp at he
    go_enter Tryz.func162, Tryz.ntmps162
    go_wp2_with (go_at_call 166; refine (run_made1 _ _ _ _ (by simp; rfl) hs).mono ?_; rintro e w' ⟨rfl, rfl⟩)
    go_ret
    refine ⟨ret_bool ?_, (Below.refl _ _).alloc (Nat.le_refl _) _⟩
    rw [runN_beq]; unfold vmadeB; rw [bl_isEmpty, decide_eq_false h0]; rfl
theorem version_number (s : ByteArray) (w : World) (hs : s.size ≤ 9223372036854775807) :
    Calls Tryz.prog 161 #[.string s] w fun e w' => e = .returned (.bool (numB (bl s))) ∧ w = w' := by
  by_cases h0 : s.size = 0
  · have he : s.toList = [] := by rw [bl_toList, bl_nil s h0]
    go_enter Tryz.func161, Tryz.ntmps161
    go_wp2_with fail
    go_ret
    exact ⟨ret_bool (by rw [bl_nil s h0]; rfl), rfl⟩
  · have he : s.toList.isEmpty = false := by rw [bl_toList, bl_isEmpty]; simpa using h0
    have he' : ¬ s.toList = [] := by intro h; rw [h] at he; simp at he
    go_enter Tryz.func161, Tryz.ntmps161
    go_wp2_with (go_at_call 166; refine (run_digit _ _ hs).mono ?_; rintro e w' ⟨rfl, rfl⟩)
    go_ret
    refine ⟨ret_bool ?_, rfl⟩
    rw [runN_beq]; unfold numB; rw [bl_isEmpty, decide_eq_false h0]; rfl
theorem LastIndexByte_none (s : ByteArray) (c : UInt8) (w : World) (hs : s.size ≤ 9223372036) (h : Hid (lastL c (bl s) = none)) :
    Calls Tryz.prog 138 #[.string s, .int .u8 c.toNat] w fun e w' => e = .returned (.int .i64 (-1)) ∧ w = w' :=
  (Tryz.strings_LastIndexByte s c.toNat (by omega) w).mono fun _ _ ⟨he, hw⟩ => ⟨by rw [he, lastIx_none s c h.out], hw.symm⟩
theorem LastIndexByte_some (s : ByteArray) (c : UInt8) (i : Nat) (w : World) (hs : s.size ≤ 9223372036) (h : Hid (lastL c (bl s) = some i)) :
    Calls Tryz.prog 138 #[.string s, .int .u8 c.toNat] w fun e w' => e = .returned (.int .i64 i) ∧ w = w' :=
  (Tryz.strings_LastIndexByte s c.toNat (by omega) w).mono fun _ _ ⟨he, hw⟩ => ⟨by rw [he, lastIx_some s c i h.out], hw.symm⟩
theorem Cut_any (s sep : ByteArray) (w : World) (hG : Gl w) (hs : s.size ≤ 4294967280) :
    Calls Tryz.prog 111 #[.string s, .string sep] w fun e w' => e = .returned (.tuple #[.string (cutA s sep), .string (cutB s sep), .bool (cutK s sep)]) ∧ Below w.heap.size w w' := by
  obtain ⟨m, hm⟩ := hG.ml
  exact (Tryz.strings_Cut s sep m w (by omega) hm).mono fun _ _ ⟨he, n, hw⟩ => ⟨he, by rw [hw]; exact below_drewN (Below.refl _ _) n⟩
end
end Go.Proofs.YtlhchpeecfbgnaaGreatDoor
