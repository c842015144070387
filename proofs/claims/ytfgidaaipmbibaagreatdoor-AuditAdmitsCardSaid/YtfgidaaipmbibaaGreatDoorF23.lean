/- A part of the proof of a law on which findings a policy admits. No condition. -/
import Derived.Shelf.Strings.SlTrimAscii
import Derived.Test.YtfgidaaipmbibaaGreatDoorF06
import Derived.Test.YtfgidaaipmbibaaGreatDoorF22
set_option maxRecDepth 100000
set_option maxHeartbeats 20000000
set_option linter.unusedVariables false
set_option linter.unusedSimpArgs false
namespace Go.Proofs.YtfgidaaipmbibaaGreatDoor
section
open Go.RowKit
def hexL : List UInt8 := [48, 49, 50, 51, 52, 53, 54, 55, 56, 57, 97, 98, 99, 100, 101, 102]
def hexS : ByteArray := ⟨#[48, 49, 50, 51, 52, 53, 54, 55, 56, 57, 97, 98, 99, 100, 101, 102]⟩
def hexB (l : List UInt8) : Bool := l.all fun c => hexL.contains c
def sumLen (fmt : Int) : Nat := if fmt = 1 then 32 else if fmt = 2 then 64 else 40
def sgB (fmt : Int) (s : ByteArray) : Bool := decide (s.size = sumLen fmt) && hexB (bl s)
theorem dropWhile_all {p : UInt8 → Bool} : ∀ (m : List UInt8), (∀ x ∈ m.dropWhile p, p x = true) → ∀ x ∈ m, p x = true
  | [], _, x, h => by simp at h
  | a :: r, h, x, hx => by
    cases ha : p a
    · have : (a :: r).dropWhile p = a :: r := by simp [List.dropWhile, ha]
      rw [this] at h
      have := h a (by simp)
      rw [ha] at this; cases this
    · have e : (a :: r).dropWhile p = r.dropWhile p := by simp [List.dropWhile, ha]
      rw [e] at h
      rcases List.mem_cons.1 hx with rfl | hx
      · exact ha
      · exact dropWhile_all r h x hx
theorem dropWhile_nil {p : UInt8 → Bool} : ∀ (m : List UInt8), m.dropWhile p = [] ↔ ∀ x ∈ m, p x = true
  | [] => by simp
  | a :: r => by
    cases ha : p a
    · simp [List.dropWhile, ha]
    · have := dropWhile_nil (p := p) r
      simp [List.dropWhile, ha, this]
theorem trimS_nil (l cs : List UInt8) : Lib.trimS l cs = [] ↔ l.all (fun c => cs.contains c) = true := by
  unfold Lib.trimS Lib.trimLeftS Lib.trimRightS
  rw [dropWhile_nil, List.all_eq_true]
  constructor
  · intro h x hx
    exact dropWhile_all l.reverse (fun y hy => h y (List.mem_reverse.2 hy)) x (List.mem_reverse.2 hx)
  · intro h x hx
    have hx := List.mem_reverse.1 hx
    have hx2 : x ∈ l.reverse := (List.dropWhile_suffix _).subset hx
    exact h x (List.mem_reverse.1 hx2)
theorem trim_hex (s : ByteArray) (w : World) (hs : s.size ≤ 9223372036854775807) :
    Calls Tryz.prog 158 #[.string s, .string hexS] w fun e w' => (∃ t : ByteArray, e = .returned (.string t) ∧ t.toList.isEmpty = hexB (bl s)) ∧ Below w.heap.size w w' :=
  (Any.strings_Trim_ascii Tryz.lays160 (fun w => by kernel_rfl) (by kernel_rfl) s hexS w hs (by decide) (fun j b hj => by
    have hm : b ∈ hexL := List.mem_of_getElem? hj
    simp only [hexL, List.mem_cons, List.not_mem_nil, or_false] at hm
    rcases hm with rfl | rfl | rfl | rfl | rfl | rfl | rfl | rfl | rfl | rfl | rfl | rfl | rfl | rfl | rfl | rfl <;> decide)).mono fun e w' ⟨he, hb⟩ => ⟨⟨_, he, by
      rw [bl_toList, bl_mk, Bool.eq_iff_iff, List.isEmpty_iff]
      exact trimS_nil _ _⟩, hb⟩
theorem model_sumRight (fmt : Int) (hf : fmt = 1 ∨ fmt = 2 ∨ fmt = 3) (s : ByteArray) (w : World) (hs : s.size ≤ 9223372036854775807) :
    Calls Tryz.prog 108 #[.int .i64 fmt, .string s] w fun e w' => e = .returned (.bool (sgB fmt s)) ∧ Below w.heap.size w w' := by
  have key : ∀ n : Nat, sumLen fmt = n → sgB fmt s = (decide (s.size = n) && hexB (bl s)) := fun n hn => by unfold sgB; rw [hn]
  rcases hf with rfl | rfl | rfl
  · have K := Lib.hid (key 32 (by decide))
    clear key
    by_cases hl : s.size = 32
    · have hl1 : ((s.size : Int) == 32) = true := u8_beq hl
      have E : Hid (sgB 1 s = hexB (bl s)) := by show _ = _; rw [K.out, decide_eq_true hl]; rfl
      clear hl
      go_enter Tryz.func108, Tryz.ntmps108
      go_wp2_with fail
      refine (trim_hex s _ hs).mono ?_; rintro e w1 ⟨⟨t, rfl, ht⟩, hb⟩
      have HT := Lib.hid ht; have HB := Lib.hid hb; clear ht hb
      go_wp2_with fail
      go_ret
      exact ⟨ret_bool (by rw [E.out]; exact HT.out), HB.out⟩
    · have hl1 : ((s.size : Int) == 32) = false := u8_bne hl
      have E : Hid (sgB 1 s = false) := by show _ = _; rw [K.out, decide_eq_false hl]; rfl
      clear hl
      go_enter Tryz.func108, Tryz.ntmps108
      go_wp2_with fail
      go_ret
      exact ⟨ret_bool (by rw [E.out]), Below.refl _ _⟩
  · have K := Lib.hid (key 64 (by decide))
    clear key
    by_cases hl : s.size = 64
    · have hl1 : ((s.size : Int) == 64) = true := u8_beq hl
      have E : Hid (sgB 2 s = hexB (bl s)) := by show _ = _; rw [K.out, decide_eq_true hl]; rfl
      clear hl
      go_enter Tryz.func108, Tryz.ntmps108
      go_wp2_with fail
      refine (trim_hex s _ hs).mono ?_; rintro e w1 ⟨⟨t, rfl, ht⟩, hb⟩
      have HT := Lib.hid ht; have HB := Lib.hid hb; clear ht hb
      go_wp2_with fail
      go_ret
      exact ⟨ret_bool (by rw [E.out]; exact HT.out), HB.out⟩
    · have hl1 : ((s.size : Int) == 64) = false := u8_bne hl
      have E : Hid (sgB 2 s = false) := by show _ = _; rw [K.out, decide_eq_false hl]; rfl
      clear hl
      go_enter Tryz.func108, Tryz.ntmps108
      go_wp2_with fail
      go_ret
      exact ⟨ret_bool (by rw [E.out]), Below.refl _ _⟩
  · have K := Lib.hid (key 40 (by decide))
    clear key
    by_cases hl : s.size = 40
    · have hl1 : ((s.size : Int) == 40) = true := u8_beq hl
      have E : Hid (sgB 3 s = hexB (bl s)) := by show _ = _; rw [K.out, decide_eq_true hl]; rfl
      clear hl
      go_enter Tryz.func108, Tryz.ntmps108
      go_wp2_with fail
      refine (trim_hex s _ hs).mono ?_; rintro e w1 ⟨⟨t, rfl, ht⟩, hb⟩
      have HT := Lib.hid ht; have HB := Lib.hid hb; clear ht hb
      go_wp2_with fail
      go_ret
      exact ⟨ret_bool (by rw [E.out]; exact HT.out), HB.out⟩
    · have hl1 : ((s.size : Int) == 40) = false := u8_bne hl
      have E : Hid (sgB 3 s = false) := by show _ = _; rw [K.out, decide_eq_false hl]; rfl
      clear hl
      go_enter Tryz.func108, Tryz.ntmps108
      go_wp2_with fail
      go_ret
      exact ⟨ret_bool (by rw [E.out]), Below.refl _ _⟩
end
end Go.Proofs.YtfgidaaipmbibaaGreatDoor
