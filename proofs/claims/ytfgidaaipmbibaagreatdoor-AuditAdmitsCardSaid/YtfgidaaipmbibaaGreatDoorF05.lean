/- A part of the proof of a law on which findings a policy admits. No condition. -/
import Derived.Test.YtfgidaaipmbibaaGreatDoorF00
import Derived.Test.YtfgidaaipmbibaaGreatDoorF04
set_option maxRecDepth 100000
set_option maxHeartbeats 20000000
set_option linter.unusedVariables false
set_option linter.unusedSimpArgs false
namespace Go.Proofs.YtfgidaaipmbibaaGreatDoor
section
open Go.RowKit
theorem bl_toList (s : ByteArray) : s.toList = bl s := ByteArray.toList_eq s
theorem bl_isEmpty (s : ByteArray) : (bl s).isEmpty = decide (s.size = 0) := by
  rw [Bool.eq_iff_iff, List.isEmpty_iff, ← List.length_eq_zero_iff, bl_length]; simp
theorem ret_bool {a b : Bool} (h : a = b) : Ending.returned (.bool a) = .returned (.bool b) := by rw [h]
theorem ret_int {k : IntKind} {a b : Int} (h : a = b) : Ending.returned (.int k a) = .returned (.int k b) := by rw [h]
def fmtB (n : Int) : Bool := decide (n = 1 ∨ n = 2 ∨ n = 3)
theorem model_isFormat (n : Int) (w : World) :
    Calls Tryz.prog 24 #[.int .i64 n] w fun e w' => e = .returned (.bool (fmtB n)) ∧ w = w' := by
  go_enter Tryz.func24, Tryz.ntmps24
  go_wp2
  all_goals (go_ret; refine ⟨ret_bool ?_, rfl⟩; rw [Bool.eq_iff_iff]; simp_all [fmtB]; try omega)
def wthB (least : Nat) (l : List UInt8) : Bool := l.all fun c => least ≤ c.toNat && c.toNat ≤ 126
def plainB (l : List UInt8) : Bool := !l.isEmpty && wthB 33 l
theorem wthB_next (least : Nat) (s : ByteArray) (k : Nat) (h : k < s.size) (h0 : wthB least ((bl s).take k) = true) (h1 : least ≤ s[k].toNat) (h2 : ¬ s[k].toNat < least ∧ (s[k].toNat : Int) ≤ 126) : wthB least ((bl s).take (k + 1)) = true := by
  unfold wthB at *; rw [bl_take_all s k h, h0]; simp; omega
theorem wthB_bad (least : Nat) (s : ByteArray) (k : Nat) (h : k < s.size) (h1 : s[k].toNat < least ∨ 126 < (s[k].toNat : Int)) : wthB least (bl s) = false := by
  unfold wthB; apply bl_all_false s k h; simp; omega
theorem model_within (s : ByteArray) (least : Nat) (w : World) (hs : s.size ≤ 9223372036854775807) :
    Calls Tryz.prog 65 #[.string s, .int .u8 least] w fun e w' => e = .returned (.bool (wthB least (bl s))) ∧ w = w' := by
  go_enter Tryz.func65, Tryz.ntmps65
  go_wp2
  go_loop [8] (fun i => ∃ k : Nat, k ≤ s.size ∧ i = .int .i64 k ∧ Hid (wthB least ((bl s).take k) = true)) (fun i => s.size - (intOf i).toNat)
  case atStart => exact ⟨0, Nat.zero_le _, rfl, by simp [wthB, Hid]⟩
  case round =>
    obtain ⟨k, hk, rfl, hw⟩ := hrel
    by_cases hlt : k < s.size
    · by_cases h1 : least ≤ s[k].toNat
      · by_cases h2 : (s[k].toNat : Int) ≤ 126
        · go_wp2
          go_round
          case rel => exact ⟨k + 1, by omega, by go_num, wthB_next least s k hlt hw.out h1 ⟨by omega, h2⟩⟩
          case measure => simp [intOf]; omega
        · go_wp2
          go_ret
          exact ⟨ret_bool (by rw [wthB_bad least s k hlt (by omega)]), rfl⟩
      · go_wp2
        go_ret
        exact ⟨ret_bool (by rw [wthB_bad least s k hlt (by omega)]), rfl⟩
    · go_wp2
      go_ret
      exact ⟨ret_bool (by have := hw.out; rw [bl_take_ge s k (by omega)] at this; rw [this]), rfl⟩
theorem model_Plain (s : ByteArray) (w : World) (hs : s.size ≤ 9223372036854775807) :
    Calls Tryz.prog 71 #[.string s] w fun e w' => e = .returned (.bool (plainB (bl s))) ∧ w = w' := by
  go_enter Tryz.func71, Tryz.ntmps71
  go_wp2_with (go_at_call 65; refine (model_within _ 33 _ hs).mono ?_; rintro e w' ⟨rfl, rfl⟩)
  all_goals (go_ret; refine ⟨ret_bool ?_, rfl⟩; simp_all [plainB, bl_toList])
theorem only_drewN {a w : World} {row : Option Nat} (h : a.grownBy w row) (n : Nat) : a.grownBy (w.drewN n) row := ⟨h.os, h.tape, h.output, h.size, h.block⟩
theorem owns_below {w w' : World} {base : Nat} {e : TypeId} {size n : Nat} {v : Value} {xs : List Value} (h : w.ownsRow base e size v n xs) (hb : Below w.heap.size w w') : w'.ownsRow base e size v n xs := by
  refine ⟨h.1, ?_⟩
  rcases h.2 with h0 | ⟨g, cap, cur, hv, hg, hh, h1, h2, h3, h4⟩
  · exact .inl h0
  · exact .inr ⟨g, cap, cur, hv, hg, (hb.block g (Array.getElem?_eq_some_iff.1 hh).1).trans hh, h1, h2, h3, h4⟩
theorem owns_form {w : World} {base : Nat} {e : TypeId} {size n : Nat} {v : Value} {xs : List Value} (h : w.ownsRow base e size v n xs) : ∃ A c, v = .slice A n c := by
  rcases h.2 with ⟨rfl, rfl⟩ | ⟨g, cap, cur, hv, _⟩
  · exact ⟨none, 0, rfl⟩
  · exact ⟨_, _, hv⟩
theorem owns_rd {w : World} {base : Nat} {e : TypeId} {size n c : Nat} {A : Option Addr} {xs : List Value} (h : w.ownsRow base e size (.slice A n c) n xs) : Rd w size A n xs := by
  refine ⟨h.1, fun hn => ?_⟩
  obtain ⟨g, cap, hv, _, hlt⟩ := h.form hn
  have hA : A = some ⟨g, 0, none⟩ := by injection hv
  subst hA
  refine ⟨g, 0, rfl, fun j u hu => ?_⟩
  have := h.cells (g := g) rfl j u hu
  unfold Addr.add at this
  rw [Nat.zero_add]
  split at this
  · rename_i h0; subst h0; exact this
  · simpa using this
end
end Go.Proofs.YtfgidaaipmbibaaGreatDoor
