/- A part of the proof of a law on which findings a policy admits. No condition. -/
import Derived.Test.YtfgidaaipmbibaaGreatDoorF21
set_option maxRecDepth 100000
set_option maxHeartbeats 20000000
set_option linter.unusedVariables false
set_option linter.unusedSimpArgs false
namespace Go.Proofs.YtfgidaaipmbibaaGreatDoor
section
open Go.RowKit
def ownCh (i : Nat) (c : UInt8) : Bool := decide ((97 ≤ c.toNat ∧ c.toNat ≤ 122) ∨ c.toNat = 95 ∨ (i ≠ 0 ∧ (c.toNat = 45 ∨ (48 ≤ c.toNat ∧ c.toNat ≤ 57))))
def ownAll (s : ByteArray) : Bool := decide (∀ j (h : j < s.size), ownCh j s[j] = true)
def own3 (s : ByteArray) : Bool := decide (bl s = [114, 111, 111, 116]) || (decide (undecE (bl s) = 0) && decide (1 ≤ undecN (bl s)) && decide (undecN (bl s) ≤ 2097151))
def ownB (fmt : Int) (s : ByteArray) : Bool := decide (1 ≤ s.size ∧ s.size ≤ 31) && (if fmt = 3 then own3 s else ownAll s)
theorem root_beq (s : ByteArray) : (s.toList == [114, 111, 111, 116]) = decide (bl s = [114, 111, 111, 116]) := by
  rw [bl_toList, Bool.eq_iff_iff]; simp
theorem own_next {s : ByteArray} {k : Nat} (hk : k < s.size) (h : ∀ j (h : j < s.size), j < k → ownCh j s[j] = true) (hc : ownCh k s[k] = true) : ∀ j (h : j < s.size), j < k + 1 → ownCh j s[j] = true := by
  intro j hj hjk
  by_cases e : j = k
  · subst e; exact hc
  · exact h j hj (by omega)
theorem own_bad {s : ByteArray} {k : Nat} (hk : k < s.size) (hc : ownCh k s[k] = false) : ownAll s = false := by
  apply decide_eq_false; intro h; rw [h k hk] at hc; cases hc
theorem u8_beq {a b : Nat} (h : a = b) : ((a : Int) == (b : Int)) = true := by simp [h]
theorem u8_bne {a b : Nat} (h : ¬ a = b) : ((a : Int) == (b : Int)) = false := by simp; omega
theorem u8_beqN {a b : Nat} (h : a = b) : ((a : Int) != (b : Int)) = false := by simp [h]
theorem u8_bneN {a b : Nat} (h : ¬ a = b) : ((a : Int) != (b : Int)) = true := by simp [bne]; omega
theorem model_ownerRight (fmt : Int) (s : ByteArray) (w : World) (hs : s.size ≤ 9223372036854775807) :
    Calls Tryz.prog 107 #[.int .i64 fmt, .string s] w fun e w' => e = .returned (.bool (ownB fmt s)) ∧ w = w' := by
  by_cases h1 : s.size < 1
  · have E : Hid (ownB fmt s = false) := by show _ = _; unfold ownB; rw [decide_eq_false (by omega)]; rfl
    go_enter Tryz.func107, Tryz.ntmps107
    go_wp2_with fail
    go_ret
    exact ⟨ret_bool E.out.symm, rfl⟩
  by_cases h2 : 31 < s.size
  · have E : Hid (ownB fmt s = false) := by show _ = _; unfold ownB; rw [decide_eq_false (by omega)]; rfl
    go_enter Tryz.func107, Tryz.ntmps107
    go_wp2_with fail
    go_ret
    exact ⟨ret_bool E.out.symm, rfl⟩
  by_cases h3 : fmt = 3
  · subst h3
    have E : Hid (ownB 3 s = own3 s) := by show _ = _; unfold ownB; rw [decide_eq_true (by omega), if_pos rfl]; rfl
    unfold own3 at E
    cases g1 : (s.toList == [114, 111, 111, 116])
    · have G1 : Hid (decide (bl s = [114, 111, 111, 116]) = false) := by show _ = _; rw [← root_beq]; exact g1
      go_enter Tryz.func107, Tryz.ntmps107
      go_wp2_with fail
      refine (codec_Undec s _ hs).mono ?_; rintro e w' ⟨rfl, rfl⟩
      unfold undecV
      by_cases g2 : undecE (bl s) = 0
      · by_cases g3 : 1 ≤ undecN (bl s)
        · have g2' : (undecE (bl s) == 0) = true := by simpa using g2
          have EE : Hid (ownB 3 s = decide (undecN (bl s) ≤ 2097151)) := by show _ = _; rw [E.out, G1.out, decide_eq_true g2, decide_eq_true g3]; rfl
          clear g2
          go_wp2_with fail
          go_ret
          exact ⟨ret_bool (by rw [EE.out]), rfl⟩
        · have g2' : (undecE (bl s) == 0) = true := by simpa using g2
          have EE : Hid (ownB 3 s = false) := by show _ = _; rw [E.out, G1.out, decide_eq_false g3]; simp
          clear g2
          go_wp2_with fail
          go_ret
          exact ⟨ret_bool (by rw [EE.out]), rfl⟩
      · have g2' : (undecE (bl s) == 0) = false := by simpa using g2
        have EE : Hid (ownB 3 s = false) := by show _ = _; rw [E.out, G1.out, decide_eq_false g2]; simp
        clear g2
        go_wp2_with fail
        go_ret
        exact ⟨ret_bool (by rw [EE.out]), rfl⟩
    · have EE : Hid (ownB 3 s = true) := by show _ = _; rw [E.out, ← root_beq, g1]; rfl
      go_enter Tryz.func107, Tryz.ntmps107
      go_wp2_with fail
      refine (codec_Undec s _ hs).mono ?_; rintro e w' ⟨rfl, rfl⟩
      unfold undecV
      go_wp2_with fail
      go_ret
      exact ⟨ret_bool (by rw [EE.out]), rfl⟩
  · have h3' : (fmt == 3) = false := by simpa using h3
    have E : Hid (ownB fmt s = ownAll s) := by show _ = _; unfold ownB; rw [decide_eq_true (by omega), if_neg h3]; rfl
    clear h3
    go_enter Tryz.func107, Tryz.ntmps107
    go_wp2_with fail
    go_loop [41] (fun i => ∃ k : Nat, k ≤ s.size ∧ i = .int .i64 k ∧ Hid (∀ j (h : j < s.size), j < k → ownCh j s[j] = true)) (fun i => s.size - (intOf i).toNat)
    case atStart => exact ⟨0, Nat.zero_le _, rfl, Lib.hid (fun j h hj => by omega)⟩
    case round =>
      obtain ⟨k, hk, rfl, HA⟩ := hrel
      by_cases hlt : k < s.size
      · by_cases a1 : 97 ≤ s[k].toNat
        · by_cases a2 : s[k].toNat ≤ 122
          · skip
            have HC : Hid (ownCh k s[k] = true) := decide_eq_true (by omega)
            go_wp2_with fail
            go_round
            case rel => exact ⟨k + 1, by omega, by go_num, Lib.hid (own_next hlt HA.out HC.out)⟩
            case measure => simp [intOf]; omega
          · have t122 : decide ((s[k].toNat : Int) ≤ 122) = false := decide_eq_false (by omega)
            have t95 : ((s[k].toNat : Int) == 95) = false := u8_bne (by omega : ¬ s[k].toNat = 95)
            have t45 : ((s[k].toNat : Int) != 45) = true := u8_bneN (by omega : ¬ s[k].toNat = 45)
            have t57 : 57 < s[k].toNat := by omega
            have HC : Hid (ownAll s = false) := own_bad hlt (decide_eq_false (by omega))
            by_cases k0 : k = 0
            · have tk : ((k : Int) == 0) = true := u8_beq k0
              clear k0
              go_wp2_with fail
              go_ret
              exact ⟨ret_bool (by rw [E.out, HC.out]), rfl⟩
            · have tk : ((k : Int) == 0) = false := u8_bne k0
              have t48 : decide ((s[k].toNat : Int) < 48) = false := decide_eq_false (by omega)
              have t58 : decide (57 < (s[k].toNat : Int)) = true := decide_eq_true (by omega)
              clear k0
              go_wp2_with fail
              go_ret
              exact ⟨ret_bool (by rw [E.out, HC.out]), rfl⟩
        · by_cases g95 : s[k].toNat = 95
          · have t95 : ((s[k].toNat : Int) == 95) = true := u8_beq g95
            have HC : Hid (ownCh k s[k] = true) := decide_eq_true (by omega)
            clear g95
            go_wp2_with fail
            go_round
            case rel => exact ⟨k + 1, by omega, by go_num, Lib.hid (own_next hlt HA.out HC.out)⟩
            case measure => simp [intOf]; omega
          · skip
            have t95 : ((s[k].toNat : Int) == 95) = false := u8_bne g95
            by_cases k0 : k = 0
            · have tk : ((k : Int) == 0) = true := u8_beq k0
              have HC : Hid (ownAll s = false) := own_bad hlt (decide_eq_false (by omega))
              clear k0
              go_wp2_with fail
              go_ret
              exact ⟨ret_bool (by rw [E.out, HC.out]), rfl⟩
            have tk : ((k : Int) == 0) = false := u8_bne k0
            by_cases g45 : s[k].toNat = 45
            · have t45 : ((s[k].toNat : Int) != 45) = false := u8_beqN g45
              have HC : Hid (ownCh k s[k] = true) := decide_eq_true (by omega)
              clear g45
              go_wp2_with fail
              go_round
              case rel => exact ⟨k + 1, by omega, by go_num, Lib.hid (own_next hlt HA.out HC.out)⟩
              case measure => simp [intOf]; omega
            have t45 : ((s[k].toNat : Int) != 45) = true := u8_bneN g45
            by_cases g48 : s[k].toNat < 48
            · skip
              have HC : Hid (ownAll s = false) := own_bad hlt (decide_eq_false (by omega))
              go_wp2_with fail
              go_ret
              exact ⟨ret_bool (by rw [E.out, HC.out]), rfl⟩
            by_cases g57 : 57 < s[k].toNat
            · skip
              have HC : Hid (ownAll s = false) := own_bad hlt (decide_eq_false (by omega))
              go_wp2_with fail
              go_ret
              exact ⟨ret_bool (by rw [E.out, HC.out]), rfl⟩
            · skip
              have HC : Hid (ownCh k s[k] = true) := decide_eq_true (by omega)
              go_wp2_with fail
              go_round
              case rel => exact ⟨k + 1, by omega, by go_num, Lib.hid (own_next hlt HA.out HC.out)⟩
              case measure => simp [intOf]; omega
      · have HE : Hid (ownAll s = true) := decide_eq_true (fun j h => HA.out j h (by omega))
        go_wp2_with fail
        go_ret
        exact ⟨ret_bool (by rw [E.out, HE.out]), rfl⟩
end
end Go.Proofs.YtfgidaaipmbibaaGreatDoor
