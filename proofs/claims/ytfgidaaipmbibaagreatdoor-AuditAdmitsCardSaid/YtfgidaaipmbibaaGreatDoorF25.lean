/- A part of the proof of a law on which findings a policy admits. No condition. -/
import Derived.Test.YtfgidaaipmbibaaGreatDoorF11
import Derived.Test.YtfgidaaipmbibaaGreatDoorF14
set_option maxRecDepth 100000
set_option maxHeartbeats 20000000
set_option linter.unusedVariables false
set_option linter.unusedSimpArgs false
namespace Go.Proofs.YtfgidaaipmbibaaGreatDoor
section
open Go.RowKit
def parS (s : ByteArray) : ByteArray := ⟨((parentL (bl s)).getD []).toArray⟩
def parB (s : ByteArray) : Bool := (parentL (bl s)).isSome
def parV (s : ByteArray) : Value := .tuple #[.string (parS s), .bool (parB s)]
theorem parV_none {s : ByteArray} (h : parentL (bl s) = none) : parV s = .tuple #[.string ⟨#[]⟩, .bool false] := by simp [parV, parS, parB, h]
theorem parV_some {s : ByteArray} {i : Nat} (h : parentL (bl s) = some ((bl s).take i)) : parV s = .tuple #[.string (s.extract 0 i), .bool true] := by
  simp only [parV, parS, parB, h, Option.getD_some, Option.isSome_some]
  congr 3
  apply congrArg; apply bl_inj; rw [bl_mk, bl_take]
theorem entry_Parent (s : ByteArray) (w : World) (hG : Gl w) (hs : s.size ≤ 4294967280) :
    Calls Tryz.prog 69 #[.string s] w fun e w' => e = .returned (parV s) ∧ Below w.heap.size w w' := by
  have HG := Lib.hid hG; clear hG
  cases hl : lastL 47 (bl s) with
  | none =>
    have E : Hid (parentL (bl s) = none) := by show _ = _; unfold parentL; rw [hl]; simp
    have HL := Lib.hid hl; clear hl
    go_enter Tryz.func69, Tryz.ntmps69
    go_wp2_with fail
    refine (LastIndexByte_none s 47 _ (by omega) HL).mono ?_; rintro e w' ⟨rfl, rfl⟩
    go_wp2_with fail
    go_ret2
    exact ⟨by rw [parV_none E.out]; rfl, Below.refl _ _⟩
  | some i =>
    have hi : i < s.size := by have := lastL_lt _ _ _ hl; rw [bl_length] at this; exact this
    cases hp : pathB (bl s)
    · have E : Hid (parentL (bl s) = none) := by show _ = _; unfold parentL; rw [hp]; rfl
      have HL := Lib.hid hl; have HP := Lib.hid hp; clear hl hp
      go_enter Tryz.func69, Tryz.ntmps69
      go_wp2_with fail
      refine (LastIndexByte_some s 47 i _ (by omega) HL).mono ?_; rintro e w' ⟨rfl, rfl⟩
      go_wp2_with fail
      refine (entry_Path s _ HG.out (by omega)).mono ?_; rintro e w1 ⟨rfl, hb⟩
      rw [HP.out]
      have HB := Lib.hid hb; clear hb
      go_wp2_with fail
      go_ret2
      exact ⟨by rw [parV_none E.out]; rfl, HB.out⟩
    · have E : Hid (parentL (bl s) = some ((bl s).take i)) := by show _ = _; unfold parentL; rw [hp, hl]; rfl
      have HL := Lib.hid hl; have HP := Lib.hid hp; clear hl hp
      go_enter Tryz.func69, Tryz.ntmps69
      go_wp2_with fail
      refine (LastIndexByte_some s 47 i _ (by omega) HL).mono ?_; rintro e w' ⟨rfl, rfl⟩
      go_wp2_with fail
      refine (entry_Path s _ HG.out (by omega)).mono ?_; rintro e w1 ⟨rfl, hb⟩
      rw [HP.out]
      have HB := Lib.hid hb; clear hb
      go_wp2_with fail
      go_ret2
      exact ⟨by rw [parV_some E.out]; rfl, HB.out⟩
end
end Go.Proofs.YtfgidaaipmbibaaGreatDoor
