/- A part of the proof that the digests of any content are the three of it, and that an installed set is new memory. No condition. -/
import Derived.ChangeAlike
import Derived.Lib.SplitLaws
import Derived.Test.YtlhchpeecfbgnaaGreatDoorG15
set_option maxRecDepth 100000
set_option maxHeartbeats 20000000
set_option linter.unusedVariables false
set_option linter.unusedSimpArgs false
namespace Go.Proofs.YtlhchpeecfbgnaaGreatDoor
section
open Go.RowKit
def ownCh (i : Nat) (c : UInt8) : Bool := decide ((97 ≤ c.toNat ∧ c.toNat ≤ 122) ∨ c.toNat = 95 ∨ (i ≠ 0 ∧ (c.toNat = 45 ∨ (48 ≤ c.toNat ∧ c.toNat ≤ 57))))
def ownAll (s : ByteArray) : Bool := decide (∀ j (h : j < s.size), ownCh j s[j] = true)
def own3 (s : ByteArray) : Bool := decide (bl s = [114, 111, 111, 116]) || (decide (undecE (bl s) = 0) && decide (1 ≤ undecN (bl s)) && decide (undecN (bl s) ≤ 2097151))
def ownB (fmt : Int) (s : ByteArray) : Bool := decide (1 ≤ s.size ∧ s.size ≤ 31) && (if fmt = 3 then own3 s else ownAll s)
theorem u8_beq {a b : Nat} (h : a = b) : ((a : Int) == (b : Int)) = true := by simp [h]
theorem u8_bne {a b : Nat} (h : ¬ a = b) : ((a : Int) == (b : Int)) = false := by simp; omega
end
end Go.Proofs.YtlhchpeecfbgnaaGreatDoor
