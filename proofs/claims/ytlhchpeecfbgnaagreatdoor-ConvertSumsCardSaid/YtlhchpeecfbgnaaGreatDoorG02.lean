/- A part of the proof that the digests of any content are the three of it, and that an installed set is new memory. No condition. -/
import Derived.Test.YtlhchpeecfbgnaaGreatDoorG00
set_option maxRecDepth 100000
set_option maxHeartbeats 20000000
set_option linter.unusedVariables false
set_option linter.unusedSimpArgs false
namespace Go.Proofs.YtlhchpeecfbgnaaGreatDoor
def digB (c : UInt8) : Bool := decide (48 ≤ c.toNat ∧ c.toNat ≤ 57)
def smlB (c : UInt8) : Bool := decide (97 ≤ c.toNat ∧ c.toNat ≤ 122)
def capB (c : UInt8) : Bool := decide (65 ≤ c.toNat ∧ c.toNat ≤ 90)
def letB (c : UInt8) : Bool := smlB c || capB c
def lowB (c : UInt8) : Bool := smlB c || digB c
def startsB : List UInt8 → Bool
  | [] => false
  | c :: _ => lowB c
def dmadeB (others l : List UInt8) : Bool := (l.all fun c => lowB c || others.contains c) && startsB l
def dnameB (l : List UInt8) : Bool := decide (2 ≤ l.length) && decide (l.length ≤ 64) && dmadeB [43, 46, 45] l
theorem bl_cons (s : ByteArray) (h : 0 < s.size) : bl s = s[0] :: (bl s).tail := by
  have h2 : 0 < (bl s).length := by rw [bl_length]; exact h
  rw [← bl_get s 0 h, ← List.drop_one, ← List.drop_eq_getElem_cons h2, List.drop_zero]
theorem bl_nil (s : ByteArray) (h : s.size = 0) : bl s = [] := by
  apply List.eq_nil_of_length_eq_zero; rw [bl_length]; exact h
theorem startsB_pos (s : ByteArray) (h : 0 < s.size) : startsB (bl s) = lowB s[0] := by rw [bl_cons s h]; rfl
theorem startsB_zero (s : ByteArray) (h : s.size = 0) : startsB (bl s) = false := by rw [bl_nil s h]; rfl
theorem bl_drop (s : ByteArray) (k : Nat) : bl (s.extract k s.size) = (bl s).drop k := by
  rw [bl_extract]; apply List.take_of_length_le; rw [List.length_drop, bl_length]; omega
theorem startsB_drop (s : ByteArray) (k : Nat) (h : k < s.size) : startsB (bl (s.extract k s.size)) = lowB s[k] := by
  rw [bl_drop, List.drop_eq_getElem_cons (by rw [bl_length]; exact h), bl_get s k h]; rfl
theorem dmade_next (o : List UInt8) (s : ByteArray) (k : Nat) (h : k < s.size) (h0 : ((bl s).take k).all (fun c => lowB c || o.contains c) = true) (h1 : (lowB s[k] || o.contains s[k]) = true) :
    ((bl s).take (k + 1)).all (fun c => lowB c || o.contains c) = true := by rw [bl_take_all s k h, h0, h1]; rfl
theorem dmade_bad (o : List UInt8) (s : ByteArray) (k : Nat) (h : k < s.size) (h1 : lowB s[k] = false) (h2 : o.contains s[k] = false) : dmadeB o (bl s) = false := by
  unfold dmadeB; rw [bl_all_false s k h (by rw [h1, h2]; rfl)]; rfl
theorem dmade_good (o : List UInt8) (s : ByteArray) (k : Nat) (h : ¬ k < s.size) (h0 : ((bl s).take k).all (fun c => lowB c || o.contains c) = true) : dmadeB o (bl s) = startsB (bl s) := by
  unfold dmadeB; rw [bl_take_ge s k (by omega)] at h0; rw [h0]; rfl
end Go.Proofs.YtlhchpeecfbgnaaGreatDoor
