/- A part of the proof that the digests of any content are the three of it, and that an installed set is new memory. No condition. -/
import Derived.Lib.IndexMore
import Derived.Lib.LastIndexByte
import Derived.Test.YtlhchpeecfbgnaaGreatDoorG02
set_option maxRecDepth 100000
set_option maxHeartbeats 20000000
set_option linter.unusedVariables false
set_option linter.unusedSimpArgs false
namespace Go.Proofs.YtlhchpeecfbgnaaGreatDoor
def vchB (others : List UInt8) (c : UInt8) : Bool := letB c || digB c || others.contains c
def vmadeB (others l : List UInt8) : Bool := !l.isEmpty && l.all (vchB others)
def numB (l : List UInt8) : Bool := !l.isEmpty && l.all digB
def headDig : List UInt8 → Bool
  | [] => false
  | c :: _ => digB c
def lastL (c : UInt8) : List UInt8 → Option Nat
  | [] => none
  | x :: r => match lastL c r with
    | some i => some (i + 1)
    | none => if x = c then some 0 else none
theorem lastL_some (c : UInt8) : ∀ (l : List UInt8) (i : Nat), l[i]? = some c → (∀ j : Nat, i < j → l[j]? ≠ some c) → lastL c l = some i
  | [], i, h, _ => by simp at h
  | x :: r, 0, h, hn => by
    have hr : lastL c r = none := by
      have key : ∀ (r : List UInt8), (∀ j : Nat, r[j]? ≠ some c) → lastL c r = none := by
        intro r
        induction r with
        | nil => intro _; rfl
        | cons y t ih =>
          intro h
          have := ih (fun j => by simpa using h (j + 1))
          have h0 := h 0
          simp at h0
          simp [lastL, this, h0]
      exact key r (fun j => by simpa using hn (j + 1) (by omega))
    simp at h
    simp [lastL, hr, h]
  | x :: r, i + 1, h, hn => by
    have := lastL_some c r i (by simpa using h) (fun j hj => by simpa using hn (j + 1) (by omega))
    simp [lastL, this]
theorem lastL_none (c : UInt8) : ∀ (r : List UInt8), (∀ j : Nat, r[j]? ≠ some c) → lastL c r = none
  | [], _ => rfl
  | y :: t, h => by
    have := lastL_none c t (fun j => by simpa using h (j + 1))
    have h0 := h 0
    simp at h0
    simp [lastL, this, h0]
theorem lastL_lt (c : UInt8) : ∀ (l : List UInt8) (i : Nat), lastL c l = some i → i < l.length
  | [], _, h => by simp [lastL] at h
  | x :: r, i, h => by
    unfold lastL at h
    split at h
    · rename_i k hk
      have := lastL_lt c r k hk
      simp at h; simp; omega
    · split at h
      · simp at h; simp; omega
      · simp at h
def epochOf (l : List UInt8) : Option (List UInt8 × List UInt8) :=
  if (Lib.cut l [58]).2.2 = true then (if numB (Lib.cut l [58]).1 = true ∧ (Lib.cut l [58]).1.length ≤ 9 then some ((Lib.cut l [58]).1, (Lib.cut l [58]).2.1) else none) else some ([], l)
def restD (p : List UInt8) : Option (List UInt8 × List UInt8) :=
  match lastL 45 p with
  | none => if (vmadeB [46, 43, 126, 45] p && headDig p) = true then some (p, []) else none
  | some i => if vmadeB [46, 43, 126] (p.drop (i + 1)) = true ∧ (vmadeB [46, 43, 126, 45] (p.take i) && headDig (p.take i)) = true then some (p.take i, p.drop (i + 1)) else none
def splitD (l : List UInt8) : Option (List UInt8 × List UInt8 × List UInt8) :=
  match epochOf l with
  | none => none
  | some (ep, p) => (restD p).map fun r => (ep, r.1, r.2)
def cutA (s sep : ByteArray) : ByteArray := ⟨(Lib.cut (bl s) (bl sep)).1.toArray⟩
def cutB (s sep : ByteArray) : ByteArray := ⟨(Lib.cut (bl s) (bl sep)).2.1.toArray⟩
def cutK (s sep : ByteArray) : Bool := (Lib.cut (bl s) (bl sep)).2.2
theorem bl_cutA (s sep : ByteArray) : bl (cutA s sep) = (Lib.cut (bl s) (bl sep)).1 := bl_mk _
theorem bl_cutB (s sep : ByteArray) : bl (cutB s sep) = (Lib.cut (bl s) (bl sep)).2.1 := bl_mk _
theorem cut_le (l sep : List UInt8) : (Lib.cut l sep).1.length ≤ l.length ∧ (Lib.cut l sep).2.1.length ≤ l.length := by
  unfold Lib.cut; split <;> simp; omega
theorem cutA_le (s sep : ByteArray) : (cutA s sep).size ≤ s.size := by
  rw [← bl_length, ← bl_length, bl_cutA]; exact (cut_le _ _).1
theorem cutB_le (s sep : ByteArray) : (cutB s sep).size ≤ s.size := by
  rw [← bl_length, ← bl_length, bl_cutB]; exact (cut_le _ _).2
theorem bl_take (s : ByteArray) (k : Nat) : bl (s.extract 0 k) = (bl s).take k := by rw [bl_extract]; simp
theorem headDig_pos (s : ByteArray) (h : 0 < s.size) : headDig (bl s) = digB s[0] := by rw [bl_cons s h]; rfl
theorem vmade_pos (o : List UInt8) (s : ByteArray) (h : vmadeB o (bl s) = true) : 0 < s.size := by
  rw [← bl_length]; unfold vmadeB at h
  cases hb : bl s with
  | nil => rw [hb] at h; simp at h
  | cons c r => simp
end Go.Proofs.YtlhchpeecfbgnaaGreatDoor
