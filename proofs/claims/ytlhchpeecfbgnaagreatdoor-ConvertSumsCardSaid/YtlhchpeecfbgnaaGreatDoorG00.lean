/- A part of the proof that the digests of any content are the three of it, and that an installed set is new memory. No condition. -/
set_option maxRecDepth 100000
set_option maxHeartbeats 20000000
set_option linter.unusedVariables false
set_option linter.unusedSimpArgs false
namespace Go.Proofs.YtlhchpeecfbgnaaGreatDoor
theorem all_take_snoc {p : UInt8 → Bool} (l : List UInt8) (k : Nat) (h : k < l.length) : (l.take (k + 1)).all p = ((l.take k).all p && p (l[k])) := by
  rw [List.take_succ_eq_append_getElem h, List.all_append]; simp only [List.all_cons, List.all_nil, Bool.and_true]
theorem all_false_at {p : UInt8 → Bool} (l : List UInt8) (k : Nat) (h : k < l.length) (hp : p (l[k]) = false) : l.all p = false := by
  rw [List.all_eq_false]; exact ⟨l[k], List.getElem_mem h, by simp [hp]⟩
def bl (s : ByteArray) : List UInt8 := s.data.toList
theorem bl_length (s : ByteArray) : (bl s).length = s.size := by simp [bl]
theorem bl_get (s : ByteArray) (k : Nat) (h : k < s.size) : (bl s)[k]'(by rw [bl_length]; exact h) = s[k] := by simp [bl]; rfl
theorem bl_get? (s : ByteArray) (k : Nat) (h : k < s.size) : (bl s)[k]? = some s[k] := by
  rw [List.getElem?_eq_getElem (by rw [bl_length]; exact h), bl_get s k h]
theorem bl_extract (s : ByteArray) (a b : Nat) : bl (s.extract a b) = ((bl s).drop a).take (b - a) := by
  simp [bl, ByteArray.data_extract]
theorem bl_inj {s t : ByteArray} (h : bl s = bl t) : s = t := by
  cases s; cases t; simp only [bl] at h; congr; exact Array.toList_inj.1 h
theorem bl_append (s t : ByteArray) : bl (s ++ t) = bl s ++ bl t := by simp [bl]
theorem bl_mk (l : List UInt8) : bl ⟨l.toArray⟩ = l := by simp [bl]
theorem bl_take_all {p : UInt8 → Bool} (s : ByteArray) (k : Nat) (h : k < s.size) : ((bl s).take (k + 1)).all p = (((bl s).take k).all p && p (s[k])) := by
  rw [all_take_snoc _ _ (by rw [bl_length]; exact h), bl_get s k h]
theorem bl_all_false {p : UInt8 → Bool} (s : ByteArray) (k : Nat) (h : k < s.size) (hp : p (s[k]) = false) : (bl s).all p = false :=
  all_false_at _ k (by rw [bl_length]; exact h) (by rw [bl_get s k h]; exact hp)
theorem bl_take_size (s : ByteArray) : (bl s).take s.size = bl s := by rw [← bl_length, List.take_length]
theorem bl_take_ge (s : ByteArray) (k : Nat) (h : s.size ≤ k) : (bl s).take k = bl s := List.take_of_length_le (by rw [bl_length]; exact h)
end Go.Proofs.YtlhchpeecfbgnaaGreatDoor
