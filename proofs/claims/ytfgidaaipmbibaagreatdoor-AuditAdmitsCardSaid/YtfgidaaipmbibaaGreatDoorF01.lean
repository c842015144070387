/- A part of the proof of a law on which findings a policy admits. No condition. -/
import Derived.Test.YtfgidaaipmbibaaGreatDoorF00
set_option maxRecDepth 100000
set_option maxHeartbeats 20000000
set_option linter.unusedVariables false
set_option linter.unusedSimpArgs false
namespace Go.Proofs.YtfgidaaipmbibaaGreatDoor
def digB (c : UInt8) : Bool := decide (48 ≤ c.toNat ∧ c.toNat ≤ 57)
def smlB (c : UInt8) : Bool := decide (97 ≤ c.toNat ∧ c.toNat ≤ 122)
def capB (c : UInt8) : Bool := decide (65 ≤ c.toNat ∧ c.toNat ≤ 90)
def letB (c : UInt8) : Bool := smlB c || capB c
def lowB (c : UInt8) : Bool := smlB c || digB c
def startsB : List UInt8 → Bool
  | [] => false
  | c :: _ => lowB c
def dmadeB (others l : List UInt8) : Bool := (l.all fun c => lowB c || others.contains c) && startsB l
def dnameB (l : List UInt8) : Bool := decide (2 ≤ l.length) && decide (l.length ≤ 64) && dmadeB [43, 46, 45] l
theorem bl_cons (s : ByteArray) (h : 0 < s.size) : bl s = s[0] :: (bl s).tail := by
  have h2 : 0 < (bl s).length := by rw [bl_length]; exact h
  rw [← bl_get s 0 h, ← List.drop_one, ← List.drop_eq_getElem_cons h2, List.drop_zero]
theorem bl_nil (s : ByteArray) (h : s.size = 0) : bl s = [] := by
  apply List.eq_nil_of_length_eq_zero; rw [bl_length]; exact h
theorem startsB_pos (s : ByteArray) (h : 0 < s.size) : startsB (bl s) = lowB s[0] := by rw [bl_cons s h]; rfl
theorem startsB_zero (s : ByteArray) (h : s.size = 0) : startsB (bl s) = false := by rw [bl_nil s h]; rfl
theorem bl_drop (s : ByteArray) (k : Nat) : bl (s.extract k s.size) = (bl s).drop k := by
  rw [bl_extract]; apply List.take_of_length_le; rw [List.length_drop, bl_length]; omega
theorem startsB_drop (s : ByteArray) (k : Nat) (h : k < s.size) : startsB (bl (s.extract k s.size)) = lowB s[k] := by
  rw [bl_drop, List.drop_eq_getElem_cons (by rw [bl_length]; exact h), bl_get s k h]; rfl
theorem dmade_next (o : List UInt8) (s : ByteArray) (k : Nat) (h : k < s.size) (h0 : ((bl s).take k).all (fun c => lowB c || o.contains c) = true) (h1 : (lowB s[k] || o.contains s[k]) = true) :
    ((bl s).take (k + 1)).all (fun c => lowB c || o.contains c) = true := by rw [bl_take_all s k h, h0, h1]; rfl
theorem dmade_bad (o : List UInt8) (s : ByteArray) (k : Nat) (h : k < s.size) (h1 : lowB s[k] = false) (h2 : o.contains s[k] = false) : dmadeB o (bl s) = false := by
  unfold dmadeB; rw [bl_all_false s k h (by rw [h1, h2]; rfl)]; rfl
theorem dmade_good (o : List UInt8) (s : ByteArray) (k : Nat) (h : ¬ k < s.size) (h0 : ((bl s).take k).all (fun c => lowB c || o.contains c) = true) : dmadeB o (bl s) = startsB (bl s) := by
  unfold dmadeB; rw [bl_take_ge s k (by omega)] at h0; rw [h0]; rfl
theorem lt_irr (a : List UInt8) : ¬ a < a := List.lt_irrefl a
theorem lt_tr {a b c : List UInt8} (h : a < b) (k : b < c) : a < c := List.lt_trans h k
theorem lt_of_not {a b : List UInt8} (h : ¬ a < b) (hne : a ≠ b) : b < a := by
  have h1 : b ≤ a := h
  by_cases hb : b < a
  · exact hb
  · exact absurd (List.le_antisymm (show a ≤ b from hb) h1) hne
def nms (ps : List (ByteArray × ByteArray)) (s : ByteArray) : List ByteArray := (ps.filter (fun p => decide (p.1 = s))).map (·.2)
theorem nms_snoc (ps : List (ByteArray × ByteArray)) (s t nm : ByteArray) : nms (ps ++ [(t, nm)]) s = if t = s then nms ps s ++ [nm] else nms ps s := by
  unfold nms
  by_cases h : t = s <;> simp [h]
theorem nms_none {ps : List (ByteArray × ByteArray)} {s : ByteArray} (h : s ∉ ps.map (·.1)) : nms ps s = [] := by
  unfold nms
  rw [List.map_eq_nil_iff, List.filter_eq_nil_iff]
  intro p hp he
  exact h (List.mem_map.2 ⟨p, hp, by simpa using he⟩)
theorem nms_some {ps : List (ByteArray × ByteArray)} {s : ByteArray} (h : s ∈ ps.map (·.1)) : nms ps s ≠ [] := by
  obtain ⟨p, hp, rfl⟩ := List.mem_map.1 h
  unfold nms
  intro h0
  rw [List.map_eq_nil_iff, List.filter_eq_nil_iff] at h0
  exact h0 p hp (by simp)
theorem nms_length (ps : List (ByteArray × ByteArray)) (s : ByteArray) : (nms ps s).length ≤ ps.length := by
  unfold nms; rw [List.length_map]; exact List.length_filter_le _ _
structure Own (ps : List (ByteArray × ByteArray)) (out : List (ByteArray × List ByteArray)) : Prop where
  sorted : (out.map (·.1)).Pairwise (fun s t => bl s < bl t)
  mem : ∀ s, s ∈ out.map (·.1) ↔ s ∈ ps.map (·.1)
  names : ∀ x ∈ out, x.2 = nms ps x.1
end Go.Proofs.YtfgidaaipmbibaaGreatDoor
