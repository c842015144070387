/- A part of the proof of a law on which findings a policy admits. No condition. -/
import Derived.Test.YtfgidaaipmbibaaGreatDoorF02
set_option maxRecDepth 100000
set_option maxHeartbeats 20000000
set_option linter.unusedVariables false
set_option linter.unusedSimpArgs false
namespace Go.Proofs.YtfgidaaipmbibaaGreatDoor
def psplit : List UInt8 → List (List UInt8)
  | [] => [[]]
  | c :: r => if c = 47 then [] :: psplit r else ((c :: (psplit r).headD []) :: (psplit r).tail)
theorem psplit_ne : ∀ l, psplit l ≠ []
  | [] => by simp [psplit]
  | c :: r => by unfold psplit; split <;> simp
theorem psplit_cons_ne {c : UInt8} (h : c ≠ 47) (r : List UInt8) : ∃ p ps, psplit r = p :: ps ∧ psplit (c :: r) = (c :: p) :: ps := by
  cases hr : psplit r with
  | nil => exact absurd hr (psplit_ne r)
  | cons p ps => exact ⟨p, ps, rfl, by rw [psplit, if_neg h, hr]; rfl⟩
theorem psplit_none : ∀ (l : List UInt8), (47 : UInt8) ∉ l → psplit l = [l]
  | [], _ => rfl
  | c :: r, h => by
    have hc : c ≠ 47 := fun e => h (by rw [e]; simp)
    obtain ⟨p, ps, h1, h2⟩ := psplit_cons_ne hc r
    rw [psplit_none r (fun hm => h (List.mem_cons_of_mem _ hm))] at h1
    injection h1 with h3 h4
    rw [h2, ← h3, ← h4]
theorem psplit_hit : ∀ (k : Nat) (l : List UInt8), (47 : UInt8) ∉ l.take k → l[k]? = some 47 → psplit l = l.take k :: psplit (l.drop (k + 1))
  | k, [], _, h => by simp at h
  | 0, c :: r, _, h => by
    simp at h; subst h
    simp [psplit]
  | k + 1, c :: r, hn, h => by
    have hc : c ≠ 47 := fun e => hn (by rw [e]; simp)
    obtain ⟨p, ps, h1, h2⟩ := psplit_cons_ne hc r
    rw [psplit_hit k r (fun hm => hn (by rw [List.take_succ_cons]; exact List.mem_cons_of_mem _ hm)) (by simpa using h)] at h1
    injection h1 with h3 h4
    rw [h2, ← h3, ← h4]; simp
theorem splitK_psplit : ∀ (n : Nat) (l : List UInt8), l.count 47 = n → Lib.splitK [47] 0 n l = psplit l
  | 0, l, h => by
    rw [psplit_none l (List.count_eq_zero.1 h)]; rfl
  | n + 1, l, h => by
    have hm : (47 : UInt8) ∈ l := List.count_pos_iff.1 (by omega)
    unfold Lib.splitK
    rw [Lib.index_one]
    obtain ⟨k, hk, hn, hg⟩ := indexByte_mem 47 l hm
    rw [hk, if_neg (by simp; try omega), psplit_hit k l hn hg]
    have e : ((k : Int)).toNat = k := by omega
    rw [e]
    congr 1
    simp only [List.length_singleton]
    refine splitK_psplit n (l.drop (k + 1)) ?_
    have hkl : k < l.length := (List.getElem?_eq_some_iff.1 hg).1
    have hd : l = l.take k ++ 47 :: l.drop (k + 1) := by
      have h47 : l[k] = 47 := (List.getElem?_eq_some_iff.1 hg).2
      rw [← h47, ← List.drop_eq_getElem_cons hkl, List.take_append_drop]
    rw [hd, List.count_append, List.count_eq_zero.2 hn, List.count_cons_self] at h
    simp at h ⊢
    omega
 where
  indexByte_mem (c : UInt8) : ∀ (l : List UInt8), c ∈ l → ∃ k : Nat, Lib.indexByte l c = k ∧ c ∉ l.take k ∧ l[k]? = some c
    | [], h => by simp at h
    | b :: r, h => by
      by_cases hb : b = c
      · subst hb; exact ⟨0, by simp [Lib.indexByte], by simp, by simp⟩
      · have hr : c ∈ r := by rcases List.mem_cons.1 h with h | h; exact absurd h.symm hb; exact h
        obtain ⟨k, h1, h2, h3⟩ := indexByte_mem c r hr
        refine ⟨k + 1, ?_, ?_, by simpa using h3⟩
        · have : (b == c) = false := by simp [hb]
          simp only [Lib.indexByte, this, h1]
          rw [if_neg (by simp), if_neg (by simp; try omega)]; rfl
        · rw [List.take_succ_cons]; intro hm; rcases List.mem_cons.1 hm with hm | hm; exact hb hm.symm; exact h2 hm
def partB (p : List UInt8) : Bool := !(decide (p = []) || decide (p = [46]) || decide (p = [46, 46]))
def pathB (l : List UInt8) : Bool := decide (1 ≤ l.length) && decide (l.length ≤ 200) && !l.contains 0 && (psplit l).all partB
def parentL (l : List UInt8) : Option (List UInt8) := if pathB l then (lastL 47 l).map (l.take ·) else none
end Go.Proofs.YtfgidaaipmbibaaGreatDoor
