/- A part of the proof that the digests of any content are the three of it, and that an installed set is new memory. No condition. -/
import Derived.Deep.RegionHeld3
import Derived.Lib.AppendZeros
import Derived.Lib.ItoaNum
import Derived.WalkSmall
import Derived.Test.YtlhchpeecfbgnaaGreatDoorG13
import Derived.Test.YtlhchpeecfbgnaaGreatDoorG27
set_option maxRecDepth 100000
set_option maxHeartbeats 20000000
set_option linter.unusedVariables false
set_option linter.unusedSimpArgs false
namespace Go.Proofs.YtlhchpeecfbgnaaGreatDoor
section
open Go.RowKit
theorem cut_len (l : List UInt8) (c : UInt8) : (Lib.cut l [c]).1.length ≤ l.length ∧ (Lib.cut l [c]).2.1.length ≤ l.length := cut_le l [c]
theorem restD_le {p a b : List UInt8} (h : restD p = some (a, b)) : a.length ≤ p.length ∧ b.length ≤ p.length := by
  unfold restD at h
  split at h
  · split at h
    · injection h with h; injection h with h1 h2; subst h1 h2; simp
    · cases h
  · split at h
    · injection h with h; injection h with h1 h2; subst h1 h2
      rw [List.length_take, List.length_drop]; omega
    · cases h
theorem restR_le {p a b : List UInt8} (h : restR p = some (a, b)) : a.length ≤ p.length ∧ b.length ≤ p.length := by
  unfold restR at h
  split at h
  · injection h with h; injection h with h1 h2; subst h1 h2; exact cut_len p 45
  · cases h
theorem splitF_le {fmt : Int} (hf : isF fmt) {l a b d : List UInt8} (h : splitF fmt l = some (a, b, d)) : a.length ≤ l.length ∧ b.length ≤ l.length ∧ d.length ≤ l.length := by
  rcases hf with rfl | rfl | rfl
  · have h : splitD l = some (a, b, d) := h
    unfold splitD at h
    split at h
    · cases h
    · rename_i ep p he
      have hep : ep.length ≤ l.length ∧ p.length ≤ l.length := by
        unfold epochOf at he
        split at he
        · split at he
          · injection he with he; injection he with h1 h2; subst h1 h2; exact cut_len l 58
          · cases he
        · injection he with he; injection he with h1 h2; subst h1 h2; simp
      cases hr : restD p with
      | none => rw [hr] at h; cases h
      | some y =>
        obtain ⟨y1, y2⟩ := y
        rw [hr] at h; simp only [Option.map_some, Option.some.injEq, Prod.mk.injEq] at h
        obtain ⟨rfl, rfl, rfl⟩ := h
        have := restD_le hr; omega
  · have h : splitR l = some (a, b, d) := h
    unfold splitR at h
    split at h
    · cases h
    · rename_i ep p he
      have hep : ep.length ≤ l.length ∧ p.length ≤ l.length := by
        unfold epochR at he
        split at he
        · split at he
          · injection he with he; injection he with h1 h2; subst h1 h2; exact cut_len l 58
          · cases he
        · injection he with he; injection he with h1 h2; subst h1 h2; simp
      cases hr : restR p with
      | none => rw [hr] at h; cases h
      | some y =>
        obtain ⟨y1, y2⟩ := y
        rw [hr] at h; simp only [Option.map_some, Option.some.injEq, Prod.mk.injEq] at h
        obtain ⟨rfl, rfl, rfl⟩ := h
        have := restR_le hr; omega
  · have h : splitP l = some (a, b, d) := h
    unfold splitP at h
    cases ha : apkA l with
    | none => rw [ha] at h; cases h
    | some x =>
      obtain ⟨ps, p, q⟩ := x
      rw [ha] at h; simp only [Option.map_some, Option.some.injEq, Prod.mk.injEq] at h
      obtain ⟨rfl, rfl, rfl⟩ := h
      refine ⟨Nat.zero_le _, ?_⟩
      have hsuf : ∀ k acc r ps t, sufsA k acc r = some (ps, t) → t.length ≤ r.length := by
        intro k
        induction k with
        | zero => intro acc r ps t h; cases h
        | succ k ih =>
          intro acc r ps t h
          unfold sufsA at h
          split at h
          · split at h
            · cases h
            · have := ih _ _ _ _ h
              simp only [List.length_drop, List.length_cons] at this ⊢; omega
          · injection h with h; injection h with _ h2; subst h2; exact Nat.le_refl _
      have hnum : ∀ k kind acc l ps t, numsA k kind acc l = some (ps, t) → t.length ≤ l.length := by
        intro k
        induction k with
        | zero => intro kind acc l ps t h; cases h
        | succ k ih =>
          intro kind acc l ps t h
          unfold numsA at h
          split at h
          · cases h
          · split at h
            · rename_i r hr
              have h2 := ih _ _ _ _ _ h
              have h3 := congrArg List.length hr
              rw [List.length_drop, List.length_cons] at h3; omega
            · injection h with h; injection h with _ h2; subst h2
              rename_i hr
              rw [List.length_drop]; omega
      have hlet : ∀ acc l, (lettA acc l).2.length ≤ l.length := by
        intro acc l
        unfold lettA
        split
        · split <;> simp
        · simp
      unfold apkA at ha
      split at ha
      · cases ha
      · rename_i a r hn
        split at ha
        · cases ha
        · rename_i b t hs
          have h1 := hnum _ _ _ _ _ _ hn
          have h2 := hsuf _ _ _ _ _ hs
          have h3 := hlet a r
          unfold endA at ha
          split at ha
          · injection ha with ha; injection ha with _ ha; injection ha with h5 h6; subst h5 h6; simp
          · split at ha
            · injection ha with ha; injection ha with _ ha; injection ha with h5 h6; subst h5 h6
              rw [List.length_take]
              simp only [List.length_cons] at h2
              omega
            · cases ha
          · cases ha
theorem Split_e (fmt : Int) (hf : isF fmt) (s : ByteArray) (w : World) (hG : Gl w) (hs : s.size ≤ 9223372036854775807) :
    Calls Tryz.prog 91 #[.int .i64 fmt, .string s] w fun e w' => ∃ ep pr rv : ByteArray, e = .returned (.tuple #[.string ep, .string pr, .string rv, .int .i64 (verE fmt s)]) ∧
      (verE fmt s = 0 → splitF fmt (bl s) = some (bl ep, bl pr, bl rv) ∧ s.size ≤ 64 ∧ ep.size ≤ 64 ∧ pr.size ≤ 64 ∧ rv.size ≤ 64) ∧ Below w.heap.size w w' := by
  by_cases h64 : 64 < s.size
  · refine (version_Split_bad fmt s w hs (.inr h64)).mono fun e w' ⟨he, hw⟩ => ⟨⟨#[]⟩, ⟨#[]⟩, ⟨#[]⟩, he, fun h0 => ?_, by rw [← hw]; exact Below.refl _ _⟩
    unfold verE at h0
    rw [if_neg (fun hn => hn hf), if_pos h64] at h0; cases h0
  · refine (version_Split_any fmt hf s w hG (by omega)).mono fun e w' ⟨ep, pr, rv, c, he, hr, hb⟩ => ?_
    have E : verE fmt s = verCode (splitF fmt (bl s)) := by unfold verE; rw [if_neg (fun hn => hn hf), if_neg h64]
    cases hx : splitF fmt (bl s) with
    | none =>
      rw [hx] at hr
      obtain ⟨rfl, rfl, rfl, rfl⟩ := hr
      refine ⟨⟨#[]⟩, ⟨#[]⟩, ⟨#[]⟩, by rw [he, E, hx]; rfl, fun h0 => ?_, hb⟩
      rw [E, hx] at h0; cases h0
    | some x =>
      obtain ⟨a, b, d⟩ := x
      rw [hx] at hr
      obtain ⟨rfl, h1, h2, h3⟩ := hr
      refine ⟨ep, pr, rv, by rw [he, E, hx]; rfl, fun _ => ?_, hb⟩
      have hl := splitF_le hf hx
      rw [← h1, ← h2, ← h3, bl_length, bl_length, bl_length, bl_length] at hl
      refine ⟨by rw [h1, h2, h3], by omega, by omega, by omega, by omega⟩
end
end Go.Proofs.YtlhchpeecfbgnaaGreatDoor
