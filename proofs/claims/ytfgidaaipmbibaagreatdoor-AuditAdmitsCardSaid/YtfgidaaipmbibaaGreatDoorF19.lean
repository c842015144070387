/- A part of the proof of a law on which findings a policy admits. No condition. -/
import Derived.Test.YtfgidaaipmbibaaGreatDoorF00
set_option maxRecDepth 100000
set_option maxHeartbeats 20000000
set_option linter.unusedVariables false
set_option linter.unusedSimpArgs false
namespace Go.Proofs.YtfgidaaipmbibaaGreatDoor
section
open Go.RowKit Go.Maps
def RV (v : Value) : Option (DataW Value × List MemPlace) := some (.held v, [])
theorem held_inj {a b : Value} (h : (DataW.held a : DataW Value) = .held b) : a = b := by injection h
theorem strKeyed : Keyed Tryz.prog 9 := string_keyed Tryz.underlying9
def kl (s : ByteArray) : Lit := .string s.data.toList
theorem kl_ne {s t : ByteArray} (h : s ≠ t) : kl s ≠ kl t := by
  intro he; apply h; unfold kl at he; injection he with he; exact bl_inj he
def MapIs (w : World) (b n : Nat) (f : ByteArray → Option Value) : Prop :=
  ∃ D : DataW Value, w.ownsMap Tryz.prog 9 RV b n D ∧ ∀ s : ByteArray, s.size ≤ maxLen → (Maps.has D (kl s) = (f s).isSome ∧ ∀ z v, f s = some v → D.atKey (kl s) z = .held v)
theorem MapIs.made (w : World) : MapIs (w.alloc (.map #[] 0)) w.heap.size 0 (fun _ => none) :=
  ⟨.map [], World.ownsMap_made _ _ _ _, fun s _ => ⟨rfl, fun z v h => by cases h⟩⟩
theorem MapIs.kept {w w' : World} {b n : Nat} {f : ByteArray → Option Value} {row : Option Nat} (h : MapIs w b n f) (hg : w.grownBy w' row) (hne : some b ≠ row) : MapIs w' b n f := by
  obtain ⟨D, h1, h2⟩ := h
  exact ⟨D, h1.kept hg hne, h2⟩
theorem MapIs.below {w w' : World} {b n : Nat} {f : ByteArray → Option Value} (h : MapIs w b n f) (hb : Below w.heap.size w w') : MapIs w' b n f := by
  obtain ⟨D, h1, h2⟩ := h
  exact ⟨D, h1.kept (row := none) ⟨hb.os, hb.tape, hb.output, hb.size, fun i hi _ => hb.block i hi⟩ (by simp), h2⟩
theorem MapIs.lt {w : World} {b n : Nat} {f : ByteArray → Option Value} (h : MapIs w b n f) : b < w.heap.size := by
  obtain ⟨D, h1, _⟩ := h; exact h1.lt
theorem key_of (s : ByteArray) (h : s.size ≤ maxLen) : keyOf Tryz.prog 9 (.string s) = some (kl s) := Go.WideMaps.keyOf_string_mk Tryz.underlying9 h
theorem MapIs.look_ok {w : World} {b n : Nat} {f : ByteArray → Option Value} (h : MapIs w b n f) {t e : TypeId} (ht : Tryz.prog.underlying t = some (.map 9 e)) {z : Value} (hz : ∀ w, (zeroValue e).run Tryz.prog w = .ok z w) (s : ByteArray) (hs : s.size ≤ maxLen) :
    (Instr.lookup t (.map (some b)) (.string s) true).run Tryz.prog w = .ok (.tuple #[(f s).getD z, .bool (f s).isSome]) w := by
  obtain ⟨D, h1, h2⟩ := h
  obtain ⟨v, ps, hrun, hv⟩ := h1.look_ok strKeyed ht (hz w) (show RV z = some (.held z, []) from rfl) (key_of s hs)
  obtain ⟨h3, h4⟩ := h2 s hs
  rw [hrun, h3]
  have : DataW.held v = D.atKey (kl s) (.held z) := congrArg Prod.fst (Option.some.inj hv)
  cases hf : f s with
  | none =>
    rw [hf] at h3
    rw [atKey_of_not_has (by simpa using h3)] at this
    rw [held_inj this]; rfl
  | some u =>
    rw [h4 (.held z) u hf] at this
    rw [held_inj this]; rfl
theorem MapIs.look {w : World} {b n : Nat} {f : ByteArray → Option Value} (h : MapIs w b n f) {t e : TypeId} (ht : Tryz.prog.underlying t = some (.map 9 e)) {z : Value} (hz : ∀ w, (zeroValue e).run Tryz.prog w = .ok z w) (s : ByteArray) (hs : s.size ≤ maxLen) :
    (Instr.lookup t (.map (some b)) (.string s) false).run Tryz.prog w = .ok ((f s).getD z) w := by
  obtain ⟨D, h1, h2⟩ := h
  obtain ⟨v, ps, hrun, hv⟩ := h1.lookup strKeyed ht (hz w) (show RV z = some (.held z, []) from rfl) (key_of s hs)
  obtain ⟨h3, h4⟩ := h2 s hs
  rw [hrun]
  have : DataW.held v = D.atKey (kl s) (.held z) := congrArg Prod.fst (Option.some.inj hv)
  cases hf : f s with
  | none =>
    rw [hf] at h3
    rw [atKey_of_not_has (by simpa using h3)] at this
    rw [held_inj this]; rfl
  | some u =>
    rw [h4 (.held z) u hf] at this
    rw [held_inj this]; rfl
theorem MapIs.put {w : World} {b n : Nat} {f : ByteArray → Option Value} (h : MapIs w b n f) {t e : TypeId} (ht : Tryz.prog.underlying t = some (.map 9 e)) (hn : n < maxLen) (s : ByteArray) (hs : s.size ≤ maxLen) (v : Value) :
    ∃ w', (Instr.mapUpdate t (.map (some b)) (.string s) v).run Tryz.prog w = .ok () w' ∧ MapIs w' b (n + 1) (fun x => if x = s then some v else f x) ∧ w.grownBy w' (some b) := by
  obtain ⟨D, h1, h2⟩ := h
  obtain ⟨w', hrun, hown, hg⟩ := h1.update strKeyed ht hn (key_of s hs) (show RV v = some (.held v, []) from rfl)
  have hm := (h1.tidy strKeyed).isMap
  refine ⟨w', hrun, ⟨_, hown, fun x hx => ?_⟩, hg⟩
  by_cases hxs : x = s
  · subst hxs
    have hk : WideAt.IsKeyLit (kl x) := trivial
    simp only [if_pos]
    exact ⟨by rw [has_put_same hm hk]; rfl, fun z u hu => by have hu := Option.some.inj hu; subst hu; exact atKey_put_same hm hk _ _⟩
  · simp only [if_neg hxs]
    obtain ⟨h3, h4⟩ := h2 x hx
    exact ⟨by rw [has_put_other (kl_ne hxs)]; exact h3, fun z u hu => by rw [atKey_put_other (kl_ne hxs)]; exact h4 z u hu⟩
end
end Go.Proofs.YtfgidaaipmbibaaGreatDoor
