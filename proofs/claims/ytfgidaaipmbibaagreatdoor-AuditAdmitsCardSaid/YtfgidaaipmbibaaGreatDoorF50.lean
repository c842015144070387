/- A part of the proof of a law on which findings a policy admits. No condition. -/
import Derived.ChangeSame
import Derived.Deep.Fields
import Derived.Deep.Slices
import Derived.ProofKit
import Derived.Test.YtfgidaaipmbibaaGreatDoorF04
set_option maxRecDepth 100000
set_option maxHeartbeats 20000000
set_option linter.unusedVariables false
set_option linter.unusedSimpArgs false
namespace Go.Proofs.YtfgidaaipmbibaaGreatDoor
section
open Go.ChangeShapes Go.WideShapes Go.Deep Go.RowKit
section
variable {H : Type} {enc : TypeId × Value → H} {P : Program} {w : World} {base : Nat} {spare : Nat → Bool} {held : Bool}
theorem open_slice_fields {t e : TypeId} {fs : Array Field} {fuel : Nat} {cs : List Value} {x : DataW H × List MemPlace} (ht : P.underlying t = some (.slice e)) (he : P.underlying e = some (.struct fs))
    (hone : oneCellFields P fs = true) (hC : P.cellsOf e = fs.size) (h : DataW.trod enc P w base spare held fuel t cs = some x) :
    (cs = [.slice none 0 0] ∧ x = (.nil, [])) ∨
    ∃ (a : Addr) (len cap m : Nat) (D : Nat → DataW H) (Pl : Nat → List MemPlace), cs = [.slice (some a) len cap] ∧ base ≤ a.block ∧ len ≤ cap ∧ cap ≤ maxLen ∧ m = (if spare a.block then cap else len) ∧
      x = (.slice ((List.range len).map D) ((List.range (m - len)).map fun j => D (len + j)), MemPlace.row a (m * fs.size) ++ (List.range m).flatMap Pl) ∧
      ∀ i, i < m → ∃ (ys : List (DataW H × List MemPlace)) (n : Nat), D i = .agg (ys.map (·.1)) ∧ Pl i = ys.flatMap (·.2) ∧ ys.length = fs.size ∧
        ∀ (j : Nat) (f : Field), fs[j]? = some f → ∃ (v : Value) (y : DataW H × List MemPlace), w.cell? (a.add (i * fs.size + j)) = some v ∧ ys[j]? = some y ∧ DataW.trod enc P w base spare held n f.type [v] = some y := by
  rcases open_slice ht h with h0 | ⟨a, len, cap, m, n, D, Pl, hcs, hb, hl, hm, hmm, hx, hi⟩
  · exact .inl h0
  · refine .inr ⟨a, len, cap, m, D, Pl, hcs, hb, hl, hm, hmm, by rw [hC] at hx; exact hx, fun i him => ?_⟩
    obtain ⟨cs', hc, ht'⟩ := hi i him
    rw [hC] at hc
    obtain ⟨ys, n', hn', hy, hlen, hyl, hf⟩ := DataW.trod_struct he ht'
    obtain ⟨_, hcl, hat⟩ := World.cells?_some hc
    simp only [Prod.mk.injEq] at hy
    refine ⟨ys, n', hy.1, hy.2, hyl, fun j f hj => ?_⟩
    obtain ⟨ho, hk⟩ := hone_of hone j f hj
    have hjl : j < fs.size := (Array.getElem?_eq_some_iff.1 hj).1
    have hcell := hat j hjl
    have hv : cs'[j]? = some (cs'[j]'(by omega)) := List.getElem?_eq_getElem (by omega)
    have h1 := hf j f hj
    rw [ho, hk] at h1
    have hone' : (cs'.drop j).take 1 = [cs'[j]'(by omega)] := by
      rw [List.drop_eq_getElem_cons (by omega)]
      rfl
    rw [hone'] at h1
    have hys : ys[j]? = some (ys[j]'(by omega)) := List.getElem?_eq_getElem (by omega)
    refine ⟨_, _, ?_, hys, h1.trans hys⟩
    rw [← Go.Deep.add_add, hcell, hv]
end
theorem list_of {α : Type} {Q : Nat → α → Prop} : ∀ n : Nat, (∀ i, i < n → ∃ x, Q i x) → ∃ l : List α, l.length = n ∧ ∀ (i : Nat) (x : α), l[i]? = some x → Q i x
  | 0, _ => ⟨[], rfl, fun i x h => by simp at h⟩
  | n + 1, h => by
    obtain ⟨l, hl, hq⟩ := list_of n (fun i hi => h i (by omega))
    obtain ⟨x, hx⟩ := h n (by omega)
    refine ⟨l ++ [x], by simp [hl], fun i y hy => ?_⟩
    by_cases hi : i < l.length
    · rw [List.getElem?_append_left hi] at hy; exact hq i y hy
    · rw [List.getElem?_append_right (by omega)] at hy
      have : i = n := by have := (List.getElem?_eq_some_iff.1 hy).1; simp at this; omega
      subst this; rw [hl, Nat.sub_self] at hy; simp at hy; subst hy; exact hx
theorem flat_split {α : Type} {f : α → List Value} {sz : Nat} (hf : ∀ x, (f x).length = sz) (hsz : 0 < sz) (l : List α) (j : Nat) (u : Value) (h : (l.flatMap f)[j]? = some u) : ∃ (i k : Nat) (x : α), l[i]? = some x ∧ k < sz ∧ j = i * sz + k ∧ (f x)[k]? = some u := by
  have hj : j < l.length * sz := by rw [← flat_length hf]; exact (List.getElem?_eq_some_iff.1 h).1
  have hi : j / sz < l.length := Nat.div_lt_of_lt_mul (by rw [Nat.mul_comm]; exact hj)
  have hk : j % sz < sz := Nat.mod_lt _ hsz
  have e : j = j / sz * sz + j % sz := by rw [Nat.mul_comm]; exact (Nat.div_add_mod j sz).symm
  refine ⟨j / sz, j % sz, l[j / sz], List.getElem?_eq_getElem hi, hk, e, ?_⟩
  rw [← flat_at hf l (j / sz) (j % sz) _ (List.getElem?_eq_getElem hi) hk, ← e, h]
theorem addr_flat {w : World} {a : Addr} {n : Nat} {v : Value} (h : w.cell? (a.add n) = some v) : a.add n = ⟨a.block, a.off + n, none⟩ := by
  unfold Addr.add at *
  split at h
  · rename_i h0; subst h0
    simp only [if_pos]
    cases a with | mk b o s =>
      unfold World.cell? at h
      split at h
      · split at h
        · cases h
        · rename_i hs; simp at hs; simp [hs]
      · cases h
  · rename_i h0; rw [if_neg h0]
section
variable {H : Type} {enc : TypeId × Value → H} {w : World} {spare : Nat → Bool}
theorem open_list {T E : TypeId} {fs : Array Field} (hT : Tryz.prog.underlying T = some (.slice E)) (hE : Tryz.prog.underlying E = some (.struct fs)) (hone : oneCellFields Tryz.prog fs = true) (hC : Tryz.prog.cellsOf E = fs.size) (hpos : 0 < fs.size)
    {α : Type} (f : α → List Value) (Pr : α → Prop) (hf : ∀ x, (f x).length = fs.size)
    (hel : ∀ (n : Nat) (vs : Nat → Value), (∀ (j : Nat) (fd : Field), fs[j]? = some fd → ∃ y, DataW.trod enc Tryz.prog w 0 spare true n fd.type [vs j] = some y) → ∃ x : α, Pr x ∧ ∀ j, j < fs.size → (f x)[j]? = some (vs j))
    {fuel : Nat} {v : Value} {d : DataW H × List MemPlace} (h : DataW.trod enc Tryz.prog w 0 spare true fuel T [v] = some d) :
    ∃ (A : Option Addr) (c : Nat) (l : List α), v = .slice A l.length c ∧ Rd w fs.size A l.length (l.flatMap f) ∧ (∀ x ∈ l, Pr x) ∧ l.length ≤ 9223372036854775807 ∧ l.length ≤ c := by
  rcases open_slice_fields hT hE hone hC h with ⟨hcs, _⟩ | ⟨a, len, cap, m, D, Pl, hcs, _, hl, hm, hmm, _, hi⟩
  · injection hcs with hcs _
    exact ⟨none, 0, [], hcs, Rd.nil _ _ _, fun x hx => by simp at hx, Nat.zero_le _, Nat.zero_le _⟩
  · injection hcs with hcs _
    have hlen : len ≤ m := by rw [hmm]; split <;> omega
    have key : ∀ i, i < len → ∃ x : α, Pr x ∧ ∀ j u, (f x)[j]? = some u → w.cell? ⟨a.block, a.off + (i * fs.size + j), none⟩ = some u := by
      intro i hi'
      obtain ⟨ys, n, _, _, hyl, hj⟩ := hi i (by omega)
      have hv : ∀ j, ∃ v, (∀ fd, fs[j]? = some fd → w.cell? (a.add (i * fs.size + j)) = some v ∧ ∃ y, DataW.trod enc Tryz.prog w 0 spare true n fd.type [v] = some y) := by
        intro j
        cases hfd : fs[j]? with
        | none => exact ⟨default, fun fd h => by cases h⟩
        | some fd =>
          obtain ⟨v, y, h1, _, h3⟩ := hj j fd hfd
          exact ⟨v, fun fd' h => by injection h with h; subst h; exact ⟨h1, y, h3⟩⟩
      have hvs : ∃ vs : Nat → Value, ∀ j fd, fs[j]? = some fd → w.cell? (a.add (i * fs.size + j)) = some (vs j) ∧ ∃ y, DataW.trod enc Tryz.prog w 0 spare true n fd.type [vs j] = some y :=
        ⟨fun j => Classical.choose (hv j), fun j fd h => Classical.choose_spec (hv j) fd h⟩
      obtain ⟨vs, hvs⟩ := hvs
      obtain ⟨x, hx, hc⟩ := hel n vs (fun j fd h => (hvs j fd h).2)
      refine ⟨x, hx, fun j u hu => ?_⟩
      have hjs : j < fs.size := by rw [← hf x]; exact (List.getElem?_eq_some_iff.1 hu).1
      have h1 := hc j hjs
      rw [hu] at h1
      have h1 := Option.some.inj h1
      subst h1
      have h2 := (hvs j _ (Array.getElem?_eq_getElem hjs)).1
      rw [addr_flat h2] at h2
      exact h2
    obtain ⟨l, hll, hlq⟩ := list_of len key
    refine ⟨some a, cap, l, by rw [hll]; exact hcs, ⟨flat_length hf l, fun hn => ?_⟩, fun x hx => ?_, by rw [hll]; unfold maxLen at hm; omega, by rw [hll]; exact hl⟩
    · obtain ⟨x0, hx0⟩ : ∃ x, l[0]? = some x := ⟨_, List.getElem?_eq_getElem hn⟩
      obtain ⟨u0, hu0⟩ : ∃ u, (f x0)[0]? = some u := ⟨_, List.getElem?_eq_getElem (by rw [hf]; exact hpos)⟩
      refine ⟨a.block, a.off, ?_, fun j u hu => ?_⟩
      · obtain ⟨ys, n, _, _, _, hj⟩ := hi 0 (by omega)
        obtain ⟨v0, y0, h1, _, _⟩ := hj 0 _ (Array.getElem?_eq_getElem hpos)
        have h2 := addr_flat h1
        simp only [Nat.zero_mul, Nat.zero_add, Addr.add, if_pos, Nat.add_zero] at h2
        rw [← h2]
      · obtain ⟨i, k, x, hx, hk, rfl, hu'⟩ := flat_split hf hpos l j u hu
        exact (hlq i x hx).2 k u hu'
    · obtain ⟨i, hi', rfl⟩ := List.getElem_of_mem hx
      exact (hlq i _ (List.getElem?_eq_getElem hi')).1
end
end
end Go.Proofs.YtfgidaaipmbibaaGreatDoor
