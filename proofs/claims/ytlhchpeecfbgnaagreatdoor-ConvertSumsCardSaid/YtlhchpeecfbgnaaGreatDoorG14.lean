/- A part of the proof that the digests of any content are the three of it, and that an installed set is new memory. No condition. -/
import Derived.BigQuiet
import Derived.Deep.AppendLies
import Derived.Deep.CutBlock
import Derived.Deep.DeepCutAuto
import Derived.Deep.LoopGhost
import Derived.Deep.QuietTactic
import Derived.IntWalk
import Derived.Laws.OwnMore
import Derived.Maps.AppendAt
import Derived.OwnWalk
import Derived.ProofKit
import Derived.RegionTactic
import Derived.WalkLawsBesides
import Derived.WalkSpells
import Derived.Test.YtlhchpeecfbgnaaGreatDoorG10
set_option maxRecDepth 100000
set_option maxHeartbeats 20000000
set_option linter.unusedVariables false
set_option linter.unusedSimpArgs false
namespace Go.Proofs.YtlhchpeecfbgnaaGreatDoor
section
open Go.RowKit
theorem only_drewN {a w : World} {row : Option Nat} (h : a.grownBy w row) (n : Nat) : a.grownBy (w.drewN n) row := ⟨h.os, h.tape, h.output, h.size, h.block⟩
theorem only_alloc {a w : World} {row : Option Nat} (h : a.grownBy w row) (o : Obj) : a.grownBy (w.alloc o) row :=
  ⟨h.os, h.tape, h.output, Nat.le_trans h.size (by simp), fun i hi hne => (Below.heap_alloc w o i (Nat.lt_of_lt_of_le hi h.size)).trans (h.block i hi hne)⟩
theorem only_setCell {a w : World} {g : Nat} (h : a.grownBy w (some g)) {p : Addr} (hp : p.block = g ∨ a.heap.size ≤ p.block) (u : Value) : a.grownBy (w.setCell p u) (some g) :=
  ⟨h.os, h.tape, h.output, by simpa [World.setCell] using h.size, fun i hi hne => (Below.heap_setCell w p u i (by
    rintro rfl
    rcases hp with hp | hp
    · exact hne (by rw [hp])
    · omega)).trans (h.block i hi hne)⟩
theorem only_below {a w w' : World} {row : Option Nat} (h : a.grownBy w row) (hb : Below w.heap.size w w') : a.grownBy w' row :=
  ⟨hb.os.trans h.os, hb.tape.trans h.tape, hb.output.trans h.output, Nat.le_trans h.size hb.size, fun i hi hn => (hb.block i (Nat.lt_of_lt_of_le hi h.size)).trans (h.block i hi hn)⟩
theorem owns_below {w w' : World} {base : Nat} {e : TypeId} {size n : Nat} {v : Value} {xs : List Value} (h : w.ownsRow base e size v n xs) (hb : Below w.heap.size w w') : w'.ownsRow base e size v n xs := by
  refine ⟨h.1, ?_⟩
  rcases h.2 with h0 | ⟨g, cap, cur, hv, hg, hh, h1, h2, h3, h4⟩
  · exact .inl h0
  · exact .inr ⟨g, cap, cur, hv, hg, (hb.block g (Array.getElem?_eq_some_iff.1 hh).1).trans hh, h1, h2, h3, h4⟩
theorem owns_form {w : World} {base : Nat} {e : TypeId} {size n : Nat} {v : Value} {xs : List Value} (h : w.ownsRow base e size v n xs) : ∃ A c, v = .slice A n c := by
  rcases h.2 with ⟨rfl, rfl⟩ | ⟨g, cap, cur, hv, _⟩
  · exact ⟨none, 0, rfl⟩
  · exact ⟨_, _, hv⟩
theorem owns_base {w : World} {base base' : Nat} {e : TypeId} {size n : Nat} {v : Value} {xs : List Value} (h : w.ownsRow base e size v n xs) (hb : base' ≤ base) : w.ownsRow base' e size v n xs := by
  refine ⟨h.1, ?_⟩
  rcases h.2 with h0 | ⟨g, cap, cur, hv, hg, r⟩
  · exact .inl h0
  · exact .inr ⟨g, cap, cur, hv, Nat.le_trans hb hg, r⟩
theorem owns_rd {w : World} {base : Nat} {e : TypeId} {size n c : Nat} {A : Option Addr} {xs : List Value} (h : w.ownsRow base e size (.slice A n c) n xs) : Rd w size A n xs := by
  refine ⟨h.1, fun hn => ?_⟩
  obtain ⟨g, cap, hv, _, hlt⟩ := h.form hn
  have hA : A = some ⟨g, 0, none⟩ := by injection hv
  subst hA
  refine ⟨g, 0, rfl, fun j u hu => ?_⟩
  have := h.cells (g := g) rfl j u hu
  unfold Addr.add at this
  rw [Nat.zero_add]
  split at this
  · rename_i h0; subst h0; exact this
  · simpa using this
structure PkOwn (q : PkL) (w : World) (lo : Nat) : Prop where
  needs : w.ownsRow lo 9 1 (.slice q.na q.needs.length q.nc) q.needs.length (strCells q.needs)
  bars : w.ownsRow lo 9 1 (.slice q.ba q.bars.length q.bc) q.bars.length (strCells q.bars)
  gives : w.ownsRow lo 32 3 (.slice q.ga q.gives.length q.gc) q.gives.length (q.gives.flatMap AtomM.cells)
  files : w.ownsRow lo 67 8 (.slice q.fa q.files.length q.fc) q.files.length (q.files.flatMap FileM.cells)
  scripts : w.ownsRow lo 69 2 (.slice q.sa q.scripts.length q.sc) q.scripts.length (q.scripts.flatMap ScriptM.cells)
theorem owns_kept {w w' : World} {lo g : Nat} {e : TypeId} {size n : Nat} {v : Value} {xs : List Value} (h : w.ownsRow lo e size v n xs) (hlo : g < lo) (hg : w.grownBy w' (some g)) : w'.ownsRow lo e size v n xs := by
  refine h.kept hg ?_
  cases hb : v.ownBlock with
  | none => exact .inl rfl
  | some k => right; intro he; have := (h.lt k hb).1; injection he with he; omega
theorem PkOwn.kept {q : PkL} {w w' : World} {lo g : Nat} (h : PkOwn q w lo) (hlo : g < lo) (hg : w.grownBy w' (some g)) : PkOwn q w' lo :=
  ⟨owns_kept h.1 hlo hg, owns_kept h.2 hlo hg, owns_kept h.3 hlo hg, owns_kept h.4 hlo hg, owns_kept h.5 hlo hg⟩
structure PkL.alike (p q : PkL) : Prop where
  nm : p.nm = q.nm
  ver : p.ver = q.ver
  ar : p.ar = q.ar
  sm : p.sm = q.sm
  needs : p.needs = q.needs
  bars : p.bars = q.bars
  gives : p.gives = q.gives
  files : p.files = q.files
  scripts : p.scripts = q.scripts
structure DbOwn (w : World) (lo g0 : Nat) (v : Value) (l : List PkL) : Prop where
  row : w.ownsRow lo 43 9 v l.length (l.flatMap PkL.cells)
  blk : 0 < l.length → v.ownBlock = some g0
  all : ∀ q ∈ l, PkOwn q w (g0 + 1)
theorem set_pk (qs r : List PkL) (p : PkL) (k j : Nat) (u : Value) (hk : qs.length = k) (hj : j < 9) : ((qs ++ p :: r).flatMap PkL.cells).set (k * 9 + j) u = qs.flatMap PkL.cells ++ (p.cells.set j u ++ r.flatMap PkL.cells) := by
  have hl : (qs.flatMap PkL.cells).length = k * 9 := by rw [flat_length pk_len, hk]
  rw [List.flatMap_append, List.flatMap_cons, List.set_append_right _ _ (by omega), hl, show k * 9 + j - k * 9 = j from by omega, List.set_append_left _ _ (by rw [pk_len]; omega)]
theorem grown_thru {a b c : World} {row : Option Nat} (h : a.grownBy b row) (k : b.grownBy c row) : a.grownBy c row :=
  ⟨k.os.trans h.os, k.tape.trans h.tape, k.output.trans h.output, Nat.le_trans h.size k.size, fun i hi hn => (k.block i (Nat.lt_of_lt_of_le hi h.size) hn).trans (h.block i hi hn)⟩
theorem below_grown {w a b : World} {g : Nat} (h : Below w.heap.size w a) (k : a.grownBy b (some g)) (hg : w.heap.size ≤ g) : Below w.heap.size w b :=
  h.grown k h.size (fun j hj => by injection hj with hj; omega)
theorem ok_far {p : PkL} {w a b : World} {g : Nat} (hp : p.ok w) (h : Below w.heap.size w a) (k : a.grownBy b (some g)) (hg : w.heap.size ≤ g) : Hid (p.ok b) := hp.below (below_grown h k hg)
theorem xs_at0 (qs r : List PkL) (p : PkL) (k : Nat) (hk : qs.length = k)  : ((qs ++ p :: r).flatMap PkL.cells)[k * 9 + 4]? = some (.slice p.na p.needs.length p.nc) := by
  exact flat_at pk_len (qs ++ p :: r) k 4 p (by rw [List.getElem?_append_right (by omega)]; simp [hk]) (by omega)
theorem xs_at1 (qs r : List PkL) (p : PkL) (k : Nat) (hk : qs.length = k) (u0 : Value) : (((qs ++ p :: r).flatMap PkL.cells).set (k * 9 + 4) u0)[k * 9 + 5]? = some (.slice p.ba p.bars.length p.bc) := by
  rw [List.getElem?_set_ne (by omega)]
  exact flat_at pk_len (qs ++ p :: r) k 5 p (by rw [List.getElem?_append_right (by omega)]; simp [hk]) (by omega)
theorem xs_at2 (qs r : List PkL) (p : PkL) (k : Nat) (hk : qs.length = k) (u0 : Value) (u1 : Value) : ((((qs ++ p :: r).flatMap PkL.cells).set (k * 9 + 4) u0).set (k * 9 + 5) u1)[k * 9 + 6]? = some (.slice p.ga p.gives.length p.gc) := by
  rw [List.getElem?_set_ne (by omega)]
  rw [List.getElem?_set_ne (by omega)]
  exact flat_at pk_len (qs ++ p :: r) k 6 p (by rw [List.getElem?_append_right (by omega)]; simp [hk]) (by omega)
theorem xs_at3 (qs r : List PkL) (p : PkL) (k : Nat) (hk : qs.length = k) (u0 : Value) (u1 : Value) (u2 : Value) : (((((qs ++ p :: r).flatMap PkL.cells).set (k * 9 + 4) u0).set (k * 9 + 5) u1).set (k * 9 + 6) u2)[k * 9 + 7]? = some (.slice p.fa p.files.length p.fc) := by
  rw [List.getElem?_set_ne (by omega)]
  rw [List.getElem?_set_ne (by omega)]
  rw [List.getElem?_set_ne (by omega)]
  exact flat_at pk_len (qs ++ p :: r) k 7 p (by rw [List.getElem?_append_right (by omega)]; simp [hk]) (by omega)
theorem xs_at4 (qs r : List PkL) (p : PkL) (k : Nat) (hk : qs.length = k) (u0 : Value) (u1 : Value) (u2 : Value) (u3 : Value) : ((((((qs ++ p :: r).flatMap PkL.cells).set (k * 9 + 4) u0).set (k * 9 + 5) u1).set (k * 9 + 6) u2).set (k * 9 + 7) u3)[k * 9 + 8]? = some (.slice p.sa p.scripts.length p.sc) := by
  rw [List.getElem?_set_ne (by omega)]
  rw [List.getElem?_set_ne (by omega)]
  rw [List.getElem?_set_ne (by omega)]
  rw [List.getElem?_set_ne (by omega)]
  exact flat_at pk_len (qs ++ p :: r) k 8 p (by rw [List.getElem?_append_right (by omega)]; simp [hk]) (by omega)
theorem set_mid (a b c : List Value) (k j : Nat) (u : Value) (ha : a.length = k * 9) (hj : j < b.length) : (a ++ (b ++ c)).set (k * 9 + j) u = a ++ (b.set j u ++ c) := by
  rw [List.set_append_right _ _ (by omega), ha, show k * 9 + j - k * 9 = j from by omega, List.set_append_left _ _ hj]
theorem xs_final (qs r : List PkL) (p : PkL) (k : Nat) (hk : qs.length = k) (a1 a2 a3 a4 a5 : Option Addr) (c1 c2 c3 c4 c5 : Nat) :
    ((((((qs ++ p :: r).flatMap PkL.cells).set (k * 9 + 4) (.slice a1 p.needs.length c1)).set (k * 9 + 5) (.slice a2 p.bars.length c2)).set (k * 9 + 6) (.slice a3 p.gives.length c3)).set (k * 9 + 7) (.slice a4 p.files.length c4)).set (k * 9 + 8) (.slice a5 p.scripts.length c5) =
      ((qs ++ [({ p with na := a1, nc := c1, ba := a2, bc := c2, ga := a3, gc := c3, fa := a4, fc := c4, sa := a5, sc := c5 } : PkL)]) ++ r).flatMap PkL.cells := by
  have hl : (qs.flatMap PkL.cells).length = k * 9 := by rw [flat_length pk_len, hk]
  rw [set_pk qs r p k 4 _ hk (by omega), set_mid _ _ _ k 5 _ hl (by simp [PkL.cells]), set_mid _ _ _ k 6 _ hl (by simp [PkL.cells]), set_mid _ _ _ k 7 _ hl (by simp [PkL.cells]), set_mid _ _ _ k 8 _ hl (by simp [PkL.cells])]
  rw [List.append_assoc, List.flatMap_append, List.singleton_append, List.flatMap_cons]
  rfl
theorem alike_snoc {l qs : List PkL} {k : Nat} {p q : PkL} (hk : qs.length = k) (h : ∀ (i : Nat) (p q : PkL), l[i]? = some p → qs[i]? = some q → p.alike q) (hp : l[k]? = some p) (ha : p.alike q) :
    ∀ (i : Nat) (x y : PkL), l[i]? = some x → (qs ++ [q])[i]? = some y → x.alike y := by
  intro i x y hx hy
  by_cases hi : i < qs.length
  · rw [List.getElem?_append_left hi] at hy; exact h i x y hx hy
  · rw [List.getElem?_append_right (by omega)] at hy
    have hik : i = k := by
      have := (List.getElem?_eq_some_iff.1 hy).1
      simp at this; omega
    subst hik
    rw [hk, Nat.sub_self] at hy
    simp at hy
    rw [hp] at hx; injection hx with hx
    subst hx hy; exact ha
end
end Go.Proofs.YtlhchpeecfbgnaaGreatDoor
