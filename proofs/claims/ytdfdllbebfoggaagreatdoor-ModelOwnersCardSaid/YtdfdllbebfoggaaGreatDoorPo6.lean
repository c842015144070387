/- Owners in the reference: paths with their names in memory of the call's own. -/
import Derived.Test.YtdfdllbebfoggaaGreatDoorPo5
namespace Go.Proofs.YtdfdllbebfoggaaGreatDoor
open Go.RowKit

def OwL.ob (x : OwL) : Option Nat := x.sl.ownBlock
structure ROut (w wr : World) (o : Value) (ps : List (ByteArray × ByteArray)) (out : List OwL) : Prop where
  row : wr.ownsRow w.heap.size 55 2 o out.length (out.flatMap OwL.cells)
  names : ∀ x ∈ out, wr.ownsRow w.heap.size 9 1 x.sl x.names.length (strCells x.names)
  nd : (out.map OwL.ob).Nodup
  full : ∀ x ∈ out, x.names ≠ []
  own : Own ps (out.map OwL.pair)
  bel : Below w.heap.size w wr
theorem ROut.start (w : World) : ROut w w (.slice none 0 0) [] [] := ⟨World.ownsRow_nil _ _ _ _, by simp, by simp, by simp, Own.nil, Below.refl _ _⟩
theorem ROut.below {w wr w' : World} {o : Value} {ps : List (ByteArray × ByteArray)} {out : List OwL} (h : ROut w wr o ps out) (hb : Below wr.heap.size wr w') : ROut w w' o ps out :=
  ⟨owns_below h.row hb, fun x hx => owns_below (h.names x hx) hb, h.nd, h.full, h.own, bthen h.bel hb⟩

/-- The paths with their names, the one at which a name is to come between pre and post. -/
structure RMid (w wr : World) (o : Value) (ps : List (ByteArray × ByteArray)) (path : ByteArray) (pre : List OwL) (x : OwL) (post : List OwL) : Prop where
  row : wr.ownsRow w.heap.size 55 2 o (pre ++ x :: post).length ((pre ++ x :: post).flatMap OwL.cells)
  names : ∀ y ∈ pre ++ x :: post, wr.ownsRow w.heap.size 9 1 y.sl y.names.length (strCells y.names)
  nd : ((pre ++ x :: post).map OwL.ob).Nodup
  full : ∀ y ∈ pre ++ post, y.names ≠ []
  own : ∀ nm, Own (ps ++ [(path, nm)]) ((pre ++ { x with names := x.names ++ [nm] } :: post).map OwL.pair)
  bel : Below w.heap.size w wr
theorem RMid.below {w wr w' : World} {o : Value} {ps : List (ByteArray × ByteArray)} {path : ByteArray} {pre : List OwL} {x : OwL} {post : List OwL} (h : RMid w wr o ps path pre x post) (hb : Below wr.heap.size wr w') : RMid w w' o ps path pre x post :=
  ⟨owns_below h.row hb, fun y hy => owns_below (h.names y hy) hb, h.nd, h.full, h.own, bthen h.bel hb⟩

theorem rows_apart {W : World} {b1 b2 : Nat} {e1 e2 : TypeId} {s1 s2 n1 n2 : Nat} {v1 v2 : Value} {x1 x2 : List Value} (h1 : W.ownsRow b1 e1 s1 v1 n1 x1) (h2 : W.ownsRow b2 e2 s2 v2 n2 x2) (hne : e1 ≠ e2) : v1.ownBlock = none ∨ v1.ownBlock ≠ v2.ownBlock := by
  rcases h1.2 with ⟨rfl, _⟩ | ⟨g, cap, cur, rfl, _, hg, _⟩
  · exact .inl rfl
  · exact .inr (ownsRow_ne h2 hg hne)
theorem owns_some {W : World} {b : Nat} {e : TypeId} {s n : Nat} {v : Value} {xs : List Value} (h : W.ownsRow b e s v n xs) (hn : 0 < n) : ∃ g, v.ownBlock = some g ∧ b ≤ g ∧ g < W.heap.size := by
  obtain ⟨g, cap, rfl, h1, h2⟩ := h.form hn
  exact ⟨g, rfl, h1, h2⟩

/-- The path is there. -/
theorem ROut.found {w wr : World} {o : Value} {ps : List (ByteArray × ByteArray)} {out : List OwL} (h : ROut w wr o ps out) {a : Nat} {x : OwL} (hx : out[a]? = some x) : RMid w wr o ps x.path (out.take a) x (out.drop (a + 1)) := by
  obtain ⟨ha, hax⟩ := List.getElem?_eq_some_iff.1 hx
  have e : out.take a ++ x :: out.drop (a + 1) = out := by rw [← hax, ← List.drop_eq_getElem_cons ha, List.take_append_drop]
  refine ⟨by rw [e]; exact h.row, by rw [e]; exact h.names, by rw [e]; exact h.nd, fun y hy => ?_, fun nm => ?_, h.bel⟩
  · rcases List.mem_append.1 hy with hy | hy
    · exact h.full y (List.mem_of_mem_take hy)
    · exact h.full y (List.mem_of_mem_drop hy)
  · have hm : (out.map OwL.pair)[a]? = some (x.path, x.names) := by rw [List.getElem?_map, hx]; rfl
    have := h.own.more (nm := nm) hm
    rw [List.set_eq_take_append_cons_drop, if_pos (by simpa using ha)] at this
    simpa [OwL.pair] using this
/-- A path that is new. -/
theorem ROut.fresh {w wr w' : World} {o o' : Value} {ps : List (ByteArray × ByteArray)} {out : List OwL} (h : ROut w wr o ps out) {a : Nat} {path : ByteArray} (ha : a ≤ out.length)
    (hlt : ∀ (i : Nat) x, out[i]? = some x → i < a → bl x.path < bl path) (hge : ∀ x, out[a]? = some x → ¬ bl x.path < bl path ∧ x.path ≠ path)
    (hrow : w'.ownsRow w.heap.size 55 2 o' (out.length + 1) ((out.take a).flatMap OwL.cells ++ [.string path, .slice none 0 0] ++ (out.drop a).flatMap OwL.cells)) (hb : Below wr.heap.size wr w') :
    RMid w w' o' ps path (out.take a) ⟨path, none, 0, []⟩ (out.drop a) := by
  have hmem : ∀ y ∈ out.take a ++ out.drop a, y ∈ out := fun y hy => by rwa [List.take_append_drop] at hy
  refine ⟨?_, fun y hy => ?_, ?_, fun y hy => h.full y (hmem y hy), fun nm => ?_, bthen h.bel hb⟩
  · have e1 : (out.take a ++ (⟨path, none, 0, []⟩ : OwL) :: out.drop a).length = out.length + 1 := by simp; omega
    rw [e1, List.flatMap_append, List.flatMap_cons]
    simpa [OwL.cells, OwL.sl] using hrow
  · rcases List.mem_append.1 hy with hy | hy
    · exact owns_below (h.names y (List.mem_of_mem_take hy)) hb
    · rcases List.mem_cons.1 hy with rfl | hy
      · exact World.ownsRow_nil _ _ _ _
      · exact owns_below (h.names y (List.mem_of_mem_drop hy)) hb
  · have hs : ∀ y ∈ out, y.ob ≠ none := by
      intro y hy he
      obtain ⟨g, hg, _⟩ := owns_some (h.names y hy) (List.length_pos_iff.2 (h.full y hy))
      rw [OwL.ob, hg] at he; cases he
    have nd := h.nd
    rw [← List.take_append_drop a out, List.map_append, List.nodup_append] at nd
    rw [List.map_append, List.map_cons, List.nodup_append, List.nodup_cons]
    refine ⟨nd.1, ⟨fun hn => ?_, nd.2.1⟩, fun u hu v hv => ?_⟩
    · obtain ⟨y, hy, he⟩ := List.mem_map.1 hn
      exact hs y (List.mem_of_mem_drop hy) he
    · rcases List.mem_cons.1 hv with rfl | hv
      · obtain ⟨y, hy, rfl⟩ := List.mem_map.1 hu
        exact hs y (List.mem_of_mem_take hy)
      · exact nd.2.2 u hu v hv
  · have := h.own.new (k := a) (path := path) (nm := nm) (fun i x hx hi => by
      rw [List.getElem?_map] at hx
      obtain ⟨y, hy, rfl⟩ := Option.map_eq_some_iff.1 hx
      exact hlt i y hy hi) (fun x hx => by
      rw [List.getElem?_map] at hx
      obtain ⟨y, hy, rfl⟩ := Option.map_eq_some_iff.1 hx
      exact hge y hy)
    simpa [OwL.pair, List.map_take, List.map_drop] using this

/-- The name has come. -/
theorem RMid.step {w wr wb w2 : World} {g cap : Nat} {ps : List (ByteArray × ByteArray)} {path nm : ByteArray} {pre : List OwL} {x : OwL} {post : List OwL} {na : Option Addr} {nc : Nat} (h : RMid w wr (.slice (some ⟨g, 0, none⟩) (pre ++ x :: post).length cap) ps path pre x post)
    (gb : wr.grownBy wb none) (o2 : w2.ownsRow w.heap.size 9 1 (.slice na (x.names.length + 1) nc) (x.names.length + 1) (strCells x.names ++ [.string nm])) (g2 : wb.grownBy w2 x.sl.ownBlock)
    (a2 : (Value.slice na (x.names.length + 1) nc).ownBlock = x.sl.ownBlock ∨ (Value.slice na (x.names.length + 1) nc).ownBlock = some wb.heap.size) :
    ROut w (w2.setCell ⟨g, pre.length * 2 + 1, none⟩ (.slice na (x.names.length + 1) nc)) (.slice (some ⟨g, 0, none⟩) (pre ++ x :: post).length cap) (ps ++ [(path, nm)]) (pre ++ { x with na := na, nc := nc, names := x.names ++ [nm] } :: post) := by
  have hrow1 : wb.ownsRow w.heap.size 55 2 (.slice (some ⟨g, 0, none⟩) (pre ++ x :: post).length cap) (pre ++ x :: post).length ((pre ++ x :: post).flatMap OwL.cells) := h.row.kept gb (by right; simp [Value.ownBlock])
  have hxn : wb.ownsRow w.heap.size 9 1 x.sl x.names.length (strCells x.names) := (h.names x (by simp)).kept gb (by
    cases hq : x.sl.ownBlock with
    | none => exact .inl rfl
    | some q => right; simp)
  have hne : some g ≠ x.sl.ownBlock := by
    rcases rows_apart hrow1 hxn (by decide) with h0 | h0
    · simp [Value.ownBlock] at h0
    · simpa [Value.ownBlock] using h0
  have hrow2 := hrow1.kept g2 (.inr (by simpa [Value.ownBlock] using hne))
  have hst := (hrow2.stored (pre.length * 2 + 1) (.slice na (x.names.length + 1) nc)).1
  have hgl := (h.row.lt g rfl)
  have hg2l : g < w2.heap.size := (hrow2.lt g rfl).2
  have ns : w2.grownBy (w2.setCell ⟨g, pre.length * 2 + 1, none⟩ (.slice na (x.names.length + 1) nc)) (some g) := only_setCell (World.grownBy.refl w2 (some g)) (.inl rfl) _
  have hne2 : (Value.slice na (x.names.length + 1) nc).ownBlock ≠ some g := by
    rcases rows_apart o2 hrow2 (by decide) with h0 | h0
    · obtain ⟨q, hq, _⟩ := owns_some o2 (by omega)
      rw [h0] at hq; cases hq
    · exact h0
  have others : ∀ y ∈ pre ++ post, y.ob ≠ x.ob ∧ (w2.setCell ⟨g, pre.length * 2 + 1, none⟩ (.slice na (x.names.length + 1) nc)).ownsRow w.heap.size 9 1 y.sl y.names.length (strCells y.names) := by
    intro y hy
    have hyx : y.ob ≠ x.ob := by
      have nd := h.nd
      rw [List.map_append, List.map_cons, List.nodup_append, List.nodup_cons] at nd
      rcases List.mem_append.1 hy with hy | hy
      · exact nd.2.2 _ (List.mem_map.2 ⟨y, hy, rfl⟩) _ (by simp)
      · intro he
        exact nd.2.1.1 (he ▸ List.mem_map.2 ⟨y, hy, rfl⟩)
    refine ⟨hyx, ?_⟩
    have hyin : y ∈ pre ++ x :: post := by
      rcases List.mem_append.1 hy with hy | hy
      · exact List.mem_append.2 (.inl hy)
      · exact List.mem_append.2 (.inr (List.mem_cons_of_mem _ hy))
    obtain ⟨q, hq, _⟩ := owns_some (h.names y hyin) (List.length_pos_iff.2 (h.full y hy))
    have r1 := (h.names y hyin).kept gb (.inr (by rw [hq]; simp))
    have r2 := r1.kept g2 (.inr hyx)
    refine r2.kept ns (.inr ?_)
    rcases rows_apart r2 hrow2 (by decide) with h0 | h0
    · rw [hq] at h0; cases h0
    · exact h0
  refine ⟨?_, fun y hy => ?_, ?_, fun y hy => ?_, by have := h.own nm; simpa [OwL.pair] using this, ?_⟩
  · have e1 : (pre ++ ({ x with na := na, nc := nc, names := x.names ++ [nm] } : OwL) :: post).length = (pre ++ x :: post).length := by simp
    have e2 : ((pre ++ x :: post).flatMap OwL.cells).set (pre.length * 2 + 1) (.slice na (x.names.length + 1) nc) = (pre ++ ({ x with na := na, nc := nc, names := x.names ++ [nm] } : OwL) :: post).flatMap OwL.cells := by
      have hl : (pre.flatMap OwL.cells).length = pre.length * 2 := flat_length owl_len pre
      rw [List.flatMap_append, List.flatMap_cons, List.flatMap_append, List.flatMap_cons, List.set_append_right _ _ (by omega), hl, show pre.length * 2 + 1 - pre.length * 2 = 1 from by omega, List.set_append_left _ _ (by rw [owl_len]; omega)]
      simp [OwL.cells, OwL.sl]
    rw [e1, ← e2]; exact hst
  · rcases List.mem_append.1 hy with hy | hy
    · exact (others y (List.mem_append.2 (.inl hy))).2
    · rcases List.mem_cons.1 hy with rfl | hy
      · have := o2.kept ns (.inr hne2)
        simpa [OwL.sl, strCells] using this
      · exact (others y (List.mem_append.2 (.inr hy))).2
  · have nd := h.nd
    rw [List.map_append, List.map_cons, List.nodup_append, List.nodup_cons] at nd ⊢
    have hx' : ∀ y ∈ pre ++ post, y.ob ≠ (Value.slice na (x.names.length + 1) nc).ownBlock := by
      intro y hy
      rcases a2 with h1 | h1
      · rw [h1]; exact (others y hy).1
      · rw [h1]
        have hyin : y ∈ pre ++ x :: post := by
          rcases List.mem_append.1 hy with hy | hy
          · exact List.mem_append.2 (.inl hy)
          · exact List.mem_append.2 (.inr (List.mem_cons_of_mem _ hy))
        obtain ⟨q, hq, _, hql⟩ := owns_some (h.names y hyin) (List.length_pos_iff.2 (h.full y hy))
        rw [OwL.ob, hq]
        intro he; injection he with he
        have := gb.size; omega
    have ex : OwL.ob { x with na := na, nc := nc, names := x.names ++ [nm] } = (Value.slice na (x.names.length + 1) nc).ownBlock := by simp [OwL.ob, OwL.sl]
    rw [ex]
    refine ⟨nd.1, ⟨fun hn => ?_, nd.2.1.2⟩, fun u hu v hv => ?_⟩
    · obtain ⟨y, hy, he⟩ := List.mem_map.1 hn
      exact hx' y (List.mem_append.2 (.inr hy)) he
    · rcases List.mem_cons.1 hv with rfl | hv
      · obtain ⟨y, hy, rfl⟩ := List.mem_map.1 hu
        exact hx' y (List.mem_append.2 (.inl hy))
      · exact nd.2.2 u hu v (List.mem_cons_of_mem _ hv)
  · rcases List.mem_append.1 hy with hy | hy
    · exact h.full y (List.mem_append.2 (.inl hy))
    · rcases List.mem_cons.1 hy with rfl | hy
      · simp
      · exact h.full y (List.mem_append.2 (.inr hy))
  · have b1 := h.bel.grown gb h.bel.size (fun j hj => by cases hj)
    have b2 := b1.grown g2 b1.size (fun j hj => (hxn.lt j hj).1)
    exact b2.grown ns b2.size (fun j hj => by injection hj with hj; omega)
end Go.Proofs.YtdfdllbebfoggaaGreatDoor
