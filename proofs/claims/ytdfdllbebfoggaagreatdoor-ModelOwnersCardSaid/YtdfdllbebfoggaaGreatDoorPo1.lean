/- Which packages have which paths: the law with no program in sight. -/
import Derived.Test.YtdfdllbebfoggaaGreatDoorPlain
namespace Go.Proofs.YtdfdllbebfoggaaGreatDoor

theorem lt_irr (a : List UInt8) : ¬ a < a := List.lt_irrefl a
theorem lt_tr {a b c : List UInt8} (h : a < b) (k : b < c) : a < c := List.lt_trans h k
theorem lt_of_not {a b : List UInt8} (h : ¬ a < b) (hne : a ≠ b) : b < a := by
  have h1 : b ≤ a := h
  by_cases hb : b < a
  · exact hb
  · exact absurd (List.le_antisymm (show a ≤ b from hb) h1) hne

/-- Lists in strict order that have the same members are one. -/
theorem sorted_unique : ∀ (l m : List ByteArray), l.Pairwise (fun s t => bl s < bl t) → m.Pairwise (fun s t => bl s < bl t) → (∀ s, s ∈ l ↔ s ∈ m) → l = m
  | [], [], _, _, _ => rfl
  | [], b :: m, _, _, h => absurd ((h b).2 (by simp)) (by simp)
  | a :: l, [], _, _, h => absurd ((h a).1 (by simp)) (by simp)
  | a :: l, b :: m, h1, h2, h => by
    rw [List.pairwise_cons] at h1 h2
    have hab : a = b := by
      rcases List.mem_cons.1 ((h a).1 (by simp)) with rfl | ha
      · rfl
      rcases List.mem_cons.1 ((h b).2 (by simp)) with hb | hb
      · exact hb.symm
      exact absurd (lt_tr (h1.1 b hb) (h2.1 a ha)) (lt_irr _)
    subst hab
    congr 1
    refine sorted_unique l m h1.2 h2.2 fun s => ⟨fun hs => ?_, fun hs => ?_⟩
    · rcases List.mem_cons.1 ((h s).1 (List.mem_cons_of_mem _ hs)) with rfl | h'
      · exact absurd (h1.1 s hs) (lt_irr _)
      · exact h'
    · rcases List.mem_cons.1 ((h s).2 (List.mem_cons_of_mem _ hs)) with rfl | h'
      · exact absurd (h2.1 s hs) (lt_irr _)
      · exact h'

/-- The names that path s has, in the order in which they came. -/
def nms (ps : List (ByteArray × ByteArray)) (s : ByteArray) : List ByteArray := (ps.filter (fun p => decide (p.1 = s))).map (·.2)
theorem nms_snoc (ps : List (ByteArray × ByteArray)) (s t nm : ByteArray) : nms (ps ++ [(t, nm)]) s = if t = s then nms ps s ++ [nm] else nms ps s := by
  unfold nms
  by_cases h : t = s <;> simp [h]
theorem nms_none {ps : List (ByteArray × ByteArray)} {s : ByteArray} (h : s ∉ ps.map (·.1)) : nms ps s = [] := by
  unfold nms
  rw [List.map_eq_nil_iff, List.filter_eq_nil_iff]
  intro p hp he
  exact h (List.mem_map.2 ⟨p, hp, by simpa using he⟩)
theorem nms_some {ps : List (ByteArray × ByteArray)} {s : ByteArray} (h : s ∈ ps.map (·.1)) : nms ps s ≠ [] := by
  obtain ⟨p, hp, rfl⟩ := List.mem_map.1 h
  unfold nms
  intro h0
  rw [List.map_eq_nil_iff, List.filter_eq_nil_iff] at h0
  exact h0 p hp (by simp)
theorem nms_length (ps : List (ByteArray × ByteArray)) (s : ByteArray) : (nms ps s).length ≤ ps.length := by
  unfold nms; rw [List.length_map]; exact List.length_filter_le _ _

/-- out is what the pairs (path, name) come to: path by path in order, each with its names. -/
structure Own (ps : List (ByteArray × ByteArray)) (out : List (ByteArray × List ByteArray)) : Prop where
  sorted : (out.map (·.1)).Pairwise (fun s t => bl s < bl t)
  mem : ∀ s, s ∈ out.map (·.1) ↔ s ∈ ps.map (·.1)
  names : ∀ x ∈ out, x.2 = nms ps x.1
theorem Own.nil : Own [] [] := ⟨by simp, by simp, by simp⟩
theorem map_of_names {f : ByteArray → List ByteArray} : ∀ (a : List (ByteArray × List ByteArray)), (∀ x ∈ a, x.2 = f x.1) → a = (a.map (·.1)).map fun s => (s, f s)
  | [], _ => rfl
  | x :: r, h => by
    have h1 := h x (by simp)
    have h2 := map_of_names r fun y hy => h y (List.mem_cons_of_mem _ hy)
    simp only [List.map_cons]
    rw [← h2, ← h1]
theorem Own.unique {ps : List (ByteArray × ByteArray)} {a b : List (ByteArray × List ByteArray)} (h : Own ps a) (k : Own ps b) : a = b := by
  rw [map_of_names a h.names, map_of_names b k.names, sorted_unique _ _ h.sorted k.sorted fun s => (h.mem s).trans (k.mem s).symm]
theorem length_le_of_nodup : ∀ (l m : List (List UInt8)), l.Nodup → (∀ s ∈ l, s ∈ m) → l.length ≤ m.length
  | [], _, _, _ => Nat.zero_le _
  | a :: l, m, hn, h => by
    rw [List.nodup_cons] at hn
    have ha := h a (by simp)
    have := length_le_of_nodup l (m.erase a) hn.2 fun s hs => (List.mem_erase_of_ne (fun (he : s = a) => hn.1 (by rw [← he]; exact hs))).2 (h s (List.mem_cons_of_mem _ hs))
    rw [List.length_erase_of_mem ha] at this
    have hm : 0 < m.length := List.length_pos_of_mem ha
    simp only [List.length_cons]; omega
theorem Own.length_le {ps : List (ByteArray × ByteArray)} {a : List (ByteArray × List ByteArray)} (h : Own ps a) : a.length ≤ ps.length := by
  have hnd : (a.map fun x => bl x.1).Nodup := by
    have h0 := h.sorted
    rw [List.pairwise_map] at h0
    exact List.pairwise_map.2 (h0.imp fun {x y} hxy he => by rw [he] at hxy; exact lt_irr _ hxy)
  have := length_le_of_nodup _ (ps.map fun x => bl x.1) hnd (fun s hs => by
    obtain ⟨x, hx, rfl⟩ := List.mem_map.1 hs
    obtain ⟨y, hy, hxy⟩ := List.mem_map.1 ((h.mem x.1).1 (List.mem_map.2 ⟨x, hx, rfl⟩))
    exact List.mem_map.2 ⟨y, hy, by rw [hxy]⟩)
  simpa using this

/-- A name for a path that is there. -/
theorem Own.more {ps : List (ByteArray × ByteArray)} {out : List (ByteArray × List ByteArray)} (h : Own ps out) {i : Nat} {path nm : ByteArray} {ns : List ByteArray} (hi : out[i]? = some (path, ns)) :
    Own (ps ++ [(path, nm)]) (out.set i (path, ns ++ [nm])) := by
  have hlt : i < out.length := (List.getElem?_eq_some_iff.1 hi).1
  have hget : out[i] = (path, ns) := (List.getElem?_eq_some_iff.1 hi).2
  have hmap : (out.set i (path, ns ++ [nm])).map (·.1) = out.map (·.1) := by
    rw [List.map_set]
    apply List.ext_getElem (by simp)
    intro j hj1 hj2
    rw [List.getElem_set]
    split
    · rename_i hij; subst hij; simp [hget]
    · rfl
  have hin : path ∈ out.map (·.1) := List.mem_map.2 ⟨_, List.mem_of_getElem? hi, rfl⟩
  refine ⟨by rw [hmap]; exact h.sorted, fun s => ?_, fun x hx => ?_⟩
  · rw [hmap, h.mem s, List.map_append, List.mem_append]
    refine ⟨.inl, fun hs => hs.elim id fun hs => ?_⟩
    simp at hs; subst hs
    exact (h.mem s).1 hin
  · obtain ⟨j, hj, hxj⟩ := List.mem_iff_getElem.1 hx
    rw [List.getElem_set] at hxj
    rw [List.length_set] at hj
    split at hxj
    · subst hxj
      rw [nms_snoc, if_pos rfl, ← h.names _ (List.mem_of_getElem? hi)]
    · rename_i hij
      have hxo : x ∈ out := hxj ▸ List.getElem_mem hj
      have hne : path ≠ x.1 := by
        intro he
        have hp := List.pairwise_iff_getElem.1 h.sorted
        have e1 : (out.map (·.1))[i]'(by simpa using hlt) = path := by simp [hget]
        have e2 : (out.map (·.1))[j]'(by simpa using hj) = path := by simp [hxj, he]
        rcases Nat.lt_or_gt_of_ne hij with hl | hl
        · have := hp i j (by simpa using hlt) (by simpa using hj) hl
          rw [e1, e2] at this; exact lt_irr _ this
        · have := hp j i (by simpa using hj) (by simpa using hlt) hl
          rw [e1, e2] at this; exact lt_irr _ this
      rw [nms_snoc, if_neg hne]
      exact h.names x hxo

/-- A path that is new. -/
theorem Own.new {ps : List (ByteArray × ByteArray)} {out : List (ByteArray × List ByteArray)} (h : Own ps out) {k : Nat} {path nm : ByteArray} (hlt : ∀ (i : Nat) x, out[i]? = some x → i < k → bl x.1 < bl path)
    (hge : ∀ x, out[k]? = some x → ¬ bl x.1 < bl path ∧ x.1 ≠ path) : Own (ps ++ [(path, nm)]) (out.take k ++ (path, [nm]) :: out.drop k) := by
  have hl : ∀ x ∈ out.take k, bl x.1 < bl path := by
    intro x hx
    obtain ⟨i, hi, rfl⟩ := List.mem_iff_getElem.1 hx
    rw [List.length_take] at hi
    rw [List.getElem_take]
    exact hlt i _ (List.getElem?_eq_getElem (by omega)) (by omega)
  have hs := h.sorted
  rw [← List.take_append_drop k out, List.map_append, List.pairwise_append] at hs
  have hr : ∀ x ∈ out.drop k, bl path < bl x.1 := by
    cases hd : out.drop k with
    | nil => simp
    | cons y r =>
      have hy : out[k]? = some y := by
        have : (out.drop k)[0]? = some y := by rw [hd]; rfl
        rw [List.getElem?_drop] at this; simpa using this
      obtain ⟨h1, h2⟩ := hge y hy
      have hyl : bl path < bl y.1 := lt_of_not h1 fun he => h2 (bl_inj he)
      intro x hx
      rcases List.mem_cons.1 hx with rfl | hx
      · exact hyl
      · have := hs.2.1
        rw [hd, List.map_cons, List.pairwise_cons] at this
        exact lt_tr hyl (this.1 x.1 (List.mem_map.2 ⟨x, hx, rfl⟩))
  have hnot : path ∉ out.map (·.1) := by
    intro hp
    obtain ⟨x, hx, rfl⟩ := List.mem_map.1 hp
    rw [← List.take_append_drop k out] at hx
    rcases List.mem_append.1 hx with hx | hx
    · exact lt_irr _ (hl x hx)
    · exact lt_irr _ (hr x hx)
  have hnp : path ∉ ps.map (·.1) := fun hp => hnot ((h.mem path).2 hp)
  refine ⟨?_, fun s => ?_, fun x hx => ?_⟩
  · rw [List.map_append, List.map_cons, List.pairwise_append]
    refine ⟨hs.1, ?_, ?_⟩
    · rw [List.pairwise_cons]
      refine ⟨fun t ht => ?_, hs.2.1⟩
      obtain ⟨x, hx, rfl⟩ := List.mem_map.1 ht
      exact hr x hx
    · intro a ha b hb
      obtain ⟨x, hx, rfl⟩ := List.mem_map.1 ha
      rcases List.mem_cons.1 hb with rfl | hb
      · exact hl x hx
      · exact hs.2.2 _ (List.mem_map.2 ⟨x, hx, rfl⟩) _ hb
  · rw [List.map_append, List.map_append, List.mem_append, List.mem_append, ← h.mem s]
    conv => rhs; rw [← List.take_append_drop k out, List.map_append, List.mem_append]
    simp only [List.map_cons, List.mem_cons, List.map_nil, List.not_mem_nil, or_false]
    constructor
    · rintro (h1 | rfl | h1)
      · exact .inl (.inl h1)
      · exact .inr rfl
      · exact .inl (.inr h1)
    · rintro ((h1 | h1) | rfl)
      · exact .inl h1
      · exact .inr (.inr h1)
      · exact .inr (.inl rfl)
  · rcases List.mem_append.1 hx with hx | hx
    · have hxo : x ∈ out := List.mem_of_mem_take hx
      rw [nms_snoc, if_neg (fun (he : path = x.1) => hnot (List.mem_map.2 ⟨x, hxo, he.symm⟩))]
      exact h.names x hxo
    · rcases List.mem_cons.1 hx with rfl | hx
      · rw [nms_snoc, if_pos rfl, nms_none hnp]; rfl
      · have hxo : x ∈ out := List.mem_of_mem_drop hx
        rw [nms_snoc, if_neg (fun (he : path = x.1) => hnot (List.mem_map.2 ⟨x, hxo, he.symm⟩))]
        exact h.names x hxo
end Go.Proofs.YtdfdllbebfoggaaGreatDoor
