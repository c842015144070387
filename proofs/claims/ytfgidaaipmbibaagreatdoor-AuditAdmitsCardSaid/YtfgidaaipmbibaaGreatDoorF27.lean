/- A part of the proof of a law on which findings a policy admits. No condition. -/
import Derived.Test.YtfgidaaipmbibaaGreatDoorF13
import Derived.Test.YtfgidaaipmbibaaGreatDoorF19
import Derived.Test.YtfgidaaipmbibaaGreatDoorF26
set_option maxRecDepth 100000
set_option maxHeartbeats 20000000
set_option linter.unusedVariables false
set_option linter.unusedSimpArgs false
namespace Go.Proofs.YtfgidaaipmbibaaGreatDoor
section
open Go.RowKit Go.Maps
theorem MapIs.drew {w : World} {b n : Nat} {f : ByteArray → Option Value} (h : MapIs w b n f) : MapIs w.drew b n f := h.kept (row := none) ⟨rfl, rfl, rfl, Nat.le_refl _, fun _ _ _ => rfl⟩ (by simp)
theorem MapIs.alloc {w : World} {b n : Nat} {f : ByteArray → Option Value} (h : MapIs w b n f) (o : Obj) : MapIs (w.alloc o) b n f := h.kept (World.grownBy_alloc w o none) (by simp)
theorem MapIs.keys {w : World} {b n : Nat} {f : ByteArray → Option Value} (h : MapIs w b n f) :
    ∃ D : DataW Value, w.ownsMap Tryz.prog 9 RV b n D ∧ Maps.size D ≤ n ∧ (strKeys D).Nodup ∧ (∀ x ∈ strKeys D, x.length ≤ maxLen ∧ (f ⟨x.toArray⟩).isSome = true) ∧ ∀ s : ByteArray, s.size ≤ maxLen → (f s).isSome = true → bl s ∈ strKeys D := by
  obtain ⟨D, h1, h2⟩ := h
  refine ⟨D, h1, h1.size_le, ?_, ?_, ?_⟩
  all_goals
    obtain ⟨es, hD, hpw, _⟩ := h1.entries strKeyed
    obtain ⟨es', hD', hko⟩ := h1.keysOf
    obtain rfl : es = es' := by rw [hD] at hD'; simpa using hD'
    have hstr : ∀ p ∈ es, ∃ x : List UInt8, p.1 = .string x ∧ x.length ≤ maxLen := fun p hp => by obtain ⟨v, hv⟩ := hko p hp; obtain ⟨x, _, hx, hl⟩ := Maps.keyOf_str Tryz.underlying9 hv; exact ⟨x, hx, hl⟩
  · rw [hD]
    show (es.map fun p => strOf p.1).Nodup
    refine List.pairwise_map.2 (hpw.imp_of_mem fun {p q} hp' hq' hne e => hne ?_)
    obtain ⟨a, ha, _⟩ := hstr p hp'
    obtain ⟨c, hc, _⟩ := hstr q hq'
    rw [ha, hc] at e ⊢
    exact congrArg _ e
  · intro x hx
    rw [hD] at hx
    obtain ⟨p, hp, rfl⟩ := List.mem_map.1 hx
    obtain ⟨a, ha, hal⟩ := hstr p hp
    rw [ha]
    refine ⟨hal, ?_⟩
    have h3 := (h2 ⟨a.toArray⟩ (by simpa [ByteArray.size] using hal)).1
    show (f ⟨a.toArray⟩).isSome = true
    rw [← h3, hD, has_eq, List.any_eq_true]
    exact ⟨p, hp, by rw [ha]; simp [Lit.sameKey, kl]⟩
  · intro s hs hf
    have h3 := (h2 s hs).1
    rw [hf, hD, has_eq, List.any_eq_true] at h3
    obtain ⟨p, hp, hsame⟩ := h3
    obtain ⟨a, ha, _⟩ := hstr p hp
    rw [ha] at hsame
    rw [hD]
    refine List.mem_map.2 ⟨p, hp, ?_⟩
    rw [ha]
    have : a = s.data.toList := by simpa [Lit.sameKey, kl] using hsame
    rw [this]; rfl
structure Grp (w wr : World) (ps : List (ByteArray × ByteArray)) (f : ByteArray → Option Value) : Prop where
  names : MapIs wr w.heap.size ps.length f
  dom : ∀ s, f s = none ↔ s ∉ ps.map (·.1)
  row : ∀ s v, f s = some v → wr.ownsRow (w.heap.size + 2) 9 1 v (nms ps s).length (strCells (nms ps s))
  apart : ∀ s t v u, f s = some v → f t = some u → s ≠ t → v.ownBlock ≠ u.ownBlock
structure Last (i : Nat) (T : List ByteArray) (g : ByteArray → Option Value) : Prop where
  val : ∀ s v, g s = some v → ∃ j : Nat, v = .int .i64 j ∧ (j = i ∧ s ∈ T ∨ j < i ∧ s ∉ T)
  mem : ∀ s, s ∈ T → g s ≠ none
structure OSt (w wr : World) (i : Nat) (T : List ByteArray) (ps : List (ByteArray × ByteArray)) (f g : ByteArray → Option Value) : Prop where
  grp : Grp w wr ps f
  last : MapIs wr (w.heap.size + 1) ps.length g
  lst : Last i T g
  bel : Below w.heap.size w wr
  sz : w.heap.size + 2 ≤ wr.heap.size
theorem Grp.below {w wr w' : World} {ps : List (ByteArray × ByteArray)} {f : ByteArray → Option Value} (h : Grp w wr ps f) (hb : Below wr.heap.size wr w') : Grp w w' ps f :=
  ⟨h.names.below hb, h.dom, fun s v hv => owns_below (h.row s v hv) hb, h.apart⟩
theorem OSt.below {w wr w' : World} {i : Nat} {T : List ByteArray} {ps : List (ByteArray × ByteArray)} {f g : ByteArray → Option Value} (h : OSt w wr i T ps f g) (hb : Below wr.heap.size wr w') : OSt w w' i T ps f g :=
  ⟨h.grp.below hb, h.last.below hb, h.lst, bthen h.bel hb, Nat.le_trans h.sz hb.size⟩
theorem OSt.alloc {w wr : World} {i : Nat} {T : List ByteArray} {ps : List (ByteArray × ByteArray)} {f g : ByteArray → Option Value} (h : OSt w wr i T ps f g) (o : Obj) : OSt w (wr.alloc o) i T ps f g :=
  h.below ((Below.refl _ _).alloc (Nat.le_refl _) o)
theorem OSt.start (w : World) : OSt w ((w.alloc (.map #[] 0)).alloc (.map #[] 0)) 0 [] [] (fun _ => none) (fun _ => none) := by
  refine ⟨⟨(MapIs.made w).alloc _, by simp, by simp, by simp⟩, ?_, ⟨by simp, by simp⟩, ((Below.refl _ _).alloc (Nat.le_refl _) _).alloc (by simp) _, by simp⟩
  have := MapIs.made (w.alloc (.map #[] 0))
  simpa using this
theorem OSt.next {w wr : World} {i : Nat} {T : List ByteArray} {ps : List (ByteArray × ByteArray)} {f g : ByteArray → Option Value} (h : OSt w wr i T ps f g) : OSt w wr (i + 1) [] ps f g :=
  ⟨h.grp, h.last, ⟨fun s v hv => by
    obtain ⟨j, rfl, hj⟩ := h.lst.val s v hv
    exact ⟨j, rfl, .inr ⟨by omega, by simp⟩⟩, by simp⟩, h.bel, h.sz⟩
theorem ownsRow_ne {W : World} {base : Nat} {e t : TypeId} {size n b : Nat} {v : Value} {xs : List Value} {cs : Array Value} {fr : Nat × Nat} (h : W.ownsRow base e size v n xs) (hb : W.heap[b]? = some (.cells cs t fr)) (hne : t ≠ e) : some b ≠ v.ownBlock := by
  intro he
  rcases h.2 with ⟨rfl, _⟩ | ⟨g, cap, cur, rfl, _, hg, _⟩
  · simp [Value.ownBlock] at he
  · simp [Value.ownBlock] at he
    subst he
    rw [hb] at hg
    injection hg with hg
    injection hg with _ h2 _
    exact hne h2
theorem Grp.at_ {w wr : World} {ps : List (ByteArray × ByteArray)} {f : ByteArray → Option Value} (h : Grp w wr ps f) (s : ByteArray) : wr.ownsRow (w.heap.size + 2) 9 1 ((f s).getD (.slice none 0 0)) (nms ps s).length (strCells (nms ps s)) := by
  cases hf : f s with
  | none =>
    rw [nms_none ((h.dom s).1 hf)]
    exact World.ownsRow_nil _ _ _ _
  | some v => exact h.row s v hf
theorem Grp.block {w wr : World} {ps : List (ByteArray × ByteArray)} {f : ByteArray → Option Value} (h : Grp w wr ps f) {s : ByteArray} {v : Value} (hv : f s = some v) : ∃ g, v.ownBlock = some g ∧ w.heap.size + 2 ≤ g ∧ g < wr.heap.size := by
  have hin : s ∈ ps.map (·.1) := by
    by_cases hn : s ∈ ps.map (·.1)
    · exact hn
    · rw [(h.dom s).2 hn] at hv; cases hv
  have hpos : 0 < (nms ps s).length := List.length_pos_iff.2 (nms_some hin)
  obtain ⟨g, cap, rfl, h1, h2⟩ := (h.row s v hv).form hpos
  exact ⟨g, rfl, h1, h2⟩
theorem OSt.step {w wa w1 wb w2 w3 : World} {i : Nat} {T : List ByteArray} {ps : List (ByteArray × ByteArray)} {f g : ByteArray → Option Value} {s nm : ByteArray} {v1 : Value} (h : OSt w wa i T ps f g)
    (m1 : MapIs w1 (w.heap.size + 1) (ps.length + 1) (fun x => if x = s then some (.int .i64 i) else g x)) (g1 : wa.grownBy w1 (some (w.heap.size + 1))) (gb : w1.grownBy wb none)
    (o2 : w2.ownsRow (w.heap.size + 2) 9 1 v1 ((nms ps s).length + 1) (strCells (nms ps s) ++ [.string nm])) (g2 : wb.grownBy w2 ((f s).getD (.slice none 0 0)).ownBlock)
    (a2 : v1.ownBlock = ((f s).getD (.slice none 0 0)).ownBlock ∨ v1.ownBlock = some wb.heap.size)
    (m3 : MapIs w3 w.heap.size (ps.length + 1) (fun x => if x = s then some v1 else f x)) (g3 : w2.grownBy w3 (some w.heap.size)) :
    OSt w w3 i (T ++ [s]) (ps ++ [(s, nm)]) (fun x => if x = s then some v1 else f x) (fun x => if x = s then some (.int .i64 i) else g x) := by
  have z1 := g1.size; have z2 := gb.size; have z3 := g2.size; have z4 := g3.size; have z0 := h.sz
  have far : ∀ k, ((f s).getD (.slice none 0 0)).ownBlock = some k → w.heap.size + 2 ≤ k := by
    intro k hk
    cases hf : f s with
    | none => rw [hf] at hk; simp [Value.ownBlock] at hk
    | some v =>
      rw [hf] at hk
      obtain ⟨k', hk', hle, _⟩ := h.grp.block hf
      simp only [Option.getD_some] at hk
      rw [hk'] at hk; injection hk with hk; omega
  have v1b : ∃ k, v1.ownBlock = some k ∧ w.heap.size + 2 ≤ k := by
    obtain ⟨k, cap, rfl, hle, _⟩ := o2.form (by omega)
    exact ⟨k, rfl, hle⟩
  refine ⟨⟨by rw [List.length_append]; exact m3, fun x => ?_, fun x v hv => ?_, fun x y v u hv hu hne => ?_⟩, ?_, ⟨fun x v hv => ?_, fun x hx => ?_⟩, ?_, by omega⟩
  · by_cases hx : x = s
    · subst hx; simp
    · rw [if_neg hx, h.grp.dom x]
      simp [hx]
  · by_cases hx : x = s
    · subst hx
      simp only [if_pos] at hv; injection hv with hv; subst hv
      rw [nms_snoc, if_pos rfl, List.length_append, List.length_singleton]
      have o3 := o2.kept g3 (by
        right
        obtain ⟨k, hk, hle⟩ := v1b
        rw [hk]; intro he; injection he with he; omega)
      have e : strCells (nms ps x ++ [nm]) = strCells (nms ps x) ++ [.string nm] := by simp [strCells]
      rw [e]; exact o3
    · simp only [if_neg hx] at hv
      rw [nms_snoc, if_neg (fun he => hx he.symm)]
      obtain ⟨k, hk, hle, hlt⟩ := h.grp.block hv
      have r0 := h.grp.row x v hv
      have r1 := r0.kept g1 (by right; rw [hk]; intro he; injection he with he; omega)
      have r2 := r1.kept gb (by right; rw [hk]; simp)
      have r3 := r2.kept g2 (by
        right
        cases hf : f s with
        | none => rw [hk]; simp [Value.ownBlock]
        | some v0 => simp only [Option.getD_some]; exact h.grp.apart x s v v0 hv hf hx)
      exact r3.kept g3 (by right; rw [hk]; intro he; injection he with he; omega)
  · have new : ∀ t u', f t = some u' → t ≠ s → v1.ownBlock ≠ u'.ownBlock := by
      intro t u' hu' ht
      obtain ⟨k, hk, hle, hlt⟩ := h.grp.block hu'
      rcases a2 with ha | ha
      · rw [ha]
        cases hf : f s with
        | none => rw [hk]; simp [Value.ownBlock]
        | some v0 => simp only [Option.getD_some]; exact h.grp.apart s t v0 u' hf hu' (Ne.symm ht)
      · rw [ha, hk]; intro he; injection he with he; omega
    by_cases hx : x = s
    · have hy : y ≠ s := fun he => hne (hx.trans he.symm)
      simp only [if_pos hx] at hv; simp only [if_neg hy] at hu
      injection hv with hv; subst hv
      exact new y u hu hy
    · simp only [if_neg hx] at hv
      by_cases hy : y = s
      · simp only [if_pos hy] at hu; injection hu with hu; subst hu
        exact Ne.symm (new x v hv hx)
      · simp only [if_neg hy] at hu
        exact h.grp.apart x y v u hv hu hne
  · rw [List.length_append]
    have k1 := m1.kept gb (by simp)
    have k2 := k1.kept g2 (fun he => by have := far _ he.symm; omega)
    exact k2.kept g3 (by intro he; injection he with he; omega)
  · by_cases hx : x = s
    · subst hx
      simp only [if_pos] at hv; injection hv with hv; subst hv
      exact ⟨i, rfl, .inl ⟨rfl, by simp⟩⟩
    · simp only [if_neg hx] at hv
      obtain ⟨j, rfl, hj⟩ := h.lst.val x v hv
      refine ⟨j, rfl, ?_⟩
      rcases hj with ⟨h1, h2⟩ | ⟨h1, h2⟩
      · exact .inl ⟨h1, by simp [h2]⟩
      · exact .inr ⟨h1, by simp [h2, hx]⟩
  · by_cases hxs : x = s
    · simp [hxs]
    · simp only [if_neg hxs]
      exact h.lst.mem x (by simpa [hxs] using hx)
  · have b1 := h.bel.grown g1 h.bel.size (fun j hj => by injection hj with hj; omega)
    have b2 := b1.grown gb b1.size (fun j hj => by cases hj)
    have b3 := b2.grown g2 b2.size (fun j hj => by have := far j hj; omega)
    exact b3.grown g3 b3.size (fun j hj => by injection hj with hj; omega)
theorem prs_take_length (l : List PkL) (k : Nat) : (prs (l.take k)).length ≤ (prs l).length := by
  conv => rhs; rw [← List.take_append_drop k l]
  unfold prs; rw [List.flatMap_append, List.length_append]; omega
theorem dd_take : ∀ (b a : List ByteArray), (dd a).length ≤ (dd (a ++ b)).length
  | [], a => by simp
  | x :: b, a => by
    have h1 := dd_take b (a ++ [x])
    have h2 : (dd a).length ≤ (dd (a ++ [x])).length := by rw [dd_snoc]; split <;> simp
    rw [List.append_assoc, List.singleton_append] at h1
    omega
theorem pPrs_take_length (fs : List FileM) (nm : ByteArray) (m : Nat) : (pPrs (fs.take m) nm).length ≤ (pPrs fs nm).length := by
  unfold pPrs
  rw [List.length_map, List.length_map]
  conv => rhs; rw [← List.take_append_drop m fs]
  rw [show fpaths (fs.take m ++ fs.drop m) = fpaths (fs.take m) ++ fpaths (fs.drop m) by simp [fpaths]]
  exact dd_take _ _
theorem reads_new2 (w : World) (x y : Value) : Reads (w.alloc (.cells #[x, y] 59)) (w.heap.size + 1) 2 (some ⟨w.heap.size, 0, none⟩) 1 [x, y] := by
  refine ⟨rfl, fun _ => ⟨_, rfl, by simp, fun j u hu => ?_⟩⟩
  match j, hu with
  | 0, hu => simp at hu; subst hu; simp [Addr.add]
  | 1, hu => simp at hu; subst hu; simp [Addr.add]
  | j + 2, hu => simp at hu
theorem info_Owned : (Tryz.prog.info? 59).map (fun i => (i.zero, i.size, i.bytes)) = some (some (.agg #[.string ⟨#[]⟩, .slice none 0 0]), 2, 40) := by kernel_rfl
theorem reads_new1 (w : World) (s : ByteArray) : Reads (w.alloc (.cells #[.string s] 9)).drew (w.heap.size + 1) 1 (some ⟨w.heap.size, 0, none⟩) 1 [.string s] := by
  refine ⟨rfl, fun _ => ⟨_, rfl, by simp, fun j u hu => ?_⟩⟩
  cases j with
  | zero => simp at hu; subst hu; simp [Addr.add]
  | succ j => simp at hu
def baOf (x : List UInt8) : ByteArray := ⟨x.toArray⟩
theorem bl_baOf (x : List UInt8) : bl (baOf x) = x := by simp [bl, baOf]
theorem baOf_bl (s : ByteArray) : baOf (bl s) = s := by apply bl_inj; rw [bl_baOf]
theorem sorted_keys {ss K : List (List UInt8)} (hp : ss.Perm K) (hn : K.Nodup) : ((ss.mergeSort leB).map baOf).Pairwise (fun s t => bl s < bl t) ∧ ∀ s : ByteArray, s ∈ (ss.mergeSort leB).map baOf ↔ bl s ∈ K := by
  have tr : ∀ a b c : List UInt8, leB a b = true → leB b c = true → leB a c = true := fun a b c h1 h2 => by simp only [leB, decide_eq_true_eq] at *; exact List.le_trans h1 h2
  have tot : ∀ a b : List UInt8, (leB a b || leB b a) = true := fun a b => by simp only [leB, Bool.or_eq_true, decide_eq_true_eq]; exact List.le_total a b
  have hperm : (ss.mergeSort leB).Perm K := (List.mergeSort_perm ss leB).trans hp
  have hnd : (ss.mergeSort leB).Nodup := hperm.symm.nodup hn
  have hs := List.pairwise_mergeSort tr tot ss
  refine ⟨List.pairwise_map.2 ((hs.and hnd).imp fun {a b} hab => ?_), fun s => ?_⟩
  · rw [bl_baOf, bl_baOf]
    obtain ⟨h1, h2⟩ := hab
    have h1 : a ≤ b := by simpa using h1
    exact lt_of_not (fun h => h1 h) (fun h => h2 h.symm)
  · rw [List.mem_map]
    constructor
    · rintro ⟨a, ha, rfl⟩; rw [bl_baOf]; exact hperm.mem_iff.1 ha
    · intro h; exact ⟨bl s, hperm.mem_iff.2 h, baOf_bl s⟩
theorem strCells_keys (L : List (List UInt8)) : L.map encStr = strCells (L.map baOf) := by simp [strCells, baOf, encStr]
end
end Go.Proofs.YtfgidaaipmbibaaGreatDoor
