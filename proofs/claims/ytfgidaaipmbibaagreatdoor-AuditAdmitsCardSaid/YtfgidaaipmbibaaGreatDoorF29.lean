/- A part of the proof of a law on which findings a policy admits. No condition. -/
import Derived.Test.YtfgidaaipmbibaaGreatDoorF28
set_option maxRecDepth 100000
set_option maxHeartbeats 20000000
set_option linter.unusedVariables false
set_option linter.unusedSimpArgs false
namespace Go.Proofs.YtfgidaaipmbibaaGreatDoor
section
open Go.RowKit Go.Maps
def shV (x : FileM) : Value := .agg #[.int .i64 x.kind, .int .i64 x.mode, .string x.owner, .string x.group, .string x.link]
def alikeB (x y : FileM) : Bool := (x.kind == y.kind) && ((x.mode == y.mode) && ((x.owner.toList == y.owner.toList) && ((x.group.toList == y.group.toList) && (x.link.toList == y.link.toList))))
theorem alikeB_iff (a b : FileM) : alikeB a b = true ↔ shV a = shV b := by
  unfold alikeB shV
  simp only [Bool.and_eq_true, beq_bl, beq_iff_eq, decide_eq_true_iff]
  constructor
  · rintro ⟨h1, h2, h3, h4, h5⟩; rw [h1, h2, h3, h4, h5]
  · intro h
    injection h with h
    have h := congrArg Array.toList h
    simp only [List.cons.injEq, and_true] at h
    obtain ⟨h1, h2, h3, h4, h5⟩ := h
    injection h1 with _ h1; injection h2 with _ h2; injection h3 with h3; injection h4 with h4; injection h5 with h5
    exact ⟨h1, h2, h3, h4, h5⟩
def findF (fs : List FileM) (s : ByteArray) : Option FileM := fs.find? fun y => decide (y.path = s)
theorem findF_some {fs : List FileM} {s : ByteArray} {y : FileM} (h : findF fs s = some y) : y ∈ fs ∧ y.path = s :=
  by unfold findF at h; exact ⟨List.mem_of_find?_eq_some h, by simpa using List.find?_some h⟩
theorem findF_none {fs : List FileM} {s : ByteArray} (h : findF fs s = none) : ∀ y ∈ fs, y.path ≠ s := by
  intro y hy he
  unfold findF at h
  have := List.find?_eq_none.1 h y hy
  exact this (decide_eq_true he)
def clash (q : PkL) (x : FileM) : Bool := match findF q.files x.path with
  | none => false
  | some y => !alikeB y x
def conf (pre : List PkL) (x : FileM) : Bool := pre.any fun q => clash q x
def ordL (pre : List PkL) (p : PkL) : Bool := match pre.getLast? with | none => true | some q => decide (bl q.nm < bl p.nm)
def pkE (ans : ByteArray × Int) (pre : List PkL) (p : PkL) : ByteArray × ByteArray × Int :=
  if ans.2 ≠ 0 then (p.nm, ans.1, ans.2)
  else if ordL pre p = false then (p.nm, ⟨#[110, 97, 109, 101]⟩, 15)
  else match p.files.find? (conf pre) with
    | some f => (p.nm, f.path, 8)
    | none => (⟨#[]⟩, ⟨#[]⟩, 0)
def dbE (ans : PkL → ByteArray × Int) : List PkL → List PkL → ByteArray × ByteArray × Int
  | _, [] => (⟨#[]⟩, ⟨#[]⟩, 0)
  | pre, p :: r => if (pkE (ans p) pre p).2.2 = 0 then dbE ans (pre ++ [p]) r else pkE (ans p) pre p
theorem dbE_next {ans : PkL → ByteArray × Int} {l : List PkL} {k : Nat} {p : PkL} (h : l[k]? = some p) (h0 : dbE ans [] l = dbE ans (l.take k) (l.drop k)) (he : (pkE (ans p) (l.take k) p).2.2 = 0) : dbE ans [] l = dbE ans (l.take (k + 1)) (l.drop (k + 1)) := by
  obtain ⟨hk, hf⟩ := List.getElem?_eq_some_iff.1 h
  rw [h0, List.drop_eq_getElem_cons hk, hf, dbE, if_pos he, List.take_succ_eq_append_getElem hk, hf]
theorem dbE_bad {ans : PkL → ByteArray × Int} {l : List PkL} {k : Nat} {p : PkL} (h : l[k]? = some p) (h0 : dbE ans [] l = dbE ans (l.take k) (l.drop k)) (he : (pkE (ans p) (l.take k) p).2.2 ≠ 0) : dbE ans [] l = pkE (ans p) (l.take k) p := by
  obtain ⟨hk, hf⟩ := List.getElem?_eq_some_iff.1 h
  rw [h0, List.drop_eq_getElem_cons hk, hf, dbE, if_neg he]
theorem dbE_end {ans : PkL → ByteArray × Int} {l : List PkL} {k : Nat} (hk : l.length ≤ k) (h0 : dbE ans [] l = dbE ans (l.take k) (l.drop k)) : dbE ans [] l = (⟨#[]⟩, ⟨#[]⟩, 0) := by
  rw [h0, List.drop_of_length_le hk]; rfl
def ordP (l : List PkL) (k : Nat) (p : PkL) : Bool := ordL (l.take k) p
theorem ordP_zero (l : List PkL) (p : PkL) : ordP l 0 p = true := by unfold ordP ordL; simp
theorem ordP_succ {l : List PkL} {k : Nat} {q : PkL} (p : PkL) (h : l[k]? = some q) : ordP l (k + 1) p = decide (bl q.nm < bl p.nm) := by
  obtain ⟨hk, hf⟩ := List.getElem?_eq_some_iff.1 h
  unfold ordP ordL
  rw [List.take_succ_eq_append_getElem hk]
  simp [hf]
theorem pkE_ans {ans : ByteArray × Int} {pre : List PkL} {p : PkL} (h : ans.2 ≠ 0) : pkE ans pre p = (p.nm, ans.1, ans.2) := by unfold pkE; rw [if_pos h]
theorem pkE_ord {ans : ByteArray × Int} {l : List PkL} {k : Nat} {p : PkL} (h : ans.2 = 0) (ho : ordP l k p = false) : pkE ans (l.take k) p = (p.nm, ⟨#[110, 97, 109, 101]⟩, 15) := by
  unfold pkE; unfold ordP at ho; rw [if_neg (by simpa using h), if_pos ho]
theorem pkE_conf {ans : ByteArray × Int} {l : List PkL} {k m : Nat} {p : PkL} {x : FileM} (h : ans.2 = 0) (ho : ordP l k p = true) (hx : p.files[m]? = some x) (hn : ∀ y ∈ p.files.take m, conf (l.take k) y = false) (hc : conf (l.take k) x = true) : pkE ans (l.take k) p = (p.nm, x.path, 8) := by
  unfold pkE; unfold ordP at ho; rw [if_neg (by simpa using h), ho, if_neg (by simp)]
  have : p.files.find? (conf (l.take k)) = some x := by
    obtain ⟨hm, hx⟩ := List.getElem?_eq_some_iff.1 hx
    rw [← List.take_append_drop m p.files, List.find?_append, List.find?_eq_none.2 (fun y hy => by rw [hn y hy]; simp), List.drop_eq_getElem_cons hm, hx]
    simp [hc]
  rw [this]
theorem pkE_fine {ans : ByteArray × Int} {l : List PkL} {k : Nat} {p : PkL} (h : ans.2 = 0) (ho : ordP l k p = true) (hn : ∀ y ∈ p.files, conf (l.take k) y = false) : pkE ans (l.take k) p = (⟨#[]⟩, ⟨#[]⟩, 0) := by
  unfold pkE; unfold ordP at ho; rw [if_neg (by simpa using h), ho, if_neg (by simp), List.find?_eq_none.2 (fun y hy => by rw [hn y hy]; simp)]
def dbW (ans : PkL → ByteArray × Int) (fo : Bool) (l : List PkL) : ByteArray × ByteArray × Int :=
  if fo = false then (⟨#[]⟩, ⟨#[102, 111, 114, 109, 97, 116]⟩, 9) else if 128 < l.length then (⟨#[]⟩, ⟨#[112, 97, 99, 107, 97, 103, 101, 115]⟩, 4) else dbE ans [] l
def dbV (r : ByteArray × ByteArray × Int) : Value := .agg #[.string r.1, .string r.2.1, .int .i64 r.2.2]
structure CInv (L : List FileM) (f : ByteArray → Option Value) : Prop where
  dom : ∀ s, f s = none → ∀ y ∈ L, y.path ≠ s
  mem : ∀ s v, f s = some v → (∃ y ∈ L, y.path = s) ∧ ∀ y ∈ L, y.path = s → shV y = v
theorem CInv.nil : CInv [] (fun _ => none) := ⟨by simp, by simp⟩
theorem CInv.put {L : List FileM} {f : ByteArray → Option Value} (h : CInv L f) (x : FileM) (hx : f x.path = none ∨ f x.path = some (shV x)) : CInv (L ++ [x]) (fun s => if s = x.path then some (shV x) else f s) := by
  refine ⟨fun s hs y hy he => ?_, fun s v hv => ?_⟩
  · by_cases e : s = x.path
    · simp only [if_pos e] at hs; cases hs
    · simp only [if_neg e] at hs
      rcases List.mem_append.1 hy with hy | hy
      · exact h.dom s hs y hy he
      · rw [List.mem_singleton.1 hy] at he; exact e he.symm
  · by_cases e : s = x.path
    · simp only [if_pos e] at hv
      injection hv with hv
      subst hv; subst e
      refine ⟨⟨x, by simp, rfl⟩, fun y hy he => ?_⟩
      rcases List.mem_append.1 hy with hy | hy
      · rcases hx with hx | hx
        · exact absurd he (h.dom _ hx y hy)
        · exact (h.mem _ _ hx).2 y hy he
      · rw [List.mem_singleton.1 hy]
    · simp only [if_neg e] at hv
      obtain ⟨⟨y, hy, he⟩, h2⟩ := h.mem s v hv
      refine ⟨⟨y, by simp [hy], he⟩, fun z hz hze => ?_⟩
      rcases List.mem_append.1 hz with hz | hz
      · exact h2 z hz hze
      · rw [List.mem_singleton.1 hz] at hze; exact absurd hze.symm e
def came (l : List PkL) (k : Nat) (fs : List FileM) : List FileM := (l.take k).flatMap PkL.files ++ fs
theorem CInv.fresh {l : List PkL} {k : Nat} {fs : List FileM} {f : ByteArray → Option Value} (h : CInv (came l k fs) f) {x : FileM} (hx : f x.path = none) : conf (l.take k) x = false := by
  unfold conf
  rw [List.any_eq_false]
  intro q hq hc
  unfold clash at hc
  cases e : findF q.files x.path with
  | none => rw [e] at hc; cases hc
  | some y =>
    obtain ⟨hy, hp⟩ := findF_some e
    exact h.dom _ hx y (List.mem_append_left _ (List.mem_flatMap.2 ⟨q, hq, hy⟩)) hp
theorem CInv.same {l : List PkL} {k : Nat} {fs : List FileM} {f : ByteArray → Option Value} (h : CInv (came l k fs) f) {x : FileM} (hx : f x.path = some (shV x)) : conf (l.take k) x = false := by
  unfold conf
  rw [List.any_eq_false]
  intro q hq hc
  unfold clash at hc
  cases e : findF q.files x.path with
  | none => rw [e] at hc; cases hc
  | some y =>
    rw [e] at hc
    obtain ⟨hy, hp⟩ := findF_some e
    have := (h.mem _ _ hx).2 y (List.mem_append_left _ (List.mem_flatMap.2 ⟨q, hq, hy⟩)) hp
    have h2 := (alikeB_iff y x).2 this
    simp [h2] at hc
theorem CInv.other {l : List PkL} {k : Nat} {fs : List FileM} {f : ByteArray → Option Value} (h : CInv (came l k fs) f) {x : FileM} {v : Value} (hx : f x.path = some v) (hne : v ≠ shV x) (hf : ∀ y ∈ fs, y.path ≠ x.path) : conf (l.take k) x = true := by
  obtain ⟨⟨y, hy, hp⟩, h2⟩ := h.mem _ _ hx
  rcases List.mem_append.1 hy with hy | hy
  · obtain ⟨q, hq, hyq⟩ := List.mem_flatMap.1 hy
    unfold conf
    rw [List.any_eq_true]
    refine ⟨q, hq, ?_⟩
    unfold clash
    cases e : findF q.files x.path with
    | none => exact absurd hp (findF_none e y hyq)
    | some z =>
      obtain ⟨hz, hzp⟩ := findF_some e
      have h3 := h2 z (List.mem_append_left _ (List.mem_flatMap.2 ⟨q, hq, hz⟩)) hzp
      show (!alikeB z x) = true
      cases ha : alikeB z x with
      | false => rfl
      | true => exact absurd (h3.symm.trans ((alikeB_iff z x).1 ha)) hne
  · exact absurd hp (hf y hy)
theorem came_next {l : List PkL} {k : Nat} {p : PkL} (h : l[k]? = some p) : came l (k + 1) [] = came l k p.files := by
  obtain ⟨hk, hx⟩ := List.getElem?_eq_some_iff.1 h
  unfold came; rw [List.take_succ_eq_append_getElem hk, hx]; simp
theorem came_snoc (l : List PkL) (k : Nat) {fs : List FileM} {m : Nat} {x : FileM} (h : fs[m]? = some x) : came l k (fs.take (m + 1)) = came l k (fs.take m) ++ [x] := by
  obtain ⟨hk, hx⟩ := List.getElem?_eq_some_iff.1 h
  unfold came; rw [List.take_succ_eq_append_getElem hk, hx]; simp
theorem came_length (l : List PkL) (k : Nat) (p : PkL) (m : Nat) (h : l[k]? = some p) : (came l k (p.files.take m)).length ≤ wDb l := by
  have key : ∀ (L : List PkL), (L.flatMap PkL.files).length ≤ wDb L := by
    intro L
    induction L with
    | nil => simp [wDb]
    | cons a r ih =>
      have h3 : a.files.length ≤ wFiles a.files := by
        unfold wFiles
        generalize a.files = fs
        induction fs with
        | nil => simp
        | cons a r ih => simp at *; omega
      unfold wDb at ih ⊢
      rw [List.flatMap_cons, List.length_append, List.map_cons, List.sum_cons]
      have hw : wsum a = wTexts a + wStrs a.needs + wStrs a.bars + wAtoms a.gives + wFiles a.files + wScripts a.scripts := rfl
      omega
  have h1 := key (l.take (k + 1))
  have h2 : (came l k (p.files.take m)).length ≤ ((l.take (k + 1)).flatMap PkL.files).length := by
    have e := came_next h
    have e2 : came l (k + 1) [] = (l.take (k + 1)).flatMap PkL.files := by unfold came; simp
    rw [← e2, e]
    unfold came
    rw [List.length_append, List.length_append, List.length_take]; omega
  have h3 : wDb (l.take (k + 1)) ≤ wDb l := by
    have e : wDb l = wDb (l.take (k + 1)) + wDb (l.drop (k + 1)) := by
      unfold wDb; rw [← List.sum_append, ← List.map_append, List.take_append_drop]
    omega
  omega
theorem filesE_fine {fmt : Int} {fs : List FileM} (h : (filesAns fmt fs).2 = 0) : (fpaths fs).Pairwise (fun s t => bl s < bl t) := by
  unfold filesAns at h
  split at h
  · simp at h
  · have key : ∀ (r pre : List FileM), (∃ g, KInv pre g) → ((filesE fmt pre r).getD (⟨#[]⟩, 0)).2 = 0 → (fpaths (pre ++ r)).Pairwise (fun s t => bl s < bl t) := by
      intro r
      induction r with
      | nil => rintro pre ⟨g, hg⟩ _; simpa using hg.sorted
      | cons a r ih =>
        rintro pre ⟨g, hg⟩ h
        rw [filesE] at h
        by_cases he : fErr fmt pre a = 0
        · rw [if_pos he] at h
          have ho : orderB pre.getLast? a = true := by
            unfold fErr at he
            cases e1 : (pathB (bl a.path) && plainB (bl a.path)) with
            | false => rw [e1] at he; simp at he
            | true =>
              cases e2 : orderB pre.getLast? a with
              | false => rw [e1, e2] at he; simp at he
              | true => rfl
          have := ih (pre ++ [a]) ⟨_, hg.put ho⟩ h
          simpa using this
        · rw [if_neg he] at h; exact absurd h he
    have := key fs [] ⟨_, KInv.nil⟩ h
    simpa using this
theorem sorted_ne {fs : List FileM} (h : (fpaths fs).Pairwise (fun s t => bl s < bl t)) {m : Nat} {x : FileM} (hx : fs[m]? = some x) : ∀ y ∈ fs.take m, y.path ≠ x.path := by
  intro y hy he
  obtain ⟨hm, hx⟩ := List.getElem?_eq_some_iff.1 hx
  have e : fpaths fs = fpaths (fs.take m) ++ fpaths (fs.drop m) := by unfold fpaths; rw [← List.map_append, List.take_append_drop]
  rw [e, List.pairwise_append] at h
  have := h.2.2 y.path (List.mem_map.2 ⟨y, hy, rfl⟩) x.path (by rw [List.drop_eq_getElem_cons hm, hx]; simp [fpaths])
  rw [he] at this; exact lt_irr _ this
end
end Go.Proofs.YtfgidaaipmbibaaGreatDoor
