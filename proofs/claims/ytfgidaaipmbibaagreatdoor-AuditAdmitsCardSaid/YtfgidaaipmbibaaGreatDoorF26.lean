/- A part of the proof of a law on which findings a policy admits. No condition. -/
import Derived.Test.YtfgidaaipmbibaaGreatDoorF01
import Derived.Test.YtfgidaaipmbibaaGreatDoorF12
set_option maxRecDepth 100000
set_option maxHeartbeats 20000000
set_option linter.unusedVariables false
set_option linter.unusedSimpArgs false
namespace Go.Proofs.YtfgidaaipmbibaaGreatDoor
section
open Go.RowKit
open Classical
noncomputable def dd (l : List ByteArray) : List ByteArray := l.foldl (fun acc x => if x ∈ acc then acc else acc ++ [x]) []
theorem mem_dd_foldl (s : ByteArray) : ∀ (l acc : List ByteArray), s ∈ l.foldl (fun acc x => if x ∈ acc then acc else acc ++ [x]) acc ↔ s ∈ acc ∨ s ∈ l
  | [], acc => by simp
  | x :: r, acc => by
    rw [List.foldl_cons, mem_dd_foldl s r, List.mem_cons]
    split
    · rename_i h
      constructor
      · rintro (h1 | h1)
        · exact .inl h1
        · exact .inr (.inr h1)
      · rintro (h1 | rfl | h1)
        · exact .inl h1
        · exact .inl h
        · exact .inr h1
    · rw [List.mem_append, List.mem_singleton]
      constructor
      · rintro ((h1 | h1) | h1)
        · exact .inl h1
        · exact .inr (.inl h1)
        · exact .inr (.inr h1)
      · rintro (h1 | h1 | h1)
        · exact .inl (.inl h1)
        · exact .inl (.inr h1)
        · exact .inr h1
theorem mem_dd (s : ByteArray) (l : List ByteArray) : s ∈ dd l ↔ s ∈ l := by unfold dd; rw [mem_dd_foldl]; simp
theorem dd_snoc (l : List ByteArray) (x : ByteArray) : dd (l ++ [x]) = if x ∈ l then dd l else dd l ++ [x] := by
  have h : dd (l ++ [x]) = if x ∈ dd l then dd l else dd l ++ [x] := by unfold dd; rw [List.foldl_append]; rfl
  rw [h]
  by_cases hx : x ∈ l
  · rw [if_pos hx, if_pos ((mem_dd x l).2 hx)]
  · rw [if_neg hx, if_neg (fun h => hx ((mem_dd x l).1 h))]
theorem dd_length_foldl : ∀ (l acc : List ByteArray), (l.foldl (fun acc x => if x ∈ acc then acc else acc ++ [x]) acc).length ≤ acc.length + l.length
  | [], acc => by simp
  | x :: r, acc => by
    rw [List.foldl_cons]
    have h1 := dd_length_foldl r (if x ∈ acc then acc else acc ++ [x])
    have h2 : (if x ∈ acc then acc else acc ++ [x]).length ≤ acc.length + 1 := by split <;> simp
    rw [List.length_cons]; omega
theorem dd_length (l : List ByteArray) : (dd l).length ≤ l.length := by have := dd_length_foldl l []; simpa [dd] using this
def fpaths (l : List FileM) : List ByteArray := l.map (·.path)
noncomputable def pPrs (fs : List FileM) (nm : ByteArray) : List (ByteArray × ByteArray) := (dd (fpaths fs)).map fun s => (s, nm)
noncomputable def prs (l : List PkL) : List (ByteArray × ByteArray) := l.flatMap fun p => pPrs p.files p.nm
theorem pPrs_length (fs : List FileM) (nm : ByteArray) : (pPrs fs nm).length ≤ fs.length := by
  unfold pPrs; rw [List.length_map]; exact Nat.le_trans (dd_length _) (by simp [fpaths])
theorem prs_length : ∀ (l : List PkL), (prs l).length ≤ wDb l
  | [] => by simp [prs, wDb]
  | p :: r => by
    have h1 := prs_length r
    have h2 := pPrs_length p.files p.nm
    have h3 : p.files.length ≤ wFiles p.files := by
      unfold wFiles
      generalize p.files = fs
      induction fs with
      | nil => simp
      | cons a r ih => simp at *; omega
    unfold prs at h1 ⊢
    unfold wDb at h1 ⊢
    rw [List.flatMap_cons, List.length_append, List.map_cons, List.sum_cons]
    have hw : wsum p = wTexts p + wStrs p.needs + wStrs p.bars + wAtoms p.gives + wFiles p.files + wScripts p.scripts := rfl
    omega
theorem prs_snoc {l : List PkL} {k : Nat} {p : PkL} (h : l[k]? = some p) : prs (l.take (k + 1)) = prs (l.take k) ++ pPrs p.files p.nm := by
  obtain ⟨hk, hx⟩ := List.getElem?_eq_some_iff.1 h
  unfold prs; rw [List.take_succ_eq_append_getElem hk, List.flatMap_append, hx]; simp
theorem pPrs_snoc {fs : List FileM} {k : Nat} {f : FileM} {nm : ByteArray} (h : fs[k]? = some f) :
    pPrs (fs.take (k + 1)) nm = if f.path ∈ fpaths (fs.take k) then pPrs (fs.take k) nm else pPrs (fs.take k) nm ++ [(f.path, nm)] := by
  obtain ⟨hk, hx⟩ := List.getElem?_eq_some_iff.1 h
  unfold pPrs
  rw [List.take_succ_eq_append_getElem hk, hx, show fpaths (fs.take k ++ [f]) = fpaths (fs.take k) ++ [f.path] by simp [fpaths], dd_snoc]
  split
  · rfl
  · simp
theorem fpaths_snoc {fs : List FileM} {k : Nat} {f : FileM} (h : fs[k]? = some f) : fpaths (fs.take (k + 1)) = fpaths (fs.take k) ++ [f.path] := by
  obtain ⟨hk, hx⟩ := List.getElem?_eq_some_iff.1 h
  rw [List.take_succ_eq_append_getElem hk, hx]; simp [fpaths]
structure OwL where
  path : ByteArray
  na : Option Addr
  nc : Nat
  names : List ByteArray
def OwL.sl (x : OwL) : Value := .slice x.na x.names.length x.nc
def OwL.cells (x : OwL) : List Value := [.string x.path, x.sl]
def OwL.pair (x : OwL) : ByteArray × List ByteArray := (x.path, x.names)
def OwnedPost (ps : List (ByteArray × ByteArray)) (w : World) (e : Ending) (w' : World) : Prop :=
  ∃ (A : Option Addr) (c : Nat) (out : List OwL), e = .returned (.slice A out.length c) ∧ Rd w' 2 A out.length (out.flatMap OwL.cells) ∧
    (∀ x ∈ out, Rd w' 1 x.na x.names.length (strCells x.names)) ∧ Own ps (out.map OwL.pair) ∧ Below w.heap.size w w'
end
end Go.Proofs.YtfgidaaipmbibaaGreatDoor
