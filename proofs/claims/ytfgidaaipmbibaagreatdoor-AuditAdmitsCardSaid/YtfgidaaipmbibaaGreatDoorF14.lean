/- A part of the proof of a law on which findings a policy admits. No condition. -/
import Derived.Test.YtfgidaaipmbibaaGreatDoorF03
import Derived.Test.YtfgidaaipmbibaaGreatDoorF07
import Derived.Test.YtfgidaaipmbibaaGreatDoorF09
import Derived.Test.YtfgidaaipmbibaaGreatDoorF10
set_option maxRecDepth 100000
set_option maxHeartbeats 20000000
set_option linter.unusedVariables false
set_option linter.unusedSimpArgs false
namespace Go.Proofs.YtfgidaaipmbibaaGreatDoor
section
open Go.RowKit
def psplitS (s : ByteArray) : List ByteArray := (psplit (bl s)).map fun p => (⟨p.toArray⟩ : ByteArray)
theorem map_baOf_bl (l : List ByteArray) : (l.map bl).map (fun p => (⟨p.toArray⟩ : ByteArray)) = l := by
  rw [List.map_map]; conv => rhs; rw [← List.map_id l]
  apply List.map_congr_left; intro a _; apply bl_inj; simp [bl]
theorem splitB_psplit (s : ByteArray) : Lib.splitB ⟨#[47]⟩ 0 (Lib.countB s ⟨#[47]⟩) s = psplitS s := by
  have h := Lib.splitB_data ⟨#[47]⟩ 0 (Lib.countB s ⟨#[47]⟩) s
  have h2 : Lib.countB s ⟨#[47]⟩ = (bl s).count 47 := by
    show Lib.count _ _ = _
    exact Lib.count_one 47 (bl s)
  have h3 : (Lib.splitB ⟨#[47]⟩ 0 (Lib.countB s ⟨#[47]⟩) s).map bl = psplit (bl s) := by
    refine Eq.trans h ?_
    rw [h2]; exact splitK_psplit _ (bl s) rfl
  unfold psplitS
  rw [← h3, map_baOf_bl]
theorem Split_any (s : ByteArray) (w : World) (hG : Gl w) (hs : s.size ≤ 4294967280) :
    Calls Tryz.prog 106 #[.string s, .string ⟨#[47]⟩] w fun e w' => e = .returned (.slice (some ⟨w.heap.size, 0, none⟩) (psplitS s).length (psplitS s).length) ∧ Rd w' 1 (some ⟨w.heap.size, 0, none⟩) (psplitS s).length (strCells (psplitS s)) ∧ Below w.heap.size w w' := by
  obtain ⟨m, hm⟩ := hG.ml
  refine (Tryz.strings_Split s ⟨#[47]⟩ m w (by omega) hm (by decide)).mono fun e w' ⟨he, hw⟩ => ?_
  have hl : (psplitS s).length = Lib.countB s ⟨#[47]⟩ + 1 := by
    rw [← splitB_psplit]; exact Lib.splitB_all ⟨#[47]⟩ (by decide) 0 _ s rfl
  rw [splitB_psplit] at hw
  rw [hl, hw]
  refine ⟨he, ⟨by simp [strCells, hl], fun _ => ⟨_, 0, rfl, fun j u hu => ?_⟩⟩, (Below.refl _ _).alloc (Nat.le_refl _) _⟩
  simpa [strCells] using hu
theorem Contains0 (s : ByteArray) (w : World) :
    Calls Tryz.prog 74 #[.string s, .string ⟨#[0]⟩] w fun e w' => e = .returned (.bool ((bl s).contains 0)) ∧ w = w' :=
  (Tryz.strings_Contains_one s 0 w).mono fun e w' ⟨he, hw⟩ => ⟨by
    rw [he]; congr 2
    cases h : (bl s).contains 0
    · have := ixB_neg s 0 h; unfold ixB at this; simp only [bl] at this; simp; omega
    · have := ixB_pos s 0 h; unfold ixB at this; simp only [bl] at this; simpa using this, hw.symm⟩
theorem partB_bl (p : ByteArray) : partB (bl p) = !(p.toList.isEmpty || p.toList == [46] || p.toList == [46, 46]) := by
  rw [bl_toList]; unfold partB
  rw [Bool.eq_iff_iff]; simp
theorem psplitS_get (s : ByteArray) (k : Nat) (x : ByteArray) (h : (psplitS s)[k]? = some x) : (psplit (bl s))[k]? = some (bl x) := by
  unfold psplitS at h
  rw [List.getElem?_map] at h
  obtain ⟨p, hp, rfl⟩ := Option.map_eq_some_iff.1 h
  rw [hp, bl_mk]
theorem psplitS_len (s : ByteArray) : (psplitS s).length = (psplit (bl s)).length := by simp [psplitS]
theorem psplit_length : ∀ (l : List UInt8), (psplit l).length ≤ l.length + 1
  | [] => by simp [psplit]
  | c :: r => by
    have := psplit_length r
    by_cases hc : c = 47
    · rw [psplit, if_pos hc]; simp; omega
    · obtain ⟨p, ps, h1, h2⟩ := psplit_cons_ne hc r
      rw [h1] at this; rw [h2]; simp at *; omega
theorem all_next {α : Type} {p : α → Bool} {l : List α} {k : Nat} {x : α} (h : l[k]? = some x) (h0 : (l.take k).all p = true) (hx : p x = true) : (l.take (k + 1)).all p = true := by
  obtain ⟨hk, he⟩ := List.getElem?_eq_some_iff.1 h
  rw [List.take_succ_eq_append_getElem hk, List.all_append, h0, he]; simp [hx]
theorem all_bad {α : Type} {p : α → Bool} {l : List α} {k : Nat} {x : α} (h : l[k]? = some x) (hx : p x = false) : l.all p = false := by
  rw [List.all_eq_false]; exact ⟨x, List.mem_of_getElem? h, by simp [hx]⟩
theorem entry_Path (s : ByteArray) (w : World) (hG : Gl w) (hs : s.size ≤ 9223372036854775807) :
    Calls Tryz.prog 70 #[.string s] w fun e w' => e = .returned (.bool (pathB (bl s))) ∧ Below w.heap.size w w' := by
  have HG := Lib.hid hG; clear hG
  by_cases h1 : s.size < 1
  · have E : Hid (pathB (bl s) = false) := by show _ = _; unfold pathB; rw [bl_length, show decide (1 ≤ s.size) = false from decide_eq_false (by omega)]; rfl
    go_enter Tryz.func70, Tryz.ntmps70
    go_wp2_with fail
    go_ret
    exact ⟨ret_bool E.out.symm, Below.refl _ _⟩
  by_cases h2 : 200 < s.size
  · have E : Hid (pathB (bl s) = false) := by show _ = _; unfold pathB; rw [bl_length, show decide (s.size ≤ 200) = false from decide_eq_false (by omega)]; simp
    go_enter Tryz.func70, Tryz.ntmps70
    go_wp2_with fail
    go_ret
    exact ⟨ret_bool E.out.symm, Below.refl _ _⟩
  go_enter Tryz.func70, Tryz.ntmps70
  go_wp2_with fail
  refine (Contains0 _ _).mono ?_; rintro e w' ⟨rfl, rfl⟩
  cases h0 : (bl s).contains 0
  · go_wp2_with fail
    refine (Split_any s _ HG.out (by omega)).mono ?_; rintro e w1 ⟨rfl, hr, hb⟩
    have HR := Lib.hid hr; have HB := Lib.hid hb; clear hr hb
    have hN : (psplitS s).length ≤ 201 := by rw [psplitS_len]; have := psplit_length (bl s); rw [bl_length] at this; omega
    have E : Hid (pathB (bl s) = (psplit (bl s)).all partB) := by show _ = _; unfold pathB; rw [h0, bl_length, show decide (1 ≤ s.size) = true from decide_eq_true (by omega), show decide (s.size ≤ 200) = true from decide_eq_true (by omega)]; simp
    have HL := Lib.hid (psplitS_len s)
    clear h0
    go_wp2_with fail
    go_loop [20] (fun i => ∃ k : Nat, k ≤ (psplitS s).length ∧ i = .int .i64 k ∧ Hid (((psplit (bl s)).take k).all partB = true)) (fun i => (psplitS s).length - (intOf i).toNat)
    case atStart => exact ⟨0, Nat.zero_le _, rfl, by simp [Hid]⟩
    case round =>
      obtain ⟨k, hk, rfl, HA⟩ := hrel
      by_cases hlt : k < (psplitS s).length
      · obtain ⟨x, hx⟩ : ∃ x, (psplitS s)[k]? = some x := ⟨_, List.getElem?_eq_getElem hlt⟩
        obtain ⟨b, off, hA, he⟩ := HR.out.str k x hx
        have hix := fun W => idx_of (T := 29) (E := 9) (sz := 1) (c := (psplitS s).length) Tryz.underlying29 rfl Tryz.sizeOf9 hA hlt W
        simp only [Nat.mul_one] at hix
        have HX := Lib.hid (psplitS_get s k x hx)
        clear hx hA
        go_wp2_with fail
        · go_ret
          exact ⟨ret_bool (by rw [E.out]; exact (all_bad HX.out (by rw [partB_bl]; simp_all)).symm), HB.out⟩
        · go_ret
          exact ⟨ret_bool (by rw [E.out]; exact (all_bad HX.out (by rw [partB_bl]; simp_all)).symm), HB.out⟩
        · go_ret
          exact ⟨ret_bool (by rw [E.out]; exact (all_bad HX.out (by rw [partB_bl]; simp_all)).symm), HB.out⟩
        · go_round
          case rel => exact ⟨k + 1, by omega, by go_num, Lib.hid (all_next HX.out HA.out (by rw [partB_bl]; simp_all))⟩
          case measure => simp [intOf]; omega
      · go_wp2_with fail
        go_ret
        exact ⟨ret_bool (by rw [E.out]; have := HA.out; rw [List.take_of_length_le (by rw [← HL.out]; omega)] at this; exact this.symm), HB.out⟩
  · have E : Hid (pathB (bl s) = false) := by show _ = _; unfold pathB; rw [h0]; simp
    go_wp2_with fail
    go_ret
    exact ⟨ret_bool E.out.symm, Below.refl _ _⟩
end
end Go.Proofs.YtfgidaaipmbibaaGreatDoor
