/- A part of the proof of a law on which findings a policy admits. No condition. -/
import Derived.Test.YtfgidaaipmbibaaGreatDoorF10
import Derived.Test.YtfgidaaipmbibaaGreatDoorF35
set_option maxRecDepth 100000
set_option maxHeartbeats 20000000
set_option linter.unusedVariables false
set_option linter.unusedSimpArgs false
namespace Go.Proofs.YtfgidaaipmbibaaGreatDoor
section
open Go.RowKit Go.Maps Go.Shelf
theorem cont_succ {ps : List Int} {m : Nat} {p : Int} (h : ps[m]? = some p) (x : Int) : (ps.take (m + 1)).contains x = ((ps.take m).contains x || (p == x)) := by
  obtain ⟨hk, hf⟩ := List.getElem?_eq_some_iff.1 h
  rw [List.take_succ_eq_append_getElem hk, hf, Bool.eq_iff_iff, Bool.or_eq_true, List.contains_iff_mem, List.contains_iff_mem, List.mem_append, List.mem_singleton, beq_iff_eq]
  constructor
  · rintro (h | h)
    · exact .inl h
    · exact .inr h.symm
  · rintro (h | h)
    · exact .inl h
    · exact .inr h.symm
theorem int_at {w : World} {A : Option Addr} {l : List Int} (h : Rd w 1 A l.length (intC l)) (i : Nat) (x : Int) (hi : l[i]? = some x) : ∃ b off, A = some ⟨b, off, none⟩ ∧ w.cell? ⟨b, off + i, none⟩ = some (.int .i64 x) := by
  have hlt : i < l.length := (List.getElem?_eq_some_iff.1 hi).1
  obtain ⟨b, off, e, hc⟩ := h.2 (by omega)
  exact ⟨b, off, e, hc i _ (by unfold intC; rw [List.getElem?_map, hi]; rfl)⟩
theorem r30_Admits (P A : Option Addr) (pc c : Nat) (ps : List Int) (l : List (ByteArray × Int)) (w : World) (hp : Rd w 1 P ps.length (intC ps)) (hr : Rd w 2 A l.length (l.flatMap finC)) (hpl : ps.length ≤ 1000000) (hl : l.length ≤ 1000000) :
    Calls Tryz.prog 6 #[.slice P ps.length pc, .slice A l.length c] w fun e w' => e = .returned (.bool (admB ps l)) ∧ Below w.heap.size w w' := by
  have HP := Lib.hid hp; have HR := Lib.hid hr; have HPL := Lib.hid hpl
  clear hp hr
  go_enter Tryz.func6, Tryz.ntmps6
  go_wp2_with fail
  go_loopw [5] (fun i wr => ∃ k : Nat, k ≤ l.length ∧ i = .int .i64 k ∧ Hid (Below w.heap.size w wr) ∧ Hid (∀ y ∈ l.take k, ps.contains y.2 = true)) (fun i _ => l.length - (intOf i).toNat)
  case atStart => exact ⟨0, Nat.zero_le _, rfl, Below.refl _ _, by simp [Hid]⟩
  case round =>
    obtain ⟨k, hk, rfl, HB, HN⟩ := hrel
    by_cases hlt : k < l.length
    · obtain ⟨x, hx⟩ : ∃ x, l[k]? = some x := ⟨_, List.getElem?_eq_getElem hlt⟩
      have HX := Lib.hid hx
      have HLT := Lib.hid hlt
      clear hx
      go_wp2_with fail
      go_loopw [6, 7] (fun q i wq => ∃ m : Nat, m ≤ ps.length ∧ i = .int .i64 m ∧ q = .bool ((ps.take m).contains x.2) ∧ Hid (Below w.heap.size w wq)) (fun _ i _ => ps.length - (intOf i).toNat)
      case atStart => exact ⟨0, Nat.zero_le _, rfl, by simp, HB⟩
      case round =>
        rename_i wq _ _
        obtain ⟨m, hm, rfl, rfl, HQ⟩ := hrel
        by_cases hmt : m < ps.length
        · obtain ⟨p, hpm⟩ : ∃ p, ps[m]? = some p := ⟨_, List.getElem?_eq_getElem hmt⟩
          have HPM := Lib.hid hpm
          obtain ⟨b, off, hA, he⟩ := (HR.out.below HQ.out).elem fin_len k x HX.out
          obtain ⟨b2, off2, hA2, p0⟩ := int_at (HP.out.below HQ.out) m p hpm
          have e1 := he 1 _ rfl
          have hix := fun W => idx_of (T := 23) (E := 45) (sz := 2) (c := c) Tryz.underlying23 rfl Tryz.sizeOf45 hA hlt W
          have hix2 := fun W => idx_of (T := 22) (E := 3) (sz := 1) (c := pc) Tryz.underlying22 rfl Tryz.sizeOf3 hA2 hmt W
          simp only [Nat.mul_one] at hix2
          have CS : Hid ((ps.take (m + 1)).contains x.2 = ((ps.take m).contains x.2 || (p == x.2))) := cont_succ HPM.out x.2
          clear hA hA2 he hpm
          obtain ⟨q, hq⟩ : ∃ q, (ps.take m).contains x.2 = q := ⟨_, rfl⟩
          rw [hq] at CS ⊢
          clear hq
          cases q
          · obtain ⟨s, hs⟩ : ∃ s, (p == x.2) = s := ⟨_, rfl⟩
            rw [hs] at CS
            go_wp2_with fail
            go_quiet (fail)
            go_wp2_with fail
            go_roundw
            case rel => exact ⟨m + 1, by omega, by go_num, by rw [CS.out]; rfl, below_drewN HQ.out _⟩
            case measure => simp [intOf]; omega
          · go_wp2_with fail
            go_quiet (fail)
            go_wp2_with fail
            go_roundw
            case rel => exact ⟨m + 1, by omega, by go_num, by rw [CS.out]; rfl, below_drewN HQ.out _⟩
            case measure => simp [intOf]; omega
        · have CE : Hid ((ps.take m).contains x.2 = ps.contains x.2) := by show _ = _; rw [List.take_of_length_le (by omega)]
          rw [CE.out]
          clear CE
          cases hcc : ps.contains x.2
          · have E : Hid (admB ps l = false) := admB_bad HX.out hcc
            clear hcc
            go_wp2_with fail
            go_ret
            exact ⟨ret_bool E.out.symm, HQ.out⟩
          · have HCC := Lib.hid hcc
            clear hcc
            go_wp2_with fail
            go_roundw
            case rel => exact ⟨k + 1, by omega, by go_num, HQ, fun y hy => by
              obtain ⟨hk', hf'⟩ := List.getElem?_eq_some_iff.1 HX.out
              rw [List.take_succ_eq_append_getElem hk', hf'] at hy
              rcases List.mem_append.1 hy with hy | hy
              · exact HN.out y hy
              · rw [List.mem_singleton.1 hy]; exact HCC.out⟩
            case measure => simp [intOf]; omega
    · have E : Hid (admB ps l = true) := by
        show _ = _
        unfold admB
        rw [List.all_eq_true]
        intro y hy
        exact HN.out y (by rw [List.take_of_length_le (by omega)]; exact hy)
      go_wp2_with fail
      go_ret
      exact ⟨ret_bool E.out.symm, HB.out⟩
end
end Go.Proofs.YtfgidaaipmbibaaGreatDoor
