/- A part of the proof of a law on which findings a policy admits. No condition. -/
import Derived.Test.YtfgidaaipmbibaaGreatDoorF35
import Derived.Test.YtfgidaaipmbibaaGreatDoorF50
set_option maxRecDepth 100000
set_option maxHeartbeats 20000000
set_option linter.unusedVariables false
set_option linter.unusedSimpArgs false
namespace Go.Proofs.YtfgidaaipmbibaaGreatDoor
section
open Go.ChangeShapes Go.WideShapes Go.Deep Go.RowKit
section
variable {H : Type} {enc : TypeId × Value → H} {w : World} {spare : Nat → Bool}
theorem open_ints {T E : TypeId} (hT : Tryz.prog.underlying T = some (.slice E)) (hE : Tryz.prog.underlying E = some (.int .i64)) (hC : Tryz.prog.cellsOf E = 1)
    {fuel : Nat} {v : Value} {d : DataW H × List MemPlace} (h : DataW.trod enc Tryz.prog w 0 spare true fuel T [v] = some d) :
    ∃ (A : Option Addr) (c : Nat) (l : List Int), v = .slice A l.length c ∧ Rd w 1 A l.length (intC l) ∧ l.length ≤ 9223372036854775807 ∧ l.length ≤ c := by
  rcases open_slice hT h with ⟨hcs, _⟩ | ⟨a, len, cap, m, n, D, Pl, hcs, _, hl, hm, hmm, _, hi⟩
  · injection hcs with hcs _
    exact ⟨none, 0, [], hcs, Rd.nil _ _ _, Nat.zero_le _, Nat.zero_le _⟩
  · injection hcs with hcs _
    have hlen : len ≤ m := by rw [hmm]; split <;> omega
    have key : ∀ i, i < len → ∃ x : Int, w.cell? ⟨a.block, a.off + i, none⟩ = some (.int .i64 x) ∧ a.add i = ⟨a.block, a.off + i, none⟩ := by
      intro i hi'
      obtain ⟨cs', hc, ht'⟩ := hi i (by omega)
      rw [hC] at hc
      obtain ⟨_, hcl, hat⟩ := World.cells?_some hc
      obtain ⟨s, hs, _, hsz⟩ := DataW.trod_int hE ht'
      have h0 := hat 0 (by omega)
      rw [hs, Nat.mul_one] at h0
      have h1 : w.cell? (a.add i) = some (.int .i64 s) := by
        have e : (a.add i).add 0 = a.add i := by simp [Addr.add]
        rw [e] at h0; simpa using h0
      have h2 := addr_flat h1
      refine ⟨s, by rw [← h2]; exact h1, h2⟩
    obtain ⟨l, hll, hlq⟩ := list_of len key
    refine ⟨some a, cap, l, by rw [hll]; exact hcs, ⟨by simp [intC], fun hn => ?_⟩, by rw [hll]; unfold maxLen at hm; omega, by rw [hll]; exact hl⟩
    · refine ⟨a.block, a.off, ?_, fun j u hu => ?_⟩
      · have h2 := (hlq 0 _ (List.getElem?_eq_getElem hn)).2
        simp only [Addr.add, if_pos, Nat.add_zero] at h2
        rw [← h2]
      · simp only [intC, List.getElem?_map, Option.map_eq_some_iff] at hu
        obtain ⟨x, hx, rfl⟩ := hu
        exact (hlq j x hx).1
theorem open_finds {fuel : Nat} {v : Value} {d : DataW H × List MemPlace} (h : DataW.trod enc Tryz.prog w 0 spare true fuel 23 [v] = some d) :
    ∃ (A : Option Addr) (c : Nat) (l : List (ByteArray × Int)), v = .slice A l.length c ∧ Rd w 2 A l.length (l.flatMap finC) ∧ l.length ≤ 9223372036854775807 := by
  obtain ⟨A, c, l, h1, h2, _, h4, _⟩ := open_list Tryz.underlying23 Tryz.underlying45 (by kernel_rfl) (by kernel_rfl) (by decide) finC (fun _ => True) (fun _ => rfl) (fun n vs hv => by
    obtain ⟨y0, h0⟩ := hv 0 _ rfl
    obtain ⟨y1, h1⟩ := hv 1 _ rfl
    obtain ⟨s0, e0, _⟩ := read_str h0
    obtain ⟨s1, e1, _⟩ := read_int h1
    refine ⟨(s0, s1), trivial, fun j hj => ?_⟩
    have hj' : j < 2 := hj
    rcases (by omega : j = 0 ∨ j = 1) with rfl | rfl
    · rw [e0]; rfl
    · rw [e1]; rfl) h
  exact ⟨A, c, l, h1, h2, h4⟩
end
end
end Go.Proofs.YtfgidaaipmbibaaGreatDoor
