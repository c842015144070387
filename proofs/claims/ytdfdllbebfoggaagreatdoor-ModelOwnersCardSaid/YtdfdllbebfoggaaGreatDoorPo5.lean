/- Owners in the reference: Find; rows of paths with their names. -/
import Derived.Test.YtdfdllbebfoggaaGreatDoorPo3
import Derived.Test.YtdfdllbebfoggaaGreatDoorMk9
namespace Go.Proofs.YtdfdllbebfoggaaGreatDoor
open Go.RowKit

/-- The place of a path among files. -/
def FindIs (fs : List FileM) (path : ByteArray) (n : Int) : Prop := (n = -1 ∧ path ∉ fpaths fs) ∨ ∃ (k : Nat) (f : FileM), n = k ∧ fs[k]? = some f ∧ f.path = path ∧ path ∉ fpaths (fs.take k)
theorem FindIs.neg {fs : List FileM} {path : ByteArray} {n : Int} (h : FindIs fs path n) : n < 0 ↔ path ∉ fpaths fs := by
  rcases h with ⟨rfl, h⟩ | ⟨k, f, rfl, hf, hp, _⟩
  · exact ⟨fun _ => h, fun _ => by omega⟩
  · refine ⟨fun h => by omega, fun h => absurd ?_ h⟩
    exact List.mem_map.2 ⟨f, List.mem_of_getElem? hf, hp⟩
def FindPost (fs : List FileM) (path : ByteArray) (w : World) (e : Ending) (w' : World) : Prop := ∃ n : Int, e = .returned (.int .i64 n) ∧ -1 ≤ n ∧ n ≤ 9223372036854775807 ∧ FindIs fs path n ∧ w = w'

set_option maxRecDepth 100000 in
set_option maxHeartbeats 400000 in
theorem ref_Find (A : Option Addr) (c : Nat) (fs : List FileM) (path : ByteArray) (w : World) (hr : Rd w 8 A fs.length (fs.flatMap FileM.cells)) (hn : fs.length ≤ 9223372036854775807) :
    Calls Tryz.prog 42 #[.slice A fs.length c, .string path] w (FindPost fs path w) := by
  have HR := Lib.hid hr; clear hr
  go_enter Tryz.func42, Tryz.ntmps42
  go_wp2_with fail
  go_loop [5] (fun i => ∃ k : Nat, k ≤ fs.length ∧ i = .int .i64 k ∧ Hid (path ∉ fpaths (fs.take k))) (fun i => fs.length - (intOf i).toNat)
  case atStart => exact ⟨0, Nat.zero_le _, rfl, by simp [Hid, fpaths]⟩
  case round =>
    obtain ⟨k, hk, rfl, HN⟩ := hrel
    by_cases hlt : k < fs.length
    · obtain ⟨x, hx⟩ : ∃ x, fs[k]? = some x := ⟨_, List.getElem?_eq_getElem hlt⟩
      obtain ⟨b, off, hA, he⟩ := HR.out.elem file_len k x hx
      have e0 := he 0 _ rfl
      simp only [Nat.add_zero] at e0
      have hix := fun W => idx_of (T := 24) (E := 46) (sz := 8) (c := c) Tryz.underlying24 rfl Tryz.sizeOf46 hA hlt W
      have HX := Lib.hid hx
      clear hx hA he
      cases hE : (x.path.toList == path.toList)
      · have HNE : Hid (¬ x.path = path) := by show ¬ _; rw [beq_bl] at hE; exact of_decide_eq_false hE
        go_wp2_with fail
        go_round
        case rel => exact ⟨k + 1, by omega, by go_num, Lib.hid (by rw [fpaths_snoc HX.out, List.mem_append, List.mem_singleton]; rintro (h | h); exact HN.out h; exact HNE.out h.symm)⟩
        case measure => simp [intOf]; omega
      · have HE : Hid (x.path = path) := by show _ = _; rw [beq_bl] at hE; exact of_decide_eq_true hE
        go_wp2_with fail
        go_ret
        exact ⟨_, rfl, by omega, by omega, .inr ⟨k, x, rfl, HX.out, HE.out, HN.out⟩, rfl⟩
    · go_wp2_with fail
      go_ret
      exact ⟨_, rfl, by omega, by omega, .inl ⟨rfl, by have := HN.out; rw [List.take_of_length_le (by omega)] at this; exact this⟩, rfl⟩

/-- 's[:k]', 's[k:]', whatever the address. -/
theorem slice_to {T E : TypeId} {sz : Nat} (hT : Tryz.prog.underlying T = some (.slice (Tryz.prog.elem T))) (hE : Tryz.prog.elem T = E) (hs : ∀ w, (sizeOf E).run Tryz.prog w = .ok sz w)
    {A : Option Addr} {n c k : Nat} (hk : k ≤ c) (w : World) : (Instr.slice T (.slice A n c) none (some (.int .i64 k)) none).run Tryz.prog w = .ok (.slice A k c) w := by
  have hb : (Instr.sliceBounds true n c none (some (.int .i64 k)) none).run Tryz.prog w = .ok (0, k, c) w := by
    simp [Instr.sliceBounds, run_sliceBound (k := .i64) (i := (k : Int)) (y := c) (h0 := by omega) (h1 := by omega)]
  simp only [Instr.slice, Sem.run_bind, run_underlying hT, Result.andThen_ok, hb, hE, hs, Sem.run_pure]
  cases A <;> simp [Addr.add]
theorem slice_from {T E : TypeId} {sz : Nat} (hT : Tryz.prog.underlying T = some (.slice (Tryz.prog.elem T))) (hE : Tryz.prog.elem T = E) (hs : ∀ w, (sizeOf E).run Tryz.prog w = .ok sz w)
    {A : Option Addr} {n c k : Nat} (hk : k ≤ n) (w : World) : (Instr.slice T (.slice A n c) (some (.int .i64 k)) none none).run Tryz.prog w = .ok (.slice (if c = k then A else A.map (·.add (k * sz))) (n - k) (c - k)) w := by
  have hb : (Instr.sliceBounds true n c (some (.int .i64 k)) none none).run Tryz.prog w = .ok (k, n, c) w := by
    simp [Instr.sliceBounds, run_sliceBound (k := .i64) (i := (k : Int)) (y := n) (h0 := by omega) (h1 := by omega)]
  simp only [Instr.slice, Sem.run_bind, run_underlying hT, Result.andThen_ok, hb, hE, hs, Sem.run_pure]
end Go.Proofs.YtdfdllbebfoggaaGreatDoor
