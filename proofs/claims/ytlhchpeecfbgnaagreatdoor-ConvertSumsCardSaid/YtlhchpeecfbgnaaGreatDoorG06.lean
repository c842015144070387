/- A part of the proof that the digests of any content are the three of it, and that an installed set is new memory. No condition. -/
import Derived.Below
import Derived.Test.YtlhchpeecfbgnaaGreatDoorG01
set_option maxRecDepth 100000
set_option maxHeartbeats 20000000
set_option linter.unusedVariables false
set_option linter.unusedSimpArgs false
namespace Go.Proofs.YtlhchpeecfbgnaaGreatDoor
section
open Go.RowKit
theorem bthen {w w1 w2 : World} (h1 : Below w.heap.size w w1) (h2 : Below w1.heap.size w1 w2) : Below w.heap.size w w2 := h1.trans (h2.mono h1.size)
def aw (fmt : Int) (n : Nat) : ByteArray :=
  if fmt = 1 then (match n with | 0 => ⟨#[97, 109, 100, 54, 52]⟩ | 1 => ⟨#[97, 114, 109, 54, 52]⟩ | _ => ⟨#[97, 108, 108]⟩)
  else (match n with | 0 => ⟨#[120, 56, 54, 95, 54, 52]⟩ | 1 => ⟨#[97, 97, 114, 99, 104, 54, 52]⟩ | _ => ⟨#[110, 111, 97, 114, 99, 104]⟩)
theorem idx3_0 (x0 x1 x2 : Value) (w : World) : (Instr.index 121 (.agg #[x0, x1, x2]) (.int .i64 0)).run Tryz.prog w = .ok x0 w := by kernel_rfl
theorem idx3_1 (x0 x1 x2 : Value) (w : World) : (Instr.index 121 (.agg #[x0, x1, x2]) (.int .i64 1)).run Tryz.prog w = .ok x1 w := by kernel_rfl
theorem idx3_2 (x0 x1 x2 : Value) (w : World) : (Instr.index 121 (.agg #[x0, x1, x2]) (.int .i64 2)).run Tryz.prog w = .ok x2 w := by kernel_rfl
theorem model_archs (n : Int) (w : World) :
    Calls Tryz.prog 65 #[.int .i64 n] w fun e w' => e = .returned (.agg #[.string (aw n 0), .string (aw n 1), .string (aw n 2)]) ∧ Below w.heap.size w w' := by
  by_cases h : n = 1
  · subst h
    go_enter Tryz.func65, Tryz.ntmps65
    go_wp2
    refine bodyPost_ret (v := .agg #[.string (aw 1 0), .string (aw 1 1), .string (aw 1 2)]) (by simp [results, Tryz.results65, go_sem, aw]) rfl ⟨rfl, ?_⟩
    exact (Below.refl _ _).alloc (Nat.le_refl _) _
  · have hb : (n == 1) = false := by simpa using h
    go_enter Tryz.func65, Tryz.ntmps65
    go_wp2
    refine bodyPost_ret (v := .agg #[.string (aw n 0), .string (aw n 1), .string (aw n 2)]) (by simp [results, Tryz.results65, go_sem, aw, h]) rfl ⟨rfl, ?_⟩
    exact (Below.refl _ _).alloc (Nat.le_refl _) _
def archOf (a b : Int) (s : ByteArray) : ByteArray × Int :=
  if fmtB a = false ∨ fmtB b = false then (⟨#[]⟩, 9)
  else if aw a 0 = s then (aw b 0, 0) else if aw a 1 = s then (aw b 1, 0) else if aw a 2 = s then (aw b 2, 0) else (⟨#[]⟩, 11)
def archV (r : ByteArray × Int) : Value := .tuple #[.string r.1, .int .i64 r.2]
theorem beq_bl (s t : ByteArray) : (s.toList == t.toList) = decide (s = t) := by
  rw [bl_toList, bl_toList, Bool.eq_iff_iff]; simp; exact ⟨bl_inj, fun h => by rw [h]⟩
theorem model_Arch (a b : Int) (s : ByteArray) (w : World) :
    Calls Tryz.prog 49 #[.int .i64 a, .int .i64 b, .string s] w fun e w' => e = .returned (archV (archOf a b s)) ∧ Below w.heap.size w w' := by
  have i0 := idx3_0
  have i1 := idx3_1
  have i2 := idx3_2
  by_cases ha : fmtB a = false
  · go_enter Tryz.func49, Tryz.ntmps49
    go_wp2_with (go_at_call 35; refine (model_isFormat _ _).mono ?_; rintro e w' ⟨rfl, rfl⟩)
    go_ret2
    exact ⟨by simp [archV, archOf, ha], Below.refl _ _⟩
  simp only [Bool.not_eq_false] at ha
  by_cases hb : fmtB b = false
  · go_enter Tryz.func49, Tryz.ntmps49
    go_wp2_with (go_at_call 35; refine (model_isFormat _ _).mono ?_; rintro e w' ⟨rfl, rfl⟩)
    go_ret2
    exact ⟨by simp [archV, archOf, hb], Below.refl _ _⟩
  simp only [Bool.not_eq_false] at hb
  go_enter Tryz.func49, Tryz.ntmps49
  go_wp2_with (first | (go_at_call 35; refine (model_isFormat _ _).mono ?_; rintro e w' ⟨rfl, rfl⟩) | (go_at_call 65; refine (model_archs _ _).mono ?_; rintro e w1 ⟨rfl, hb1⟩))
  refine wp_loop_rounds 4 ?_
  rw [rounds_succ]
  go_wp2_with (go_at_call 65; refine (model_archs _ _).mono ?_; rintro e w2 ⟨rfl, hb2⟩)
  · have h0 : ((aw a 0).toList == s.toList) = true := by assumption
    rw [beq_bl, decide_eq_true_iff] at h0
    go_ret2
    exact ⟨by simp [archV, archOf, ha, hb, h0], bthen hb1 hb2⟩
  have h0 : ((aw a 0).toList == s.toList) = false := by assumption
  have H0 := Lib.hid h0; clear h0
  rw [rounds_succ]
  go_wp2_with (go_at_call 65; refine (model_archs _ _).mono ?_; rintro e w2 ⟨rfl, hb2⟩)
  · have h1 : ((aw a 1).toList == s.toList) = true := by assumption
    have h0 := H0.out
    rw [beq_bl, decide_eq_true_iff] at h1
    rw [beq_bl, decide_eq_false_iff_not] at h0
    go_ret2
    exact ⟨by simp [archV, archOf, ha, hb, h0, h1], bthen hb1 hb2⟩
  have h1 : ((aw a 1).toList == s.toList) = false := by assumption
  have H1 := Lib.hid h1; clear h1
  rw [rounds_succ]
  go_wp2_with (go_at_call 65; refine (model_archs _ _).mono ?_; rintro e w2 ⟨rfl, hb2⟩)
  · have h2 : ((aw a 2).toList == s.toList) = true := by assumption
    have h0 := H0.out
    have h1 := H1.out
    rw [beq_bl, decide_eq_true_iff] at h2
    rw [beq_bl, decide_eq_false_iff_not] at h0 h1
    go_ret2
    exact ⟨by simp [archV, archOf, ha, hb, h0, h1, h2], bthen hb1 hb2⟩
  have h2 : ((aw a 2).toList == s.toList) = false := by assumption
  have H2 := Lib.hid h2; clear h2
  rw [rounds_succ]
  go_wp2_with fail
  have h0 := H0.out
  have h1 := H1.out
  have h2 := H2.out
  rw [beq_bl, decide_eq_false_iff_not] at h0 h1 h2
  go_ret2
  exact ⟨by simp [archV, archOf, ha, hb, h0, h1, h2], hb1⟩
end
end Go.Proofs.YtlhchpeecfbgnaaGreatDoor
