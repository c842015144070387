/- Contracts: the machines' words. -/
import Derived.Test.YtdfdllbebfoggaaGreatDoorMa1
import Derived.Below
namespace Go.Proofs.YtdfdllbebfoggaaGreatDoor
open Go.RowKit

theorem bthen {w w1 w2 : World} (h1 : Below w.heap.size w w1) (h2 : Below w1.heap.size w1 w2) : Below w.heap.size w w2 := h1.trans (h2.mono h1.size)

/-- A format's words for the machines. -/
def aw (fmt : Int) (n : Nat) : ByteArray :=
  if fmt = 1 then (match n with | 0 => ⟨#[97, 109, 100, 54, 52]⟩ | 1 => ⟨#[97, 114, 109, 54, 52]⟩ | _ => ⟨#[97, 108, 108]⟩)
  else (match n with | 0 => ⟨#[120, 56, 54, 95, 54, 52]⟩ | 1 => ⟨#[97, 97, 114, 99, 104, 54, 52]⟩ | _ => ⟨#[110, 111, 97, 114, 99, 104]⟩)

theorem idx3_0 (x0 x1 x2 : Value) (w : World) : (Instr.index 62 (.agg #[x0, x1, x2]) (.int .i64 0)).run Tryz.prog w = .ok x0 w := by kernel_rfl
theorem idx3_1 (x0 x1 x2 : Value) (w : World) : (Instr.index 62 (.agg #[x0, x1, x2]) (.int .i64 1)).run Tryz.prog w = .ok x1 w := by kernel_rfl
theorem idx3_2 (x0 x1 x2 : Value) (w : World) : (Instr.index 62 (.agg #[x0, x1, x2]) (.int .i64 2)).run Tryz.prog w = .ok x2 w := by kernel_rfl

set_option maxHeartbeats 400000 in
theorem model_archs (n : Int) (w : World) :
    Calls Tryz.prog 32 #[.int .i64 n] w fun e w' => e = .returned (.agg #[.string (aw n 0), .string (aw n 1), .string (aw n 2)]) ∧ Below w.heap.size w w' := by
  by_cases h : n = 1
  · subst h
    go_enter Tryz.func32, Tryz.ntmps32
    go_wp2
    refine bodyPost_ret (v := .agg #[.string (aw 1 0), .string (aw 1 1), .string (aw 1 2)]) (by simp [results, Tryz.results32, go_sem, aw]) rfl ⟨rfl, ?_⟩
    exact (Below.refl _ _).alloc (Nat.le_refl _) _
  · have hb : (n == 1) = false := by simpa using h
    go_enter Tryz.func32, Tryz.ntmps32
    go_wp2
    refine bodyPost_ret (v := .agg #[.string (aw n 0), .string (aw n 1), .string (aw n 2)]) (by simp [results, Tryz.results32, go_sem, aw, h]) rfl ⟨rfl, ?_⟩
    exact (Below.refl _ _).alloc (Nat.le_refl _) _

set_option maxHeartbeats 400000 in
theorem ref_machine (n : Int) (k : Nat) (hk : k < 3) (w : World) :
    Calls Tryz.prog 40 #[.int .i64 n, .int .i64 k] w fun e w' => e = .returned (.string (aw n k)) ∧ Below w.heap.size w w' := by
  by_cases h : n = 1
  · subst h
    go_enter Tryz.func40, Tryz.ntmps40
    go_wp2
    go_ret
    refine ⟨?_, ((Below.refl _ _).alloc (Nat.le_refl _) _).alloc (by simp) _⟩
    rcases (by omega : k = 0 ∨ k = 1 ∨ k = 2) with rfl | rfl | rfl <;> simp [aw]
  · have hb : (n == 1) = false := by simpa using h
    go_enter Tryz.func40, Tryz.ntmps40
    go_wp2
    go_ret
    refine ⟨?_, (Below.refl _ _).alloc (Nat.le_refl _) _⟩
    rcases (by omega : k = 0 ∨ k = 1 ∨ k = 2) with rfl | rfl | rfl <;> simp [aw, h]

/-- A machine's word in another format, and the error. -/
def archOf (a b : Int) (s : ByteArray) : ByteArray × Int :=
  if fmtB a = false ∨ fmtB b = false then (⟨#[]⟩, 9)
  else if aw a 0 = s then (aw b 0, 0) else if aw a 1 = s then (aw b 1, 0) else if aw a 2 = s then (aw b 2, 0) else (⟨#[]⟩, 11)
def archV (r : ByteArray × Int) : Value := .tuple #[.string r.1, .int .i64 r.2]

theorem beq_bl (s t : ByteArray) : (s.toList == t.toList) = decide (s = t) := by
  rw [bl_toList, bl_toList, Bool.eq_iff_iff]; simp; exact ⟨bl_inj, fun h => by rw [h]⟩

set_option maxHeartbeats 800000 in
theorem model_Arch (a b : Int) (s : ByteArray) (w : World) :
    Calls Tryz.prog 12 #[.int .i64 a, .int .i64 b, .string s] w fun e w' => e = .returned (archV (archOf a b s)) ∧ Below w.heap.size w w' := by
  have i0 := idx3_0
  have i1 := idx3_1
  have i2 := idx3_2
  by_cases ha : fmtB a = false
  · go_enter Tryz.func12, Tryz.ntmps12
    go_wp2_with (go_at_call 29; refine (model_isFormat _ _).mono ?_; rintro e w' ⟨rfl, rfl⟩)
    go_ret2
    exact ⟨by simp [archV, archOf, ha], Below.refl _ _⟩
  simp only [Bool.not_eq_false] at ha
  by_cases hb : fmtB b = false
  · go_enter Tryz.func12, Tryz.ntmps12
    go_wp2_with (go_at_call 29; refine (model_isFormat _ _).mono ?_; rintro e w' ⟨rfl, rfl⟩)
    go_ret2
    exact ⟨by simp [archV, archOf, hb], Below.refl _ _⟩
  simp only [Bool.not_eq_false] at hb
  go_enter Tryz.func12, Tryz.ntmps12
  go_wp2_with (first | (go_at_call 29; refine (model_isFormat _ _).mono ?_; rintro e w' ⟨rfl, rfl⟩) | (go_at_call 32; refine (model_archs _ _).mono ?_; rintro e w1 ⟨rfl, hb1⟩))
  refine wp_loop_rounds 4 ?_
  rw [rounds_succ]
  go_wp2_with (go_at_call 32; refine (model_archs _ _).mono ?_; rintro e w2 ⟨rfl, hb2⟩)
  · have h0 : ((aw a 0).toList == s.toList) = true := by assumption
    rw [beq_bl, decide_eq_true_iff] at h0
    go_ret2
    exact ⟨by simp [archV, archOf, ha, hb, h0], bthen hb1 hb2⟩
  have h0 : ((aw a 0).toList == s.toList) = false := by assumption
  have H0 := Lib.hid h0; clear h0
  rw [rounds_succ]
  go_wp2_with (go_at_call 32; refine (model_archs _ _).mono ?_; rintro e w2 ⟨rfl, hb2⟩)
  · have h1 : ((aw a 1).toList == s.toList) = true := by assumption
    have h0 := H0.out
    rw [beq_bl, decide_eq_true_iff] at h1
    rw [beq_bl, decide_eq_false_iff_not] at h0
    go_ret2
    exact ⟨by simp [archV, archOf, ha, hb, h0, h1], bthen hb1 hb2⟩
  have h1 : ((aw a 1).toList == s.toList) = false := by assumption
  have H1 := Lib.hid h1; clear h1
  rw [rounds_succ]
  go_wp2_with (go_at_call 32; refine (model_archs _ _).mono ?_; rintro e w2 ⟨rfl, hb2⟩)
  · have h2 : ((aw a 2).toList == s.toList) = true := by assumption
    have h0 := H0.out
    have h1 := H1.out
    rw [beq_bl, decide_eq_true_iff] at h2
    rw [beq_bl, decide_eq_false_iff_not] at h0 h1
    go_ret2
    exact ⟨by simp [archV, archOf, ha, hb, h0, h1, h2], bthen hb1 hb2⟩
  have h2 : ((aw a 2).toList == s.toList) = false := by assumption
  have H2 := Lib.hid h2; clear h2
  rw [rounds_succ]
  go_wp2_with fail
  have h0 := H0.out
  have h1 := H1.out
  have h2 := H2.out
  rw [beq_bl, decide_eq_false_iff_not] at h0 h1 h2
  go_ret2
  exact ⟨by simp [archV, archOf, ha, hb, h0, h1, h2], hb1⟩

theorem ref_machine0 (n : Int) (w : World) : Calls Tryz.prog 40 #[.int .i64 n, .int .i64 0] w fun e w' => e = .returned (.string (aw n 0)) ∧ Below w.heap.size w w' := ref_machine n 0 (by omega) w
theorem ref_machine1 (n : Int) (w : World) : Calls Tryz.prog 40 #[.int .i64 n, .int .i64 1] w fun e w' => e = .returned (.string (aw n 1)) ∧ Below w.heap.size w w' := ref_machine n 1 (by omega) w
theorem ref_machine2 (n : Int) (w : World) : Calls Tryz.prog 40 #[.int .i64 n, .int .i64 2] w fun e w' => e = .returned (.string (aw n 2)) ∧ Below w.heap.size w w' := ref_machine n 2 (by omega) w

set_option maxHeartbeats 800000 in
theorem ref_Arch (a b : Int) (s : ByteArray) (w : World) :
    Calls Tryz.prog 13 #[.int .i64 a, .int .i64 b, .string s] w fun e w' => e = .returned (archV (archOf a b s)) ∧ Below w.heap.size w w' := by
  by_cases ha : fmtB a = false ∨ fmtB b = false
  · have ha' : a < 1 ∨ 3 < a ∨ b < 1 ∨ 3 < b := by simp [fmtB] at ha; omega
    go_enter Tryz.func13, Tryz.ntmps13
    go_wp2_with fail
    all_goals (go_ret2; exact ⟨by simp [archV, archOf, ha], Below.refl _ _⟩)
  · have ha' : 1 ≤ a ∧ a ≤ 3 ∧ 1 ≤ b ∧ b ≤ 3 := by simp [fmtB] at ha; omega
    have HA := Lib.hid ha; clear ha
    obtain ⟨a1, a2, b1, b2⟩ := ha'
    go_enter Tryz.func13, Tryz.ntmps13
    go_wp2_with fail
    refine wp_loop_rounds 4 ?_
    rw [rounds_succ]
    go_wp2_with fail
    refine (ref_machine0 _ _).mono ?_; rintro e w1 ⟨rfl, hb1⟩
    go_wp2_with (go_at_call 40; refine (ref_machine0 _ _).mono ?_; rintro e w2 ⟨rfl, hb2⟩)
    · have h0 : ((aw a 0).toList == s.toList) = true := by assumption
      rw [beq_bl, decide_eq_true_iff] at h0
      have hA := HA.out
      go_ret2
      exact ⟨by simp [archV, archOf, hA, h0], bthen hb1 hb2⟩
    have h0 : ((aw a 0).toList == s.toList) = false := by assumption
    have H0 := Lib.hid h0; clear h0
    rw [rounds_succ]
    go_wp2_with fail
    refine (ref_machine1 _ _).mono ?_; rintro e w2 ⟨rfl, hb2⟩
    go_wp2_with (go_at_call 40; refine (ref_machine1 _ _).mono ?_; rintro e w3 ⟨rfl, hb3⟩)
    · have h1 : ((aw a 1).toList == s.toList) = true := by assumption
      have h0 := H0.out
      have hA := HA.out
      rw [beq_bl, decide_eq_true_iff] at h1
      rw [beq_bl, decide_eq_false_iff_not] at h0
      go_ret2
      exact ⟨by simp [archV, archOf, hA, h0, h1], bthen (bthen hb1 hb2) hb3⟩
    have h1 : ((aw a 1).toList == s.toList) = false := by assumption
    have H1 := Lib.hid h1; clear h1
    rw [rounds_succ]
    go_wp2_with fail
    refine (ref_machine2 _ _).mono ?_; rintro e w3 ⟨rfl, hb3⟩
    go_wp2_with (go_at_call 40; refine (ref_machine2 _ _).mono ?_; rintro e w4 ⟨rfl, hb4⟩)
    · have h2 : ((aw a 2).toList == s.toList) = true := by assumption
      have h0 := H0.out
      have h1 := H1.out
      have hA := HA.out
      rw [beq_bl, decide_eq_true_iff] at h2
      rw [beq_bl, decide_eq_false_iff_not] at h0 h1
      go_ret2
      exact ⟨by simp [archV, archOf, hA, h0, h1, h2], bthen (bthen (bthen hb1 hb2) hb3) hb4⟩
    have h2 : ((aw a 2).toList == s.toList) = false := by assumption
    have H2 := Lib.hid h2; clear h2
    rw [rounds_succ]
    go_wp2_with fail
    have h0 := H0.out
    have h1 := H1.out
    have h2 := H2.out
    have hA := HA.out
    rw [beq_bl, decide_eq_false_iff_not] at h0 h1 h2
    go_ret2
    exact ⟨by simp [archV, archOf, hA, h0, h1, h2], bthen (bthen hb1 hb2) hb3⟩

end Go.Proofs.YtdfdllbebfoggaaGreatDoor
