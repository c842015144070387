/- Contract: drayagelaw19.ModelWords returns true. -/
import Derived.Test.YtdfdllbebfoggaaGreatDoorMd3
namespace Go.Proofs.YtdfdllbebfoggaaGreatDoor
open Go.RowKit

theorem aw_inj (n : Int) (i j : Nat) (hi : i < 3) (hj : j < 3) (h : aw n i = aw n j) : i = j := by
  by_cases h1 : n = 1
  · rcases (by omega : i = 0 ∨ i = 1 ∨ i = 2) with rfl | rfl | rfl <;> rcases (by omega : j = 0 ∨ j = 1 ∨ j = 2) with rfl | rfl | rfl <;> first | rfl | (simp [aw, h1] at h)
  · rcases (by omega : i = 0 ∨ i = 1 ∨ i = 2) with rfl | rfl | rfl <;> rcases (by omega : j = 0 ∨ j = 1 ∨ j = 2) with rfl | rfl | rfl <;> first | rfl | (simp [aw, h1] at h)

theorem archOf_bad (a b : Int) (s : ByteArray) (h : ¬ (archOf a b s).2 = 0) : (archOf a b s).1 = ⟨#[]⟩ := by
  unfold archOf at *
  split at h
  · simp_all
  · split at h
    · simp_all
    · split at h
      · simp_all
      · split at h
        · simp_all
        · simp_all
theorem archOf_back (a b : Int) (s : ByteArray) (h : (archOf a b s).2 = 0) : archOf b a (archOf a b s).1 = (s, 0) := by
  by_cases hf : fmtB a = false ∨ fmtB b = false
  · simp [archOf, hf] at h
  have hf' : ¬ (fmtB b = false ∨ fmtB a = false) := fun x => hf (x.symm)
  by_cases h0 : aw a 0 = s
  · have e : archOf a b s = (aw b 0, 0) := by simp only [archOf, if_neg hf, if_pos h0]
    rw [e]; simp only [archOf, if_neg hf', if_true, h0]
  by_cases h1 : aw a 1 = s
  · have e : archOf a b s = (aw b 1, 0) := by simp only [archOf, if_neg hf, if_neg h0, if_pos h1]
    have n0 : ¬ aw b 0 = aw b 1 := fun x => by have := aw_inj b 0 1 (by omega) (by omega) x; omega
    rw [e]; simp only [archOf, if_neg hf', if_neg n0, if_true, h1]
  by_cases h2 : aw a 2 = s
  · have e : archOf a b s = (aw b 2, 0) := by simp only [archOf, if_neg hf, if_neg h0, if_neg h1, if_pos h2]
    have n0 : ¬ aw b 0 = aw b 2 := fun x => by have := aw_inj b 0 2 (by omega) (by omega) x; omega
    have n1 : ¬ aw b 1 = aw b 2 := fun x => by have := aw_inj b 1 2 (by omega) (by omega) x; omega
    rw [e]; simp only [archOf, if_neg hf', if_neg n0, if_neg n1, if_true, h2]
  · simp [archOf, hf, h0, h1, h2] at h

theorem model_Arch_is (a b : Int) (s x : ByteArray) (c : Int) (w : World) (h : Hid (archOf a b s = (x, c))) :
    Calls Tryz.prog 12 #[.int .i64 a, .int .i64 b, .string s] w fun e w' => e = .returned (.tuple #[.string x, .int .i64 c]) ∧ Below w.heap.size w w' :=
  (model_Arch a b s w).mono fun _ _ ⟨he, hb⟩ => ⟨by rw [he, h.out]; rfl, hb⟩
theorem ref_Arch_is (a b : Int) (s x : ByteArray) (c : Int) (w : World) (h : Hid (archOf a b s = (x, c))) :
    Calls Tryz.prog 13 #[.int .i64 a, .int .i64 b, .string s] w fun e w' => e = .returned (.tuple #[.string x, .int .i64 c]) ∧ Below w.heap.size w w' :=
  (ref_Arch a b s w).mono fun _ _ ⟨he, hb⟩ => ⟨by rw [he, h.out]; rfl, hb⟩

set_option maxRecDepth 100000 in
set_option maxHeartbeats 1000000 in
theorem law_ModelWords (a b : Int) (s : ByteArray) (w : World) (hG : Gl w) (hs : s.size ≤ 9223372036854775807) :
    Calls Tryz.prog 4 #[.int .i64 a, .int .i64 b, .string s] w fun e w' => e = .returned (.bool true) ∧ Below w.heap.size w w' := by
  have HG := Lib.hid hG; clear hG
  by_cases hl : s.size ≤ 2000
  · obtain ⟨x, c, hx⟩ : ∃ x c, archOf a b s = (x, c) := ⟨_, _, rfl⟩
    have HX := Lib.hid hx
    have hbad := archOf_bad a b s
    have hback := archOf_back a b s
    rw [hx] at hbad hback
    simp only at hbad hback
    have HBAD := Lib.hid hbad
    have HBACK := Lib.hid hback
    clear hx hbad hback
    have hbq : (bl s).isEmpty = (bl s).isEmpty := rfl
    by_cases hc : c = 0
    · subst hc
      have HB2 := Lib.hid (HBACK.out rfl)
      go_enter Tryz.func4, Tryz.ntmps4
      go_wp2_with fail
      refine (law_awake _ HG.out).mono ?_; rintro e w1 ⟨rfl, hb1⟩
      go_wp2_with fail
      refine (model_Arch_is a b s x 0 _ HX).mono ?_; rintro e w2 ⟨rfl, hb2⟩
      go_wp2_with fail
      refine (ref_Arch_is a b s x 0 _ HX).mono ?_; rintro e w3 ⟨rfl, hb3⟩
      go_wp2_with fail
      refine (model_Kind a _).mono ?_; rintro e w4 ⟨rfl, rfl⟩
      go_wp2_with fail
      refine (ref_Kind a _).mono ?_; rintro e w4 ⟨rfl, rfl⟩
      go_wp2_with fail
      refine (model_Plain s _ hs).mono ?_; rintro e w4 ⟨rfl, rfl⟩
      go_wp2_with fail
      refine (ref_Plain s _ hs).mono ?_; rintro e w4 ⟨rfl, rfl⟩
      go_wp2_with fail
      refine (model_Arch_is b a x s 0 _ HB2).mono ?_; rintro e w4 ⟨rfl, hb4⟩
      go_wp2_with fail
      go_ret
      exact ⟨ret_bool (by simp), bthen (bthen (bthen hb1 hb2) hb3) hb4⟩
    · have hc' : (c != 0) = true := by simpa using hc
      obtain rfl := HBAD.out hc
      clear hc
      go_enter Tryz.func4, Tryz.ntmps4
      go_wp2_with fail
      refine (law_awake _ HG.out).mono ?_; rintro e w1 ⟨rfl, hb1⟩
      go_wp2_with fail
      refine (model_Arch_is a b s _ c _ HX).mono ?_; rintro e w2 ⟨rfl, hb2⟩
      go_wp2_with fail
      refine (ref_Arch_is a b s _ c _ HX).mono ?_; rintro e w3 ⟨rfl, hb3⟩
      go_wp2_with fail
      refine (model_Kind a _).mono ?_; rintro e w4 ⟨rfl, rfl⟩
      go_wp2_with fail
      refine (ref_Kind a _).mono ?_; rintro e w4 ⟨rfl, rfl⟩
      go_wp2_with fail
      refine (model_Plain s _ hs).mono ?_; rintro e w4 ⟨rfl, rfl⟩
      go_wp2_with fail
      refine (ref_Plain s _ hs).mono ?_; rintro e w4 ⟨rfl, rfl⟩
      go_wp2_with fail
      go_ret
      exact ⟨ret_bool (by simp), bthen (bthen hb1 hb2) hb3⟩
  · go_enter Tryz.func4, Tryz.ntmps4
    go_wp2_with fail
    refine (law_awake _ HG.out).mono ?_; rintro e w1 ⟨rfl, hb1⟩
    go_wp2_with fail
    go_ret
    exact ⟨rfl, hb1⟩
end Go.Proofs.YtdfdllbebfoggaaGreatDoor
