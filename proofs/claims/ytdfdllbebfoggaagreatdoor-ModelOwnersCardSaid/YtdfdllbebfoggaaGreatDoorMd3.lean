/- Contract: drayagelaw19.awake returns true. -/
import Derived.Test.YtdfdllbebfoggaaGreatDoorMd2
namespace Go.Proofs.YtdfdllbebfoggaaGreatDoor
open Go.RowKit

theorem below_of_eq {w w' : World} (h : w = w') : Below w.heap.size w w' := by rw [h]; exact Below.refl _ _

/-- A package without lists. -/
theorem CheckPackage_bare (nm ver ar sm : ByteArray) (w : World) (hG : Gl w) (hs0 : ver.size ≤ 64) (hs1 : nm.size ≤ 9223372036854775807) (hs2 : sm.size ≤ 9223372036854775807) :
    Calls Tryz.prog 10 #[.int .i64 1, .agg #[.string nm, .string ver, .string ar, .string sm, .slice none 0 0, .slice none 0 0, .slice none 0 0, .slice none 0 0, .slice none 0 0]] w
      fun e w' => e = .returned (cpAns nm (fmtB 1) (dnameB (bl nm)) (verCode (splitD (bl ver))) (archIn 1 ar) (sumB (bl sm)) true true true ⟨#[]⟩ 0 0) ∧ Below w.heap.size w w' :=
  model_CheckPackage 1 nm ver ar sm none none none none none 0 0 0 0 0 0 0 0 0 0 w _ _ _ _ _ _ _ hs1 hs2
    (Lib.hid fun w1 hb => version_Check_dpkg ver w1 (hG.below hb) hs0)
    (Lib.hid fun w1 _ => (model_textsRight_nil 1 false w1).mono fun _ _ ⟨he, hw⟩ => ⟨he, below_of_eq hw⟩)
    (Lib.hid fun w1 _ => (model_textsRight_nil 1 true w1).mono fun _ _ ⟨he, hw⟩ => ⟨he, below_of_eq hw⟩)
    (Lib.hid fun w1 _ => (model_givesRight_nil 1 w1).mono fun _ _ ⟨he, hw⟩ => ⟨he, below_of_eq hw⟩)
    (Lib.hid fun w1 _ => model_checkFiles_nil 1 w1)
    (Lib.hid fun w1 _ => (model_checkScripts_nil 1 w1).mono fun _ _ ⟨he, hw⟩ => ⟨he, below_of_eq hw⟩)

theorem ans1 : cpAns ⟨#[97, 97]⟩ (fmtB 1) (dnameB (bl ⟨#[97, 97]⟩)) (verCode (splitD (bl ⟨#[49, 45, 49]⟩))) (archIn 1 ⟨#[97, 108, 108]⟩) (sumB (bl ⟨#[]⟩)) true true true ⟨#[]⟩ 0 0 = refV ⟨#[97, 97]⟩ ⟨#[115, 117, 109, 109, 97, 114, 121]⟩ 3 := by
  have h1 : fmtB 1 = true := by decide
  have h2 : dnameB (bl ⟨#[97, 97]⟩) = true := by decide
  have h3 : verCode (splitD (bl ⟨#[49, 45, 49]⟩)) = 0 := by decide
  have h4 : archIn 1 ⟨#[97, 108, 108]⟩ = true := by simp [archIn, aw]
  have h5 : sumB (bl ⟨#[]⟩) = false := by decide
  simp [cpAns, h1, h2, h3, h4, h5]
theorem ans2 : cpAns ⟨#[97, 97]⟩ (fmtB 1) (dnameB (bl ⟨#[97, 97]⟩)) (verCode (splitD (bl ⟨#[49, 45, 49]⟩))) (archIn 1 ⟨#[97, 108, 108]⟩) (sumB (bl ⟨#[115]⟩)) true true true ⟨#[]⟩ 0 0 = refV ⟨#[]⟩ ⟨#[]⟩ 0 := by
  have h1 : fmtB 1 = true := by decide
  have h2 : dnameB (bl ⟨#[97, 97]⟩) = true := by decide
  have h3 : verCode (splitD (bl ⟨#[49, 45, 49]⟩)) = 0 := by decide
  have h4 : archIn 1 ⟨#[97, 108, 108]⟩ = true := by simp [archIn, aw]
  have h5 : sumB (bl ⟨#[115]⟩) = true := by decide
  simp [cpAns, h1, h2, h3, h4, h5]
theorem arch1 : archOf 1 2 ⟨#[97, 109, 100, 54, 52]⟩ = (⟨#[120, 56, 54, 95, 54, 52]⟩, 0) := by
  have h1 : fmtB 1 = true := by decide
  have h2 : fmtB 2 = true := by decide
  simp [archOf, h1, h2, aw]

theorem awake_first (w : World) (hG : Gl w) :
    Calls Tryz.prog 10 #[.int .i64 1, .agg #[.string ⟨#[97, 97]⟩, .string ⟨#[49, 45, 49]⟩, .string ⟨#[97, 108, 108]⟩, .string ⟨#[]⟩, .slice none 0 0, .slice none 0 0, .slice none 0 0, .slice none 0 0, .slice none 0 0]] w
      fun e w' => e = .returned (.agg #[.string ⟨#[97, 97]⟩, .string ⟨#[115, 117, 109, 109, 97, 114, 121]⟩, .int .i64 3]) ∧ Below w.heap.size w w' :=
  (CheckPackage_bare _ _ _ _ w hG (by decide) (by decide) (by decide)).mono fun _ _ ⟨he, hb⟩ => ⟨by rw [he, ans1]; rfl, hb⟩
theorem awake_second (w : World) (hG : Gl w) :
    Calls Tryz.prog 10 #[.int .i64 1, .agg #[.string ⟨#[97, 97]⟩, .string ⟨#[49, 45, 49]⟩, .string ⟨#[97, 108, 108]⟩, .string ⟨#[115]⟩, .slice none 0 0, .slice none 0 0, .slice none 0 0, .slice none 0 0, .slice none 0 0]] w
      fun e w' => e = .returned (.agg #[.string ⟨#[]⟩, .string ⟨#[]⟩, .int .i64 0]) ∧ Below w.heap.size w w' :=
  (CheckPackage_bare _ _ _ _ w hG (by decide) (by decide) (by decide)).mono fun _ _ ⟨he, hb⟩ => ⟨by rw [he, ans2]; rfl, hb⟩
theorem awake_arch (w : World) :
    Calls Tryz.prog 12 #[.int .i64 1, .int .i64 2, .string ⟨#[97, 109, 100, 54, 52]⟩] w fun e w' => e = .returned (.tuple #[.string ⟨#[120, 56, 54, 95, 54, 52]⟩, .int .i64 0]) ∧ Below w.heap.size w w' :=
  (model_Arch _ _ _ w).mono fun _ _ ⟨he, hb⟩ => ⟨by rw [he, arch1]; rfl, hb⟩

set_option maxRecDepth 100000 in
set_option maxHeartbeats 1000000 in
theorem law_awake (w : World) (hG : Gl w) :
    Calls Tryz.prog 8 #[] w fun e w' => e = .returned (.bool true) ∧ Below w.heap.size w w' := by
  have HG := Lib.hid hG; clear hG
  go_enter Tryz.func8, Tryz.ntmps8
  go_wp2_with fail
  refine (awake_arch _).mono ?_; rintro e w1 ⟨rfl, hb1⟩
  go_wp2_with fail
  refine (awake_first _ (by exact ((HG.out.below hb1).alloc _).alloc _)).mono ?_; rintro e w2 ⟨rfl, hb2⟩
  obtain ⟨hc2, hf2⟩ := bcellN hb2
  have HB2 := Lib.hid hb2; clear hb2
  go_wp2_with fail
  refine (awake_second _ (by exact (((HG.out.below hb1).alloc _).alloc _).below HB2.out)).mono ?_; rintro e w3 ⟨rfl, hb3⟩
  go_wp2_with fail
  go_ret
  refine ⟨rfl, bthen (bthen hb1 ?_) hb3⟩
  exact (((Below.refl _ _).alloc (Nat.le_refl _) _).alloc (by simp) _).trans (HB2.out.mono (by simp; omega))
end Go.Proofs.YtdfdllbebfoggaaGreatDoor
