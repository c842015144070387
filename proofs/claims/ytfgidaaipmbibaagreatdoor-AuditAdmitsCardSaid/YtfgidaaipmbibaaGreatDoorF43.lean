/- A part of the proof of a law on which findings a policy admits. No condition. -/
import Derived.Test.YtfgidaaipmbibaaGreatDoorF31
import Derived.Test.YtfgidaaipmbibaaGreatDoorF42
set_option maxRecDepth 100000
set_option maxHeartbeats 20000000
set_option linter.unusedVariables false
set_option linter.unusedSimpArgs false
namespace Go.Proofs.YtfgidaaipmbibaaGreatDoor
section
open Go.RowKit Go.Maps
def fileA : FileM := ⟨⟨#[97]⟩, 2, 0, ⟨#[114, 111, 111, 116]⟩, ⟨#[114, 111, 111, 116]⟩, ⟨#[]⟩, ⟨#[]⟩, false⟩
def pkA (fb : Nat) : PkL := { nm := ⟨#[97, 97]⟩, ver := ⟨#[49, 45, 49]⟩, ar := ⟨#[97, 108, 108]⟩, sm := ⟨#[115]⟩, na := none, nc := 0, needs := [], ba := none, bc := 0, bars := [], ga := none, gc := 0, gives := [], fa := some ⟨fb, 0, none⟩, fc := 1, files := [fileA], sa := none, sc := 0, scripts := [] }
theorem rd_one {w : World} {b sz : Nat} {vs : List Value} (h : Blk w b vs) (hl : vs.length = sz) : Rd w sz (some ⟨b, 0, none⟩) 1 vs :=
  ⟨by rw [hl]; simp, fun _ => ⟨b, 0, rfl, fun j u hu => by simpa using h.cell j u hu⟩⟩
theorem pkA_ok {w : World} {fb : Nat} (h : Blk w fb fileA.cells) : (pkA fb).ok w :=
  ⟨Rd.nil _ _ _, Rd.nil _ _ _, Rd.nil _ _ _, rd_one (vs := fileA.cells) h rfl, Rd.nil _ _ _⟩
theorem dbA_ok {w : World} {fb pb : Nat} (h : Blk w fb fileA.cells) (hp : Blk w pb (pkA fb).cells) : DbOk w (some ⟨pb, 0, none⟩) [pkA fb] :=
  ⟨rd_one (vs := (pkA fb).cells) hp rfl, fun p hp => by rw [List.mem_singleton.1 hp]; exact pkA_ok h⟩
theorem fErrA : fErr 1 [] fileA = 0 := by
  have h1 : (pathB (bl fileA.path) && plainB (bl fileA.path)) = true := by decide
  have h2 : orderB ([] : List FileM).getLast? fileA = true := by rfl
  have h3 : restB 1 fileA = true := by decide
  have h4 : parBad [] fileA = false := by decide
  unfold fErr
  rw [h1, h2, h3, h4]
  decide
theorem filesA : filesAns 1 [fileA] = (⟨#[]⟩, 0) := by
  unfold filesAns
  rw [if_neg (by decide)]
  simp [filesE, fErrA]
theorem ansA : cpAns ⟨#[97, 97]⟩ (fmtB 1) (dnameB (bl ⟨#[97, 97]⟩)) (verCode (splitD (bl ⟨#[49, 45, 49]⟩))) (archIn 1 ⟨#[97, 108, 108]⟩) (sumB (bl ⟨#[115]⟩)) true true true ⟨#[]⟩ 0 0 = refV ⟨#[]⟩ ⟨#[]⟩ 0 := by
  have h1 : fmtB 1 = true := by decide
  have h2 : dnameB (bl ⟨#[97, 97]⟩) = true := by decide
  have h3 : verCode (splitD (bl ⟨#[49, 45, 49]⟩)) = 0 := by decide
  have h4 : archIn 1 ⟨#[97, 108, 108]⟩ = true := by simp [archIn, aw]
  have h5 : sumB (bl ⟨#[115]⟩) = true := by decide
  simp [cpAns, h1, h2, h3, h4, h5]
theorem bel_eq {w w' : World} (h : w = w') : Below w.heap.size w w' := by rw [h]; exact Below.refl _ _
theorem CheckPackage_A (fb : Nat) (w : World) (hG : Gl w) (hok : (pkA fb).ok w) :
    Calls Tryz.prog 25 #[.int .i64 1, (pkA fb).val] w fun e w' => e = .returned (ckV (pkA fb).nm (⟨#[]⟩, 0)) ∧ Below w.heap.size w w' :=
  (model_CheckPackage 1 ⟨#[97, 97]⟩ ⟨#[49, 45, 49]⟩ ⟨#[97, 108, 108]⟩ ⟨#[115]⟩ none none none (some ⟨fb, 0, none⟩) none 0 0 0 0 0 0 1 1 0 0 w _ 0 0 true true true ⟨#[]⟩ (by decide) (by decide)
    (Lib.hid fun w1 hb => version_Check_dpkg ⟨#[49, 45, 49]⟩ w1 (hG.below hb) (by decide))
    (Lib.hid fun w1 _ => (model_textsRight_nil 1 false w1).mono fun _ _ ⟨he, hw⟩ => ⟨he, bel_eq hw⟩)
    (Lib.hid fun w1 _ => (model_textsRight_nil 1 true w1).mono fun _ _ ⟨he, hw⟩ => ⟨he, bel_eq hw⟩)
    (Lib.hid fun w1 _ => (model_givesRight_nil 1 w1).mono fun _ _ ⟨he, hw⟩ => ⟨he, bel_eq hw⟩)
    (Lib.hid fun w1 hb => (model_checkFiles 1 (.inl rfl) (some ⟨fb, 0, none⟩) 1 [fileA] w1 (hG.below hb) (hok.below hb).files (by decide) (by intro x hx; rw [List.mem_singleton.1 hx]; decide)).mono fun _ _ ⟨he, hw⟩ => ⟨by rw [he]; unfold filesV; rw [filesA], hw⟩)
    (Lib.hid fun w1 _ => (model_checkScripts_nil 1 w1).mono fun _ _ ⟨he, hw⟩ => ⟨he, bel_eq hw⟩)).mono fun _ _ ⟨he, hb⟩ => ⟨by rw [he, ansA]; rfl, hb⟩
theorem dbW_A (fb : Nat) : dbV (dbW (fun _ => (⟨#[]⟩, 0)) (fmtB 1) [pkA fb]) = .agg #[.string ⟨#[]⟩, .string ⟨#[]⟩, .int .i64 0] := by
  have h1 : fmtB 1 = true := by decide
  rw [h1, dbW_else rfl (by simp)]
  rfl
theorem Check_A (fb pb c : Nat) (w : World) (hG : Gl w) (hd : DbOk w (some ⟨pb, 0, none⟩) [pkA fb]) :
    Calls Tryz.prog 9 #[.int .i64 1, .slice (some ⟨pb, 0, none⟩) 1 c] w fun e w' => e = .returned (.agg #[.string ⟨#[]⟩, .string ⟨#[]⟩, .int .i64 0]) ∧ Below w.heap.size w w' :=
  (model_Check_of 1 (fun _ => (⟨#[]⟩, 0)) (some ⟨pb, 0, none⟩) c [pkA fb] w hG hd (by show (1 : Nat) ≤ 100000; decide) (by have : wDb [pkA fb] = wDb [pkA 0] := rfl; rw [this]; decide)
    (by intro p hp; rw [List.mem_singleton.1 hp]; exact ⟨by show (1 : Nat) ≤ 1000000; decide, by intro x hx; rw [List.mem_singleton.1 (show x ∈ [fileA] from hx)]; decide⟩)
    (by intro p hp W hg hok; rw [List.mem_singleton.1 hp] at hok ⊢; exact CheckPackage_A fb W hg hok)
    (by intro p hp _; rw [List.mem_singleton.1 hp]; show (filesAns 1 [fileA]).2 = 0; rw [filesA])).mono fun _ _ ⟨he, hb⟩ => ⟨by rw [he, dbW_A], hb⟩
theorem prsA (fb : Nat) : prs [pkA fb] = [(⟨#[97]⟩, ⟨#[97, 97]⟩)] := by simp [prs, pPrs, dd, fpaths, pkA, fileA]
theorem pkA_fits (fb : Nat) : (pkA fb).fits := by
  refine ⟨(by decide : (2 : Nat) ≤ 9223372036854775807), (by decide : (3 : Nat) ≤ 9223372036854775807), (by decide : (3 : Nat) ≤ 9223372036854775807), (by decide : (1 : Nat) ≤ 9223372036854775807), Nat.zero_le _, Nat.zero_le _, Nat.zero_le _, (by decide : (1 : Nat) ≤ 9223372036854775807), Nat.zero_le _, ?_, ?_, ?_, ?_, ?_⟩
  · intro s hs; cases hs
  · intro s hs; cases hs
  · intro s hs; cases hs
  · intro x hx; rw [List.mem_singleton.1 (show x ∈ [fileA] from hx)]; decide
  · intro s hs; cases hs
theorem Owners_A (fb pb c : Nat) (w : World) (hd : DbOk w (some ⟨pb, 0, none⟩) [pkA fb]) :
    Calls Tryz.prog 12 #[.slice (some ⟨pb, 0, none⟩) 1 c] w fun e w' => ∃ (ob oo oc : Nat) (x : OwL), e = .returned (.slice (some ⟨ob, oo, none⟩) 1 oc) ∧ x.names.length = 1 ∧ (w'.cell? ⟨ob, oo, none⟩ = some (.string x.path) ∧ w'.cell? ⟨ob, oo + 1, none⟩ = some x.sl) ∧ Below w.heap.size w w' := by
  refine (model_Owners (some ⟨pb, 0, none⟩) c [pkA fb] w hd (by show (1 : Nat) ≤ 100000; decide) (by have : wDb [pkA fb] = wDb [pkA 0] := rfl; rw [this]; decide) (by intro p hp; rw [List.mem_singleton.1 hp]; exact pkA_fits fb)).mono ?_
  rintro e w' ⟨A, oc, out, rfl, hr, _, hO, hb⟩
  rw [prsA] at hO
  have hm := hO.mem
  have hone : ∃ x, out = [x] := by
    have hp := hO.sorted
    match out, hp, hm with
    | [], _, hm => have := (hm ⟨#[97]⟩).2 (by simp); simp at this
    | [x], _, _ => exact ⟨x, rfl⟩
    | x :: y :: r, hp, hm =>
      have hx := (hm x.path).1 (by simp [OwL.pair])
      have hy := (hm y.path).1 (by simp [OwL.pair])
      simp at hx hy
      simp [OwL.pair] at hp
      rw [hx, hy] at hp
      exact absurd hp.1.1 (lt_irr _)
  obtain ⟨x, rfl⟩ := hone
  have hx : x.path = ⟨#[97]⟩ := by have := (hm x.path).1 (by simp [OwL.pair]); simpa using this
  have hn : x.names = nms [(⟨#[97]⟩, ⟨#[97, 97]⟩)] x.path := hO.names x.pair (by simp)
  obtain ⟨ob, oo, rfl, hc⟩ := hr.2 (by simp)
  refine ⟨ob, oo, oc, x, rfl, ?_, ⟨by simpa using hc 0 _ rfl, hc 1 _ rfl⟩, hb⟩
  rw [hn, hx]
  simp [nms]
end
end Go.Proofs.YtfgidaaipmbibaaGreatDoor
