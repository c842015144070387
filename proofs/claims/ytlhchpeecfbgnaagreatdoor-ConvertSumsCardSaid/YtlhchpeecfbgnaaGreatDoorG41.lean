/- A part of the proof that the digests of any content are the three of it, and that an installed set is new memory. No condition. -/
import Derived.Test.YtlhchpeecfbgnaaGreatDoorG40
set_option maxRecDepth 100000
set_option maxHeartbeats 20000000
set_option linter.unusedVariables false
set_option linter.unusedSimpArgs false
namespace Go.Proofs.YtlhchpeecfbgnaaGreatDoor
section
open Go.RowKit
theorem trans_bad {a b : Int} (s : ByteArray) (h : ¬ isF a ∨ ¬ isF b) : trans a b s = ([], 9) := by unfold trans; rw [if_pos h]
theorem trans_err {a b : Int} {s : ByteArray} (ha : isF a) (hb : isF b) (h : ¬ prsE a s = 0) : trans a b s = ([], prsE a s) := by
  unfold trans; rw [if_neg (by rintro (x | x); exact x ha; exact x hb)]
  unfold prsE at h ⊢
  by_cases hv : verE a s = 0
  · rw [if_neg (by simpa using hv)] at h ⊢
    rw [if_neg (by simpa using hv)]
    cases hp : prsC a (bl s) with
    | none => rw [if_pos rfl]
    | some c => rw [hp] at h; simp at h
  · rw [if_pos hv, if_pos hv]
theorem trans_ok {a b : Int} {s : ByteArray} (ha : isF a) (hb : isF b) (h : prsE a s = 0) {c : CoreM} (hc : prsC a (bl s) = some c) : trans a b s = prtV b c := by
  unfold trans; rw [if_neg (by rintro (x | x); exact x ha; exact x hb)]
  unfold prsE at h
  by_cases hv : verE a s = 0
  · rw [if_neg (by simpa using hv), hc]
  · rw [if_pos hv] at h; exact absurd h hv
theorem vmap_Translate (a b : Int) (s : ByteArray) (w : World) (hG : GlP w) (hs : s.size ≤ 9223372036854775807) :
    Calls Tryz.prog 45 #[.int .i64 a, .int .i64 b, .string s] w fun e w' => e = .returned (prtVal (trans a b s)) ∧ Below w.heap.size w w' := by
  have HG := Lib.hid hG
  clear hG
  have HNA := Lib.hid fun W => vmap_none a W
  have HNB := Lib.hid fun W => vmap_none b W
  by_cases ha : ¬ isF a
  · have E := Lib.hid (trans_bad (a := a) (b := b) s (.inl ha))
    have e1 : noneB a = true := by unfold noneB; rw [decide_eq_false ha]; rfl
    rw [e1] at HNA
    clear ha e1
    go_enter Tryz.func45, Tryz.ntmps45
    go_wp2_with fail
    refine (HNA.out _).mono ?_; rintro e w' ⟨rfl, rfl⟩
    go_wp2_with fail
    go_ret2
    exact ⟨by rw [E.out]; rfl, Below.refl _ _⟩
  have ha1 : isF a := Decidable.not_not.1 ha
  have e1 : noneB a = false := by unfold noneB; rw [decide_eq_true ha1]; rfl
  rw [e1] at HNA
  have HA := Lib.hid ha1
  clear ha ha1 e1
  by_cases hb : ¬ isF b
  · have E := Lib.hid (trans_bad (a := a) (b := b) s (.inr hb))
    have e1 : noneB b = true := by unfold noneB; rw [decide_eq_false hb]; rfl
    rw [e1] at HNB
    clear hb e1
    go_enter Tryz.func45, Tryz.ntmps45
    go_wp2_with fail
    refine (HNA.out _).mono ?_; rintro e w' ⟨rfl, rfl⟩
    go_wp2_with fail
    refine (HNB.out _).mono ?_; rintro e w' ⟨rfl, rfl⟩
    go_wp2_with fail
    go_ret2
    exact ⟨by rw [E.out]; rfl, Below.refl _ _⟩
  have hb1 : isF b := Decidable.not_not.1 hb
  have e1 : noneB b = false := by unfold noneB; rw [decide_eq_true hb1]; rfl
  rw [e1] at HNB
  have HB := Lib.hid hb1
  clear hb hb1 e1
  go_enter Tryz.func45, Tryz.ntmps45
  go_wp2_with fail
  refine (HNA.out _).mono ?_; rintro e w' ⟨rfl, rfl⟩
  go_wp2_with fail
  refine (HNB.out _).mono ?_; rintro e w' ⟨rfl, rfl⟩
  go_wp2_with fail
  refine (vmap_Parse a HA.out s _ HG.out hs).mono ?_; rintro e w1 ⟨cl, rfl, hok, hfew, hpc, hb1⟩
  have HO := Lib.hid hok; have HF := Lib.hid hfew; have HPC := Lib.hid hpc; have B1 := Lib.hid hb1
  clear hok hfew hpc hb1
  unfold CoreL.val
  have B2 : Hid (Below w1.heap.size w1 (w1.alloc (.cells #[.int .i64 cl.ep, .slice cl.na cl.nums.length cl.nc, .string cl.lt, .string cl.pre, .int .i64 cl.pnum, .int .i64 cl.rev] 130))) := (Below.refl _ _).alloc (Nat.le_refl _) _
  by_cases hz : ¬ prsE a s = 0
  · have E := Lib.hid (trans_err HA.out HB.out hz)
    have q : (prsE a s != 0) = true := by simpa [bne] using hz
    generalize prsE a s = pe at *
    clear hz
    go_wp2_with fail
    go_ret2
    exact ⟨by rw [E.out]; rfl, bthen B1.out B2.out⟩
  · have hz0 : prsE a s = 0 := Decidable.not_not.1 hz
    have E := Lib.hid (trans_ok HA.out HB.out hz0 (HPC.out hz0))
    have q : (prsE a s != 0) = false := by rw [hz0]; rfl
    generalize prsE a s = pe at *
    clear hz hz0 HPC
    obtain ⟨W2, hW2⟩ : ∃ W2, w1.alloc (.cells #[.int .i64 cl.ep, .slice cl.na cl.nums.length cl.nc, .string cl.lt, .string cl.pre, .int .i64 cl.pnum, .int .i64 cl.rev] 130) = W2 := ⟨_, rfl⟩
    have K2 : Hid (Blk W2 w1.heap.size cl.cells) := by show Blk _ _ _; rw [← hW2]; exact Blk.new w1 cl.cells _
    rw [hW2] at B2
    have k0 := K2.out.cell 0 _ rfl
    have k1 := K2.out.cell 1 _ rfl
    have k2 := K2.out.cell 2 _ rfl
    have k3 := K2.out.cell 3 _ rfl
    have k4 := K2.out.cell 4 _ rfl
    have k5 := K2.out.cell 5 _ rfl
    go_wp2_with fail
    refine (vmap_Print b HB.out cl W2 (HG.out.below (bthen B1.out B2.out)) (Rd.below HO.out B2.out) HF.out).mono ?_; rintro e w3 ⟨rfl, hb3⟩
    have B3 := Lib.hid (bthen (bthen B1.out B2.out) hb3)
    clear hb3 k0 k1 k2 k3 k4 k5 hW2
    obtain ⟨⟨r1, r2⟩, hr⟩ : ∃ r, prtV b cl.plain = r := ⟨_, rfl⟩
    rw [hr] at E
    rw [hr]
    clear hr
    unfold prtVal
    go_wp2_with fail
    go_ret2
    exact ⟨by rw [E.out]; rfl, B3.out⟩
end
end Go.Proofs.YtlhchpeecfbgnaaGreatDoor
