/- A part of the proof that the digests of any content are the three of it, and that an installed set is new memory. No condition. -/
import Derived.Test.YtlhchpeecfbgnaaGreatDoorG17
import Derived.Test.YtlhchpeecfbgnaaGreatDoorG26
set_option maxRecDepth 100000
set_option maxHeartbeats 20000000
set_option linter.unusedVariables false
set_option linter.unusedSimpArgs false
namespace Go.Proofs.YtlhchpeecfbgnaaGreatDoor
section
open Go.RowKit
def splitP (l : List UInt8) : Option (List UInt8 × List UInt8 × List UInt8) := (apkA l).map fun x => ([], x.2.1, x.2.2)
def splitF (fmt : Int) (l : List UInt8) : Option (List UInt8 × List UInt8 × List UInt8) := if fmt = 1 then splitD l else if fmt = 2 then splitR l else splitP l
theorem version_Split_apk (s : ByteArray) (w : World) (hG : Gl w) (hs : s.size ≤ 64) :
    Calls Tryz.prog 91 #[.int .i64 3, .string s] w (SplitAns (splitP (bl s)) w) := by
  have HG := Lib.hid hG; clear hG
  go_enter Tryz.func91, Tryz.ntmps91
  go_wp2_with fail
  refine (version_pieces s _ HG.out hs).mono ?_
  rintro e w1 ⟨hb1, hm⟩
  cases ha : apkA (bl s) with
  | none =>
    rw [ha] at hm
    obtain ⟨A, n, c, p, q, rfl⟩ := hm
    have HR : Hid (splitP (bl s) = none) := by show _ = _; unfold splitP; rw [ha]; rfl
    clear ha
    go_wp2_with fail
    refine bodyPost_ret (results_tmp4 rfl _ _ _) rfl ?_
    exact ⟨⟨#[]⟩, ⟨#[]⟩, ⟨#[]⟩, 3, rfl, by rw [HR.out]; exact ⟨rfl, rfl, rfl, rfl⟩, hb1⟩
  | some x =>
    obtain ⟨ps, p, q⟩ := x
    rw [ha] at hm
    obtain ⟨A, c, rfl, _⟩ := hm
    have HR : Hid (splitP (bl s) = some ([], p, q)) := by show _ = _; unfold splitP; rw [ha]; rfl
    clear ha
    go_wp2_with fail
    refine bodyPost_ret (results_tmp4 rfl _ _ _) rfl ?_
    exact ⟨⟨#[]⟩, ⟨p.toArray⟩, ⟨q.toArray⟩, 0, rfl, by rw [HR.out]; exact ⟨rfl, rfl, bl_mk p, bl_mk q⟩, hb1⟩
theorem version_Split_any (fmt : Int) (hf : fmt = 1 ∨ fmt = 2 ∨ fmt = 3) (s : ByteArray) (w : World) (hG : Gl w) (hs : s.size ≤ 64) :
    Calls Tryz.prog 91 #[.int .i64 fmt, .string s] w (SplitAns (splitF fmt (bl s)) w) := by
  rcases hf with rfl | rfl | rfl
  · exact version_Split_dpkg s w hG hs
  · exact version_Split_rpm s w hG hs
  · exact version_Split_apk s w hG hs
def verE (fmt : Int) (s : ByteArray) : Int := if ¬ (fmt = 1 ∨ fmt = 2 ∨ fmt = 3) then 9 else if 64 < s.size then 4 else verCode (splitF fmt (bl s))
theorem version_Split_bad (fmt : Int) (s : ByteArray) (w : World) (hs : s.size ≤ 9223372036854775807) (h : ¬ (fmt = 1 ∨ fmt = 2 ∨ fmt = 3) ∨ 64 < s.size) :
    Calls Tryz.prog 91 #[.int .i64 fmt, .string s] w fun e w' => e = .returned (.tuple #[.string ⟨#[]⟩, .string ⟨#[]⟩, .string ⟨#[]⟩, .int .i64 (verE fmt s)]) ∧ w = w' := by
  by_cases hf : fmt = 1 ∨ fmt = 2 ∨ fmt = 3
  · have h64 : 64 < s.size := h.resolve_left (fun hn => hn hf)
    have E : Hid (verE fmt s = 4) := by show _ = _; unfold verE; rw [if_neg (fun hn => hn hf), if_pos h64]
    clear h
    rcases hf with rfl | rfl | rfl
    all_goals
      go_enter Tryz.func91, Tryz.ntmps91
      go_wp2_with fail
      refine bodyPost_ret (results_tmp4 rfl _ _ _) rfl ?_
      exact ⟨by rw [E.out]; rfl, rfl⟩
  · have E : Hid (verE fmt s = 9) := by show _ = _; unfold verE; rw [if_pos hf]
    have q1 : (fmt != 1) = true := by simp [bne]; omega
    have q2 : (fmt != 2) = true := by simp [bne]; omega
    have q3 : (fmt != 3) = true := by simp [bne]; omega
    clear h hf
    go_enter Tryz.func91, Tryz.ntmps91
    go_wp2_with fail
    refine bodyPost_ret (results_tmp4 rfl _ _ _) rfl ?_
    exact ⟨by rw [E.out]; rfl, rfl⟩
end
end Go.Proofs.YtlhchpeecfbgnaaGreatDoor
