/- A part of the proof that the digests of any content are the three of it, and that an installed set is new memory. No condition. -/
import Derived.Test.YtlhchpeecfbgnaaGreatDoorG16
set_option maxRecDepth 100000
set_option maxHeartbeats 20000000
set_option linter.unusedVariables false
set_option linter.unusedSimpArgs false
namespace Go.Proofs.YtlhchpeecfbgnaaGreatDoor
section
open Go.RowKit
def noughtB : List UInt8 → Bool
  | a :: _ :: _ => a == 48
  | _ => false
theorem noughtB_short (s : ByteArray) (h : ¬ 1 < s.size) : noughtB (bl s) = false := by
  have hl := bl_length s
  cases hb : bl s with
  | nil => rfl
  | cons a r => cases r with
    | nil => rfl
    | cons b r => rw [hb] at hl; simp at hl; omega
theorem noughtB_long (s : ByteArray) (h : 1 < s.size) : noughtB (bl s) = (s[0] == 48) := by
  have hl := bl_length s
  have h0 := bl_cons s (by omega)
  cases hb : (bl s).tail with
  | nil => rw [h0, hb] at hl; simp at hl; omega
  | cons b r => rw [h0, hb]; rfl
theorem beq48 (a : UInt8) : (((a.toNat : Nat) : Int) == 48) = (a == 48) := by
  rw [Bool.eq_iff_iff]; simp [← UInt8.toNat_inj]; omega
theorem version_nought (s : ByteArray) (w : World) (hs : s.size ≤ 9223372036854775807) :
    Calls Tryz.prog 164 #[.string s] w fun e w' => e = .returned (.bool (noughtB (bl s))) ∧ w = w' := by
  by_cases h : 1 < s.size
  · have h0 : 0 < s.size := by omega
    have HN := Lib.hid (noughtB_long s h)
    go_enter Tryz.func164, Tryz.ntmps164
    go_wp2
    go_ret
    exact ⟨ret_bool (by rw [HN.out, beq48]), rfl⟩
  · have HN := Lib.hid (noughtB_short s h)
    go_enter Tryz.func164, Tryz.ntmps164
    go_wp2
    go_ret
    exact ⟨ret_bool HN.out.symm, rfl⟩
theorem version_nought_is (s : ByteArray) (b : Bool) (w : World) (hs : s.size ≤ 9223372036854775807) (h : Hid (noughtB (bl s) = b)) :
    Calls Tryz.prog 164 #[.string s] w fun e w' => e = .returned (.bool b) ∧ w = w' := by rw [← h.out]; exact version_nought s w hs
def rO : List UInt8 := [46, 95, 43, 126, 94]
def epochR (l : List UInt8) : Option (List UInt8 × List UInt8) :=
  if (Lib.cut l [58]).2.2 = true then (if numB (Lib.cut l [58]).1 = true ∧ (Lib.cut l [58]).1.length ≤ 9 ∧ noughtB (Lib.cut l [58]).1 = false then some ((Lib.cut l [58]).1, (Lib.cut l [58]).2.1) else none) else some ([], l)
def restR (p : List UInt8) : Option (List UInt8 × List UInt8) :=
  if (vmadeB rO (Lib.cut p [45]).1 && vmadeB rO (Lib.cut p [45]).2.1) = true then some ((Lib.cut p [45]).1, (Lib.cut p [45]).2.1) else none
def splitR (l : List UInt8) : Option (List UInt8 × List UInt8 × List UInt8) :=
  match epochR l with
  | none => none
  | some (ep, p) => (restR p).map fun r => (ep, r.1, r.2)
theorem restR_eq (ep p : List UInt8) (a b : Bool) (ha : vmadeB rO (Lib.cut p [45]).1 = a) (hb : vmadeB rO (Lib.cut p [45]).2.1 = b) :
    (restR p).map (fun r => (ep, r.1, r.2)) = if (a && b) = true then some (ep, (Lib.cut p [45]).1, (Lib.cut p [45]).2.1) else none := by
  unfold restR; rw [ha, hb]; split <;> rfl
theorem version_splitRpm0 (s : ByteArray) (w : World) (hG : Gl w) (hs : s.size ≤ 64) (hk : cutK s ⟨#[58]⟩ = false) :
    Calls Tryz.prog 131 #[.string s] w (SplitPost (splitR (bl s)) w) := by
  have HG := Lib.hid hG; clear hG
  have HE : Hid (splitR (bl s) = (restR (bl s)).map fun r => ([], r.1, r.2)) := by
    show _ = _; unfold splitR epochR; rw [show (Lib.cut (bl s) [58]).2.2 = false from hk]; rfl
  have z1 := cutA_le s ⟨#[45]⟩
  have z2 := cutB_le s ⟨#[45]⟩
  cases ha : vmadeB rO (bl (cutA s ⟨#[45]⟩))
  · have HA := Lib.hid ha; clear ha
    go_enter Tryz.func131, Tryz.ntmps131
    go_wp2_with fail
    refine (Cut_any s ⟨#[58]⟩ _ HG.out (by omega)).mono ?_; rintro e w1 ⟨rfl, hb1⟩
    go_wp2_with fail
    refine (Cut_any s ⟨#[45]⟩ _ (by exact HG.out.below hb1) (by omega)).mono ?_; rintro e w2 ⟨rfl, hb2⟩
    go_wp2_with fail
    refine (version_made_is (cutA s ⟨#[45]⟩) ⟨#[46, 95, 43, 126, 94]⟩ false _ (by omega) (by exact HA)).mono ?_; rintro e w3 ⟨rfl, hb3⟩
    go_wp2_with fail
    refine bodyPost_ret (results_tmp4 rfl _ _ _) rfl ?_
    exact ⟨⟨#[]⟩, cutA s ⟨#[45]⟩, cutB s ⟨#[45]⟩, false, rfl, by rw [HE.out, restR_eq _ _ false (vmadeB rO (bl (cutB s ⟨#[45]⟩))) (by rw [← HA.out, bl_cutA]; rfl) (by rw [bl_cutB]; rfl)]; rfl, by decide, by omega, by omega, bthen (bthen hb1 hb2) hb3⟩
  · have HA := Lib.hid ha; clear ha
    cases hb : vmadeB rO (bl (cutB s ⟨#[45]⟩))
    · have HV := Lib.hid hb; clear hb
      go_enter Tryz.func131, Tryz.ntmps131
      go_wp2_with fail
      refine (Cut_any s ⟨#[58]⟩ _ HG.out (by omega)).mono ?_; rintro e w1 ⟨rfl, hb1⟩
      go_wp2_with fail
      refine (Cut_any s ⟨#[45]⟩ _ (by exact HG.out.below hb1) (by omega)).mono ?_; rintro e w2 ⟨rfl, hb2⟩
      go_wp2_with fail
      refine (version_made_is (cutA s ⟨#[45]⟩) ⟨#[46, 95, 43, 126, 94]⟩ true _ (by omega) (by exact HA)).mono ?_; rintro e w3 ⟨rfl, hb3⟩
      go_wp2_with fail
      refine (version_made_is (cutB s ⟨#[45]⟩) ⟨#[46, 95, 43, 126, 94]⟩ false _ (by omega) (by exact HV)).mono ?_; rintro e w4 ⟨rfl, hb4⟩
      go_wp2_with fail
      refine bodyPost_ret (results_tmp4 rfl _ _ _) rfl ?_
      exact ⟨⟨#[]⟩, cutA s ⟨#[45]⟩, cutB s ⟨#[45]⟩, false, rfl, by rw [HE.out, restR_eq _ _ true false (by rw [← HA.out, bl_cutA]; rfl) (by rw [← HV.out, bl_cutB]; rfl)]; rfl, by decide, by omega, by omega, bthen (bthen (bthen hb1 hb2) hb3) hb4⟩
    · have HV := Lib.hid hb; clear hb
      go_enter Tryz.func131, Tryz.ntmps131
      go_wp2_with fail
      refine (Cut_any s ⟨#[58]⟩ _ HG.out (by omega)).mono ?_; rintro e w1 ⟨rfl, hb1⟩
      go_wp2_with fail
      refine (Cut_any s ⟨#[45]⟩ _ (by exact HG.out.below hb1) (by omega)).mono ?_; rintro e w2 ⟨rfl, hb2⟩
      go_wp2_with fail
      refine (version_made_is (cutA s ⟨#[45]⟩) ⟨#[46, 95, 43, 126, 94]⟩ true _ (by omega) (by exact HA)).mono ?_; rintro e w3 ⟨rfl, hb3⟩
      go_wp2_with fail
      refine (version_made_is (cutB s ⟨#[45]⟩) ⟨#[46, 95, 43, 126, 94]⟩ true _ (by omega) (by exact HV)).mono ?_; rintro e w4 ⟨rfl, hb4⟩
      go_wp2_with fail
      refine bodyPost_ret (results_tmp4 rfl _ _ _) rfl ?_
      exact ⟨⟨#[]⟩, cutA s ⟨#[45]⟩, cutB s ⟨#[45]⟩, true, rfl, by rw [HE.out, restR_eq _ _ true true (by rw [← HA.out, bl_cutA]; rfl) (by rw [← HV.out, bl_cutB]; rfl)]; simp only [Bool.and_self, if_true, bl_cutA, bl_cutB]; rfl, by decide, by omega, by omega, bthen (bthen (bthen hb1 hb2) hb3) hb4⟩
theorem version_splitRpm1 (s t u : ByteArray) (w : World) (hG : Gl w) (hs : s.size ≤ 64) (hk : cutK s ⟨#[58]⟩ = true) (ht : t = cutB s ⟨#[58]⟩) (hu : u = cutA s ⟨#[58]⟩)
    (hn : numB (bl u) = true) (hl : u.size ≤ 9) (ho : noughtB (bl u) = false) :
    Calls Tryz.prog 131 #[.string s] w (SplitPost (splitR (bl s)) w) := by
  have HG := Lib.hid hG; clear hG
  have HE : Hid (splitR (bl s) = (restR (bl t)).map fun r => (bl u, r.1, r.2)) := by
    show _ = _; unfold splitR epochR
    have e1 : bl u = (Lib.cut (bl s) [58]).1 := by rw [hu, bl_cutA]; rfl
    have e2 : bl t = (Lib.cut (bl s) [58]).2.1 := by rw [ht, bl_cutB]; rfl
    rw [show (Lib.cut (bl s) [58]).2.2 = true from hk, if_pos rfl, ← e1, ← e2, if_pos ⟨hn, by rw [bl_length]; exact hl, ho⟩]
  have hts : t.size ≤ 64 := by have := cutB_le s ⟨#[58]⟩; rw [ht]; omega
  have HN := Lib.hid hn; have HO := Lib.hid ho; clear hn ho
  have ht' := ht.symm; have hu' := hu.symm; clear ht hu
  have z1 := cutA_le t ⟨#[45]⟩
  have z2 := cutB_le t ⟨#[45]⟩
  cases ha : vmadeB rO (bl (cutA t ⟨#[45]⟩))
  · have HA := Lib.hid ha; clear ha
    go_enter Tryz.func131, Tryz.ntmps131
    go_wp2_with fail
    refine (Cut_any s ⟨#[58]⟩ _ HG.out (by omega)).mono ?_; rintro e w1 ⟨rfl, hb1⟩
    go_wp2_with fail
    refine (version_number_is _ _ _ (by omega) HN).mono ?_; rintro e w1' ⟨rfl, rfl⟩
    go_wp2_with fail
    refine (version_nought_is _ _ _ (by omega) HO).mono ?_; rintro e w1' ⟨rfl, rfl⟩
    go_wp2_with fail
    refine (Cut_any t ⟨#[45]⟩ _ (by exact HG.out.below hb1) (by omega)).mono ?_; rintro e w2 ⟨rfl, hb2⟩
    go_wp2_with fail
    refine (version_made_is (cutA t ⟨#[45]⟩) ⟨#[46, 95, 43, 126, 94]⟩ false _ (by omega) (by exact HA)).mono ?_; rintro e w3 ⟨rfl, hb3⟩
    go_wp2_with fail
    refine bodyPost_ret (results_tmp4 rfl _ _ _) rfl ?_
    exact ⟨u, cutA t ⟨#[45]⟩, cutB t ⟨#[45]⟩, false, rfl, by rw [HE.out, restR_eq _ _ false (vmadeB rO (bl (cutB t ⟨#[45]⟩))) (by rw [← HA.out, bl_cutA]; rfl) (by rw [bl_cutB]; rfl)]; rfl, by omega, by omega, by omega, bthen (bthen hb1 hb2) hb3⟩
  · have HA := Lib.hid ha; clear ha
    cases hb : vmadeB rO (bl (cutB t ⟨#[45]⟩))
    · have HV := Lib.hid hb; clear hb
      go_enter Tryz.func131, Tryz.ntmps131
      go_wp2_with fail
      refine (Cut_any s ⟨#[58]⟩ _ HG.out (by omega)).mono ?_; rintro e w1 ⟨rfl, hb1⟩
      go_wp2_with fail
      refine (version_number_is _ _ _ (by omega) HN).mono ?_; rintro e w1' ⟨rfl, rfl⟩
      go_wp2_with fail
      refine (version_nought_is _ _ _ (by omega) HO).mono ?_; rintro e w1' ⟨rfl, rfl⟩
      go_wp2_with fail
      refine (Cut_any t ⟨#[45]⟩ _ (by exact HG.out.below hb1) (by omega)).mono ?_; rintro e w2 ⟨rfl, hb2⟩
      go_wp2_with fail
      refine (version_made_is (cutA t ⟨#[45]⟩) ⟨#[46, 95, 43, 126, 94]⟩ true _ (by omega) (by exact HA)).mono ?_; rintro e w3 ⟨rfl, hb3⟩
      go_wp2_with fail
      refine (version_made_is (cutB t ⟨#[45]⟩) ⟨#[46, 95, 43, 126, 94]⟩ false _ (by omega) (by exact HV)).mono ?_; rintro e w4 ⟨rfl, hb4⟩
      go_wp2_with fail
      refine bodyPost_ret (results_tmp4 rfl _ _ _) rfl ?_
      exact ⟨u, cutA t ⟨#[45]⟩, cutB t ⟨#[45]⟩, false, rfl, by rw [HE.out, restR_eq _ _ true false (by rw [← HA.out, bl_cutA]; rfl) (by rw [← HV.out, bl_cutB]; rfl)]; rfl, by omega, by omega, by omega, bthen (bthen (bthen hb1 hb2) hb3) hb4⟩
    · have HV := Lib.hid hb; clear hb
      go_enter Tryz.func131, Tryz.ntmps131
      go_wp2_with fail
      refine (Cut_any s ⟨#[58]⟩ _ HG.out (by omega)).mono ?_; rintro e w1 ⟨rfl, hb1⟩
      go_wp2_with fail
      refine (version_number_is _ _ _ (by omega) HN).mono ?_; rintro e w1' ⟨rfl, rfl⟩
      go_wp2_with fail
      refine (version_nought_is _ _ _ (by omega) HO).mono ?_; rintro e w1' ⟨rfl, rfl⟩
      go_wp2_with fail
      refine (Cut_any t ⟨#[45]⟩ _ (by exact HG.out.below hb1) (by omega)).mono ?_; rintro e w2 ⟨rfl, hb2⟩
      go_wp2_with fail
      refine (version_made_is (cutA t ⟨#[45]⟩) ⟨#[46, 95, 43, 126, 94]⟩ true _ (by omega) (by exact HA)).mono ?_; rintro e w3 ⟨rfl, hb3⟩
      go_wp2_with fail
      refine (version_made_is (cutB t ⟨#[45]⟩) ⟨#[46, 95, 43, 126, 94]⟩ true _ (by omega) (by exact HV)).mono ?_; rintro e w4 ⟨rfl, hb4⟩
      go_wp2_with fail
      refine bodyPost_ret (results_tmp4 rfl _ _ _) rfl ?_
      exact ⟨u, cutA t ⟨#[45]⟩, cutB t ⟨#[45]⟩, true, rfl, by rw [HE.out, restR_eq _ _ true true (by rw [← HA.out, bl_cutA]; rfl) (by rw [← HV.out, bl_cutB]; rfl)]; simp only [Bool.and_self, if_true, bl_cutA, bl_cutB]; rfl, by omega, by omega, by omega, bthen (bthen (bthen hb1 hb2) hb3) hb4⟩
theorem version_splitRpm2 (s u : ByteArray) (w : World) (hG : Gl w) (hs : s.size ≤ 64) (hk : cutK s ⟨#[58]⟩ = true) (hu : u = cutA s ⟨#[58]⟩)
    (hn : ¬ (numB (bl u) = true ∧ u.size ≤ 9 ∧ noughtB (bl u) = false)) :
    Calls Tryz.prog 131 #[.string s] w (SplitPost (splitR (bl s)) w) := by
  have HG := Lib.hid hG; clear hG
  have HE : Hid (splitR (bl s) = none) := by
    show _ = _; unfold splitR epochR
    have e1 : bl u = (Lib.cut (bl s) [58]).1 := by rw [hu, bl_cutA]; rfl
    rw [show (Lib.cut (bl s) [58]).2.2 = true from hk, if_pos rfl, ← e1, if_neg (by rw [bl_length]; exact hn)]
  have hus : u.size ≤ 64 := by have := cutA_le s ⟨#[58]⟩; rw [hu]; omega
  have hu' := hu.symm; clear hu
  cases hb : numB (bl u)
  · have HN := Lib.hid hb; clear hb hn
    go_enter Tryz.func131, Tryz.ntmps131
    go_wp2_with fail
    refine (Cut_any s ⟨#[58]⟩ _ HG.out (by omega)).mono ?_; rintro e w1 ⟨rfl, hb1⟩
    go_wp2_with fail
    refine (version_number_is _ _ _ (by omega) HN).mono ?_; rintro e w1' ⟨rfl, rfl⟩
    go_wp2_with fail
    refine bodyPost_ret (results_tmp4 rfl _ _ _) rfl ?_
    exact SplitPost.no HE.out hb1
  · by_cases hl : u.size ≤ 9
    · have ho : noughtB (bl u) = true := by cases h : noughtB (bl u) with | true => rfl | false => exact absurd ⟨hb, hl, h⟩ hn
      have HN := Lib.hid hb; have HO := Lib.hid ho; clear hb hn ho
      go_enter Tryz.func131, Tryz.ntmps131
      go_wp2_with fail
      refine (Cut_any s ⟨#[58]⟩ _ HG.out (by omega)).mono ?_; rintro e w1 ⟨rfl, hb1⟩
      go_wp2_with fail
      refine (version_number_is _ _ _ (by omega) HN).mono ?_; rintro e w1' ⟨rfl, rfl⟩
      go_wp2_with fail
      refine (version_nought_is _ _ _ (by omega) HO).mono ?_; rintro e w1' ⟨rfl, rfl⟩
      go_wp2_with fail
      refine bodyPost_ret (results_tmp4 rfl _ _ _) rfl ?_
      exact SplitPost.no HE.out hb1
    · have HN := Lib.hid hb; clear hb hn
      go_enter Tryz.func131, Tryz.ntmps131
      go_wp2_with fail
      refine (Cut_any s ⟨#[58]⟩ _ HG.out (by omega)).mono ?_; rintro e w1 ⟨rfl, hb1⟩
      go_wp2_with fail
      refine (version_number_is _ _ _ (by omega) HN).mono ?_; rintro e w1' ⟨rfl, rfl⟩
      go_wp2_with fail
      refine bodyPost_ret (results_tmp4 rfl _ _ _) rfl ?_
      exact SplitPost.no HE.out hb1
theorem version_splitRpm (s : ByteArray) (w : World) (hG : Gl w) (hs : s.size ≤ 64) :
    Calls Tryz.prog 131 #[.string s] w (SplitPost (splitR (bl s)) w) := by
  cases hk : cutK s ⟨#[58]⟩
  · exact version_splitRpm0 s w hG hs hk
  · by_cases hn : numB (bl (cutA s ⟨#[58]⟩)) = true ∧ (cutA s ⟨#[58]⟩).size ≤ 9 ∧ noughtB (bl (cutA s ⟨#[58]⟩)) = false
    · exact version_splitRpm1 s _ _ w hG hs hk rfl rfl hn.1 hn.2.1 hn.2.2
    · exact version_splitRpm2 s _ w hG hs hk rfl hn
theorem version_Split_rpm (s : ByteArray) (w : World) (hG : Gl w) (hs : s.size ≤ 64) :
    Calls Tryz.prog 91 #[.int .i64 2, .string s] w (SplitAns (splitR (bl s)) w) := by
  have HG := Lib.hid hG; clear hG
  go_enter Tryz.func91, Tryz.ntmps91
  go_wp2_with fail
  refine (version_splitRpm s _ HG.out hs).mono ?_
  rintro e w1 ⟨ep, pr, rv, ok, rfl, hr, h1, h2, h3, hb1⟩
  have HR := Lib.hid hr; clear hr
  cases ok
  · go_wp2_with fail
    refine bodyPost_ret (results_tmp4 rfl _ _ _) rfl ?_
    exact ⟨⟨#[]⟩, ⟨#[]⟩, ⟨#[]⟩, 3, rfl, by rw [HR.out]; exact ⟨rfl, rfl, rfl, rfl⟩, hb1⟩
  · go_wp2_with fail
    refine bodyPost_ret (results_tmp4 rfl _ _ _) rfl ?_
    exact ⟨ep, pr, rv, 0, rfl, by rw [HR.out]; exact ⟨rfl, rfl, rfl, rfl⟩, hb1⟩
def sumB (l : List UInt8) : Bool := decide (1 ≤ l.length) && decide (l.length ≤ 100) && wthB 32 l && l.head? != some 32 && l.getLast? != some 32
theorem head_bl (s : ByteArray) (h : 0 < s.size) : (bl s).head? = some s[0] := by rw [bl_cons s h]; rfl
theorem last_bl (s : ByteArray) (h : 0 < s.size) : (bl s).getLast? = some (s[s.size - 1]) := by
  rw [List.getLast?_eq_getElem?, bl_length, bl_get? s (s.size - 1) (by omega)]
theorem neq32 (a : UInt8) : (((a.toNat : Nat) : Int) != 32) = (some a != some 32) := by
  rw [Bool.eq_iff_iff]; simp [← UInt8.toNat_inj]; omega
theorem model_summaryRight (s : ByteArray) (w : World) (hs : s.size ≤ 9223372036854775807) :
    Calls Tryz.prog 67 #[.string s] w fun e w' => e = .returned (.bool (sumB (bl s))) ∧ w = w' := by
  have HB := Lib.hid (bl_length s)
  by_cases h1 : 1 ≤ s.size
  · by_cases h2 : s.size ≤ 100
    · have hh := Lib.hid (head_bl s (by omega))
      have hl := Lib.hid (last_bl s (by omega))
      cases hw : wthB 32 (bl s)
      · go_enter Tryz.func67, Tryz.ntmps67
        go_wp2_with (go_at_call 93; refine (model_within _ 32 _ hs).mono ?_; rintro e w' ⟨rfl, rfl⟩)
        go_ret
        exact ⟨ret_bool (by unfold sumB; rw [hw]; simp), rfl⟩
      · go_enter Tryz.func67, Tryz.ntmps67
        go_wp2_with (go_at_call 93; refine (model_within _ 32 _ hs).mono ?_; rintro e w' ⟨rfl, rfl⟩)
        all_goals go_ret
        all_goals (refine ⟨ret_bool ?_, rfl⟩; unfold sumB; rw [hw, HB.out, decide_eq_true h1, decide_eq_true h2, hh.out, hl.out])
        · rw [← neq32, ← neq32]; simp [‹_ = (32 : Int)›]
        · rw [← neq32, ← neq32]; simp
    · go_enter Tryz.func67, Tryz.ntmps67
      go_wp2_with fail
      go_ret
      exact ⟨ret_bool (by unfold sumB; rw [HB.out, decide_eq_false h2]; simp), rfl⟩
  · go_enter Tryz.func67, Tryz.ntmps67
    go_wp2_with fail
    go_ret
    exact ⟨ret_bool (by unfold sumB; rw [HB.out, decide_eq_false h1]; simp), rfl⟩
theorem model_textsRight_nil (n : Int) (b : Bool) (w : World) :
    Calls Tryz.prog 68 #[.int .i64 n, .slice none 0 0, .bool b] w fun e w' => e = .returned (.bool true) ∧ w = w' := by
  go_enter Tryz.func68, Tryz.ntmps68
  go_wp2_with fail
  all_goals (refine wp_loop_rounds 1 ?_; rw [rounds_succ]; go_wp2_with fail)
  all_goals (go_ret; exact ⟨rfl, rfl⟩)
theorem model_givesRight_nil (n : Int) (w : World) :
    Calls Tryz.prog 69 #[.int .i64 n, .slice none 0 0] w fun e w' => e = .returned (.bool true) ∧ w = w' := by
  go_enter Tryz.func69, Tryz.ntmps69
  go_wp2_with fail
  all_goals (refine wp_loop_rounds 1 ?_; rw [rounds_succ]; go_wp2_with fail)
  all_goals (go_ret; exact ⟨rfl, rfl⟩)
theorem model_checkFiles_nil (n : Int) (w : World) :
    Calls Tryz.prog 70 #[.int .i64 n, .slice none 0 0] w fun e w' => e = .returned (.tuple #[.string ⟨#[]⟩, .int .i64 0]) ∧ Below w.heap.size w w' := by
  have hmm := @run_makeMap Tryz.prog
  go_enter Tryz.func70, Tryz.ntmps70
  go_wp2_with fail
  all_goals (refine wp_loop_rounds 1 ?_; rw [rounds_succ]; go_wp2_with fail)
  all_goals go_ret2
  exact ⟨rfl, ((Below.refl _ _).alloc (Nat.le_refl _) _).alloc (by simp) _⟩
theorem model_checkScripts_nil (n : Int) (w : World) :
    Calls Tryz.prog 71 #[.int .i64 n, .slice none 0 0] w fun e w' => e = .returned (.int .i64 0) ∧ w = w' := by
  go_enter Tryz.func71, Tryz.ntmps71
  go_wp2_with fail
  refine wp_loop_rounds 1 ?_; rw [rounds_succ]; go_wp2_with fail
  refine wp_loop_rounds 1 ?_; rw [rounds_succ]; go_wp2_with fail
  go_ret
  exact ⟨rfl, rfl⟩
def verCode (r : Option (List UInt8 × List UInt8 × List UInt8)) : Int := if r.isSome then 0 else 3
theorem version_Check_dpkg (s : ByteArray) (w : World) (hG : Gl w) (hs : s.size ≤ 64) :
    Calls Tryz.prog 64 #[.int .i64 1, .string s] w fun e w' => e = .returned (.int .i64 (verCode (splitD (bl s)))) ∧ Below w.heap.size w w' := by
  have HG := Lib.hid hG; clear hG
  go_enter Tryz.func64, Tryz.ntmps64
  go_wp2_with fail
  refine (version_Split_dpkg s _ HG.out hs).mono ?_
  rintro e w1 ⟨ep, pr, rv, c, rfl, hr, hb1⟩
  have HR := Lib.hid hr; clear hr
  go_wp2_with fail
  go_ret
  refine ⟨ret_int ?_, hb1⟩
  have hr := HR.out
  cases h : splitD (bl s) with
  | none => rw [h] at hr; exact hr.1
  | some x => obtain ⟨a, b, d⟩ := x; rw [h] at hr; exact hr.1
def refV (a b : ByteArray) (c : Int) : Value := .agg #[.string a, .string b, .int .i64 c]
theorem model_CheckPackage1 (what nm : ByteArray) (c : Int) (a : Addr) (w : World) (ha : w.cell? a = some (.string nm)) (hs : a.spot = none) (hlt : a.block < w.heap.size) :
    Calls Tryz.prog 63 #[.string what, .int .i64 c, .pointer (some a)] w fun e w' => e = .returned (refV nm what c) ∧ Below w.heap.size w w' := by
  obtain ⟨b, o, sp⟩ := a
  subst hs
  simp only at hlt
  go_enter Tryz.func63, Tryz.ntmps63
  go_wp2
  refine bodyPost_ret (v := refV nm what c) (by simp [results, Tryz.results63, go_sem, refV]) rfl ⟨rfl, ?_⟩
  exact (Below.refl _ _).alloc (Nat.le_refl _) _
def archIn (n : Int) (x : ByteArray) : Bool := decide (aw n 0 = x ∨ aw n 1 = x ∨ aw n 2 = x)
theorem Contains_arch (b : Nat) (n : Int) (x : ByteArray) (w : World) (h0 : w.cell? ⟨b, 0, none⟩ = some (.string (aw n 0))) (h1 : w.cell? ⟨b, 1, none⟩ = some (.string (aw n 1))) (h2 : w.cell? ⟨b, 2, none⟩ = some (.string (aw n 2))) :
    Calls Tryz.prog 66 #[.slice (some ⟨b, 0, none⟩) 3 3, .string x] w fun e w' => e = .returned (.bool (archIn n x)) ∧ w' = w :=
  (Tryz.slices_Contains_string b 0 3 3 [aw n 0, aw n 1, aw n 2] x w (by simp) (by omega) (fun j hj => by
    simp at hj
    rcases (by omega : j = 0 ∨ j = 1 ∨ j = 2) with rfl | rfl | rfl <;> simpa)).mono fun _ _ ⟨he, hw⟩ => ⟨by
      rw [he]; congr 2; rw [Bool.eq_iff_iff, Lib.containsS_iff]; simp only [archIn, decide_eq_true_iff, List.take, List.mem_cons, List.not_mem_nil, or_false]
      exact ⟨fun h => by rcases h with h | h | h <;> simp [h], fun h => by rcases h with h | h | h <;> simp [h]⟩, hw⟩
def cpAns (nm : ByteArray) (fo no : Bool) (ev : Int) (ao so ndo bo go : Bool) (fw : ByteArray) (fe se : Int) : Value :=
  if fo = false then refV nm ⟨#[102, 111, 114, 109, 97, 116]⟩ 9 else if no = false then refV nm ⟨#[110, 97, 109, 101]⟩ 10 else if ev ≠ 0 then refV nm ⟨#[118, 101, 114, 115, 105, 111, 110]⟩ ev
  else if ao = false then refV nm ⟨#[97, 114, 99, 104]⟩ 1 else if so = false then refV nm ⟨#[115, 117, 109, 109, 97, 114, 121]⟩ 3 else if ndo = false then refV nm ⟨#[110, 101, 101, 100, 115]⟩ 3
  else if bo = false then refV nm ⟨#[98, 97, 114, 115]⟩ 3 else if go = false then refV nm ⟨#[103, 105, 118, 101, 115]⟩ 3 else if fe ≠ 0 then refV nm fw fe
  else if se ≠ 0 then refV nm ⟨#[115, 99, 114, 105, 112, 116, 115]⟩ se else refV ⟨#[]⟩ ⟨#[]⟩ 0
structure CpBox (w w1 : World) (nm ver ar sm : ByteArray) (nd br gv fs sp : Value) : Prop where
  bel : Below w.heap.size w w1
  sz : w.heap.size + 1 < w1.heap.size
  c0 : w1.cell? ⟨w.heap.size, 0, none⟩ = some (.string nm)
  c1 : w1.cell? ⟨w.heap.size, 1, none⟩ = some (.string ver)
  c2 : w1.cell? ⟨w.heap.size, 2, none⟩ = some (.string ar)
  c3 : w1.cell? ⟨w.heap.size, 3, none⟩ = some (.string sm)
  c4 : w1.cell? ⟨w.heap.size, 4, none⟩ = some nd
  c5 : w1.cell? ⟨w.heap.size, 5, none⟩ = some br
  c6 : w1.cell? ⟨w.heap.size, 6, none⟩ = some gv
  c7 : w1.cell? ⟨w.heap.size, 7, none⟩ = some fs
  c8 : w1.cell? ⟨w.heap.size, 8, none⟩ = some sp
  r0 : w1.cell? ⟨w.heap.size + 1, 0, none⟩ = some (.string ⟨#[]⟩)
  r1 : w1.cell? ⟨w.heap.size + 1, 1, none⟩ = some (.string ⟨#[]⟩)
  r2 : w1.cell? ⟨w.heap.size + 1, 2, none⟩ = some (.int .i64 0)
  f0 : w1.frozen? ⟨w.heap.size + 1, 0, none⟩ = false
  f1 : w1.frozen? ⟨w.heap.size + 1, 1, none⟩ = false
  f2 : w1.frozen? ⟨w.heap.size + 1, 2, none⟩ = false
theorem CpBox.step {w w1 w2 : World} {nm ver ar sm : ByteArray} {nd br gv fs sp : Value} (h : CpBox w w1 nm ver ar sm nd br gv fs sp) (hb : Below w1.heap.size w1 w2) : CpBox w w2 nm ver ar sm nd br gv fs sp := by
  have hz := h.sz
  have k0 : ∀ o, w2.cell? ⟨w.heap.size, o, none⟩ = w1.cell? ⟨w.heap.size, o, none⟩ := fun o => hb.cell (p := ⟨w.heap.size, o, none⟩) (by show w.heap.size < _; omega)
  have k1 : ∀ o, w2.cell? ⟨w.heap.size + 1, o, none⟩ = w1.cell? ⟨w.heap.size + 1, o, none⟩ := fun o => hb.cell (p := ⟨w.heap.size + 1, o, none⟩) hz
  have k2 : ∀ o, w2.frozen? ⟨w.heap.size + 1, o, none⟩ = w1.frozen? ⟨w.heap.size + 1, o, none⟩ := fun o => hb.frozen (p := ⟨w.heap.size + 1, o, none⟩) hz
  exact ⟨bthen h.bel hb, Nat.lt_of_lt_of_le hz hb.size, (k0 _).trans h.c0, (k0 _).trans h.c1, (k0 _).trans h.c2, (k0 _).trans h.c3, (k0 _).trans h.c4, (k0 _).trans h.c5, (k0 _).trans h.c6, (k0 _).trans h.c7, (k0 _).trans h.c8,
    (k1 _).trans h.r0, (k1 _).trans h.r1, (k1 _).trans h.r2, (k2 _).trans h.f0, (k2 _).trans h.f1, (k2 _).trans h.f2⟩
theorem CpBox.start (w : World) (nm ver ar sm : ByteArray) (nd br gv fs sp : Value) {w1 : World}
    (hb : Below ((w.alloc (.cells #[.string nm, .string ver, .string ar, .string sm, nd, br, gv, fs, sp] 43)).alloc (.cells #[.string ⟨#[]⟩, .string ⟨#[]⟩, .int .i64 0] 49)).heap.size ((w.alloc (.cells #[.string nm, .string ver, .string ar, .string sm, nd, br, gv, fs, sp] 43)).alloc (.cells #[.string ⟨#[]⟩, .string ⟨#[]⟩, .int .i64 0] 49)) w1) : CpBox w w1 nm ver ar sm nd br gv fs sp := by
  have hz := hb.size
  simp at hz
  have k0 : ∀ o, w1.cell? ⟨w.heap.size, o, none⟩ = _ := fun o => hb.cell (p := ⟨w.heap.size, o, none⟩) (by simp; omega)
  have k1 : ∀ o, w1.cell? ⟨w.heap.size + 1, o, none⟩ = _ := fun o => hb.cell (p := ⟨w.heap.size + 1, o, none⟩) (by simp)
  have k2 : ∀ o, w1.frozen? ⟨w.heap.size + 1, o, none⟩ = _ := fun o => hb.frozen (p := ⟨w.heap.size + 1, o, none⟩) (by simp)
  exact ⟨(((Below.refl _ _).alloc (Nat.le_refl _) _).alloc (by simp) _).trans (hb.mono (by simp; omega)), by omega, (k0 _).trans (by simp), (k0 _).trans (by simp), (k0 _).trans (by simp), (k0 _).trans (by simp), (k0 _).trans (by simp), (k0 _).trans (by simp), (k0 _).trans (by simp), (k0 _).trans (by simp), (k0 _).trans (by simp),
    (k1 _).trans (by simp), (k1 _).trans (by simp), (k1 _).trans (by simp), (k2 _).trans (by simp), (k2 _).trans (by simp), (k2 _).trans (by simp)⟩
theorem cp_result (tmps : Array Value) {w w2 : World} {nm ver ar sm : ByteArray} {nd br gv fs sp : Value} (h : CpBox w w2 nm ver ar sm nd br gv fs sp) (ht : tmps[4]? = some (.pointer (some ⟨w.heap.size + 1, 0, none⟩))) (a b : ByteArray) (c : Int) :
    (results Tryz.f36 tmps).run Tryz.prog (((w2.setCell ⟨w.heap.size + 1, 0, none⟩ (.string a)).setCell ⟨w.heap.size + 1, 1, none⟩ (.string b)).setCell ⟨w.heap.size + 1, 2, none⟩ (.int .i64 c)) =
      .ok (refV a b c) (((w2.setCell ⟨w.heap.size + 1, 0, none⟩ (.string a)).setCell ⟨w.heap.size + 1, 1, none⟩ (.string b)).setCell ⟨w.heap.size + 1, 2, none⟩ (.int .i64 c)) := by
  obtain ⟨bel, sz, c0, c1, c2, c3, c4, c5, c6, c7, c8, r0, r1, r2, f0, f1, f2⟩ := h
  simp [results, Tryz.results36, ht, go_sem, refV, r0, r1, r2]
theorem cp_below {w w2 : World} {nm ver ar sm : ByteArray} {nd br gv fs sp : Value} (h : CpBox w w2 nm ver ar sm nd br gv fs sp) (a b c : Value) :
    Below w.heap.size w (((w2.setCell ⟨w.heap.size + 1, 0, none⟩ a).setCell ⟨w.heap.size + 1, 1, none⟩ b).setCell ⟨w.heap.size + 1, 2, none⟩ c) :=
  ((h.bel.setCell (p := ⟨w.heap.size + 1, 0, none⟩) (by simp) a).setCell (p := ⟨w.heap.size + 1, 1, none⟩) (by simp) b).setCell (p := ⟨w.heap.size + 1, 2, none⟩) (by simp) c
theorem model_summaryRight_b (s : ByteArray) (w : World) (hs : s.size ≤ 9223372036854775807) :
    Calls Tryz.prog 67 #[.string s] w fun e w' => e = .returned (.bool (sumB (bl s))) ∧ Below w.heap.size w w' :=
  (model_summaryRight s w hs).mono fun _ _ ⟨he, hw⟩ => ⟨he, by rw [← hw]; exact Below.refl _ _⟩
theorem model_isFormat_b (n : Int) (w : World) :
    Calls Tryz.prog 35 #[.int .i64 n] w fun e w' => e = .returned (.bool (fmtB n)) ∧ Below w.heap.size w w' :=
  (model_isFormat n w).mono fun _ _ ⟨he, hw⟩ => ⟨he, by rw [← hw]; exact Below.refl _ _⟩
theorem model_CheckPackage (n : Int) (nm ver ar sm : ByteArray) (na ba ga fa sa : Option Addr) (nl nc bl' bc gl gc fl fc sl sc : Nat) (w : World)
    (ev fe se : Int) (ndo bo go : Bool) (fw : ByteArray) (hs1 : nm.size ≤ 9223372036854775807) (hs2 : sm.size ≤ 9223372036854775807)
    (hV : Hid (∀ w1, Below w.heap.size w w1 → Calls Tryz.prog 64 #[.int .i64 n, .string ver] w1 fun e w2 => e = .returned (.int .i64 ev) ∧ Below w1.heap.size w1 w2))
    (hN : Hid (∀ w1, Below w.heap.size w w1 → Calls Tryz.prog 68 #[.int .i64 n, .slice na nl nc, .bool false] w1 fun e w2 => e = .returned (.bool ndo) ∧ Below w1.heap.size w1 w2))
    (hB : Hid (∀ w1, Below w.heap.size w w1 → Calls Tryz.prog 68 #[.int .i64 n, .slice ba bl' bc, .bool true] w1 fun e w2 => e = .returned (.bool bo) ∧ Below w1.heap.size w1 w2))
    (hGv : Hid (∀ w1, Below w.heap.size w w1 → Calls Tryz.prog 69 #[.int .i64 n, .slice ga gl gc] w1 fun e w2 => e = .returned (.bool go) ∧ Below w1.heap.size w1 w2))
    (hF : Hid (∀ w1, Below w.heap.size w w1 → Calls Tryz.prog 70 #[.int .i64 n, .slice fa fl fc] w1 fun e w2 => e = .returned (.tuple #[.string fw, .int .i64 fe]) ∧ Below w1.heap.size w1 w2))
    (hS : Hid (∀ w1, Below w.heap.size w w1 → Calls Tryz.prog 71 #[.int .i64 n, .slice sa sl sc] w1 fun e w2 => e = .returned (.int .i64 se) ∧ Below w1.heap.size w1 w2)) :
    Calls Tryz.prog 36 #[.int .i64 n, .agg #[.string nm, .string ver, .string ar, .string sm, .slice na nl nc, .slice ba bl' bc, .slice ga gl gc, .slice fa fl fc, .slice sa sl sc]] w
      fun e w' => e = .returned (cpAns nm (fmtB n) (dnameB (bl nm)) ev (archIn n ar) (sumB (bl sm)) ndo bo go fw fe se) ∧ Below w.heap.size w w' := by
  go_enter Tryz.func36, Tryz.ntmps36
  go_wp2_with fail
  refine (model_isFormat_b _ _).mono ?_; rintro e w1 ⟨rfl, hb1⟩
  have B1 := CpBox.start w nm ver ar sm (.slice na nl nc) (.slice ba bl' bc) (.slice ga gl gc) (.slice fa fl fc) (.slice sa sl sc) hb1
  clear hb1
  obtain ⟨-, sz, c0, c1, c2, c3, c4, c5, c6, c7, c8, -, -, -, -, -, -⟩ := Lib.hid B1
  have HB1 := Lib.hid B1; clear B1
  cases h0 : fmtB n
  · have K0 := Lib.hid h0; clear h0
    go_wp2_with fail
    refine (model_CheckPackage1 _ nm _ _ _ HB1.out.c0 rfl (by have := HB1.out.sz; show w.heap.size < _; omega)).mono ?_; rintro e wx ⟨rfl, hbx⟩
    have bx := HB1.out.step hbx
    clear c0 c1 c2 c3 c4 c5 c6 c7 c8 sz
    obtain ⟨-, sz, c0, c1, c2, c3, c4, c5, c6, c7, c8, r0, r1, r2, f0, f1, f2⟩ := Lib.hid bx
    have HX := Lib.hid bx; clear bx hbx
    unfold refV
    go_wp2_with fail
    refine bodyPost_ret (cp_result _ HX.out rfl _ _ _) rfl ⟨?_, cp_below HX.out _ _ _⟩
    congr 1; simp [cpAns, K0.out]
  have K0 := Lib.hid h0; clear h0
  go_wp2_with fail
  refine (ddep_Name nm _ hs1).mono ?_; rintro e w1' ⟨rfl, rfl⟩
  cases h1 : dnameB (bl nm)
  · have K1 := Lib.hid h1; clear h1
    go_wp2_with fail
    refine (model_CheckPackage1 _ nm _ _ _ HB1.out.c0 rfl (by have := HB1.out.sz; show w.heap.size < _; omega)).mono ?_; rintro e wx ⟨rfl, hbx⟩
    have bx := HB1.out.step hbx
    clear c0 c1 c2 c3 c4 c5 c6 c7 c8 sz
    obtain ⟨-, sz, c0, c1, c2, c3, c4, c5, c6, c7, c8, r0, r1, r2, f0, f1, f2⟩ := Lib.hid bx
    have HX := Lib.hid bx; clear bx hbx
    unfold refV
    go_wp2_with fail
    refine bodyPost_ret (cp_result _ HX.out rfl _ _ _) rfl ⟨?_, cp_below HX.out _ _ _⟩
    congr 1; simp [cpAns, K0.out, K1.out]
  have K1 := Lib.hid h1; clear h1
  go_wp2_with fail
  refine (hV.out _ HB1.out.bel).mono ?_; rintro e w2 ⟨rfl, hb2⟩
  have B2 := HB1.out.step hb2
  clear hb2; clear c0 c1 c2 c3 c4 c5 c6 c7 c8 sz
  obtain ⟨-, sz, c0, c1, c2, c3, c4, c5, c6, c7, c8, -, -, -, -, -, -⟩ := Lib.hid B2
  have HB2 := Lib.hid B2; clear B2
  by_cases h2 : ¬ ev = 0
  · have h2' : (ev != 0) = true := by simpa using h2
    have K2 := Lib.hid h2; clear h2
    go_wp2_with fail
    refine (model_CheckPackage1 _ nm _ _ _ HB2.out.c0 rfl (by have := HB2.out.sz; show w.heap.size < _; omega)).mono ?_; rintro e wx ⟨rfl, hbx⟩
    have bx := HB2.out.step hbx
    clear c0 c1 c2 c3 c4 c5 c6 c7 c8 sz
    obtain ⟨-, sz, c0, c1, c2, c3, c4, c5, c6, c7, c8, r0, r1, r2, f0, f1, f2⟩ := Lib.hid bx
    have HX := Lib.hid bx; clear bx hbx
    unfold refV
    go_wp2_with fail
    refine bodyPost_ret (cp_result _ HX.out rfl _ _ _) rfl ⟨?_, cp_below HX.out _ _ _⟩
    congr 1; simp [cpAns, K0.out, K1.out, K2.out]
  obtain rfl : ev = 0 := Decidable.not_not.1 h2
  clear h2
  go_wp2_with fail
  refine (model_archs _ _).mono ?_; rintro e w3 ⟨rfl, hb3⟩
  have B3 := HB2.out.step hb3
  clear hb3; clear c0 c1 c2 c3 c4 c5 c6 c7 c8 sz
  obtain ⟨-, sz, c0, c1, c2, c3, c4, c5, c6, c7, c8, -, -, -, -, -, -⟩ := Lib.hid B3
  have HB3 := Lib.hid B3; clear B3
  have sz0 : w.heap.size < w3.heap.size := by omega
  go_wp2_with fail
  go_quiet ((go_at_call 66; exact Calls.quiet_of_same (Contains_arch _ n _ _ (by simp) (by simp) (by simp))))
  cases h3 : archIn n ar
  · have K3 := Lib.hid h3; clear h3
    go_wp2_with fail
    refine (model_CheckPackage1 _ nm _ _ _ (by exact (HB3.out.step (below_drewN ((Below.refl _ _).alloc (Nat.le_refl _) _) _)).c0) rfl (by exact Nat.lt_trans (Nat.lt_succ_self _) (HB3.out.step (below_drewN ((Below.refl _ _).alloc (Nat.le_refl _) _) _)).sz)).mono ?_; rintro e wx ⟨rfl, hbx⟩
    have bx := (HB3.out.step (below_drewN ((Below.refl _ _).alloc (Nat.le_refl _) _) _)).step hbx
    clear c0 c1 c2 c3 c4 c5 c6 c7 c8 sz sz0
    obtain ⟨-, sz, c0, c1, c2, c3, c4, c5, c6, c7, c8, r0, r1, r2, f0, f1, f2⟩ := Lib.hid bx
    have HX := Lib.hid bx; clear bx hbx
    unfold refV
    go_wp2_with fail
    refine bodyPost_ret (cp_result _ HX.out rfl _ _ _) rfl ⟨?_, cp_below HX.out _ _ _⟩
    congr 1; simp [cpAns, K0.out, K1.out, K3.out]
  have K3 := Lib.hid h3; clear h3
  go_wp2_with fail
  refine (model_summaryRight_b sm _ hs2).mono ?_; rintro e w4 ⟨rfl, hb4⟩
  have B4 := (HB3.out.step (below_drewN ((Below.refl _ _).alloc (Nat.le_refl _) _) _)).step hb4
  clear hb4; clear c0 c1 c2 c3 c4 c5 c6 c7 c8 sz sz0
  obtain ⟨-, sz, c0, c1, c2, c3, c4, c5, c6, c7, c8, -, -, -, -, -, -⟩ := Lib.hid B4
  have HB4 := Lib.hid B4; clear B4
  cases h4 : sumB (bl sm)
  · have K4 := Lib.hid h4; clear h4
    go_wp2_with fail
    refine (model_CheckPackage1 _ nm _ _ _ HB4.out.c0 rfl (by have := HB4.out.sz; show w.heap.size < _; omega)).mono ?_; rintro e wx ⟨rfl, hbx⟩
    have bx := HB4.out.step hbx
    clear c0 c1 c2 c3 c4 c5 c6 c7 c8 sz
    obtain ⟨-, sz, c0, c1, c2, c3, c4, c5, c6, c7, c8, r0, r1, r2, f0, f1, f2⟩ := Lib.hid bx
    have HX := Lib.hid bx; clear bx hbx
    unfold refV
    go_wp2_with fail
    refine bodyPost_ret (cp_result _ HX.out rfl _ _ _) rfl ⟨?_, cp_below HX.out _ _ _⟩
    congr 1; simp [cpAns, K0.out, K1.out, K3.out, K4.out]
  have K4 := Lib.hid h4; clear h4
  go_wp2_with fail
  refine (hN.out _ HB4.out.bel).mono ?_; rintro e w5 ⟨rfl, hb5⟩
  have B5 := HB4.out.step hb5
  clear hb5; clear c0 c1 c2 c3 c4 c5 c6 c7 c8 sz
  obtain ⟨-, sz, c0, c1, c2, c3, c4, c5, c6, c7, c8, -, -, -, -, -, -⟩ := Lib.hid B5
  have HB5 := Lib.hid B5; clear B5
  cases ndo
  · skip
    go_wp2_with fail
    refine (model_CheckPackage1 _ nm _ _ _ HB5.out.c0 rfl (by have := HB5.out.sz; show w.heap.size < _; omega)).mono ?_; rintro e wx ⟨rfl, hbx⟩
    have bx := HB5.out.step hbx
    clear c0 c1 c2 c3 c4 c5 c6 c7 c8 sz
    obtain ⟨-, sz, c0, c1, c2, c3, c4, c5, c6, c7, c8, r0, r1, r2, f0, f1, f2⟩ := Lib.hid bx
    have HX := Lib.hid bx; clear bx hbx
    unfold refV
    go_wp2_with fail
    refine bodyPost_ret (cp_result _ HX.out rfl _ _ _) rfl ⟨?_, cp_below HX.out _ _ _⟩
    congr 1; simp [cpAns, K0.out, K1.out, K3.out, K4.out]
  go_wp2_with fail
  refine (hB.out _ HB5.out.bel).mono ?_; rintro e w6 ⟨rfl, hb6⟩
  have B6 := HB5.out.step hb6
  clear hb6; clear c0 c1 c2 c3 c4 c5 c6 c7 c8 sz
  obtain ⟨-, sz, c0, c1, c2, c3, c4, c5, c6, c7, c8, -, -, -, -, -, -⟩ := Lib.hid B6
  have HB6 := Lib.hid B6; clear B6
  cases bo
  · skip
    go_wp2_with fail
    refine (model_CheckPackage1 _ nm _ _ _ HB6.out.c0 rfl (by have := HB6.out.sz; show w.heap.size < _; omega)).mono ?_; rintro e wx ⟨rfl, hbx⟩
    have bx := HB6.out.step hbx
    clear c0 c1 c2 c3 c4 c5 c6 c7 c8 sz
    obtain ⟨-, sz, c0, c1, c2, c3, c4, c5, c6, c7, c8, r0, r1, r2, f0, f1, f2⟩ := Lib.hid bx
    have HX := Lib.hid bx; clear bx hbx
    unfold refV
    go_wp2_with fail
    refine bodyPost_ret (cp_result _ HX.out rfl _ _ _) rfl ⟨?_, cp_below HX.out _ _ _⟩
    congr 1; simp [cpAns, K0.out, K1.out, K3.out, K4.out]
  go_wp2_with fail
  refine (hGv.out _ HB6.out.bel).mono ?_; rintro e w7 ⟨rfl, hb7⟩
  have B7 := HB6.out.step hb7
  clear hb7; clear c0 c1 c2 c3 c4 c5 c6 c7 c8 sz
  obtain ⟨-, sz, c0, c1, c2, c3, c4, c5, c6, c7, c8, -, -, -, -, -, -⟩ := Lib.hid B7
  have HB7 := Lib.hid B7; clear B7
  cases go
  · skip
    go_wp2_with fail
    refine (model_CheckPackage1 _ nm _ _ _ HB7.out.c0 rfl (by have := HB7.out.sz; show w.heap.size < _; omega)).mono ?_; rintro e wx ⟨rfl, hbx⟩
    have bx := HB7.out.step hbx
    clear c0 c1 c2 c3 c4 c5 c6 c7 c8 sz
    obtain ⟨-, sz, c0, c1, c2, c3, c4, c5, c6, c7, c8, r0, r1, r2, f0, f1, f2⟩ := Lib.hid bx
    have HX := Lib.hid bx; clear bx hbx
    unfold refV
    go_wp2_with fail
    refine bodyPost_ret (cp_result _ HX.out rfl _ _ _) rfl ⟨?_, cp_below HX.out _ _ _⟩
    congr 1; simp [cpAns, K0.out, K1.out, K3.out, K4.out]
  go_wp2_with fail
  refine (hF.out _ HB7.out.bel).mono ?_; rintro e w8 ⟨rfl, hb8⟩
  have B8 := HB7.out.step hb8
  clear hb8; clear c0 c1 c2 c3 c4 c5 c6 c7 c8 sz
  obtain ⟨-, sz, c0, c1, c2, c3, c4, c5, c6, c7, c8, -, -, -, -, -, -⟩ := Lib.hid B8
  have HB8 := Lib.hid B8; clear B8
  by_cases h5 : ¬ fe = 0
  · have h5' : (fe != 0) = true := by simpa using h5
    have K5 := Lib.hid h5; clear h5
    go_wp2_with fail
    refine (model_CheckPackage1 _ nm _ _ _ HB8.out.c0 rfl (by have := HB8.out.sz; show w.heap.size < _; omega)).mono ?_; rintro e wx ⟨rfl, hbx⟩
    have bx := HB8.out.step hbx
    clear c0 c1 c2 c3 c4 c5 c6 c7 c8 sz
    obtain ⟨-, sz, c0, c1, c2, c3, c4, c5, c6, c7, c8, r0, r1, r2, f0, f1, f2⟩ := Lib.hid bx
    have HX := Lib.hid bx; clear bx hbx
    unfold refV
    go_wp2_with fail
    refine bodyPost_ret (cp_result _ HX.out rfl _ _ _) rfl ⟨?_, cp_below HX.out _ _ _⟩
    congr 1; simp [cpAns, K0.out, K1.out, K3.out, K4.out, K5.out]
  obtain rfl : fe = 0 := Decidable.not_not.1 h5
  clear h5
  go_wp2_with fail
  refine (hS.out _ HB8.out.bel).mono ?_; rintro e w9 ⟨rfl, hb9⟩
  have B9 := HB8.out.step hb9
  clear hb9; clear c0 c1 c2 c3 c4 c5 c6 c7 c8 sz
  obtain ⟨-, sz, c0, c1, c2, c3, c4, c5, c6, c7, c8, -, -, -, -, -, -⟩ := Lib.hid B9
  have HB9 := Lib.hid B9; clear B9
  by_cases h6 : ¬ se = 0
  · have h6' : (se != 0) = true := by simpa using h6
    have K6 := Lib.hid h6; clear h6
    go_wp2_with fail
    refine (model_CheckPackage1 _ nm _ _ _ HB9.out.c0 rfl (by have := HB9.out.sz; show w.heap.size < _; omega)).mono ?_; rintro e wx ⟨rfl, hbx⟩
    have bx := HB9.out.step hbx
    clear c0 c1 c2 c3 c4 c5 c6 c7 c8 sz
    obtain ⟨-, sz, c0, c1, c2, c3, c4, c5, c6, c7, c8, r0, r1, r2, f0, f1, f2⟩ := Lib.hid bx
    have HX := Lib.hid bx; clear bx hbx
    unfold refV
    go_wp2_with fail
    refine bodyPost_ret (cp_result _ HX.out rfl _ _ _) rfl ⟨?_, cp_below HX.out _ _ _⟩
    congr 1; simp [cpAns, K0.out, K1.out, K3.out, K4.out, K6.out]
  obtain rfl : se = 0 := Decidable.not_not.1 h6
  clear h6 c0 c1 c2 c3 c4 c5 c6 c7 c8 sz
  have HX := HB9
  obtain ⟨-, sz, c0, c1, c2, c3, c4, c5, c6, c7, c8, r0, r1, r2, f0, f1, f2⟩ := Lib.hid HX.out
  go_wp2_with fail
  refine bodyPost_ret (cp_result _ HX.out rfl _ _ _) rfl ⟨?_, cp_below HX.out _ _ _⟩
  congr 1; simp [cpAns, K0.out, K1.out, K3.out, K4.out]
theorem below_of_eq {w w' : World} (h : w = w') : Below w.heap.size w w' := by rw [h]; exact Below.refl _ _
theorem CheckPackage_bare (nm ver ar sm : ByteArray) (w : World) (hG : Gl w) (hs0 : ver.size ≤ 64) (hs1 : nm.size ≤ 9223372036854775807) (hs2 : sm.size ≤ 9223372036854775807) :
    Calls Tryz.prog 36 #[.int .i64 1, .agg #[.string nm, .string ver, .string ar, .string sm, .slice none 0 0, .slice none 0 0, .slice none 0 0, .slice none 0 0, .slice none 0 0]] w
      fun e w' => e = .returned (cpAns nm (fmtB 1) (dnameB (bl nm)) (verCode (splitD (bl ver))) (archIn 1 ar) (sumB (bl sm)) true true true ⟨#[]⟩ 0 0) ∧ Below w.heap.size w w' :=
  model_CheckPackage 1 nm ver ar sm none none none none none 0 0 0 0 0 0 0 0 0 0 w _ _ _ _ _ _ _ hs1 hs2
    (Lib.hid fun w1 hb => version_Check_dpkg ver w1 (hG.below hb) hs0)
    (Lib.hid fun w1 _ => (model_textsRight_nil 1 false w1).mono fun _ _ ⟨he, hw⟩ => ⟨he, below_of_eq hw⟩)
    (Lib.hid fun w1 _ => (model_textsRight_nil 1 true w1).mono fun _ _ ⟨he, hw⟩ => ⟨he, below_of_eq hw⟩)
    (Lib.hid fun w1 _ => (model_givesRight_nil 1 w1).mono fun _ _ ⟨he, hw⟩ => ⟨he, below_of_eq hw⟩)
    (Lib.hid fun w1 _ => model_checkFiles_nil 1 w1)
    (Lib.hid fun w1 _ => (model_checkScripts_nil 1 w1).mono fun _ _ ⟨he, hw⟩ => ⟨he, below_of_eq hw⟩)
end
end Go.Proofs.YtlhchpeecfbgnaaGreatDoor
