/- A part of the proof that the digests of any content are the three of it, and that an installed set is new memory. No condition. -/
import Derived.BigQuiet
import Derived.ChangeAlike
import Derived.Deep.QuietTactic
import Derived.IntWalk
import Derived.RegionTactic
import Derived.Test.YtlhchpeecfbgnaaGreatDoorG06
import Derived.Test.YtlhchpeecfbgnaaGreatDoorG09
set_option maxRecDepth 100000
set_option maxHeartbeats 20000000
set_option linter.unusedVariables false
set_option linter.unusedSimpArgs false
namespace Go.Proofs.YtlhchpeecfbgnaaGreatDoor
section
open Go.RowKit
theorem results_tmp4 {fn : Func} {t u v x : Tmp} (h : fn.results = #[.tmp t, .tmp u, .tmp v, .tmp x]) (tmps : Array Value) (P : Program) (w : World) :
    (results fn tmps).run P w = .ok (.tuple #[tmps.getD t undef, tmps.getD u undef, tmps.getD v undef, tmps.getD x undef]) w := by simp [results, h]
def SplitPost (r : Option (List UInt8 × List UInt8 × List UInt8)) (w : World) (e : Ending) (w' : World) : Prop :=
  ∃ (ep pr rv : ByteArray) (ok : Bool), e = .returned (.tuple #[.string ep, .string pr, .string rv, .bool ok]) ∧ r = (if ok = true then some (bl ep, bl pr, bl rv) else none) ∧ ep.size ≤ 64 ∧ pr.size ≤ 64 ∧ rv.size ≤ 64 ∧ Below w.heap.size w w'
theorem SplitPost.no {r : Option (List UInt8 × List UInt8 × List UInt8)} {w w' : World} (h : r = none) (hb : Below w.heap.size w w') : SplitPost r w (.returned (.tuple #[.string ⟨#[]⟩, .string ⟨#[]⟩, .string ⟨#[]⟩, .bool false])) w' :=
  ⟨_, _, _, _, rfl, h, by decide, by decide, by decide, hb⟩
theorem splitD_noEp (l : List UInt8) (h : (Lib.cut l [58]).2.2 = false) : epochOf l = some ([], l) := by simp [epochOf, h]
theorem splitD_ep (l : List UInt8) (h : (Lib.cut l [58]).2.2 = true) (h1 : numB (Lib.cut l [58]).1 = true) (h2 : (Lib.cut l [58]).1.length ≤ 9) : epochOf l = some ((Lib.cut l [58]).1, (Lib.cut l [58]).2.1) := by simp [epochOf, h, h1, h2]
theorem splitD_badEp (l : List UInt8) (h : (Lib.cut l [58]).2.2 = true) (h1 : ¬ (numB (Lib.cut l [58]).1 = true ∧ (Lib.cut l [58]).1.length ≤ 9)) : epochOf l = none := by simp [epochOf, h, h1]
theorem rest_none_bad (ep p : List UInt8) (h : lastL 45 p = none) (h1 : vmadeB [46, 43, 126, 45] p = false ∨ headDig p = false) : (restD p).map (fun r => (ep, r.1, r.2)) = none := by
  unfold restD; rw [h]; rcases h1 with h1 | h1 <;> simp [h1]
theorem rest_none_good (ep p : List UInt8) (h : lastL 45 p = none) (h1 : vmadeB [46, 43, 126, 45] p = true) (h2 : headDig p = true) : (restD p).map (fun r => (ep, r.1, r.2)) = some (ep, p, []) := by
  unfold restD; rw [h]; simp [h1, h2]
theorem rest_some_bad (ep p : List UInt8) (i : Nat) (h : lastL 45 p = some i) (h1 : vmadeB [46, 43, 126] (p.drop (i + 1)) = false ∨ vmadeB [46, 43, 126, 45] (p.take i) = false ∨ headDig (p.take i) = false) : (restD p).map (fun r => (ep, r.1, r.2)) = none := by
  unfold restD; rw [h]; rcases h1 with h1 | h1 | h1 <;> simp [h1]
theorem rest_some_good (ep p : List UInt8) (i : Nat) (h : lastL 45 p = some i) (h0 : vmadeB [46, 43, 126] (p.drop (i + 1)) = true) (h1 : vmadeB [46, 43, 126, 45] (p.take i) = true) (h2 : headDig (p.take i) = true) : (restD p).map (fun r => (ep, r.1, r.2)) = some (ep, p.take i, p.drop (i + 1)) := by
  unfold restD; rw [h]; simp [h0, h1, h2]
theorem version_made_is (s o : ByteArray) (b : Bool) (w : World) (hs : s.size ≤ 9223372036854775807) (h : Hid (vmadeB (bl o) (bl s) = b)) :
    Calls Tryz.prog 162 #[.string s, .string o] w fun e w' => e = .returned (.bool b) ∧ Below w.heap.size w w' := by
  rw [← h.out]; exact version_made s o w hs
theorem version_number_is (s : ByteArray) (b : Bool) (w : World) (hs : s.size ≤ 9223372036854775807) (h : Hid (numB (bl s) = b)) :
    Calls Tryz.prog 161 #[.string s] w fun e w' => e = .returned (.bool b) ∧ w = w' := by
  rw [← h.out]; exact version_number s w hs
theorem version_splitDpkg0 (s : ByteArray) (w : World) (hG : Gl w) (hs : s.size ≤ 64) (hk : cutK s ⟨#[58]⟩ = false) :
    Calls Tryz.prog 130 #[.string s] w (SplitPost (splitD (bl s)) w) := by
  have HG := Lib.hid hG; clear hG
  have HE : Hid (splitD (bl s) = (restD (bl s)).map fun r => ([], r.1, r.2)) := by
    show _ = _; unfold splitD; rw [splitD_noEp (bl s) hk]
  cases hl : lastL 45 (bl s) with
  | none =>
    have HL := Lib.hid hl; clear hl
    cases hm : vmadeB [46, 43, 126, 45] (bl s)
    · have HM := Lib.hid hm; clear hm
      go_enter Tryz.func130, Tryz.ntmps130
      go_wp2_with fail
      refine (Cut_any s _ _ HG.out (by omega)).mono ?_; rintro e w1 ⟨rfl, hb1⟩
      go_wp2_with fail
      refine (LastIndexByte_none s 45 _ (by omega) HL).mono ?_; rintro e w2 ⟨rfl, rfl⟩
      go_wp2_with fail
      refine (version_made_is _ _ false _ (by omega) (by exact HM)).mono ?_; rintro e w2 ⟨rfl, hb2⟩
      go_wp2_with fail
      refine bodyPost_ret (results_tmp4 rfl _ _ _) rfl ?_
      exact ⟨⟨#[]⟩, s, ⟨#[]⟩, false, rfl, by rw [HE.out, rest_none_bad _ _ HL.out (.inl HM.out)]; rfl, by decide, by omega, by decide, bthen hb1 hb2⟩
    · have HM := Lib.hid hm
      have hp := vmade_pos _ _ hm; clear hm
      go_enter Tryz.func130, Tryz.ntmps130
      go_wp2_with fail
      refine (Cut_any s _ _ HG.out (by omega)).mono ?_; rintro e w1 ⟨rfl, hb1⟩
      go_wp2_with fail
      refine (LastIndexByte_none s 45 _ (by omega) HL).mono ?_; rintro e w2 ⟨rfl, rfl⟩
      go_wp2_with fail
      refine (version_made_is _ _ true _ (by omega) (by exact HM)).mono ?_; rintro e w2 ⟨rfl, hb2⟩
      go_wp2_with fail
      refine (version_digit s[0] _).mono ?_; rintro e w3 ⟨rfl, rfl⟩
      go_wp2_with fail
      refine bodyPost_ret (results_tmp4 rfl _ _ _) rfl ?_
      refine ⟨⟨#[]⟩, s, ⟨#[]⟩, digB s[0], rfl, ?_, by decide, by omega, by decide, bthen hb1 hb2⟩
      rw [HE.out]
      cases hd : digB s[0]
      · rw [rest_none_bad _ _ HL.out (.inr (by rw [headDig_pos _ hp]; exact hd))]; rfl
      · rw [rest_none_good _ _ HL.out HM.out (by rw [headDig_pos _ hp]; exact hd)]; rfl
  | some i =>
    have hi := lastL_lt _ _ _ hl
    rw [bl_length] at hi
    have HL := Lib.hid hl; clear hl
    have hz1 : (s.extract (i + 1) s.size).size ≤ 64 := by rw [ByteArray.size_extract]; omega
    have hz2 : (s.extract 0 i).size ≤ 64 := by rw [ByteArray.size_extract]; omega
    cases hr : vmadeB [46, 43, 126] ((bl s).drop (i + 1))
    · have HR : Hid (vmadeB [46, 43, 126] (bl (s.extract (i + 1) s.size)) = false) := by show _ = _; rw [bl_drop]; exact hr
      have HR' := Lib.hid hr; clear hr
      go_enter Tryz.func130, Tryz.ntmps130
      go_wp2_with fail
      refine (Cut_any s _ _ HG.out (by omega)).mono ?_; rintro e w1 ⟨rfl, hb1⟩
      go_wp2_with fail
      refine (LastIndexByte_some s 45 i _ (by omega) HL).mono ?_; rintro e w2 ⟨rfl, rfl⟩
      go_wp2_with fail
      go_region
      go_wp2_with fail
      refine (version_made_is (s.extract (i + 1) s.size) ⟨#[46, 43, 126]⟩ false _ (by omega) (by exact HR)).mono ?_; rintro e w2 ⟨rfl, hb2⟩
      go_wp2_with fail
      refine bodyPost_ret (results_tmp4 rfl _ _ _) rfl ?_
      exact SplitPost.no (by rw [HE.out, rest_some_bad _ _ i HL.out (.inl HR'.out)]) (bthen hb1.drew hb2)
    · have HR : Hid (vmadeB [46, 43, 126] (bl (s.extract (i + 1) s.size)) = true) := by show _ = _; rw [bl_drop]; exact hr
      have HR' := Lib.hid hr; clear hr
      cases hm : vmadeB [46, 43, 126, 45] ((bl s).take i)
      · have HM : Hid (vmadeB [46, 43, 126, 45] (bl (s.extract 0 i)) = false) := by show _ = _; rw [bl_take]; exact hm
        have HM' := Lib.hid hm; clear hm
        go_enter Tryz.func130, Tryz.ntmps130
        go_wp2_with fail
        refine (Cut_any s _ _ HG.out (by omega)).mono ?_; rintro e w1 ⟨rfl, hb1⟩
        go_wp2_with fail
        refine (LastIndexByte_some s 45 i _ (by omega) HL).mono ?_; rintro e w2 ⟨rfl, rfl⟩
        go_wp2_with fail
        go_region
        go_wp2_with fail
        refine (version_made_is (s.extract (i + 1) s.size) ⟨#[46, 43, 126]⟩ true _ (by omega) (by exact HR)).mono ?_; rintro e w2 ⟨rfl, hb2⟩
        go_wp2_with fail
        refine (version_made_is (s.extract 0 i) ⟨#[46, 43, 126, 45]⟩ false _ (by omega) (by exact HM)).mono ?_; rintro e w3 ⟨rfl, hb3⟩
        go_wp2_with fail
        refine bodyPost_ret (results_tmp4 rfl _ _ _) rfl ?_
        exact ⟨⟨#[]⟩, s.extract 0 i, s.extract (i + 1) s.size, false, rfl, by rw [HE.out, rest_some_bad _ _ i HL.out (.inr (.inl HM'.out))]; rfl, by decide, hz2, hz1, bthen (bthen hb1.drew hb2) hb3⟩
      · have HM : Hid (vmadeB [46, 43, 126, 45] (bl (s.extract 0 i)) = true) := by show _ = _; rw [bl_take]; exact hm
        have hp := vmade_pos _ (s.extract 0 i) HM.out
        have hp' : 0 < min i s.size := by rw [ByteArray.size_extract] at hp; omega
        have HM' := Lib.hid hm; clear hm
        go_enter Tryz.func130, Tryz.ntmps130
        go_wp2_with fail
        refine (Cut_any s _ _ HG.out (by omega)).mono ?_; rintro e w1 ⟨rfl, hb1⟩
        go_wp2_with fail
        refine (LastIndexByte_some s 45 i _ (by omega) HL).mono ?_; rintro e w2 ⟨rfl, rfl⟩
        go_wp2_with fail
        go_region
        go_wp2_with fail
        refine (version_made_is (s.extract (i + 1) s.size) ⟨#[46, 43, 126]⟩ true _ (by omega) (by exact HR)).mono ?_; rintro e w2 ⟨rfl, hb2⟩
        go_wp2_with fail
        refine (version_made_is (s.extract 0 i) ⟨#[46, 43, 126, 45]⟩ true _ (by omega) (by exact HM)).mono ?_; rintro e w3 ⟨rfl, hb3⟩
        go_wp2_with fail
        refine (version_digit (s.extract 0 i)[0] _).mono ?_; rintro e w4 ⟨rfl, rfl⟩
        go_wp2_with fail
        refine bodyPost_ret (results_tmp4 rfl _ _ _) rfl ?_
        refine ⟨⟨#[]⟩, s.extract 0 i, s.extract (i + 1) s.size, digB (s.extract 0 i)[0], rfl, ?_, by decide, hz2, hz1, bthen (bthen hb1.drew hb2) hb3⟩
        rw [HE.out]
        cases hd : digB (s.extract 0 i)[0]
        · rw [rest_some_bad _ _ i HL.out (.inr (.inr (by rw [← bl_take, headDig_pos _ hp]; exact hd)))]; rfl
        · rw [rest_some_good _ _ i HL.out HR'.out HM'.out (by rw [← bl_take, headDig_pos _ hp]; exact hd), if_pos rfl, bl_take, bl_drop]; rfl
theorem version_splitDpkg1 (s t u : ByteArray) (w : World) (hG : Gl w) (hs : s.size ≤ 64) (hk : cutK s ⟨#[58]⟩ = true) (ht : t = cutB s ⟨#[58]⟩) (hu : u = cutA s ⟨#[58]⟩)
    (hn : numB (bl u) = true) (hl : u.size ≤ 9) :
    Calls Tryz.prog 130 #[.string s] w (SplitPost (splitD (bl s)) w) := by
  have HG := Lib.hid hG; clear hG
  have HE : Hid (splitD (bl s) = (restD (bl t)).map fun r => (bl u, r.1, r.2)) := by
    show _ = _; unfold splitD; rw [splitD_ep (bl s) hk (by rw [hu, bl_cutA] at hn; exact hn) (by rw [hu, ← bl_length, bl_cutA] at hl; exact hl), ht, hu, bl_cutB, bl_cutA]; rfl
  have hts : t.size ≤ 64 := by have := cutB_le s ⟨#[58]⟩; rw [ht]; omega
  have HN := Lib.hid hn; clear hn
  have ht' := ht.symm; have hu' := hu.symm; clear ht hu
  cases hl : lastL 45 (bl t) with
  | none =>
    have HL := Lib.hid hl; clear hl
    cases hm : vmadeB [46, 43, 126, 45] (bl t)
    · have HM := Lib.hid hm; clear hm
      go_enter Tryz.func130, Tryz.ntmps130
      go_wp2_with fail
      refine (Cut_any s _ _ HG.out (by omega)).mono ?_; rintro e w1 ⟨rfl, hb1⟩
      go_wp2_with fail
      refine (version_number_is _ _ _ (by omega) HN).mono ?_; rintro e w1' ⟨rfl, rfl⟩
      go_wp2_with fail
      refine (LastIndexByte_none t 45 _ (by omega) HL).mono ?_; rintro e w2 ⟨rfl, rfl⟩
      go_wp2_with fail
      refine (version_made_is _ _ false _ (by omega) (by exact HM)).mono ?_; rintro e w2 ⟨rfl, hb2⟩
      go_wp2_with fail
      refine bodyPost_ret (results_tmp4 rfl _ _ _) rfl ?_
      exact ⟨u, t, ⟨#[]⟩, false, rfl, by rw [HE.out, rest_none_bad _ _ HL.out (.inl HM.out)]; rfl, by omega, by omega, by decide, bthen hb1 hb2⟩
    · have HM := Lib.hid hm
      have hp := vmade_pos _ _ hm; clear hm
      go_enter Tryz.func130, Tryz.ntmps130
      go_wp2_with fail
      refine (Cut_any s _ _ HG.out (by omega)).mono ?_; rintro e w1 ⟨rfl, hb1⟩
      go_wp2_with fail
      refine (version_number_is _ _ _ (by omega) HN).mono ?_; rintro e w1' ⟨rfl, rfl⟩
      go_wp2_with fail
      refine (LastIndexByte_none t 45 _ (by omega) HL).mono ?_; rintro e w2 ⟨rfl, rfl⟩
      go_wp2_with fail
      refine (version_made_is _ _ true _ (by omega) (by exact HM)).mono ?_; rintro e w2 ⟨rfl, hb2⟩
      go_wp2_with fail
      refine (version_digit t[0] _).mono ?_; rintro e w3 ⟨rfl, rfl⟩
      go_wp2_with fail
      refine bodyPost_ret (results_tmp4 rfl _ _ _) rfl ?_
      refine ⟨u, t, ⟨#[]⟩, digB t[0], rfl, ?_, by omega, by omega, by decide, bthen hb1 hb2⟩
      rw [HE.out]
      cases hd : digB t[0]
      · rw [rest_none_bad _ _ HL.out (.inr (by rw [headDig_pos _ hp]; exact hd))]; rfl
      · rw [rest_none_good _ _ HL.out HM.out (by rw [headDig_pos _ hp]; exact hd)]; rfl
  | some i =>
    have hi := lastL_lt _ _ _ hl
    rw [bl_length] at hi
    have HL := Lib.hid hl; clear hl
    have hz1 : (t.extract (i + 1) t.size).size ≤ 64 := by rw [ByteArray.size_extract]; omega
    have hz2 : (t.extract 0 i).size ≤ 64 := by rw [ByteArray.size_extract]; omega
    cases hr : vmadeB [46, 43, 126] ((bl t).drop (i + 1))
    · have HR : Hid (vmadeB [46, 43, 126] (bl (t.extract (i + 1) t.size)) = false) := by show _ = _; rw [bl_drop]; exact hr
      have HR' := Lib.hid hr; clear hr
      go_enter Tryz.func130, Tryz.ntmps130
      go_wp2_with fail
      refine (Cut_any s _ _ HG.out (by omega)).mono ?_; rintro e w1 ⟨rfl, hb1⟩
      go_wp2_with fail
      refine (version_number_is _ _ _ (by omega) HN).mono ?_; rintro e w1' ⟨rfl, rfl⟩
      go_wp2_with fail
      refine (LastIndexByte_some t 45 i _ (by omega) HL).mono ?_; rintro e w2 ⟨rfl, rfl⟩
      go_wp2_with fail
      go_region
      go_wp2_with fail
      refine (version_made_is (t.extract (i + 1) t.size) ⟨#[46, 43, 126]⟩ false _ (by omega) (by exact HR)).mono ?_; rintro e w2 ⟨rfl, hb2⟩
      go_wp2_with fail
      refine bodyPost_ret (results_tmp4 rfl _ _ _) rfl ?_
      exact SplitPost.no (by rw [HE.out, rest_some_bad _ _ i HL.out (.inl HR'.out)]) (bthen hb1.drew hb2)
    · have HR : Hid (vmadeB [46, 43, 126] (bl (t.extract (i + 1) t.size)) = true) := by show _ = _; rw [bl_drop]; exact hr
      have HR' := Lib.hid hr; clear hr
      cases hm : vmadeB [46, 43, 126, 45] ((bl t).take i)
      · have HM : Hid (vmadeB [46, 43, 126, 45] (bl (t.extract 0 i)) = false) := by show _ = _; rw [bl_take]; exact hm
        have HM' := Lib.hid hm; clear hm
        go_enter Tryz.func130, Tryz.ntmps130
        go_wp2_with fail
        refine (Cut_any s _ _ HG.out (by omega)).mono ?_; rintro e w1 ⟨rfl, hb1⟩
        go_wp2_with fail
        refine (version_number_is _ _ _ (by omega) HN).mono ?_; rintro e w1' ⟨rfl, rfl⟩
        go_wp2_with fail
        refine (LastIndexByte_some t 45 i _ (by omega) HL).mono ?_; rintro e w2 ⟨rfl, rfl⟩
        go_wp2_with fail
        go_region
        go_wp2_with fail
        refine (version_made_is (t.extract (i + 1) t.size) ⟨#[46, 43, 126]⟩ true _ (by omega) (by exact HR)).mono ?_; rintro e w2 ⟨rfl, hb2⟩
        go_wp2_with fail
        refine (version_made_is (t.extract 0 i) ⟨#[46, 43, 126, 45]⟩ false _ (by omega) (by exact HM)).mono ?_; rintro e w3 ⟨rfl, hb3⟩
        go_wp2_with fail
        refine bodyPost_ret (results_tmp4 rfl _ _ _) rfl ?_
        exact ⟨u, t.extract 0 i, t.extract (i + 1) t.size, false, rfl, by rw [HE.out, rest_some_bad _ _ i HL.out (.inr (.inl HM'.out))]; rfl, by omega, hz2, hz1, bthen (bthen hb1.drew hb2) hb3⟩
      · have HM : Hid (vmadeB [46, 43, 126, 45] (bl (t.extract 0 i)) = true) := by show _ = _; rw [bl_take]; exact hm
        have hp := vmade_pos _ (t.extract 0 i) HM.out
        have hp' : 0 < min i t.size := by rw [ByteArray.size_extract] at hp; omega
        have HM' := Lib.hid hm; clear hm
        go_enter Tryz.func130, Tryz.ntmps130
        go_wp2_with fail
        refine (Cut_any s _ _ HG.out (by omega)).mono ?_; rintro e w1 ⟨rfl, hb1⟩
        go_wp2_with fail
        refine (version_number_is _ _ _ (by omega) HN).mono ?_; rintro e w1' ⟨rfl, rfl⟩
        go_wp2_with fail
        refine (LastIndexByte_some t 45 i _ (by omega) HL).mono ?_; rintro e w2 ⟨rfl, rfl⟩
        go_wp2_with fail
        go_region
        go_wp2_with fail
        refine (version_made_is (t.extract (i + 1) t.size) ⟨#[46, 43, 126]⟩ true _ (by omega) (by exact HR)).mono ?_; rintro e w2 ⟨rfl, hb2⟩
        go_wp2_with fail
        refine (version_made_is (t.extract 0 i) ⟨#[46, 43, 126, 45]⟩ true _ (by omega) (by exact HM)).mono ?_; rintro e w3 ⟨rfl, hb3⟩
        go_wp2_with fail
        refine (version_digit (t.extract 0 i)[0] _).mono ?_; rintro e w4 ⟨rfl, rfl⟩
        go_wp2_with fail
        refine bodyPost_ret (results_tmp4 rfl _ _ _) rfl ?_
        refine ⟨u, t.extract 0 i, t.extract (i + 1) t.size, digB (t.extract 0 i)[0], rfl, ?_, by omega, hz2, hz1, bthen (bthen hb1.drew hb2) hb3⟩
        rw [HE.out]
        cases hd : digB (t.extract 0 i)[0]
        · rw [rest_some_bad _ _ i HL.out (.inr (.inr (by rw [← bl_take, headDig_pos _ hp]; exact hd)))]; rfl
        · rw [rest_some_good _ _ i HL.out HR'.out HM'.out (by rw [← bl_take, headDig_pos _ hp]; exact hd), if_pos rfl, bl_take, bl_drop]
theorem version_splitDpkg2 (s u : ByteArray) (w : World) (hG : Gl w) (hs : s.size ≤ 64) (hk : cutK s ⟨#[58]⟩ = true) (hu : u = cutA s ⟨#[58]⟩)
    (hn : ¬ (numB (bl u) = true ∧ u.size ≤ 9)) :
    Calls Tryz.prog 130 #[.string s] w (SplitPost (splitD (bl s)) w) := by
  have HG := Lib.hid hG; clear hG
  have HE : Hid (splitD (bl s) = none) := by
    show _ = _; unfold splitD; rw [splitD_badEp (bl s) hk (by rw [hu, ← bl_length, bl_cutA] at hn; exact hn)]
  have hus : u.size ≤ 64 := by have := cutA_le s ⟨#[58]⟩; rw [hu]; omega
  have hu' := hu.symm; clear hu
  cases hb : numB (bl u)
  · have HN := Lib.hid hb; clear hb hn
    go_enter Tryz.func130, Tryz.ntmps130
    go_wp2_with fail
    refine (Cut_any s _ _ HG.out (by omega)).mono ?_; rintro e w1 ⟨rfl, hb1⟩
    go_wp2_with fail
    refine (version_number_is _ _ _ (by omega) HN).mono ?_; rintro e w1' ⟨rfl, rfl⟩
    go_wp2_with fail
    refine bodyPost_ret (results_tmp4 rfl _ _ _) rfl ?_
    exact SplitPost.no HE.out hb1
  · have hl : 9 < u.size := by rw [hb] at hn; simp at hn; omega
    have HN := Lib.hid hb; clear hb hn
    go_enter Tryz.func130, Tryz.ntmps130
    go_wp2_with fail
    refine (Cut_any s _ _ HG.out (by omega)).mono ?_; rintro e w1 ⟨rfl, hb1⟩
    go_wp2_with fail
    refine (version_number_is _ _ _ (by omega) HN).mono ?_; rintro e w1' ⟨rfl, rfl⟩
    go_wp2_with fail
    refine bodyPost_ret (results_tmp4 rfl _ _ _) rfl ?_
    exact SplitPost.no HE.out hb1
theorem version_splitDpkg (s : ByteArray) (w : World) (hG : Gl w) (hs : s.size ≤ 64) :
    Calls Tryz.prog 130 #[.string s] w (SplitPost (splitD (bl s)) w) := by
  cases hk : cutK s ⟨#[58]⟩
  · exact version_splitDpkg0 s w hG hs hk
  · by_cases hn : numB (bl (cutA s ⟨#[58]⟩)) = true ∧ (cutA s ⟨#[58]⟩).size ≤ 9
    · exact version_splitDpkg1 s _ _ w hG hs hk rfl rfl hn.1 hn.2
    · exact version_splitDpkg2 s _ w hG hs hk rfl hn
def SplitAns (r : Option (List UInt8 × List UInt8 × List UInt8)) (w : World) (e : Ending) (w' : World) : Prop :=
  ∃ (ep pr rv : ByteArray) (c : Int), e = .returned (.tuple #[.string ep, .string pr, .string rv, .int .i64 c]) ∧ (match r with | some (a, b, d) => c = 0 ∧ bl ep = a ∧ bl pr = b ∧ bl rv = d | none => c = 3 ∧ ep = ⟨#[]⟩ ∧ pr = ⟨#[]⟩ ∧ rv = ⟨#[]⟩) ∧ Below w.heap.size w w'
theorem version_Split_dpkg (s : ByteArray) (w : World) (hG : Gl w) (hs : s.size ≤ 64) :
    Calls Tryz.prog 91 #[.int .i64 1, .string s] w (SplitAns (splitD (bl s)) w) := by
  have HG := Lib.hid hG; clear hG
  go_enter Tryz.func91, Tryz.ntmps91
  go_wp2_with fail
  refine (version_splitDpkg s _ HG.out hs).mono ?_
  rintro e w1 ⟨ep, pr, rv, ok, rfl, hr, h1, h2, h3, hb1⟩
  have HR := Lib.hid hr; clear hr
  cases ok
  · go_wp2_with fail
    refine bodyPost_ret (results_tmp4 rfl _ _ _) rfl ?_
    exact ⟨⟨#[]⟩, ⟨#[]⟩, ⟨#[]⟩, 3, rfl, by rw [HR.out]; exact ⟨rfl, rfl, rfl, rfl⟩, hb1⟩
  · go_wp2_with fail
    refine bodyPost_ret (results_tmp4 rfl _ _ _) rfl ?_
    exact ⟨ep, pr, rv, 0, rfl, by rw [HR.out]; exact ⟨rfl, rfl, rfl, rfl⟩, hb1⟩
end
end Go.Proofs.YtlhchpeecfbgnaaGreatDoor
