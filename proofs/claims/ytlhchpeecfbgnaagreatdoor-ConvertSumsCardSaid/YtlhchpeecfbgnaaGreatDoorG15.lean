/- A part of the proof that the digests of any content are the three of it, and that an installed set is new memory. No condition. -/
import Derived.Below
import Derived.BigQuiet
import Derived.Deep.AppendLies
import Derived.Deep.CutBlock
import Derived.Deep.DeepCutAuto
import Derived.Deep.Draws
import Derived.Deep.LoopGhost
import Derived.Deep.QuietTactic
import Derived.IntWalk
import Derived.Laws.OwnMore
import Derived.Lib.IndexMore
import Derived.Lib.LastIndexByte
import Derived.Maps.AppendAt
import Derived.OwnWalk
import Derived.RegionTactic
import Derived.Shelf.LaysM
import Derived.Shelf.Slices.Turned
import Derived.Shelf.Small.Strs
import Derived.Shelf.Small.Utf8
import Derived.Shelf.Small.Wraps
import Derived.Shelf.Strconv.Itoa0
import Derived.Shelf.Strconv.Itoa1
import Derived.Shelf.Strconv.Itoa2
import Derived.Shelf.Strconv.Itoa3
import Derived.Shelf.Strings.AsciiSet
import Derived.Shelf.Strings.Builder1
import Derived.Shelf.Strings.Builder2
import Derived.Shelf.Strings.BuilderF
import Derived.Shelf.Strings.Count
import Derived.Shelf.Strings.Cut
import Derived.Shelf.Strings.IndexAny
import Derived.Shelf.Strings.IndexAnyAll
import Derived.Shelf.Strings.LastIndex
import Derived.Shelf.Strings.OnBuilder
import Derived.Shelf.Strings.Prefix
import Derived.Shelf.Strings.Runes
import Derived.Shelf.Strings.Search1
import Derived.Shelf.Strings.Search2
import Derived.Shelf.Strings.Search3
import Derived.Shelf.Strings.Shaped
import Derived.Shelf.Strings.Split
import Derived.Shelf.Strings.SplitShaped
import Derived.Shelf.Strings.Trim
import Derived.Shelf.Unicode.Decode
import Derived.Shelf.Unicode.DecodeAny
import Derived.Shelf.Unicode.DecodeSlow
import Derived.Test.YtlhchpeecfbgnaaGreatDoorG01
import Derived.Test.YtlhchpeecfbgnaaGreatDoorG02
set_option maxRecDepth 100000
set_option maxHeartbeats 20000000
set_option linter.unusedVariables false
set_option linter.unusedSimpArgs false
namespace Go.Proofs.YtlhchpeecfbgnaaGreatDoor
section
open Go.RowKit
def decVal (l : List UInt8) : Int := l.foldl (fun n c => 10 * n + ((c.toNat : Int) - 48)) 0
theorem decVal_snoc (l : List UInt8) (c : UInt8) : decVal (l ++ [c]) = 10 * decVal l + ((c.toNat : Int) - 48) := by simp [decVal, List.foldl_append]
theorem decVal_take (s : ByteArray) (k : Nat) (h : k < s.size) : decVal ((bl s).take (k + 1)) = 10 * decVal ((bl s).take k) + ((s[k].toNat : Int) - 48) := by
  rw [List.take_succ_eq_append_getElem (by rw [bl_length]; exact h), decVal_snoc, bl_get s k h]
theorem foldl_mono : ∀ (l : List UInt8) (n : Int), 0 ≤ n → l.all digB = true → n ≤ l.foldl (fun n c => 10 * n + ((c.toNat : Int) - 48)) n
  | [], n, _, _ => Int.le_refl _
  | c :: r, n, h, ha => by
    rw [List.all_cons, Bool.and_eq_true] at ha
    have hc : 48 ≤ c.toNat := (of_decide_eq_true ha.1).1
    have := foldl_mono r (10 * n + ((c.toNat : Int) - 48)) (by omega) ha.2
    rw [List.foldl_cons]; omega
theorem decVal_le (l : List UInt8) (k : Nat) (h : l.all digB = true) : 0 ≤ decVal (l.take k) ∧ decVal (l.take k) ≤ decVal l := by
  have h1 : (l.take k).all digB = true := by rw [List.all_eq_true] at h ⊢; exact fun x hx => h x (List.mem_of_mem_take hx)
  have h2 : (l.drop k).all digB = true := by rw [List.all_eq_true] at h ⊢; exact fun x hx => h x (List.mem_of_mem_drop hx)
  have h3 : 0 ≤ decVal (l.take k) := foldl_mono _ 0 (Int.le_refl _) h1
  refine ⟨h3, ?_⟩
  have h4 := foldl_mono (l.drop k) _ h3 h2
  have h5 : decVal l = (l.drop k).foldl (fun n c => 10 * n + ((c.toNat : Int) - 48)) (decVal (l.take k)) := by
    unfold decVal; rw [← List.foldl_append, List.take_append_drop]
  omega
def decB (l : List UInt8) : Bool := !l.isEmpty && !(decide (1 < l.length) && decide (l.head? = some 48)) && l.all digB
def bigN : Int := 4611686018427387903
def undecN (l : List UInt8) : Int := if decB l then (if decVal l ≤ bigN then decVal l else 0) else 0
def undecE (l : List UInt8) : Int := if decB l then (if decVal l ≤ bigN then 0 else 4) else 3
theorem decB_nil {s : ByteArray} (h : s.size = 0) : decB (bl s) = false := by rw [bl_nil s h]; rfl
theorem decB_nought {s : ByteArray} (h : 1 < s.size) (h0 : s[0] = 48) : decB (bl s) = false := by
  unfold decB
  have : (bl s).head? = some 48 := by rw [bl_cons s (by omega), h0]; rfl
  rw [this, bl_length]; simp [h]
theorem decB_all {s : ByteArray} (h : 0 < s.size) (h0 : ¬ (1 < s.size ∧ s[0] = 48)) : decB (bl s) = (bl s).all digB := by
  unfold decB
  have h1 : (bl s).head? = some s[0] := by rw [bl_cons s h]; rfl
  have h2 : (bl s).isEmpty = false := by rw [bl_isEmpty]; exact decide_eq_false (by omega)
  rw [h1, h2, bl_length]
  have : (decide (1 < s.size) && decide (some s[0] = some (48 : UInt8))) = false := by
    rw [Bool.and_eq_false_iff]
    by_cases h3 : 1 < s.size
    · right; simp; exact fun h4 => h0 ⟨h3, h4⟩
    · left; simp; omega
  rw [this]; simp
theorem undec_bad {l : List UInt8} (h : decB l = false) : undecN l = 0 ∧ undecE l = 3 := by simp [undecN, undecE, h]
theorem undec_ok {l : List UInt8} (h : decB l = true) (hv : decVal l ≤ bigN) : undecN l = decVal l ∧ undecE l = 0 := by simp [undecN, undecE, h, hv]
theorem undec_big {l : List UInt8} (h : decB l = true) (hv : ¬ decVal l ≤ bigN) : undecN l = 0 ∧ undecE l = 4 := by simp [undecN, undecE, h, hv]
def undecV (l : List UInt8) : Value := .tuple #[.int .i64 (undecN l), .int .i64 (undecE l)]
theorem codec_Undec (s : ByteArray) (w : World) (hs : s.size ≤ 9223372036854775807) :
    Calls Tryz.prog 84 #[.string s] w fun e w' => e = .returned (undecV (bl s)) ∧ w = w' := by
  by_cases h0 : s.size = 0
  · have he : s.toList = [] := by rw [bl_toList, bl_nil s h0]
    have E := Lib.hid (undec_bad (decB_nil h0))
    go_enter Tryz.func84, Tryz.ntmps84
    go_wp2_with fail
    go_ret2
    exact ⟨by unfold undecV; rw [E.out.1, E.out.2]; rfl, rfl⟩
  have hpos : 0 < s.size := by omega
  have he : s.toList.isEmpty = false := by rw [bl_toList, bl_isEmpty]; exact decide_eq_false (by omega)
  have he1 : ¬ s.toList = [] := by intro h; rw [h] at he; simp at he
  by_cases h1 : 1 < s.size ∧ s[0] = 48
  · obtain ⟨h1, h2⟩ := h1
    have E := Lib.hid (undec_bad (decB_nought h1 h2))
    have hc : ((s[0].toNat : Int) == 48) = true := by rw [h2]; rfl
    clear h2
    go_enter Tryz.func84, Tryz.ntmps84
    go_wp2_with fail
    go_ret2
    exact ⟨by unfold undecV; rw [E.out.1, E.out.2]; rfl, rfl⟩
  have EA := Lib.hid (decB_all hpos h1)
  have walk : ∀ (hc : decide (1 < (s.size : Int)) = false ∨ (decide (1 < (s.size : Int)) = true ∧ ((s[0].toNat : Int) == 48) = false)), Calls Tryz.prog 84 #[.string s] w fun e w' => e = .returned (undecV (bl s)) ∧ w = w' := by
    intro hc
    rcases hc with hc | ⟨hc1, hc⟩
    all_goals
      go_enter Tryz.func84, Tryz.ntmps84
      go_wp2_with fail
      clear he he1 hc
      go_loop [4, 5, 22] (fun n lg i => ∃ (k : Nat) (m : Int) (b : Bool), k ≤ s.size ∧ i = .int .i64 k ∧ n = .int .i64 m ∧ lg = .bool b ∧ 0 ≤ m ∧ m ≤ 4611686018427387903 ∧ Hid (((bl s).take k).all digB = true) ∧ Hid (b = false → m = decVal ((bl s).take k)) ∧ Hid (b = true → bigN < decVal ((bl s).take k))) (fun _ _ i => s.size - (intOf i).toNat)
      case atStart => exact ⟨0, 0, false, Nat.zero_le _, rfl, rfl, rfl, by omega, by omega, by simp [Hid], Lib.hid (fun _ => by simp [decVal]), Lib.hid (fun h => by cases h)⟩
      case round =>
        obtain ⟨k, m, b, hk, rfl, rfl, rfl, m0, m1, HA, HV, HL⟩ := hrel
        by_cases hlt : k < s.size
        · by_cases hd : 48 ≤ s[k].toNat ∧ s[k].toNat ≤ 57
          · obtain ⟨d0, d1⟩ := hd
            have HD : Hid (digB s[k] = true) := decide_eq_true ⟨d0, d1⟩
            have HN := Lib.hid (decVal_take s k hlt)
            have HA2 : Hid (((bl s).take (k + 1)).all digB = true) := by show _ = _; rw [bl_take_all s k hlt, HA.out, HD.out]; rfl
            cases b
            · by_cases hb : m > (4611686018427387903 - ((s[k].toNat : Int) - 48)) / 10
              · go_wp2_with fail
                go_round
                case rel => exact ⟨k + 1, m, true, by omega, by go_num, rfl, rfl, m0, m1, HA2, Lib.hid (fun h => by cases h), Lib.hid (fun _ => by rw [HN.out, ← HV.out rfl]; unfold bigN; omega)⟩
                case measure => simp [intOf]; omega
              · go_wp2_with fail
                go_round
                case rel => exact ⟨k + 1, _, false, by omega, by go_num, rfl, rfl, by omega, by omega, HA2, Lib.hid (fun _ => by rw [HN.out, ← HV.out rfl]), Lib.hid (fun h => by cases h)⟩
                case measure => simp [intOf]; omega
            · go_wp2_with fail
              go_round
              case rel => exact ⟨k + 1, m, true, by omega, by go_num, rfl, rfl, m0, m1, HA2, Lib.hid (fun h => by cases h), Lib.hid (fun _ => by rw [HN.out]; have := HL.out rfl; unfold bigN at *; omega)⟩
              case measure => simp [intOf]; omega
          · have E := Lib.hid (undec_bad (show decB (bl s) = false by rw [EA.out]; exact bl_all_false s k hlt (decide_eq_false hd)))
            by_cases hd1 : s[k].toNat < 48
            · go_wp2_with fail
              go_ret2
              exact ⟨by unfold undecV; rw [E.out.1, E.out.2]; rfl, rfl⟩
            · have hd2 : 57 < s[k].toNat := by omega
              go_wp2_with fail
              go_ret2
              exact ⟨by unfold undecV; rw [E.out.1, E.out.2]; rfl, rfl⟩
        · have hall : decB (bl s) = true := by rw [EA.out]; have := HA.out; rw [bl_take_ge s k (by omega)] at this; exact this
          have hval : (bl s).take k = bl s := bl_take_ge s k (by omega)
          cases b
          · have hv := HV.out rfl
            rw [hval] at hv
            have E := Lib.hid (undec_ok hall (by rw [← hv]; unfold bigN; omega))
            have HVV := Lib.hid hv
            clear hall hval hv
            go_wp2_with fail
            go_ret2
            exact ⟨by unfold undecV; rw [E.out.1, E.out.2, ← HVV.out]; rfl, rfl⟩
          · have hv := HL.out rfl
            rw [hval] at hv
            have E := Lib.hid (undec_big hall (by omega))
            clear hall hval hv
            go_wp2_with fail
            go_ret2
            exact ⟨by unfold undecV; rw [E.out.1, E.out.2]; rfl, rfl⟩
  by_cases h2 : 1 < s.size
  · exact walk (.inr ⟨decide_eq_true (by omega), by simp only [beq_eq_false_iff_ne, ne_eq]; intro h; apply h1; refine ⟨h2, UInt8.toNat_inj.1 ?_⟩; show _ = 48; omega⟩)
  · exact walk (.inl (decide_eq_false (by omega)))
end
end Go.Proofs.YtlhchpeecfbgnaaGreatDoor
