/- Contract: a database that is light. -/
import Derived.Test.YtdfdllbebfoggaaGreatDoorMk1
namespace Go.Proofs.YtdfdllbebfoggaaGreatDoor
open Go.RowKit

def wDb (l : List PkL) : Nat := (l.map fun p => 1 + wsum p).sum
theorem wDb_snoc (l : List PkL) (k : Nat) (x : PkL) (h : l[k]? = some x) : wDb (l.take (k + 1)) = wDb (l.take k) + 1 + wsum x := by
  obtain ⟨hk, hx⟩ := List.getElem?_eq_some_iff.1 h
  unfold wDb; rw [List.take_succ_eq_append_getElem hk, List.map_append, List.sum_append, hx]; simp; omega

/-- Light's answer: true of a light database alone. -/
def LightPost (l : List PkL) (count : Nat) (most : Int) (e : Ending) : Prop := ∃ b : Bool, e = .returned (.bool b) ∧ (b = true → l.length ≤ count ∧ (wDb l : Int) ≤ most)

set_option maxRecDepth 100000 in
set_option maxHeartbeats 1000000 in
theorem ref_Light (A : Option Addr) (c : Nat) (l : List PkL) (count : Nat) (hcnt : count ≤ 1000) (most : Int) (h0 : 0 ≤ most) (h1 : most ≤ 1000000) (w : World) (hd : DbOk w A l) (hf : ∀ p ∈ l, p.fits) (hl : l.length ≤ 9223372036854775807) :
    Calls Tryz.prog 18 #[.slice A l.length c, .int .i64 count, .int .i64 most] w fun e w' => LightPost l count most e ∧ Below w.heap.size w w' := by
  have HD := Lib.hid hd; clear hd
  have HF := Lib.hid hf; clear hf
  by_cases hc : l.length ≤ count
  · have hcb : decide (count < l.length) = false := by simp; omega
    go_enter Tryz.func18, Tryz.ntmps18
    go_upto_block 0 with (fail)
    go_cut [7] (fun s7 wx => ∃ m : Int, s7 = .int .i64 m ∧ 0 ≤ m ∧ m ≤ 7 * most + 7 ∧ Hid (m ≤ most → m = (wDb l : Int)) ∧ Hid (Below w.heap.size w wx))
    case first =>
      go_wp2_with fail
      go_loopw [7, 8] (fun n i wr => ∃ (k : Nat) (m : Int), k ≤ l.length ∧ i = .int .i64 k ∧ n = .int .i64 m ∧ 0 ≤ m ∧ m ≤ 7 * most + 7 ∧ Hid (m ≤ most → m = (wDb (l.take k) : Int)) ∧ Hid (Below w.heap.size w wr)) (fun _ i _ => l.length - (intOf i).toNat)
      case atStart => exact ⟨0, 0, Nat.zero_le _, rfl, rfl, by omega, by omega, (fun h => by simp [wDb]), Below.refl _ _⟩
      case round =>
        obtain ⟨k, m, hk, rfl, rfl, m0, m1, M2, BX⟩ := hrel
        by_cases hlt : k < l.length
        · by_cases hm : m ≤ most
          · obtain ⟨x, hx⟩ : ∃ x, l[k]? = some x := ⟨_, List.getElem?_eq_getElem hlt⟩
            have hxm : x ∈ l := List.mem_of_getElem? hx
            obtain ⟨b, off, hA, he⟩ := (HD.out.row.below BX.out).elem pk_len k x hx
            have e0 := he 0 _ rfl
            have e1 := he 1 _ rfl
            have e2 := he 2 _ rfl
            have e3 := he 3 _ rfl
            have e4 := he 4 _ rfl
            have e5 := he 5 _ rfl
            have e6 := he 6 _ rfl
            have e7 := he 7 _ rfl
            have e8 := he 8 _ rfl
            simp only [Nat.add_zero] at e0
            clear he
            have hix := fun W => idx_of (T := 40) (E := 27) (sz := 9) (c := c) Tryz.underlying40 rfl Tryz.sizeOf27 hA hlt W
            have HX := Lib.hid hx
            have HW := Lib.hid (wDb_snoc l k x hx)
            have HM := Lib.hid hxm
            clear hx hA hxm
            go_wp2_with fail
            refine (ref_Weight x most h0 h1 _ ((HD.out.all x HM.out).below BX.out) (HF.out x HM.out)).mono ?_
            rintro e w1 ⟨⟨q, rfl, q0, q1, q2⟩, hb1⟩
            have Q2 := Lib.hid q2; clear q2
            clear e0 e1 e2 e3 e4 e5 e6 e7 e8 hix
            go_wp2_with fail
            have F1 : Hid (m + 1 + q ≤ most → m + 1 + q = (wDb (l.take (k + 1)) : Int)) := by
              intro h; rw [HW.out]; have := M2.out hm; have := Q2.out (by omega); omega
            go_roundw
            case rel => exact ⟨k + 1, _, by omega, by go_num, rfl, by omega, by omega, F1, bthen BX.out hb1⟩
            case measure => simp [intOf]; omega
          · go_wp2_with fail
            go_meet
            exact ⟨m, rfl, m0, m1, (fun h => by omega), BX⟩
        · go_wp2_with fail
          go_meet
          exact ⟨m, rfl, m0, m1, (fun h => by rw [M2.out h, List.take_of_length_le (by omega)]), BX⟩
    case rest =>
      obtain ⟨m, rfl, m0, m1, M2, BX⟩ := hcut
      go_wp2_with fail
      go_ret
      exact ⟨⟨_, rfl, fun hb => ⟨hc, by have h := of_decide_eq_true hb; have := M2.out h; omega⟩⟩, BX.out⟩
  · go_enter Tryz.func18, Tryz.ntmps18
    go_wp2_with fail
    go_ret
    exact ⟨⟨false, rfl, fun h => by cases h⟩, Below.refl _ _⟩
end Go.Proofs.YtdfdllbebfoggaaGreatDoor
