/- Contract: drayagelaw19.ModelOwners returns true. -/
import Derived.Test.YtdfdllbebfoggaaGreatDoorPo4
import Derived.Test.YtdfdllbebfoggaaGreatDoorPo7
import Derived.Test.YtdfdllbebfoggaaGreatDoorMd3
import Derived.Deep.RegionHeld3
namespace Go.Proofs.YtdfdllbebfoggaaGreatDoor
open Go.RowKit

theorem bthen2 {w a b : World} (h : Below w.heap.size w a) (k : Below a.heap.size a b) : Below w.heap.size w b := bthen h k
theorem eqL_self (l : List ByteArray) : eqL eqB l l = true := by
  induction l with
  | nil => rfl
  | cons a r ih => simp only [eqL]; rw [eqB_refl, ih]; rfl
theorem ref_SameTexts_same (A B : Option Addr) (c d : Nat) (l : List ByteArray) (w : World) (h1 : Rd w 1 A l.length (strCells l)) (h2 : Rd w 1 B l.length (strCells l)) (n1 : l.length ≤ 9223372036854775807) :
    Calls Tryz.prog 26 #[.slice A l.length c, .slice B l.length d] w fun e w' => e = .returned (.bool true) ∧ Below w.heap.size w w' := by
  have := ref_SameTexts A B c d l l w h1 h2 n1 n1
  rw [eqL_self] at this; exact this

set_option maxRecDepth 100000 in
set_option maxHeartbeats 4000000 in
theorem law_ModelOwners (A : Option Addr) (c : Nat) (l : List PkL) (w : World) (hG : Gl w) (hl : DbOk w A l) (n1 : l.length ≤ 9223372036854775807) (f1 : ∀ p ∈ l, p.fits) (hcap : ∀ p ∈ l, p.files.length ≤ p.fc) :
    Calls Tryz.prog 7 #[.slice A l.length c] w fun e w' => e = .returned (.bool true) ∧ Below w.heap.size w w' := by
  have HG := Lib.hid hG; have HL := Lib.hid hl; have F1 := Lib.hid f1; have HC := Lib.hid hcap
  clear hG hl f1 hcap
  go_enter Tryz.func7, Tryz.ntmps7
  go_wp2_with fail
  refine (law_awake _ HG.out).mono ?_; rintro e wa ⟨rfl, hba⟩
  have BA := Lib.hid hba; clear hba
  go_wp2_with fail
  refine (ref_Light A c l 40 (by omega) 10000 (by omega) (by omega) _ (HL.out.below BA.out) F1.out n1).mono ?_; rintro e wb ⟨⟨b1, rfl, hb1⟩, hbb⟩
  have BB := Lib.hid (bthen BA.out hbb); clear hbb
  have L1 := Lib.hid hb1; clear hb1
  cases b1
  · go_wp2_with fail
    go_ret
    exact ⟨rfl, BB.out⟩
  have lt1 : l.length ≤ 40 := (L1.out (by first | rfl | trivial)).1
  have lw : Hid (wDb l ≤ 10000) := by show _ ≤ _; have := (L1.out (by first | rfl | trivial)).2; omega
  go_wp2_with fail
  refine (model_Owners A c l _ (HL.out.below BB.out) (by omega) (by have := lw.out; omega) F1.out).mono ?_
  rintro e w2 ⟨A1, c1, o1, rfl, r1, s1, own1, hb2⟩
  have R1 := Lib.hid r1; have S1 := Lib.hid s1; have O1 := Lib.hid own1; have B2 := Lib.hid hb2
  clear r1 s1 own1 hb2
  go_wp2_with fail
  refine (ref_Owners A c l _ ((HL.out.below BB.out).below B2.out) (by omega) (by have := lw.out; omega) F1.out HC.out).mono ?_
  rintro e w3 ⟨A2, c2, o2, rfl, r2, s2, own2, hb3⟩
  have EQ : Hid (o1.map OwL.pair = o2.map OwL.pair) := O1.out.unique own2
  have hlen : o2.length = o1.length := by have := congrArg List.length EQ.out; simpa using this.symm
  have R2 := Lib.hid r2; have S2 := Lib.hid s2; have B3 := Lib.hid hb3
  have OL : o1.length ≤ 10000 := by
    have h0 := O1.out.length_le
    have h1 := prs_length l
    have := lw.out
    rw [List.length_map] at h0; omega
  have HLEN := Lib.hid hlen
  rw [hlen]
  clear r2 s2 own2 hb3 hlen
  go_wp2_with fail
  go_loopw [5] (fun i wr => ∃ k : Nat, k ≤ o1.length ∧ i = .int .i64 k ∧ Hid (Below w3.heap.size w3 wr)) (fun i _ => o1.length - (intOf i).toNat)
  case atStart => exact ⟨0, Nat.zero_le _, rfl, Below.refl _ _⟩
  case round =>
    obtain ⟨k, hk, rfl, HB⟩ := hrel
    by_cases hlt : k < o1.length
    · obtain ⟨x, hx⟩ : ∃ x, o1[k]? = some x := ⟨_, List.getElem?_eq_getElem hlt⟩
      have hlt2 : k < o2.length := by have := HLEN.out; omega
      obtain ⟨y, hy⟩ : ∃ y, o2[k]? = some y := ⟨_, List.getElem?_eq_getElem hlt2⟩
      have hxy : x.pair = y.pair := by
        have h1 : (o1.map OwL.pair)[k]? = some x.pair := by rw [List.getElem?_map, hx]; rfl
        have h2 : (o2.map OwL.pair)[k]? = some y.pair := by rw [List.getElem?_map, hy]; rfl
        rw [EQ.out, h2] at h1; injection h1 with h1; exact h1.symm
      have hp : y.path = x.path := (congrArg Prod.fst hxy).symm
      have hn : y.names = x.names := (congrArg Prod.snd hxy).symm
      obtain ⟨b1, off1, hA1, he1⟩ := (R1.out.below (bthen B3.out HB.out)).elem owl_len k x hx
      obtain ⟨b2, off2, hA2, he2⟩ := (R2.out.below HB.out).elem owl_len k y hy
      have p1 := he1 0 _ rfl
      have q1 : wr.cell? ⟨b1, off1 + k * 2 + 1, none⟩ = some (.slice x.na x.names.length x.nc) := he1 1 _ rfl
      have p2 : wr.cell? ⟨b2, off2 + k * 2 + 0, none⟩ = some (.string x.path) := by rw [← hp]; exact he2 0 _ rfl
      have q2 : wr.cell? ⟨b2, off2 + k * 2 + 1, none⟩ = some (.slice y.na x.names.length y.nc) := by rw [← hn]; exact he2 1 _ rfl
      simp only [Nat.add_zero] at p1 p2
      have hix1 := fun W => idx_of (T := 52) (E := 55) (sz := 2) (c := c1) Tryz.underlying52 rfl Tryz.sizeOf55 hA1 hlt W
      have hix2 := fun W => idx_of (T := 52) (E := 55) (sz := 2) (c := c2) Tryz.underlying52 rfl Tryz.sizeOf55 hA2 hlt W
      have RX : Hid (Rd wr 1 x.na x.names.length (strCells x.names)) := (S1.out x (List.mem_of_getElem? hx)).below (bthen B3.out HB.out)
      have RY : Hid (Rd wr 1 y.na x.names.length (strCells x.names)) := by have := (S2.out y (List.mem_of_getElem? hy)).below HB.out; rw [hn] at this; exact this
      have hxn : x.names.length ≤ 9223372036854775807 := by
        have h1 := O1.out.names x.pair (List.mem_map.2 ⟨x, List.mem_of_getElem? hx, rfl⟩)
        simp only [OwL.pair] at h1
        rw [h1]
        have h2 := nms_length (prs l) x.path
        have h3 := prs_length l
        have := lw.out; omega
      have l1 := World.block_lt_of_cell? _ _ p1
      have l2 := World.block_lt_of_cell? _ _ p2
      clear hx hy hxy hp hn hA1 hA2 he1 he2
      go_wp2_with fail
      go_region_held3 (fun w' => w'.cell? ⟨b1, off1 + k * 2, none⟩ = some (.string x.path) ∧ w'.cell? ⟨b1, off1 + k * 2 + 1, none⟩ = some (.slice x.na x.names.length x.nc) ∧ w'.cell? ⟨b2, off2 + k * 2, none⟩ = some (.string x.path) ∧ w'.cell? ⟨b2, off2 + k * 2 + 1, none⟩ = some (.slice y.na x.names.length y.nc))
        (first
          | go_keep
          | exact ⟨(hb5.cell (p := ⟨b1, off1 + k * 2, none⟩) l1).trans p1, (hb5.cell (p := ⟨b1, off1 + k * 2 + 1, none⟩) l1).trans q1, (hb5.cell (p := ⟨b2, off2 + k * 2, none⟩) l2).trans p2, (hb5.cell (p := ⟨b2, off2 + k * 2 + 1, none⟩) l2).trans q2⟩)
        ((go_at_call 26; refine (ref_SameTexts_same x.na y.na x.nc y.nc x.names wr.drew RX.out.drew RY.out.drew hxn).mono ?_; rintro e w5 ⟨rfl, hb5⟩))
      all_goals
        go_wp2_with fail
        go_roundw
        case rel => exact ⟨k + 1, by omega, by go_num, Lib.hid (bthen HB.out (show Below wr.heap.size wr w5 from ⟨hb5.os, hb5.tape, hb5.output, hb5.size, hb5.block⟩))⟩
        case measure => simp [intOf]; omega
    · go_wp2_with fail
      go_ret
      exact ⟨rfl, bthen (bthen (bthen BB.out B2.out) B3.out) HB.out⟩
end Go.Proofs.YtdfdllbebfoggaaGreatDoor
