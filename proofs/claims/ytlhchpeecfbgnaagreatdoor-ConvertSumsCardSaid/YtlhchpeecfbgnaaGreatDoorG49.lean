/- A part of the proof that the digests of any content are the three of it, and that an installed set is new memory. No condition. -/
import Derived.Test.YtlhchpeecfbgnaaGreatDoorG44
import Derived.Test.YtlhchpeecfbgnaaGreatDoorG48
set_option maxRecDepth 100000
set_option maxHeartbeats 20000000
set_option linter.unusedVariables false
set_option linter.unusedSimpArgs false
namespace Go.Proofs.YtlhchpeecfbgnaaGreatDoor
section
open Go.RowKit
structure SSh (w0 wr : World) (lo hi ga : Nat) (rc : List Value) : Prop where
  os : wr.os = w0.os
  tape : wr.tape = w0.tape
  output : wr.output = w0.output
  size : wr.heap.size = w0.heap.size
  out : ∀ i : Nat, (i < lo ∨ hi ≤ i) → wr.heap[i]? = w0.heap[i]?
  hdr : ∀ (j : Nat) (u : Value), rc[j]? = some u → wr.cell? ⟨ga, j, none⟩ = some u
  frz : ∀ p : Addr, wr.frozen? p = w0.frozen? p
  ex : ∀ (p : Addr) (v : Value), w0.cell? p = some v → ∃ v', wr.cell? p = some v'
theorem SSh.set {w0 wr : World} {lo hi ga : Nat} {rc : List Value} (h : SSh w0 wr lo hi ga rc) (b off : Nat) (h1 : lo ≤ b) (h2 : b < hi) (hne : b ≠ ga) (u : Value) : SSh w0 (wr.setCell ⟨b, off, none⟩ u) lo hi ga rc := by
  refine ⟨h.os, h.tape, h.output, by simpa [World.setCell] using h.size, fun i hi' => ?_, fun j v hj => ?_, fun p => ?_, fun p v hp => ?_⟩
  · rw [Below.heap_setCell wr ⟨b, off, none⟩ u i (by show i ≠ b; omega)]; exact h.out i hi'
  · rw [World.cell?_setCell_other wr ⟨b, off, none⟩ ⟨ga, j, none⟩ u (by intro he; injection he with e1 e2 _; exact hne e1)]
    exact h.hdr j v hj
  · rw [World.frozen?_setCell]; exact h.frz p
  · obtain ⟨v', hv'⟩ := h.ex p v hp
    exact cell?_setCell_some hv'
theorem SSh.below {w1 w0 wr : World} {hi ga : Nat} {rc : List Value} (h : SSh w0 wr w1.heap.size hi ga rc) (hb : Below w1.heap.size w1 w0) : Below w1.heap.size w1 wr :=
  ⟨h.os.trans hb.os, h.tape.trans hb.tape, h.output.trans hb.output, by rw [h.size]; exact hb.size, fun i hi' => (h.out i (.inl hi')).trans (hb.block i hi')⟩
theorem CvS.okOut {w1 w0 wr : World} {out : List InstL} {A : Option Addr} {n c : Nat} (h : CvS w1 w0 out A n c) (ho : ∀ i : Nat, w1.heap.size ≤ i → wr.heap[i]? = w0.heap[i]?) : SetOk wr A out :=
  ⟨by rw [h.len]; exact owns_rd (owns_out h.row (Nat.le_refl _) ho), fun x hx => owns_rd (owns_out (h.gv x hx) (Nat.le_refl _) ho)⟩
theorem eq_four (a b c d : ByteArray) (w : World) (f : Nat) : (Op.equalIn (f + 2) 33 (.agg #[.string a, .string b, .string c, .string d]) (.agg #[.string a, .string b, .string c, .string d])).run Tryz.prog w = .ok true w := by
  simp [Op.equalIn, run_underlying Tryz.underlying33, run_underlying Tryz.underlying9, Tryz.sizeOf9, part, List.range']
  have h : ∀ x : ByteArray, ByteArray.instBEq.beq x x = true := fun x => by
    cases x with | mk d => exact (show (d == d) = true by simp)
  first
    | (simp only [h]; rfl)
    | (rw [if_neg (by rw [h]; simp), if_neg (by rw [h]; simp), if_neg (by rw [h]; simp), if_neg (by rw [h]; simp)])
    | ((repeat' split) <;> simp_all)
theorem plain_gives {l : List PkL} {out : List InstL} (h : out.map InstL.plain = l.map PkL.inst) (hf : ∀ p ∈ l, p.few) : ∀ x ∈ out, x.gives.length ≤ 100000 := by
  intro x hx
  have : x.plain ∈ l.map PkL.inst := by rw [← h]; exact List.mem_map_of_mem hx
  obtain ⟨p, hp, e⟩ := List.mem_map.1 this
  have e2 : p.gives = x.gives := congrArg InstP.gives e
  rw [← e2]; exact (hf p hp).gives
theorem plain_len {l : List PkL} {out : List InstL} (h : out.map InstL.plain = l.map PkL.inst) : out.length = l.length := by have := congrArg List.length h; simpa using this
theorem CvS.at_ {w1 w2 : World} {out : List InstL} {ga c i : Nat} {x : InstL} {n : Nat} (h : CvS w1 w2 out (some ⟨ga, 0, none⟩) n c) (hi : out[i]? = some x) (hx : 0 < x.gives.length) :
    ∃ g, x.ga = some ⟨g, 0, none⟩ ∧ w1.heap.size ≤ g ∧ g < w2.heap.size ∧ g ≠ ga ∧ (∀ j, j < x.gives.length * 3 → ∃ v, w2.cell? ⟨g, j, none⟩ = some v) ∧ ∀ j, w2.frozen? ⟨g, j, none⟩ = false := by
  have hm := List.mem_of_getElem? hi
  obtain ⟨g, e, h1, h2, h3, h4⟩ := owns_cell (h.gv x hm) hx
  refine ⟨g, e, h1, h2, ?_, h3, h4⟩
  rcases two_rows (h.gv x hm) h.row (by decide) with h5 | h5
  · rw [e] at h5; cases h5
  · rw [e] at h5
    intro e2
    subst e2
    exact h5 rfl
theorem law_ConvertSums (path : ByteArray) (A D : Option Addr) (n c dc : Nat) (bs : List UInt8) (l : List PkL) (w : World) (hG : GlP w) (hT : GlT w) (hr : Rd w 1 A n (bs.map vb)) (hc : n ≤ c) (hc2 : c ≤ 9223372036854775807) (hd : DbOk w D l) (hf : ∀ p ∈ l, p.fits) (hl : l.length ≤ 9223372036854775807) (hp : path.size ≤ 9223372036854775807) :
    Calls Tryz.prog 3 #[.string path, .slice A n c, .slice D l.length dc] w fun e w' => e = .returned (.bool true) ∧ Below w.heap.size w w' := by
  have HT := Lib.hid hT
  have HR := Lib.hid hr
  have HD := Lib.hid hd
  have HF := Lib.hid hf
  have HG := Lib.hid hG
  clear hT hr hd hf hG
  go_enter Tryz.func3, Tryz.ntmps3
  go_wp2_with fail
  refine (law24_awake w HG.out).mono ?_; rintro e w1 ⟨rfl, hb1⟩
  have B1 := Lib.hid hb1
  clear hb1
  by_cases hn : 3000 < n
  · have d1 : decide ((3000 : Int) < (n : Int)) = true := decide_eq_true (by omega)
    go_wp2_with fail
    go_ret
    exact ⟨rfl, B1.out⟩
  have d1 : decide ((3000 : Int) < (n : Int)) = false := decide_eq_false (by omega)
  by_cases hps : 1000 < path.size
  · have d2 : decide ((1000 : Int) < (path.size : Int)) = true := decide_eq_true (by omega)
    go_wp2_with fail
    go_ret
    exact ⟨rfl, B1.out⟩
  have d2 : decide ((1000 : Int) < (path.size : Int)) = false := decide_eq_false (by omega)
  go_wp2_with fail
  refine (ref_Light D dc l 40 (by decide) 10000 (by decide) (by decide) w1 (HD.out.below B1.out) HF.out hl).mono ?_; rintro e w2 ⟨⟨lb, rfl, hlb⟩, hb2⟩
  have B2 := Lib.hid (bthen B1.out hb2)
  clear hb2
  cases lb with
  | false =>
    go_wp2_with fail
    go_ret
    exact ⟨rfl, B2.out⟩
  | true =>
    obtain ⟨l40, lw⟩ := hlb rfl
    have FEW : Hid (∀ p ∈ l, p.few) := few_of_light (by omega)
    clear hlb lw
    go_wp2_with fail
    refine (convert_Set D dc l w2 (HD.out.below B2.out) (by omega) FEW.out).mono ?_; rintro e w3 ⟨Aa, ca, outA, rfl, sa, pa⟩
    have SA := Lib.hid sa
    have PA := Lib.hid pa
    have B3 := Lib.hid (bthen B2.out sa.bel)
    clear sa pa
    go_wp2_with fail
    refine (convert_Set D dc l w3 (HD.out.below B3.out) (by omega) FEW.out).mono ?_; rintro e w4 ⟨Ab, cb, outB, rfl, sb, pb⟩
    have SB := Lib.hid sb
    have PB := Lib.hid pb
    have B4 := Lib.hid (bthen B3.out sb.bel)
    have SA4 := Lib.hid (SA.out.below sb.bel)
    have B24 := Lib.hid (bthen SA.out.bel sb.bel)
    have Z34 : Hid (w3.heap.size ≤ w4.heap.size) := sb.bel.size
    have LA : outA.length = l.length := plain_len PA.out
    have LB := Lib.hid (plain_len PB.out)
    clear sb pb
    obtain ⟨ga, hga⟩ : ∃ ga, 0 < outA.length → Aa = some ⟨ga, 0, none⟩ := by
      by_cases h0 : 0 < outA.length
      · obtain ⟨g, cap, hv, _, _⟩ := SA.out.row.form h0
        injection hv with h1 _ _
        exact ⟨g, fun _ => h1⟩
      · exact ⟨0, fun h => absurd h h0⟩
    have HGA := Lib.hid hga
    clear hga
    obtain ⟨rc, hrc⟩ : ∃ rc, (if 0 < outA.length then outA.flatMap InstL.cells else []) = rc := ⟨_, rfl⟩
    have S0 : Hid (SSh w4 w4 w2.heap.size w3.heap.size ga rc) := by
      refine ⟨rfl, rfl, rfl, rfl, fun _ _ => rfl, fun j u hu => ?_, fun _ => rfl, fun p v hp => ⟨v, hp⟩⟩
      rw [← hrc] at hu
      split at hu
      · rename_i h0
        have h := SA4.out.row
        rw [HGA.out h0] at h
        exact (owns_blk h).cell j u hu
      · simp at hu
    have HRC := Lib.hid hrc
    have HLA := Lib.hid LA
    clear hrc
    rw [LA]
    clear LA
    go_wp2_with fail
    go_loopw [9] (fun s9 wr => ∃ i : Nat, i ≤ l.length ∧ s9 = .int .i64 i ∧ Hid (SSh w4 wr w2.heap.size w3.heap.size ga rc)) (fun s9 _ => l.length - (intOf s9).toNat)
    case atStart => exact ⟨0, Nat.zero_le _, rfl, S0⟩
    case round =>
      obtain ⟨i, hi, rfl, HS⟩ := hrel
      by_cases hlt : i < l.length
      · obtain ⟨x, hx⟩ : ∃ x, outA[i]? = some x := ⟨_, List.getElem?_eq_getElem (by rw [HLA.out]; exact hlt)⟩
        have h0 : 0 < outA.length := by rw [HLA.out]; omega
        have hAa := HGA.out h0
        have HX := Lib.hid hx
        have RC : Hid (rc[i * 3 + 2]? = some (.slice x.ga x.gives.length x.gc)) := by
          show _ = _
          rw [← HRC.out, if_pos h0]
          exact flat_at inst_len outA i 2 x hx (by decide)
        have hix := fun W => idx_of (T := 26) (E := 30) (sz := 3) (c := ca) Tryz.underlying26 rfl Tryz.sizeOf30 hAa hlt W
        simp only [Nat.zero_add] at hix
        have GVS : Hid (0 < x.gives.length → ∃ g, x.ga = some ⟨g, 0, none⟩ ∧ w2.heap.size ≤ g ∧ g < w3.heap.size ∧ g ≠ ga ∧ (∀ j, j < x.gives.length * 3 → ∃ v, w4.cell? ⟨g, j, none⟩ = some v) ∧ ∀ j, w4.frozen? ⟨g, j, none⟩ = false) := by
          intro hpos
          have sa := SA.out
          rw [hAa] at sa
          have hlen : outA.length = l.length := HLA.out
          obtain ⟨g, e1, e2, e3, e4, e5, e6⟩ := sa.at_ hx hpos
          obtain ⟨g', f1, _, _, f5, f6⟩ := owns_cell (SA4.out.gv x (List.mem_of_getElem? hx)) hpos
          rw [e1] at f1
          injection f1 with f1
          injection f1 with f1
          subst f1
          exact ⟨g, e1, e2, e3, e4, f5, f6⟩
        have hglb := plain_gives PA.out FEW.out x (List.mem_of_getElem? hx)
        have HAA := Lib.hid hAa
        clear hx h0 hAa
        generalize hgl : x.gives.length = gl at *
        obtain ⟨xa, hxa⟩ : ∃ xa, x.ga = xa := ⟨_, rfl⟩
        obtain ⟨xc, hxc⟩ : ∃ xc, x.gc = xc := ⟨_, rfl⟩
        rw [hxa] at GVS RC
        rw [hxc] at RC
        clear hgl hxa hxc
        go_wp2_with fail
        go_loopw [10] (fun s10 wr => ∃ k : Nat, k ≤ gl ∧ s10 = .int .i64 k ∧ Hid (SSh w4 wr w2.heap.size w3.heap.size ga rc)) (fun s10 _ => gl - (intOf s10).toNat)
        case atStart => exact ⟨0, Nat.zero_le _, rfl, HS⟩
        case round =>
          obtain ⟨k, hk, rfl, HS2⟩ := hrel
          have e2 := HS2.out.hdr _ _ RC.out
          by_cases hlt2 : k < gl
          · obtain ⟨g, hg, hg1, hg2, hg3, hg4, hg5⟩ := GVS.out (by omega)
            obtain ⟨v0, hv0⟩ := hg4 (k * 3) (by omega)
            obtain ⟨v, hv⟩ := HS2.out.ex _ _ hv0
            have hfz : wr.frozen? ⟨g, k * 3, none⟩ = false := (HS2.out.frz _).trans (hg5 _)
            have hiy := fun W => idx_of (T := 28) (E := 32) (sz := 3) (c := xc) Tryz.underlying28 rfl Tryz.sizeOf32 hg hlt2 W
            simp only [Nat.zero_add] at hiy
            have SN := Lib.hid (HS2.out.set g (k * 3) hg1 hg2 hg3 (.string ⟨#[33]⟩))
            clear hg hg4 hg5 hv0
            go_wp2_with fail
            go_roundw
            case rel => exact ⟨k + 1, by omega, by go_num, SN⟩
            case measure => simp [intOf]; omega
          · go_wp2_with fail
            go_roundw
            case rel => exact ⟨i + 1, by omega, by go_num, HS2⟩
            case measure => simp [intOf]; omega
      · have BS : Hid (Below w2.heap.size w2 wr) := HS.out.below B24.out
        have BW := Lib.hid (bthen B2.out BS.out)
        have OB : Hid (SetOk wr Ab outB) := SB.out.okOut (fun i hi => HS.out.out i (.inr hi))
        have hq : ∀ W : World, (Op.equalIn 9999 33 (.agg #[.string ⟨#[]⟩, .string (hexK 1 bs), .string (hexK 2 bs), .string (hexK 3 bs)]) (.agg #[.string ⟨#[]⟩, .string (hexK 1 bs), .string (hexK 2 bs), .string (hexK 3 bs)])).run Tryz.prog W = .ok true W := fun W => eq_four _ _ _ _ W 9997
        go_wp2_with fail
        refine (convert_Sums path n c A bs wr (HT.out.below BW.out) (HR.out.below BW.out) hc hc2 (by omega)).mono ?_; rintro e w5 ⟨rfl, hb5⟩
        have B5 := Lib.hid (bthen BW.out hb5)
        have O5 := Lib.hid (OB.out.below hb5)
        clear hb5
        go_wp2_with fail
        refine (r24_Sums path n c A bs w5 (HT.out.below B5.out) (HR.out.below B5.out) (by omega)).mono ?_; rintro e w6 ⟨rfl, hb6⟩
        have B6 := Lib.hid (bthen B5.out hb6)
        have O6 := Lib.hid (O5.out.below hb6)
        clear hb6
        unfold knV
        go_wp2_with fail
        refine (r24_Set D dc l w6 (HD.out.below B6.out) (by omega)).mono ?_; rintro e w7 ⟨Ar, cr, rfl, hok, hb7⟩
        have B7 := Lib.hid (bthen B6.out hb7)
        have O7 := Lib.hid (O6.out.below hb7)
        have R7 := Lib.hid hok
        clear hok hb7
        go_wp2_with fail
        rw [show l.length = (l.map PkL.instL).length by rw [List.length_map]]
        refine (r17_SameSet Ab Ar cb cr outB (l.map PkL.instL) w7 O7.out R7.out (PB.out.trans (instL_plain l).symm) (by rw [LB.out]; omega) (fun x hx => by have := plain_gives PB.out FEW.out x hx; omega)).mono ?_; rintro e w8 ⟨rfl, hb8⟩
        have B8 := Lib.hid (bthen B7.out hb8)
        go_wp2_with fail
        go_ret
        exact ⟨rfl, B8.out⟩
end
end Go.Proofs.YtlhchpeecfbgnaaGreatDoor
