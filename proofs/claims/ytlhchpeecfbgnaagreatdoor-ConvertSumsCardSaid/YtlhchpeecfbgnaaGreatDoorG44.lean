/- A part of the proof that the digests of any content are the three of it, and that an installed set is new memory. No condition. -/
import Derived.Test.YtlhchpeecfbgnaaGreatDoorG34
import Derived.Test.YtlhchpeecfbgnaaGreatDoorG43
set_option maxRecDepth 100000
set_option maxHeartbeats 20000000
set_option linter.unusedVariables false
set_option linter.unusedSimpArgs false
namespace Go.Proofs.YtlhchpeecfbgnaaGreatDoor
section
open Go.RowKit
theorem row_cap1 {w : World} {base : Nat} {e : TypeId} {n c : Nat} {A : Option Addr} {xs : List Value} (h : w.ownsRow base e 1 (.slice A n c) n xs) : n ≤ c ∧ c ≤ 9223372036854775807 := by
  rcases h.2 with ⟨hv, h0⟩ | ⟨g, cap, cur, hv, _, _, h2, h3, _⟩
  · injection hv with _ _ h4; subst h0; omega
  · injection hv with _ _ h4
    unfold maxLen at h3
    subst h4
    omega
structure OfS (kd : Nat) (w : World) (M : List UInt8) (wr : World) (g j : Nat) : Prop where
  lo : w.heap.size ≤ g
  lt : g < wr.heap.size
  rd : Rd wr 1 (some ⟨g, 0, none⟩) (wordsN kd) (((stN kd M j).take (wordsN kd)).map vw)
  bel : Below w.heap.size w wr
theorem OfS.below {kd : Nat} {w wr w' : World} {M : List UInt8} {g j : Nat} (h : OfS kd w M wr g j) (hb : Below wr.heap.size wr w') : OfS kd w M w' g j := ⟨h.lo, Nat.lt_of_lt_of_le h.lt hb.size, h.rd.below hb, below_then h.bel hb⟩
theorem OfS.start {kd : Nat} {w W : World} (M : List UInt8) {vs : List Value} (h : vs = ((initB kd).take (wordsN kd)).map vw) (hb : Below w.heap.size w W) : OfS kd w M (W.alloc (.cells vs.toArray 76)) W.heap.size 0 := by
  refine ⟨hb.size, by simp, ⟨?_, fun _ => ⟨_, 0, rfl, fun j u hu => ?_⟩⟩, hb.alloc hb.size _⟩
  · rw [List.length_map, List.length_take, stN_len, Nat.min_eq_left (wordsN_le kd)]; omega
  · rw [Nat.zero_add]
    exact (Blk.new W vs 76).cell j u (by rw [h]; exact hu)
theorem OfS.next {kd : Nat} {w wr w2 w3 : World} {M : List UInt8} {g j g' : Nat} (h : OfS kd w M wr g j) (hb : Below wr.heap.size wr w2) (h3 : Below wr.heap.size w2 w3) (hg : wr.heap.size ≤ g') (hg2 : g' < w3.heap.size) (hr : Rd w3 1 (some ⟨g', 0, none⟩) (wordsN kd) (((compress kd (stN kd M j) (blkOf M j)).take (wordsN kd)).map vw)) : OfS kd w M w3 g' (j + 1) :=
  ⟨Nat.le_trans h.bel.size hg, hg2, hr, below_then h.bel (hb.trans h3)⟩
def outAt (kd : Nat) (S : List B32) (i : Nat) : List UInt8 := (S.take i).flatMap fun x => numQ kd x.toNat 4
theorem outAt_succ (kd : Nat) {S : List B32} {i : Nat} {x : B32} (h : S[i]? = some x) : outAt kd S (i + 1) = outAt kd S i ++ numQ kd x.toNat 4 := by
  unfold outAt
  rw [List.take_add_one, h, List.flatMap_append]
  simp
theorem rd_len {w : World} {A : Option Addr} {n : Nat} {l : List Value} (h : Rd w 1 A n l) : l.length = n := by have := h.1; omega
theorem rd_low {w : World} {g n : Nat} {l : List Value} (h : Rd w 1 (some ⟨g, 0, none⟩) n l) (hn : 0 < n) : g < w.heap.size := by
  obtain ⟨b, off, e, hc⟩ := h.2 hn
  injection e with e
  injection e with e1 e2
  subst e1
  have hl := rd_len h
  exact World.block_lt_of_cell? _ _ (hc 0 _ (List.getElem?_eq_getElem (by omega)))
theorem r02_Of1 (n c : Nat) (A : Option Addr) (bs : List UInt8) (w : World) (hG : GlT w) (hr : Rd w 1 A n (bs.map vb)) (hn : n ≤ 900000) :
    Calls Tryz.prog 17 #[.int .i64 1, .slice A n c] w (OfPost 1 bs w) := by
  obtain ⟨i0, hi0, hz0, hz1, hz2⟩ := info_parts info_u8b
  have HG := Lib.hid hG
  have HR := Lib.hid hr
  have HBL : Hid (bs.length = n) := vb_map_len hr
  clear hG hr
  go_enter Tryz.func17, Tryz.ntmps17
  go_wp2_with fail
  obtain ⟨W1, hW1⟩ : ∃ W1, (w.alloc (.cells #[.int .u32 1732584193, .int .u32 4023233417, .int .u32 2562383102, .int .u32 271733878] 76)) = W1 := ⟨_, rfl⟩
  obtain ⟨g, hg⟩ : ∃ g, w.heap.size = g := ⟨_, rfl⟩
  have HS0 : Hid (OfS 1 w (wholeM 1 bs) W1 g 0) := by
    show OfS _ _ _ _ _ _
    rw [← hW1, ← hg]
    have h := OfS.start (vs := [.int .u32 1732584193, .int .u32 4023233417, .int .u32 2562383102, .int .u32 271733878]) (wholeM 1 bs) (kd := 1) (by rfl) (Below.refl w.heap.size w)
    exact h
  rw [hW1]
  try rw [hg]
  clear hW1 hg
  refine (r02_whole 1 A n c bs true W1 rfl (HR.out.below HS0.out.bel) (by omega)).mono ?_; rintro e w2 ⟨v, q, rfl, row, hb2⟩
  obtain ⟨Am, cm, rfl⟩ := owns_form row
  have HM := Lib.hid row
  have HS := Lib.hid (HS0.out.below hb2)
  obtain ⟨M, hM⟩ : ∃ M, wholeM 1 bs = M := ⟨_, rfl⟩
  rw [hM] at HM HS HS0
  have HMD := Lib.hid hM
  have HML : Hid (M.length = q) := by
    have := rd_len (owns_rd HM.out)
    show _ = _
    simpa [Lib.byteCells] using this
  have HQ : Hid (q % 64 = 0) := by show _ = _; rw [← HML.out, ← HMD.out]; exact wholeM_len _ _
  have hqn : q ≤ 1000000 := by
    rw [← HML.out, ← HMD.out]
    have h8 : (numQ 1 (8 * bs.length) 8).length = 8 := by unfold numQ; split; exact leL_len _ _; exact beL_len _ _
    simp only [wholeM, List.length_append, List.length_replicate, List.length_cons, List.length_nil, h8, zerosN]
    rw [HBL.out]; omega
  obtain ⟨hcm1, hcm2⟩ := row_cap1 HM.out
  clear row hb2 hM HS0
  go_wp2_with fail
  go_loopw [7, 5] (fun s7 s5 wr => ∃ (x j g : Nat), x ≤ q ∧ s7 = .int .i64 x ∧ s5 = .slice (some ⟨g, 0, none⟩) 4 4 ∧ Hid (x = 64 * j) ∧ Hid (OfS 1 w M wr g j) ∧ Hid (Below w2.heap.size w2 wr)) (fun s7 _ _ => q - (intOf s7).toNat)
  case atStart => exact ⟨0, 0, g, Nat.zero_le _, rfl, rfl, rfl, HS, Below.refl _ _⟩
  case round =>
    obtain ⟨x, j, g, hx, rfl, rfl, HX, HSr, HBr⟩ := hrel
    by_cases hlt : x < q
    · obtain ⟨y, hy⟩ : ∃ y, x + 64 = y := ⟨_, rfl⟩
      have hyq : y ≤ q := by have := HX.out; have := HQ.out; omega
      have ey : (x : Int) + 64 = (y : Int) := by omega
      have HMr := Lib.hid ((owns_rd HM.out).below HBr.out)
      have hsl0 := fun W => slice_mid (T := 22) (E := 5) (sz := 1) Tryz.underlying22 rfl Tryz.sizeOf5 (A := Am) (n := q) (c := cm) (i := x) (j := y) (by omega) (by omega) W
      have RC := HMr.out.cut (c := cm) (i := x) (j := y) (by omega) hyq hcm1
      obtain ⟨AX, hAX⟩ : ∃ AX, (if cm = x then Am else Am.map (·.add (x * 1))) = AX := ⟨_, rfl⟩
      obtain ⟨cx, hcx⟩ : ∃ cx, cm - x = cx := ⟨_, rfl⟩
      rw [hAX] at RC
      rw [show y - x = 64 by omega] at RC
      have hsl : ∀ W : World, (Instr.slice 22 (.slice Am q cm) (some (.int .i64 x)) (some (.int .i64 y)) none).run Tryz.prog W = .ok (.slice AX 64 cx) W := fun W => by
        have := hsl0 W
        rw [hAX, hcx, show y - x = 64 by omega] at this
        exact this
      have RB : Hid (Rd wr 1 AX 64 ((blkOf M j).map vb)) := by
        have e : (blkOf M j).map vb = ((Lib.byteCells M).drop x).take 64 := by
          unfold blkOf
          rw [List.map_take, List.map_drop, ← HX.out]
          rfl
        show Rd _ _ _ _ _
        rw [e]; exact RC
      have hc1 : 64 ≤ cx := by omega
      have hc2 : cx ≤ 9223372036854775807 := by omega
      have HY : Hid (y = 64 * (j + 1)) := by have := HX.out; show _ = _; omega
      have HYM : Hid (q - y < q - x) := by show _ < _; omega
      clear hsl0 RC hAX hcx hy
      go_wp2_with fail
      refine (r02_wordsOf AX cx (blkOf M j) true wr RB.out hc1 hc2).mono ?_; rintro e w3 ⟨v, rfl, row3, hb3⟩
      obtain ⟨A3, c3, rfl⟩ := owns_form row3
      have R3 := Lib.hid row3
      have B3 := Lib.hid hb3
      clear row3 hb3
      go_wp2_with fail
      refine (step_md5 wr.heap.size g 4 c3 A3 (stN 1 M j) (blkOf M j) w3 (HG.out.below (below_then HSr.out.bel B3.out)) (stN_len _ _ _) B3.out.size (HSr.out.rd.below B3.out) R3.out).mono ?_; rintro e w4 ⟨g', rfl, hg', hr4, hb4⟩
      have S4 : Hid (OfS 1 w M w4 g' (j + 1)) := HSr.out.next B3.out hb4 hg' (rd_low hr4 (by decide)) hr4
      have B4 : Hid (Below w2.heap.size w2 w4) := below_then HBr.out (B3.out.trans hb4)
      rw [show wordsN 1 = 4 from rfl]
      clear hg' hr4 hb4
      go_wp2_with fail
      go_roundw
      case rel => exact ⟨y, j + 1, g', hyq, by go_num, rfl, HY, S4, B4⟩
      case measure => have := HYM.out; simp [intOf]; omega
    · have HJ : Hid (stateOf 1 M = stN 1 M j) := by
        show _ = _
        unfold stateOf
        rw [HML.out, show q / 64 = j by have := HX.out; omega]
      obtain ⟨S, hS⟩ : ∃ S, (stN 1 M j).take 4 = S := ⟨_, rfl⟩
      have HSL : Hid (S.length = 4) := by show _ = _; rw [← hS, List.length_take, stN_len]; rfl
      have HRS : Hid (Rd wr 1 (some ⟨g, 0, none⟩) 4 (S.map vw)) := by show Rd _ _ _ _ _; rw [← hS]; exact HSr.out.rd
      have HD : Hid (digestB 1 bs = outAt 1 S 4) := by
        show (List.take (wordsN 1) (stateOf 1 (wholeM 1 bs))).flatMap _ = _
        rw [HMD.out, HJ.out, show wordsN 1 = 4 from rfl, hS]
        unfold outAt
        rw [List.take_of_length_le (Nat.le_of_eq HSL.out)]
      obtain ⟨W5, hW5⟩ : ∃ W5, wr = W5 := ⟨_, rfl⟩
      have HB5 : Hid (Below w.heap.size w W5) := by show Below _ _ _; rw [← hW5]; exact HSr.out.bel
      rw [hW5] at HRS ⊢
      clear hS hW5
      go_wp2_with fail
      go_loopw [10, 9] (fun s10 s9 wr => ∃ (i k : Nat) (Ao : Option Addr) (co : Nat), i ≤ 4 ∧ s10 = .int .i64 i ∧ s9 = .slice Ao k co ∧ k ≤ 100 ∧ Hid (k = 4 * i) ∧ Hid (wr.ownsRow W5.heap.size 5 1 (.slice Ao k co) k (Lib.byteCells (outAt 1 S i))) ∧ Hid (Below W5.heap.size W5 wr)) (fun s10 _ _ => 4 - (intOf s10).toNat)
      case atStart => exact ⟨0, 0, none, 0, Nat.zero_le _, rfl, rfl, by omega, rfl, World.ownsRow_nil _ _ _ _, Below.refl _ _⟩
      case round =>
        obtain ⟨i, k, Ao, co, hi, rfl, rfl, hk, HK, HO, HBy⟩ := hrel
        by_cases hlt2 : i < 4
        · obtain ⟨x5, hx5⟩ : ∃ x5, S[i]? = some x5 := ⟨_, List.getElem?_eq_getElem (by rw [HSL.out]; exact hlt2)⟩
          obtain ⟨b, off, hA, he⟩ := (HRS.out.below HBy.out).2 (by omega)
          have e0 := he i (vw x5) (by rw [List.getElem?_map, hx5]; rfl)
          have hix := fun W => idx_of (T := 77) (E := 76) (sz := 1) (c := 4) Tryz.underlying77 rfl Tryz.sizeOf76 hA hlt2 W
          obtain ⟨z, hz⟩ : ∃ z, x5.toNat = z := ⟨_, rfl⟩
          have hz32 : z < 4294967296 := by rw [← hz]; exact x5.isLt
          have eu : IntKind.u64.wrap (z : Int) = (z : Int) := IntWalk.u64_in _ (by omega)
          have ev : nv x5 = (z : Int) := by unfold nv; rw [hz]
          have HN : Hid (outAt 1 S (i + 1) = outAt 1 S i ++ numQ 1 z 4) := by show _ = _; rw [outAt_succ 1 hx5, hz]
          unfold vw at e0
          rw [ev] at e0
          have hk2 : k + 4 ≤ 100 := by have := HK.out; omega
          have HK2 : Hid (k + 4 = 4 * (i + 1)) := by have := HK.out; show _ = _; omega
          clear he hA hx5 hz ev
          go_wp2_with fail
          refine (r01_Be z 4 wr (by omega) (by decide) (by decide)).mono ?_; rintro e w8 ⟨v, rfl, row, hb8⟩
          obtain ⟨A8, c8, rfl⟩ := owns_form row
          have HO8 := Lib.hid (owns_below HO.out hb8)
          have HC8 := Lib.hid (below_then HBy.out hb8)
          have RD8 : Hid (Rd w8 1 A8 4 ((beL z 4).map vb)) := owns_rd row
          clear row hb8
          go_wp2_with fail
          refine (r01_Turned A8 4 c8 (beL z 4) w8 RD8.out (by decide)).mono ?_; rintro e w10 ⟨v, rfl, row, hb10⟩
          obtain ⟨A10, c10, rfl⟩ := owns_form row
          have HO10 := Lib.hid (owns_below HO8.out hb10)
          have HC10 := Lib.hid (below_then HC8.out hb10)
          have RD10 : Hid (Rd w10 1 A10 4 ((numQ 1 z 4).map vb)) := by
            have e : (beL z 4).reverse = numQ 1 z 4 := by unfold numQ beL; rw [if_pos rfl, List.reverse_reverse]
            show Rd _ _ _ _ _
            rw [← e]; exact owns_rd row
          clear row hb10
          have R8 : Hid (Reads w10 w10.heap.size 1 A10 4 (Lib.byteCells (numQ 1 z 4))) := RD10.out.reads (by decide)
          go_wp2_with (
            at_builtin
            refine wpList_append_any _ rfl _ _ 22 rfl W5.heap.size 5 i0 _ 1 1 Tryz.underlying22 hi0 hz0 hz1 hz2 rfl (by omega) (.slice Ao k co) k _ rfl HO10.out _ A10 4 c10 _ rfl R8.out (one_bytes (numQ 1 z 4)) (by first | (simp only [maxLen]; omega) | (unfold maxLen; omega)) (by omega) (by first | omega | (simp; done) | (have := HC10.out.size; omega) | (simp; omega)) ?_
            intro v1 w9 hown1 hg1 hat1
            obtain ⟨A1, c1, rfl⟩ := owns_form hown1
            have O9 : Hid (w9.ownsRow W5.heap.size 5 1 (.slice A1 (k + 4) c1) (k + 4) (Lib.byteCells (outAt 1 S (i + 1)))) := by
              show World.ownsRow _ _ _ _ _ _ _
              rw [HN.out]
              have := hown1
              simpa [Lib.byteCells] using this
            have C9 : Hid (Below W5.heap.size W5 w9) := HC10.out.grown hg1 HC10.out.size (fun p hp => (HO10.out.lt p hp).1)
            clear hown1 hg1 hat1)
          go_wp2_with fail
          go_roundw
          case rel => exact ⟨i + 1, k + 4, A1, c1, by omega, by go_num, rfl, hk2, HK2, O9, C9⟩
          case measure => simp [intOf]; omega
        · have HI : Hid (i = 4) := by show _ = _; omega
          have HL : Hid (k = (digestB 1 bs).length) := by
            have := rd_len (owns_rd HO.out)
            show _ = _
            rw [HD.out, ← HI.out]
            simpa [Lib.byteCells] using this.symm
          have HF : Hid (wr.ownsRow w.heap.size 5 1 (.slice Ao k co) (digestB 1 bs).length (Lib.byteCells (digestB 1 bs))) := by
            show World.ownsRow _ _ _ _ _ _ _
            have hO := HO.out
            rw [HI.out] at hO
            rw [← HL.out, HD.out]; exact owns_base hO HB5.out.size
          go_wp2_with fail
          go_ret
          exact ⟨_, rfl, HF.out, below_then HB5.out HBy.out⟩
theorem r02_Of2 (n c : Nat) (A : Option Addr) (bs : List UInt8) (w : World) (hG : GlT w) (hr : Rd w 1 A n (bs.map vb)) (hn : n ≤ 900000) :
    Calls Tryz.prog 17 #[.int .i64 2, .slice A n c] w (OfPost 2 bs w) := by
  obtain ⟨i0, hi0, hz0, hz1, hz2⟩ := info_parts info_u8b
  have HG := Lib.hid hG
  have HR := Lib.hid hr
  have HBL : Hid (bs.length = n) := vb_map_len hr
  clear hG hr
  go_enter Tryz.func17, Tryz.ntmps17
  go_wp2_with fail
  obtain ⟨W1, hW1⟩ : ∃ W1, (w.alloc (.cells #[.int .u32 1732584193, .int .u32 4023233417, .int .u32 2562383102, .int .u32 271733878] 76)).alloc (.cells #[.int .u32 1732584193, .int .u32 4023233417, .int .u32 2562383102, .int .u32 271733878, .int .u32 3285377520] 76) = W1 := ⟨_, rfl⟩
  obtain ⟨g, hg⟩ : ∃ g, w.heap.size + 1 = g := ⟨_, rfl⟩
  have HS0 : Hid (OfS 2 w (wholeM 2 bs) W1 g 0) := by
    show OfS _ _ _ _ _ _
    rw [← hW1, ← hg]
    have h := OfS.start (vs := [.int .u32 1732584193, .int .u32 4023233417, .int .u32 2562383102, .int .u32 271733878, .int .u32 3285377520]) (wholeM 2 bs) (kd := 2) (by rfl) ((Below.refl w.heap.size w).alloc (Nat.le_refl _) (.cells #[.int .u32 1732584193, .int .u32 4023233417, .int .u32 2562383102, .int .u32 271733878] 76))
    rw [show (w.alloc (.cells #[.int .u32 1732584193, .int .u32 4023233417, .int .u32 2562383102, .int .u32 271733878] 76)).heap.size = w.heap.size + 1 by simp] at h
    exact h
  rw [hW1]
  try rw [hg]
  clear hW1 hg
  refine (r02_whole 2 A n c bs false W1 rfl (HR.out.below HS0.out.bel) (by omega)).mono ?_; rintro e w2 ⟨v, q, rfl, row, hb2⟩
  obtain ⟨Am, cm, rfl⟩ := owns_form row
  have HM := Lib.hid row
  have HS := Lib.hid (HS0.out.below hb2)
  obtain ⟨M, hM⟩ : ∃ M, wholeM 2 bs = M := ⟨_, rfl⟩
  rw [hM] at HM HS HS0
  have HMD := Lib.hid hM
  have HML : Hid (M.length = q) := by
    have := rd_len (owns_rd HM.out)
    show _ = _
    simpa [Lib.byteCells] using this
  have HQ : Hid (q % 64 = 0) := by show _ = _; rw [← HML.out, ← HMD.out]; exact wholeM_len _ _
  have hqn : q ≤ 1000000 := by
    rw [← HML.out, ← HMD.out]
    have h8 : (numQ 2 (8 * bs.length) 8).length = 8 := by unfold numQ; split; exact leL_len _ _; exact beL_len _ _
    simp only [wholeM, List.length_append, List.length_replicate, List.length_cons, List.length_nil, h8, zerosN]
    rw [HBL.out]; omega
  obtain ⟨hcm1, hcm2⟩ := row_cap1 HM.out
  clear row hb2 hM HS0
  go_wp2_with fail
  go_loopw [7, 5] (fun s7 s5 wr => ∃ (x j g : Nat), x ≤ q ∧ s7 = .int .i64 x ∧ s5 = .slice (some ⟨g, 0, none⟩) 5 5 ∧ Hid (x = 64 * j) ∧ Hid (OfS 2 w M wr g j) ∧ Hid (Below w2.heap.size w2 wr)) (fun s7 _ _ => q - (intOf s7).toNat)
  case atStart => exact ⟨0, 0, g, Nat.zero_le _, rfl, rfl, rfl, HS, Below.refl _ _⟩
  case round =>
    obtain ⟨x, j, g, hx, rfl, rfl, HX, HSr, HBr⟩ := hrel
    by_cases hlt : x < q
    · obtain ⟨y, hy⟩ : ∃ y, x + 64 = y := ⟨_, rfl⟩
      have hyq : y ≤ q := by have := HX.out; have := HQ.out; omega
      have ey : (x : Int) + 64 = (y : Int) := by omega
      have HMr := Lib.hid ((owns_rd HM.out).below HBr.out)
      have hsl0 := fun W => slice_mid (T := 22) (E := 5) (sz := 1) Tryz.underlying22 rfl Tryz.sizeOf5 (A := Am) (n := q) (c := cm) (i := x) (j := y) (by omega) (by omega) W
      have RC := HMr.out.cut (c := cm) (i := x) (j := y) (by omega) hyq hcm1
      obtain ⟨AX, hAX⟩ : ∃ AX, (if cm = x then Am else Am.map (·.add (x * 1))) = AX := ⟨_, rfl⟩
      obtain ⟨cx, hcx⟩ : ∃ cx, cm - x = cx := ⟨_, rfl⟩
      rw [hAX] at RC
      rw [show y - x = 64 by omega] at RC
      have hsl : ∀ W : World, (Instr.slice 22 (.slice Am q cm) (some (.int .i64 x)) (some (.int .i64 y)) none).run Tryz.prog W = .ok (.slice AX 64 cx) W := fun W => by
        have := hsl0 W
        rw [hAX, hcx, show y - x = 64 by omega] at this
        exact this
      have RB : Hid (Rd wr 1 AX 64 ((blkOf M j).map vb)) := by
        have e : (blkOf M j).map vb = ((Lib.byteCells M).drop x).take 64 := by
          unfold blkOf
          rw [List.map_take, List.map_drop, ← HX.out]
          rfl
        show Rd _ _ _ _ _
        rw [e]; exact RC
      have hc1 : 64 ≤ cx := by omega
      have hc2 : cx ≤ 9223372036854775807 := by omega
      have HY : Hid (y = 64 * (j + 1)) := by have := HX.out; show _ = _; omega
      have HYM : Hid (q - y < q - x) := by show _ < _; omega
      clear hsl0 RC hAX hcx hy
      go_wp2_with fail
      refine (r02_wordsOf AX cx (blkOf M j) false wr RB.out hc1 hc2).mono ?_; rintro e w3 ⟨v, rfl, row3, hb3⟩
      obtain ⟨A3, c3, rfl⟩ := owns_form row3
      have R3 := Lib.hid row3
      have B3 := Lib.hid hb3
      clear row3 hb3
      go_wp2_with fail
      refine (step_sha1 wr.heap.size g 5 c3 A3 (stN 2 M j) (blkOf M j) w3 (stN_len _ _ _) B3.out.size HSr.out.lt (HSr.out.rd.below B3.out) R3.out).mono ?_; rintro e w4 ⟨g', rfl, hg', hr4, hb4⟩
      have S4 : Hid (OfS 2 w M w4 g' (j + 1)) := HSr.out.next B3.out hb4 hg' (rd_low hr4 (by decide)) hr4
      have B4 : Hid (Below w2.heap.size w2 w4) := below_then HBr.out (B3.out.trans hb4)
      rw [show wordsN 2 = 5 from rfl]
      clear hg' hr4 hb4
      go_wp2_with fail
      go_roundw
      case rel => exact ⟨y, j + 1, g', hyq, by go_num, rfl, HY, S4, B4⟩
      case measure => have := HYM.out; simp [intOf]; omega
    · have HJ : Hid (stateOf 2 M = stN 2 M j) := by
        show _ = _
        unfold stateOf
        rw [HML.out, show q / 64 = j by have := HX.out; omega]
      obtain ⟨S, hS⟩ : ∃ S, (stN 2 M j).take 5 = S := ⟨_, rfl⟩
      have HSL : Hid (S.length = 5) := by show _ = _; rw [← hS, List.length_take, stN_len]; rfl
      have HRS : Hid (Rd wr 1 (some ⟨g, 0, none⟩) 5 (S.map vw)) := by show Rd _ _ _ _ _; rw [← hS]; exact HSr.out.rd
      have HD : Hid (digestB 2 bs = outAt 2 S 5) := by
        show (List.take (wordsN 2) (stateOf 2 (wholeM 2 bs))).flatMap _ = _
        rw [HMD.out, HJ.out, show wordsN 2 = 5 from rfl, hS]
        unfold outAt
        rw [List.take_of_length_le (Nat.le_of_eq HSL.out)]
      obtain ⟨W5, hW5⟩ : ∃ W5, wr = W5 := ⟨_, rfl⟩
      have HB5 : Hid (Below w.heap.size w W5) := by show Below _ _ _; rw [← hW5]; exact HSr.out.bel
      rw [hW5] at HRS ⊢
      clear hS hW5
      go_wp2_with fail
      go_loopw [10, 9] (fun s10 s9 wr => ∃ (i k : Nat) (Ao : Option Addr) (co : Nat), i ≤ 5 ∧ s10 = .int .i64 i ∧ s9 = .slice Ao k co ∧ k ≤ 100 ∧ Hid (k = 4 * i) ∧ Hid (wr.ownsRow W5.heap.size 5 1 (.slice Ao k co) k (Lib.byteCells (outAt 2 S i))) ∧ Hid (Below W5.heap.size W5 wr)) (fun s10 _ _ => 5 - (intOf s10).toNat)
      case atStart => exact ⟨0, 0, none, 0, Nat.zero_le _, rfl, rfl, by omega, rfl, World.ownsRow_nil _ _ _ _, Below.refl _ _⟩
      case round =>
        obtain ⟨i, k, Ao, co, hi, rfl, rfl, hk, HK, HO, HBy⟩ := hrel
        by_cases hlt2 : i < 5
        · obtain ⟨x5, hx5⟩ : ∃ x5, S[i]? = some x5 := ⟨_, List.getElem?_eq_getElem (by rw [HSL.out]; exact hlt2)⟩
          obtain ⟨b, off, hA, he⟩ := (HRS.out.below HBy.out).2 (by omega)
          have e0 := he i (vw x5) (by rw [List.getElem?_map, hx5]; rfl)
          have hix := fun W => idx_of (T := 77) (E := 76) (sz := 1) (c := 5) Tryz.underlying77 rfl Tryz.sizeOf76 hA hlt2 W
          obtain ⟨z, hz⟩ : ∃ z, x5.toNat = z := ⟨_, rfl⟩
          have hz32 : z < 4294967296 := by rw [← hz]; exact x5.isLt
          have eu : IntKind.u64.wrap (z : Int) = (z : Int) := IntWalk.u64_in _ (by omega)
          have ev : nv x5 = (z : Int) := by unfold nv; rw [hz]
          have HN : Hid (outAt 2 S (i + 1) = outAt 2 S i ++ numQ 2 z 4) := by show _ = _; rw [outAt_succ 2 hx5, hz]
          unfold vw at e0
          rw [ev] at e0
          have hk2 : k + 4 ≤ 100 := by have := HK.out; omega
          have HK2 : Hid (k + 4 = 4 * (i + 1)) := by have := HK.out; show _ = _; omega
          clear he hA hx5 hz ev
          go_wp2_with fail
          refine (r01_Be z 4 wr (by omega) (by decide) (by decide)).mono ?_; rintro e w8 ⟨v, rfl, row, hb8⟩
          obtain ⟨A8, c8, rfl⟩ := owns_form row
          have HO8 := Lib.hid (owns_below HO.out hb8)
          have HC8 := Lib.hid (below_then HBy.out hb8)
          have RD8 : Hid (Rd w8 1 A8 4 ((beL z 4).map vb)) := owns_rd row
          clear row hb8
          have R8 : Hid (Reads w8 w8.heap.size 1 A8 4 (Lib.byteCells (numQ 2 z 4))) := by
            have e : numQ 2 z 4 = beL z 4 := by unfold numQ; rw [if_neg (by decide)]
            show Reads _ _ _ _ _ _
            rw [e]; exact RD8.out.reads (by decide)
          go_wp2_with (
            at_builtin
            refine wpList_append_any _ rfl _ _ 22 rfl W5.heap.size 5 i0 _ 1 1 Tryz.underlying22 hi0 hz0 hz1 hz2 rfl (by omega) (.slice Ao k co) k _ rfl HO8.out _ A8 4 c8 _ rfl R8.out (one_bytes (numQ 2 z 4)) (by first | (simp only [maxLen]; omega) | (unfold maxLen; omega)) (by omega) (by first | omega | (simp; done) | (have := HC8.out.size; omega) | (simp; omega)) ?_
            intro v1 w9 hown1 hg1 hat1
            obtain ⟨A1, c1, rfl⟩ := owns_form hown1
            have O9 : Hid (w9.ownsRow W5.heap.size 5 1 (.slice A1 (k + 4) c1) (k + 4) (Lib.byteCells (outAt 2 S (i + 1)))) := by
              show World.ownsRow _ _ _ _ _ _ _
              rw [HN.out]
              have := hown1
              simpa [Lib.byteCells] using this
            have C9 : Hid (Below W5.heap.size W5 w9) := HC8.out.grown hg1 HC8.out.size (fun p hp => (HO8.out.lt p hp).1)
            clear hown1 hg1 hat1)
          go_wp2_with fail
          go_roundw
          case rel => exact ⟨i + 1, k + 4, A1, c1, by omega, by go_num, rfl, hk2, HK2, O9, C9⟩
          case measure => simp [intOf]; omega
        · have HI : Hid (i = 5) := by show _ = _; omega
          have HL : Hid (k = (digestB 2 bs).length) := by
            have := rd_len (owns_rd HO.out)
            show _ = _
            rw [HD.out, ← HI.out]
            simpa [Lib.byteCells] using this.symm
          have HF : Hid (wr.ownsRow w.heap.size 5 1 (.slice Ao k co) (digestB 2 bs).length (Lib.byteCells (digestB 2 bs))) := by
            show World.ownsRow _ _ _ _ _ _ _
            have hO := HO.out
            rw [HI.out] at hO
            rw [← HL.out, HD.out]; exact owns_base hO HB5.out.size
          go_wp2_with fail
          go_ret
          exact ⟨_, rfl, HF.out, below_then HB5.out HBy.out⟩
theorem r02_Of3 (n c : Nat) (A : Option Addr) (bs : List UInt8) (w : World) (hG : GlT w) (hr : Rd w 1 A n (bs.map vb)) (hn : n ≤ 900000) :
    Calls Tryz.prog 17 #[.int .i64 3, .slice A n c] w (OfPost 3 bs w) := by
  obtain ⟨i0, hi0, hz0, hz1, hz2⟩ := info_parts info_u8b
  have HG := Lib.hid hG
  have HR := Lib.hid hr
  have HBL : Hid (bs.length = n) := vb_map_len hr
  clear hG hr
  go_enter Tryz.func17, Tryz.ntmps17
  go_wp2_with fail
  obtain ⟨W1, hW1⟩ : ∃ W1, (w.alloc (.cells #[.int .u32 1732584193, .int .u32 4023233417, .int .u32 2562383102, .int .u32 271733878] 76)).alloc (.cells #[.int .u32 1779033703, .int .u32 3144134277, .int .u32 1013904242, .int .u32 2773480762, .int .u32 1359893119, .int .u32 2600822924, .int .u32 528734635, .int .u32 1541459225] 76) = W1 := ⟨_, rfl⟩
  obtain ⟨g, hg⟩ : ∃ g, w.heap.size + 1 = g := ⟨_, rfl⟩
  have HS0 : Hid (OfS 3 w (wholeM 3 bs) W1 g 0) := by
    show OfS _ _ _ _ _ _
    rw [← hW1, ← hg]
    have h := OfS.start (vs := [.int .u32 1779033703, .int .u32 3144134277, .int .u32 1013904242, .int .u32 2773480762, .int .u32 1359893119, .int .u32 2600822924, .int .u32 528734635, .int .u32 1541459225]) (wholeM 3 bs) (kd := 3) (by rfl) ((Below.refl w.heap.size w).alloc (Nat.le_refl _) (.cells #[.int .u32 1732584193, .int .u32 4023233417, .int .u32 2562383102, .int .u32 271733878] 76))
    rw [show (w.alloc (.cells #[.int .u32 1732584193, .int .u32 4023233417, .int .u32 2562383102, .int .u32 271733878] 76)).heap.size = w.heap.size + 1 by simp] at h
    exact h
  rw [hW1]
  try rw [hg]
  clear hW1 hg
  refine (r02_whole 3 A n c bs false W1 rfl (HR.out.below HS0.out.bel) (by omega)).mono ?_; rintro e w2 ⟨v, q, rfl, row, hb2⟩
  obtain ⟨Am, cm, rfl⟩ := owns_form row
  have HM := Lib.hid row
  have HS := Lib.hid (HS0.out.below hb2)
  obtain ⟨M, hM⟩ : ∃ M, wholeM 3 bs = M := ⟨_, rfl⟩
  rw [hM] at HM HS HS0
  have HMD := Lib.hid hM
  have HML : Hid (M.length = q) := by
    have := rd_len (owns_rd HM.out)
    show _ = _
    simpa [Lib.byteCells] using this
  have HQ : Hid (q % 64 = 0) := by show _ = _; rw [← HML.out, ← HMD.out]; exact wholeM_len _ _
  have hqn : q ≤ 1000000 := by
    rw [← HML.out, ← HMD.out]
    have h8 : (numQ 3 (8 * bs.length) 8).length = 8 := by unfold numQ; split; exact leL_len _ _; exact beL_len _ _
    simp only [wholeM, List.length_append, List.length_replicate, List.length_cons, List.length_nil, h8, zerosN]
    rw [HBL.out]; omega
  obtain ⟨hcm1, hcm2⟩ := row_cap1 HM.out
  clear row hb2 hM HS0
  go_wp2_with fail
  go_loopw [7, 5] (fun s7 s5 wr => ∃ (x j g : Nat), x ≤ q ∧ s7 = .int .i64 x ∧ s5 = .slice (some ⟨g, 0, none⟩) 8 8 ∧ Hid (x = 64 * j) ∧ Hid (OfS 3 w M wr g j) ∧ Hid (Below w2.heap.size w2 wr)) (fun s7 _ _ => q - (intOf s7).toNat)
  case atStart => exact ⟨0, 0, g, Nat.zero_le _, rfl, rfl, rfl, HS, Below.refl _ _⟩
  case round =>
    obtain ⟨x, j, g, hx, rfl, rfl, HX, HSr, HBr⟩ := hrel
    by_cases hlt : x < q
    · obtain ⟨y, hy⟩ : ∃ y, x + 64 = y := ⟨_, rfl⟩
      have hyq : y ≤ q := by have := HX.out; have := HQ.out; omega
      have ey : (x : Int) + 64 = (y : Int) := by omega
      have HMr := Lib.hid ((owns_rd HM.out).below HBr.out)
      have hsl0 := fun W => slice_mid (T := 22) (E := 5) (sz := 1) Tryz.underlying22 rfl Tryz.sizeOf5 (A := Am) (n := q) (c := cm) (i := x) (j := y) (by omega) (by omega) W
      have RC := HMr.out.cut (c := cm) (i := x) (j := y) (by omega) hyq hcm1
      obtain ⟨AX, hAX⟩ : ∃ AX, (if cm = x then Am else Am.map (·.add (x * 1))) = AX := ⟨_, rfl⟩
      obtain ⟨cx, hcx⟩ : ∃ cx, cm - x = cx := ⟨_, rfl⟩
      rw [hAX] at RC
      rw [show y - x = 64 by omega] at RC
      have hsl : ∀ W : World, (Instr.slice 22 (.slice Am q cm) (some (.int .i64 x)) (some (.int .i64 y)) none).run Tryz.prog W = .ok (.slice AX 64 cx) W := fun W => by
        have := hsl0 W
        rw [hAX, hcx, show y - x = 64 by omega] at this
        exact this
      have RB : Hid (Rd wr 1 AX 64 ((blkOf M j).map vb)) := by
        have e : (blkOf M j).map vb = ((Lib.byteCells M).drop x).take 64 := by
          unfold blkOf
          rw [List.map_take, List.map_drop, ← HX.out]
          rfl
        show Rd _ _ _ _ _
        rw [e]; exact RC
      have hc1 : 64 ≤ cx := by omega
      have hc2 : cx ≤ 9223372036854775807 := by omega
      have HY : Hid (y = 64 * (j + 1)) := by have := HX.out; show _ = _; omega
      have HYM : Hid (q - y < q - x) := by show _ < _; omega
      clear hsl0 RC hAX hcx hy
      go_wp2_with fail
      refine (r02_wordsOf AX cx (blkOf M j) false wr RB.out hc1 hc2).mono ?_; rintro e w3 ⟨v, rfl, row3, hb3⟩
      obtain ⟨A3, c3, rfl⟩ := owns_form row3
      have R3 := Lib.hid row3
      have B3 := Lib.hid hb3
      clear row3 hb3
      go_wp2_with fail
      refine (step_sha256 wr.heap.size g 8 c3 A3 (stN 3 M j) (blkOf M j) w3 (fun w' hb => HG.out.below (below_then HSr.out.bel (B3.out.trans hb))) (stN_len _ _ _) B3.out.size HSr.out.lt (HSr.out.rd.below B3.out) R3.out).mono ?_; rintro e w4 ⟨g', rfl, hg', hr4, hb4⟩
      have S4 : Hid (OfS 3 w M w4 g' (j + 1)) := HSr.out.next B3.out hb4 hg' (rd_low hr4 (by decide)) hr4
      have B4 : Hid (Below w2.heap.size w2 w4) := below_then HBr.out (B3.out.trans hb4)
      rw [show wordsN 3 = 8 from rfl]
      clear hg' hr4 hb4
      go_wp2_with fail
      go_roundw
      case rel => exact ⟨y, j + 1, g', hyq, by go_num, rfl, HY, S4, B4⟩
      case measure => have := HYM.out; simp [intOf]; omega
    · have HJ : Hid (stateOf 3 M = stN 3 M j) := by
        show _ = _
        unfold stateOf
        rw [HML.out, show q / 64 = j by have := HX.out; omega]
      obtain ⟨S, hS⟩ : ∃ S, (stN 3 M j).take 8 = S := ⟨_, rfl⟩
      have HSL : Hid (S.length = 8) := by show _ = _; rw [← hS, List.length_take, stN_len]; rfl
      have HRS : Hid (Rd wr 1 (some ⟨g, 0, none⟩) 8 (S.map vw)) := by show Rd _ _ _ _ _; rw [← hS]; exact HSr.out.rd
      have HD : Hid (digestB 3 bs = outAt 3 S 8) := by
        show (List.take (wordsN 3) (stateOf 3 (wholeM 3 bs))).flatMap _ = _
        rw [HMD.out, HJ.out, show wordsN 3 = 8 from rfl, hS]
        unfold outAt
        rw [List.take_of_length_le (Nat.le_of_eq HSL.out)]
      obtain ⟨W5, hW5⟩ : ∃ W5, wr = W5 := ⟨_, rfl⟩
      have HB5 : Hid (Below w.heap.size w W5) := by show Below _ _ _; rw [← hW5]; exact HSr.out.bel
      rw [hW5] at HRS ⊢
      clear hS hW5
      go_wp2_with fail
      go_loopw [10, 9] (fun s10 s9 wr => ∃ (i k : Nat) (Ao : Option Addr) (co : Nat), i ≤ 8 ∧ s10 = .int .i64 i ∧ s9 = .slice Ao k co ∧ k ≤ 100 ∧ Hid (k = 4 * i) ∧ Hid (wr.ownsRow W5.heap.size 5 1 (.slice Ao k co) k (Lib.byteCells (outAt 3 S i))) ∧ Hid (Below W5.heap.size W5 wr)) (fun s10 _ _ => 8 - (intOf s10).toNat)
      case atStart => exact ⟨0, 0, none, 0, Nat.zero_le _, rfl, rfl, by omega, rfl, World.ownsRow_nil _ _ _ _, Below.refl _ _⟩
      case round =>
        obtain ⟨i, k, Ao, co, hi, rfl, rfl, hk, HK, HO, HBy⟩ := hrel
        by_cases hlt2 : i < 8
        · obtain ⟨x5, hx5⟩ : ∃ x5, S[i]? = some x5 := ⟨_, List.getElem?_eq_getElem (by rw [HSL.out]; exact hlt2)⟩
          obtain ⟨b, off, hA, he⟩ := (HRS.out.below HBy.out).2 (by omega)
          have e0 := he i (vw x5) (by rw [List.getElem?_map, hx5]; rfl)
          have hix := fun W => idx_of (T := 77) (E := 76) (sz := 1) (c := 8) Tryz.underlying77 rfl Tryz.sizeOf76 hA hlt2 W
          obtain ⟨z, hz⟩ : ∃ z, x5.toNat = z := ⟨_, rfl⟩
          have hz32 : z < 4294967296 := by rw [← hz]; exact x5.isLt
          have eu : IntKind.u64.wrap (z : Int) = (z : Int) := IntWalk.u64_in _ (by omega)
          have ev : nv x5 = (z : Int) := by unfold nv; rw [hz]
          have HN : Hid (outAt 3 S (i + 1) = outAt 3 S i ++ numQ 3 z 4) := by show _ = _; rw [outAt_succ 3 hx5, hz]
          unfold vw at e0
          rw [ev] at e0
          have hk2 : k + 4 ≤ 100 := by have := HK.out; omega
          have HK2 : Hid (k + 4 = 4 * (i + 1)) := by have := HK.out; show _ = _; omega
          clear he hA hx5 hz ev
          go_wp2_with fail
          refine (r01_Be z 4 wr (by omega) (by decide) (by decide)).mono ?_; rintro e w8 ⟨v, rfl, row, hb8⟩
          obtain ⟨A8, c8, rfl⟩ := owns_form row
          have HO8 := Lib.hid (owns_below HO.out hb8)
          have HC8 := Lib.hid (below_then HBy.out hb8)
          have RD8 : Hid (Rd w8 1 A8 4 ((beL z 4).map vb)) := owns_rd row
          clear row hb8
          have R8 : Hid (Reads w8 w8.heap.size 1 A8 4 (Lib.byteCells (numQ 3 z 4))) := by
            have e : numQ 3 z 4 = beL z 4 := by unfold numQ; rw [if_neg (by decide)]
            show Reads _ _ _ _ _ _
            rw [e]; exact RD8.out.reads (by decide)
          go_wp2_with (
            at_builtin
            refine wpList_append_any _ rfl _ _ 22 rfl W5.heap.size 5 i0 _ 1 1 Tryz.underlying22 hi0 hz0 hz1 hz2 rfl (by omega) (.slice Ao k co) k _ rfl HO8.out _ A8 4 c8 _ rfl R8.out (one_bytes (numQ 3 z 4)) (by first | (simp only [maxLen]; omega) | (unfold maxLen; omega)) (by omega) (by first | omega | (simp; done) | (have := HC8.out.size; omega) | (simp; omega)) ?_
            intro v1 w9 hown1 hg1 hat1
            obtain ⟨A1, c1, rfl⟩ := owns_form hown1
            have O9 : Hid (w9.ownsRow W5.heap.size 5 1 (.slice A1 (k + 4) c1) (k + 4) (Lib.byteCells (outAt 3 S (i + 1)))) := by
              show World.ownsRow _ _ _ _ _ _ _
              rw [HN.out]
              have := hown1
              simpa [Lib.byteCells] using this
            have C9 : Hid (Below W5.heap.size W5 w9) := HC8.out.grown hg1 HC8.out.size (fun p hp => (HO8.out.lt p hp).1)
            clear hown1 hg1 hat1)
          go_wp2_with fail
          go_roundw
          case rel => exact ⟨i + 1, k + 4, A1, c1, by omega, by go_num, rfl, hk2, HK2, O9, C9⟩
          case measure => simp [intOf]; omega
        · have HI : Hid (i = 8) := by show _ = _; omega
          have HL : Hid (k = (digestB 3 bs).length) := by
            have := rd_len (owns_rd HO.out)
            show _ = _
            rw [HD.out, ← HI.out]
            simpa [Lib.byteCells] using this.symm
          have HF : Hid (wr.ownsRow w.heap.size 5 1 (.slice Ao k co) (digestB 3 bs).length (Lib.byteCells (digestB 3 bs))) := by
            show World.ownsRow _ _ _ _ _ _ _
            have hO := HO.out
            rw [HI.out] at hO
            rw [← HL.out, HD.out]; exact owns_base hO HB5.out.size
          go_wp2_with fail
          go_ret
          exact ⟨_, rfl, HF.out, below_then HB5.out HBy.out⟩
theorem r02_Of (kd : Nat) (hk : 1 ≤ kd ∧ kd ≤ 3) (n c : Nat) (A : Option Addr) (bs : List UInt8) (w : World) (hG : GlT w) (hr : Rd w 1 A n (bs.map vb)) (hn : n ≤ 900000) :
    Calls Tryz.prog 17 #[.int .i64 kd, .slice A n c] w (OfPost kd bs w) := by
  rcases (show kd = 1 ∨ kd = 2 ∨ kd = 3 by omega) with rfl | rfl | rfl
  · exact r02_Of1 n c A bs w hG hr hn
  · exact r02_Of2 n c A bs w hG hr hn
  · exact r02_Of3 n c A bs w hG hr hn
theorem r24_Sums (path : ByteArray) (n c : Nat) (A : Option Addr) (bs : List UInt8) (w : World) (hG : GlT w) (hr : Rd w 1 A n (bs.map vb)) (hn : n ≤ 900000) :
    Calls Tryz.prog 8 #[.string path, .slice A n c] w fun e w' => e = .returned (knV path bs) ∧ Below w.heap.size w w' := by
  have HG := Lib.hid hG
  have HR := Lib.hid hr
  clear hG hr
  go_enter Tryz.func8, Tryz.ntmps8
  go_wp2_with fail
  obtain ⟨W3, hW3⟩ : ∃ W3, (w.alloc (.cells #[.string ⟨#[]⟩, .string ⟨#[]⟩, .string ⟨#[]⟩, .string ⟨#[]⟩, .string ⟨#[]⟩] 35)).alloc (.cells #[.string path, .string ⟨#[]⟩, .string ⟨#[]⟩, .string ⟨#[]⟩, .string ⟨#[]⟩] 35) = W3 := ⟨_, rfl⟩
  rw [hW3]
  have L3 : Hid (Below w.heap.size w W3) := by
    show Below _ _ _
    rw [← hW3]
    exact ((Below.refl _ _).alloc (Nat.le_refl _) _).alloc (by simp) _
  have K3 : Hid (Blk W3 (w.heap.size + 1) (knC path bs 0)) := by
    have h := (Blk.new (w.alloc (.cells #[.string ⟨#[]⟩, .string ⟨#[]⟩, .string ⟨#[]⟩, .string ⟨#[]⟩, .string ⟨#[]⟩] 35)) [.string path, .string ⟨#[]⟩, .string ⟨#[]⟩, .string ⟨#[]⟩, .string ⟨#[]⟩] 35)
    show Blk _ _ _
    rw [← hW3]
    simpa [knC, knS] using h
  have Z3 : Hid (Blk W3 w.heap.size [.string ⟨#[]⟩, .string ⟨#[]⟩, .string ⟨#[]⟩, .string ⟨#[]⟩, .string ⟨#[]⟩]) := by
    have h := ((Blk.new w [.string ⟨#[]⟩, .string ⟨#[]⟩, .string ⟨#[]⟩, .string ⟨#[]⟩, .string ⟨#[]⟩] 35).alloc (.cells #[.string path, .string ⟨#[]⟩, .string ⟨#[]⟩, .string ⟨#[]⟩, .string ⟨#[]⟩] 35))
    show Blk _ _ _
    rw [← hW3]
    exact h
  clear hW3
  go_loopw [6] (fun s6 wr => ∃ i : Nat, i ≤ 3 ∧ s6 = .int .i64 ((i + 1 : Nat) : Int) ∧ Hid (Blk wr (w.heap.size + 1) (knC path bs i)) ∧ Hid (Blk wr w.heap.size [.string ⟨#[]⟩, .string ⟨#[]⟩, .string ⟨#[]⟩, .string ⟨#[]⟩, .string ⟨#[]⟩]) ∧ Hid (Below w.heap.size w wr)) (fun s6 _ => 4 - (intOf s6).toNat)
  case atStart => exact ⟨0, by omega, rfl, K3, Z3, L3⟩
  case round =>
    obtain ⟨i, hi, rfl, HK, HZ, HL⟩ := hrel
    by_cases hlt : i < 3
    · obtain ⟨j, hj⟩ : ∃ j, i + 1 = j := ⟨_, rfl⟩
      rw [hj]
      have hj1 : 1 ≤ j ∧ j ≤ 3 := by omega
      have hj4 : (j : Int) < 4 := by omega
      have HJ := Lib.hid hj
      clear hj
      go_wp2_with fail
      refine (r02_Of j hj1 n c A bs wr (HG.out.below HL.out) (HR.out.below HL.out) (by omega)).mono ?_; rintro e w4 ⟨v, rfl, row, hb4⟩
      obtain ⟨A4, c4, rfl⟩ := owns_form row
      have RD4 : Hid (Rd w4 1 A4 (digestB j bs).length ((digestB j bs).map vb)) := owns_rd row
      have B4 := Lib.hid hb4
      clear row hb4
      generalize hdl : (digestB j bs).length = dl at *
      have hdl2 : dl ≤ 1000000 := by rw [← hdl]; exact digestB_len j bs
      go_wp2_with fail
      refine (r01_Hex dl c4 A4 (digestB j bs) w4 RD4.out hdl2).mono ?_; rintro e w5 ⟨rfl, hb5⟩
      have B5 := Lib.hid (below_then B4.out hb5)
      clear hb5
      have K5 := Lib.hid (HK.out.below B5.out)
      have x5 := K5.out.cell (j + 1) (.string ⟨#[]⟩) (by
        rw [← HJ.out]
        rcases (show i = 0 ∨ i = 1 ∨ i = 2 by omega) with rfl | rfl | rfl <;> simp [knC, knS])
      have f5 := K5.out.free (j + 1) (by show _ < 5; omega)
      have K6 : Hid (Blk (w5.setCell ⟨w.heap.size + 1, j + 1, none⟩ (.string ⟨(hexT (digestB j bs)).toArray⟩)) (w.heap.size + 1) (knC path bs j)) := by
        have h := K5.out.set (j + 1) (by show _ < 5; omega) (.string (hexK j bs))
        rw [← HJ.out] at h ⊢
        rw [knC_next path bs hlt] at h
        exact h
      have Z6 : Hid (Blk (w5.setCell ⟨w.heap.size + 1, j + 1, none⟩ (.string ⟨(hexT (digestB j bs)).toArray⟩)) w.heap.size [.string ⟨#[]⟩, .string ⟨#[]⟩, .string ⟨#[]⟩, .string ⟨#[]⟩, .string ⟨#[]⟩]) := (HZ.out.below B5.out).far (by omega) _
      have L6 : Hid (Below w.heap.size w (w5.setCell ⟨w.heap.size + 1, j + 1, none⟩ (.string ⟨(hexT (digestB j bs)).toArray⟩))) := below_set (below_then HL.out B5.out) (by omega) _
      have ej1 : (1 : Nat) + j = j + 1 := by omega
      go_wp2_with fail
      go_roundw
      case rel => exact ⟨j, by omega, by go_num, K6, Z6, L6⟩
      case measure => simp [intOf]; omega
    · obtain rfl : i = 3 := by omega
      have c0 := HK.out.cell 0 _ rfl
      have c1 := HK.out.cell 1 _ rfl
      have c2 := HK.out.cell 2 _ rfl
      have c3 := HK.out.cell 3 _ rfl
      have c4 := HK.out.cell 4 _ rfl
      have z0 := HZ.out.cell 0 _ rfl
      have z1 := HZ.out.cell 1 _ rfl
      have z2 := HZ.out.cell 2 _ rfl
      have z3 := HZ.out.cell 3 _ rfl
      have z4 := HZ.out.cell 4 _ rfl
      have f0 := HZ.out.free 0 (by simp)
      have f1 := HZ.out.free 1 (by simp)
      have f2 := HZ.out.free 2 (by simp)
      have f3 := HZ.out.free 3 (by simp)
      have f4 := HZ.out.free 4 (by simp)
      go_wp2_with fail
      obtain ⟨W9, hW9⟩ : ∃ W9, wr.setCells w.heap.size 0 [.string path, .string ⟨#[]⟩, .string (knS bs 3 1), .string (knS bs 3 2), .string (knS bs 3 3)] = W9 := ⟨_, rfl⟩
      have KF : Blk W9 w.heap.size [.string path, .string ⟨#[]⟩, .string (knS bs 3 1), .string (knS bs 3 2), .string (knS bs 3 3)] := by
        have h := Blk.setN [] [.string path, .string ⟨#[]⟩, .string (knS bs 3 1), .string (knS bs 3 2), .string (knS bs 3 3)] [.string ⟨#[]⟩, .string ⟨#[]⟩, .string ⟨#[]⟩, .string ⟨#[]⟩, .string ⟨#[]⟩] [] wr rfl HZ.out
        rw [← hW9]
        exact h
      have LF : Below w.heap.size w W9 := by rw [← hW9]; exact below_setCells _ 0 HL.out (Nat.le_refl _)
      show bodyPost _ _ _ _ _ (wr.setCells w.heap.size 0 [.string path, .string ⟨#[]⟩, .string (knS bs 3 1), .string (knS bs 3 2), .string (knS bs 3 3)])
      rw [hW9]
      have y0 := KF.cell 0 _ rfl
      have y1 := KF.cell 1 _ rfl
      have y2 := KF.cell 2 _ rfl
      have y3 := KF.cell 3 _ rfl
      have y4 := KF.cell 4 _ rfl
      refine bodyPost_ret (v := knV path bs) (by simp [results, Tryz.results8, go_sem, y0, y1, y2, y3, y4, knV, knS]) rfl ⟨rfl, LF⟩
end
end Go.Proofs.YtlhchpeecfbgnaaGreatDoor
