/- A part of the proof that the digests of any content are the three of it, and that an installed set is new memory. No condition. -/
import Derived.Deep.RegionHeld3
import Derived.Laws.Bits64b
import Derived.Laws.IdiomStrings
import Derived.Test.YtlhchpeecfbgnaaGreatDoorG11
import Derived.Test.YtlhchpeecfbgnaaGreatDoorG12
import Derived.Test.YtlhchpeecfbgnaaGreatDoorG22
set_option maxRecDepth 100000
set_option maxHeartbeats 20000000
set_option linter.unusedVariables false
set_option linter.unusedSimpArgs false
namespace Go.Proofs.YtlhchpeecfbgnaaGreatDoor
def dg (n j : Nat) : UInt8 := UInt8.ofNat (n / 256 ^ j)
def leL (n k : Nat) : List UInt8 := (List.range k).map (dg n)
def beL (n k : Nat) : List UInt8 := (leL n k).reverse
theorem leL_len (n k : Nat) : (leL n k).length = k := by simp [leL]
theorem beL_len (n k : Nat) : (beL n k).length = k := by simp [beL, leL_len]
theorem leL_succ (n k : Nat) : leL n (k + 1) = leL n k ++ [dg n k] := by simp [leL, List.range_succ]
theorem beL_succ (n k : Nat) : beL n (k + 1) = dg n k :: beL n k := by simp [beL, leL_succ]
def beV (l : List UInt8) : Nat := l.foldl (fun n c => n * 256 + c.toNat) 0
def leV (l : List UInt8) : Nat := beV l.reverse
theorem beV_snoc (l : List UInt8) (c : UInt8) : beV (l ++ [c]) = beV l * 256 + c.toNat := by simp [beV]
theorem beV_cons (c : UInt8) (l : List UInt8) : beV (c :: l) = c.toNat * 256 ^ l.length + beV l := by
  have h : ∀ (l : List UInt8) (n : Nat), l.foldl (fun n c => n * 256 + c.toNat) n = n * 256 ^ l.length + beV l := by
    intro l
    induction l with
    | nil => intro n; simp [beV]
    | cons a r ih =>
      intro n
      unfold beV
      rw [List.foldl_cons, List.foldl_cons, ih, ih, List.length_cons, Nat.pow_succ, Nat.zero_mul, Nat.zero_add]
      have : (n * 256 + a.toNat) * 256 ^ r.length = n * (256 ^ r.length * 256) + a.toNat * 256 ^ r.length := by rw [Nat.add_mul, Nat.mul_assoc, Nat.mul_comm 256]
      omega
  show (c :: l).foldl _ 0 = _
  rw [List.foldl_cons, h]
  simp
theorem leV_snoc (l : List UInt8) (c : UInt8) : leV (l ++ [c]) = leV l + c.toNat * 256 ^ l.length := by
  unfold leV
  rw [List.reverse_append]
  show beV (c :: l.reverse) = _
  rw [beV_cons, List.length_reverse]
  omega
theorem beV_lt (l : List UInt8) : beV l < 256 ^ l.length := by
  induction l with
  | nil => simp [beV]
  | cons c r ih =>
    rw [beV_cons, List.length_cons, Nat.pow_succ]
    have := c.toNat_lt
    have h2 : c.toNat * 256 ^ r.length ≤ 255 * 256 ^ r.length := Nat.mul_le_mul_right _ (by omega)
    omega
theorem leV_lt (l : List UInt8) : leV l < 256 ^ l.length := by have := beV_lt l.reverse; rwa [List.length_reverse] at this
def wordAt (low : Bool) (blk : List UInt8) (i : Nat) : B32 := BitVec.ofNat 32 (if low then leV ((blk.drop (4 * i)).take 4) else beV ((blk.drop (4 * i)).take 4))
def wordsOf (low : Bool) (blk : List UInt8) : List B32 := (List.range 16).map (wordAt low blk)
def md5After (ws st : List B32) : List B32 :=
  [(md5Run ws ⟨st.getD 0 0, st.getD 1 0, st.getD 2 0, st.getD 3 0⟩ 64).a, (md5Run ws ⟨st.getD 0 0, st.getD 1 0, st.getD 2 0, st.getD 3 0⟩ 64).b, (md5Run ws ⟨st.getD 0 0, st.getD 1 0, st.getD 2 0, st.getD 3 0⟩ 64).c, (md5Run ws ⟨st.getD 0 0, st.getD 1 0, st.getD 2 0, st.getD 3 0⟩ 64).d] ++ st.drop 4
def sha1End (ws st : List B32) : S5 := sha1Run (sha1W ws 64) ⟨st.getD 0 0, st.getD 1 0, st.getD 2 0, st.getD 3 0, st.getD 4 0⟩ 80
def sha1After (ws st : List B32) : List B32 := [(sha1End ws st).a, (sha1End ws st).b, (sha1End ws st).c, (sha1End ws st).d, (sha1End ws st).e] ++ st.drop 5
def shaEnd (ws st : List B32) : S8 := shaRun (shaW ws 48) ⟨st.getD 0 0, st.getD 1 0, st.getD 2 0, st.getD 3 0, st.getD 4 0, st.getD 5 0, st.getD 6 0, st.getD 7 0⟩ 64
def shaAfter (ws st : List B32) : List B32 := [(shaEnd ws st).a, (shaEnd ws st).b, (shaEnd ws st).c, (shaEnd ws st).d, (shaEnd ws st).e, (shaEnd ws st).f, (shaEnd ws st).g, (shaEnd ws st).h] ++ st.drop 8
def afterB (kd : Nat) (ws st : List B32) : List B32 := if kd = 1 then md5After ws st else if kd = 2 then sha1After ws st else shaAfter ws st
def compress (kd : Nat) (st : List B32) (blk : List UInt8) : List B32 := List.zipWith (· + ·) (afterB kd (wordsOf (kd == 1) blk) st) st
def initB (kd : Nat) : List B32 :=
  if kd = 1 then [0x67452301, 0xefcdab89, 0x98badcfe, 0x10325476, 0, 0, 0, 0]
  else if kd = 2 then [0x67452301, 0xefcdab89, 0x98badcfe, 0x10325476, 0xc3d2e1f0, 0, 0, 0]
  else [0x6a09e667, 0xbb67ae85, 0x3c6ef372, 0xa54ff53a, 0x510e527f, 0x9b05688c, 0x1f83d9ab, 0x5be0cd19]
def blkOf (m : List UInt8) (i : Nat) : List UInt8 := (m.drop (64 * i)).take 64
def stN (kd : Nat) (m : List UInt8) : Nat → List B32
  | 0 => initB kd
  | n + 1 => compress kd (stN kd m n) (blkOf m n)
def stateOf (kd : Nat) (m : List UInt8) : List B32 := stN kd m (m.length / 64)
def zerosN (m : List UInt8) : Nat := (119 - m.length % 64) % 64
def numQ (kd : Nat) (n k : Nat) : List UInt8 := if kd = 1 then leL n k else beL n k
def wholeM (kd : Nat) (m : List UInt8) : List UInt8 := m ++ [128] ++ List.replicate (zerosN m) 0 ++ numQ kd (8 * m.length) 8
def wordsN (kd : Nat) : Nat := if kd = 1 then 4 else if kd = 2 then 5 else 8
def digestB (kd : Nat) (m : List UInt8) : List UInt8 := ((stateOf kd (wholeM kd m)).take (wordsN kd)).flatMap fun x => numQ kd x.toNat 4
theorem md5After_len (ws : List B32) {st : List B32} (h : st.length = 8) : (md5After ws st).length = 8 := by simp [md5After, h]
theorem sha1After_len (ws : List B32) {st : List B32} (h : st.length = 8) : (sha1After ws st).length = 8 := by simp [sha1After, h]
theorem shaAfter_len (ws : List B32) {st : List B32} (h : st.length = 8) : (shaAfter ws st).length = 8 := by simp [shaAfter, h]
theorem afterB_len (kd : Nat) (ws : List B32) {st : List B32} (h : st.length = 8) : (afterB kd ws st).length = 8 := by
  unfold afterB
  split
  · exact md5After_len ws h
  · split
    · exact sha1After_len ws h
    · exact shaAfter_len ws h
theorem compress_len (kd : Nat) {st : List B32} (blk : List UInt8) (h : st.length = 8) : (compress kd st blk).length = 8 := by simp [compress, afterB_len, h]
theorem initB_len (kd : Nat) : (initB kd).length = 8 := by unfold initB; split; rfl; split <;> rfl
theorem stN_len (kd : Nat) (m : List UInt8) : ∀ n, (stN kd m n).length = 8
  | 0 => initB_len kd
  | n + 1 => compress_len kd _ (stN_len kd m n)
theorem stateOf_len (kd : Nat) (m : List UInt8) : (stateOf kd m).length = 8 := stN_len kd m _
theorem blkOf_append {m r : List UInt8} {i : Nat} (h : 64 * i + 64 ≤ m.length) : blkOf (m ++ r) i = blkOf m i := by
  unfold blkOf
  rw [List.drop_append_of_le_length (by omega), List.take_append_of_le_length (by simp; omega)]
theorem stN_append (kd : Nat) {m r : List UInt8} : ∀ n, 64 * n ≤ m.length → stN kd (m ++ r) n = stN kd m n
  | 0, _ => rfl
  | n + 1, h => by rw [stN, stN, stN_append kd n (by omega), blkOf_append (by omega)]
theorem stateOf_part (kd : Nat) {m r : List UInt8} (h : m.length % 64 + r.length < 64) : stateOf kd (m ++ r) = stateOf kd m := by
  unfold stateOf
  rw [List.length_append, show (m.length + r.length) / 64 = m.length / 64 by omega]
  exact stN_append kd _ (by omega)
theorem stateOf_full (kd : Nat) {m r : List UInt8} (h : m.length % 64 + r.length = 64) : stateOf kd (m ++ r) = compress kd (stateOf kd m) (m.drop (m.length / 64 * 64) ++ r) := by
  unfold stateOf
  rw [List.length_append, show (m.length + r.length) / 64 = m.length / 64 + 1 by omega, stN, stN_append kd _ (by omega)]
  congr 1
  unfold blkOf
  rw [List.drop_append_of_le_length (by omega), Nat.mul_comm]
  exact List.take_of_length_le (by simp; omega)
theorem wholeM_len (kd : Nat) (m : List UInt8) : (wholeM kd m).length % 64 = 0 := by
  have h8 : (numQ kd (8 * m.length) 8).length = 8 := by unfold numQ; split; exact leL_len _ _; exact beL_len _ _
  simp only [wholeM, List.length_append, List.length_replicate, List.length_cons, List.length_nil, h8, zerosN]
  omega
section
open Go.RowKit
theorem slice_mid {T E : TypeId} {sz : Nat} (hT : Tryz.prog.underlying T = some (.slice (Tryz.prog.elem T))) (hE : Tryz.prog.elem T = E) (hs : ∀ w, (sizeOf E).run Tryz.prog w = .ok sz w)
    {A : Option Addr} {n c i j : Nat} (hij : i ≤ j) (hj : j ≤ c) (w : World) : (Instr.slice T (.slice A n c) (some (.int .i64 i)) (some (.int .i64 j)) none).run Tryz.prog w = .ok (.slice (if c = i then A else A.map (·.add (i * sz))) (j - i) (c - i)) w := by
  have hb : (Instr.sliceBounds true n c (some (.int .i64 i)) (some (.int .i64 j)) none).run Tryz.prog w = .ok (i, j, c) w := by
    simp [Instr.sliceBounds, run_sliceBound (k := .i64) (i := (j : Int)) (y := c) (h0 := by omega) (h1 := by omega), run_sliceBound (k := .i64) (i := (i : Int)) (y := j) (h0 := by omega) (h1 := by omega)]
  simp only [Instr.slice, Sem.run_bind, run_underlying hT, Result.andThen_ok, hb, hE, hs, Sem.run_pure]
theorem sl_from {T E : TypeId} {sz : Nat} (hT : Tryz.prog.underlying T = some (.slice (Tryz.prog.elem T))) (hE : Tryz.prog.elem T = E) (hs : ∀ w, (sizeOf E).run Tryz.prog w = .ok sz w)
    {A : Option Addr} {n c k : Nat} (hk : k ≤ n) (w : World) : (Instr.slice T (.slice A n c) (some (.int .i64 k)) none none).run Tryz.prog w = .ok (.slice (if c = k then A else A.map (·.add (k * sz))) (n - k) (c - k)) w := by
  have hb : (Instr.sliceBounds true n c (some (.int .i64 k)) none none).run Tryz.prog w = .ok (k, n, c) w := by
    simp [Instr.sliceBounds, run_sliceBound (k := .i64) (i := (k : Int)) (y := n) (h0 := by omega) (h1 := by omega)]
  simp only [Instr.slice, Sem.run_bind, run_underlying hT, Result.andThen_ok, hb, hE, hs, Sem.run_pure]
theorem Rd.cut {w : World} {A : Option Addr} {n c i j : Nat} {xs : List Value} (h : Rd w 1 A n xs) (hij : i ≤ j) (hj : j ≤ n) (hc : n ≤ c) : Rd w 1 (if c = i then A else A.map (·.add (i * 1))) (j - i) ((xs.drop i).take (j - i)) := by
  have hl := h.1
  refine ⟨by simp; omega, fun hp => ?_⟩
  obtain ⟨b, off, rfl, hc2⟩ := h.2 (by omega)
  rw [if_neg (by omega)]
  refine ⟨b, off + i, by simp [add_off], fun k u hu => ?_⟩
  have hk : k < j - i := by
    have := (List.getElem?_eq_some_iff.1 hu).1
    simp at this
    omega
  rw [List.getElem?_take_of_lt hk, List.getElem?_drop] at hu
  rw [Nat.add_assoc]
  exact hc2 _ u hu
theorem or_low {x c : Nat} (k : Nat) (hc : c < 2 ^ k) : x * 2 ^ k ||| c = x * 2 ^ k + c := by
  rw [Nat.mul_comm]
  exact (Nat.two_pow_add_eq_or_of_lt hc x).symm
theorem vb_map_len {w : World} {A : Option Addr} {n : Nat} {l : List UInt8} (h : Rd w 1 A n (l.map vb)) : l.length = n := by have := h.1; simpa using this
theorem take_step {l : List UInt8} {j : Nat} {c : UInt8} (h : l[j]? = some c) : l.take (j + 1) = l.take j ++ [c] := by
  rw [List.take_add_one, h]; rfl
theorem beV_small {l : List UInt8} {j : Nat} (hj : j < 8) : beV (l.take j) ≤ 72057594037927935 := by
  have h := beV_lt (l.take j)
  have h2 : 256 ^ (l.take j).length ≤ 256 ^ 7 := Nat.pow_le_pow_right (by decide) (by rw [List.length_take]; omega)
  have : (256 : Nat) ^ 7 = 72057594037927936 := by decide
  omega
theorem leV_small {l : List UInt8} {j : Nat} (hj : j < 8) : leV (l.take j) ≤ 72057594037927935 := by
  have h := leV_lt (l.take j)
  have h2 : 256 ^ (l.take j).length ≤ 256 ^ 7 := Nat.pow_le_pow_right (by decide) (by rw [List.length_take]; omega)
  have : (256 : Nat) ^ 7 = 72057594037927936 := by decide
  omega
theorem or_be (x c : Nat) (hx : x ≤ 72057594037927935) (hc : c < 256) : bits .or .u64 ((x : Int) * 256) (c : Int) = ((x * 256 + c : Nat) : Int) := by
  have h := bits_or_u64_nat (x * 256) c (by omega) (by omega)
  rw [show x * 256 ||| c = x * 256 + c from or_low 8 hc] at h
  rw [← h]; simp
theorem shl_byte (ch : UInt8) {j s : Nat} (hj : j < 8) (hp : 256 ^ j = 2 ^ s) : ((ch.toNat : Int) * 2 ^ s) % 18446744073709551616 = ((ch.toNat * 256 ^ j : Nat) : Int) := by
  have h1 : ch.toNat * 256 ^ j < 256 * 256 ^ j := Nat.mul_lt_mul_of_pos_right ch.toNat_lt (Nat.pow_pos (by decide))
  have h2 : 256 * 256 ^ j ≤ 256 ^ 8 := by rw [Nat.mul_comm, ← Nat.pow_succ]; exact Nat.pow_le_pow_right (by decide) (by omega)
  have h3 : (256 : Nat) ^ 8 = 18446744073709551616 := by decide
  have h4 : ((ch.toNat : Int) * 2 ^ s) = ((ch.toNat * 256 ^ j : Nat) : Int) := by rw [hp]; simp
  rw [h4]
  omega
theorem or_le {x j s : Nat} (ch : UInt8) (hx : x < 256 ^ j) (hj : j < 8) (hp : 256 ^ j = 2 ^ s) : bits .or .u64 (x : Int) ((ch.toNat * 256 ^ j : Nat) : Int) = ((x + ch.toNat * 256 ^ j : Nat) : Int) := by
  have h1 : ch.toNat * 256 ^ j < 256 * 256 ^ j := Nat.mul_lt_mul_of_pos_right ch.toNat_lt (Nat.pow_pos (by decide))
  have h2 : 256 * 256 ^ j ≤ 256 ^ 8 := by rw [Nat.mul_comm, ← Nat.pow_succ]; exact Nat.pow_le_pow_right (by decide) (by omega)
  have h3 : (256 : Nat) ^ 8 = 18446744073709551616 := by decide
  have h5 : 256 ^ j ≤ 256 ^ 8 := Nat.pow_le_pow_right (by decide) (by omega)
  rw [bits_or_u64_nat x (ch.toNat * 256 ^ j) (by omega) (by omega)]
  have := or_low (x := ch.toNat) s (show x < 2 ^ s by rw [← hp]; exact hx)
  rw [Nat.or_comm, hp, this, Nat.add_comm]
theorem codec_GetBe (A : Option Addr) (n c i k : Nat) (l : List UInt8) (w : World) (hr : Rd w 1 A n (l.map vb)) (hk : 1 ≤ k) (hk8 : k ≤ 8) (hi : i + k ≤ n) (hc : n ≤ c) (hc2 : c ≤ 4611686018427387904) :
    Calls Tryz.prog 86 #[.slice A n c, .int .i64 i, .int .i64 k] w fun e w' => e = .returned (.tuple #[.int .u64 (beV ((l.drop i).take k)), .bool true]) ∧ w' = w := by
  have hl := vb_map_len hr
  obtain ⟨jk, hjk⟩ : ∃ jk, i + k = jk := ⟨_, rfl⟩
  have hsl := fun W => slice_mid (T := 22) (E := 5) (sz := 1) Tryz.underlying22 rfl Tryz.sizeOf5 (A := A) (n := n) (c := c) (i := i) (j := jk) (by omega) (by omega) W
  have R2 := hr.cut (i := i) (j := jk) (c := c) (by omega) (by omega) hc
  obtain ⟨A2, hA2⟩ : ∃ A2, (if c = i then A else A.map (·.add (i * 1))) = A2 := ⟨_, rfl⟩
  rw [hA2, show jk - i = k by omega] at hsl R2
  rw [← List.map_drop, ← List.map_take] at R2
  obtain ⟨l2, hl2⟩ : ∃ l2, (l.drop i).take k = l2 := ⟨_, rfl⟩
  rw [hl2] at R2 ⊢
  have hl2l := vb_map_len R2
  have hci : ((i : Int) + (k : Int)) = (jk : Int) := by omega
  have d1 : decide ((k : Int) < 1) = false := decide_eq_false (by omega)
  have d2 : decide ((8 : Int) < (k : Int)) = false := decide_eq_false (by omega)
  have d3 : decide ((i : Int) < 0) = false := decide_eq_false (by omega)
  have d4 : decide ((n : Int) - (k : Int) < (i : Int)) = false := decide_eq_false (by omega)
  have HR := Lib.hid R2
  have HL := Lib.hid hl2l
  clear hr hl hA2 R2 hl2 hl2l hjk
  go_enter Tryz.func86, Tryz.ntmps86
  go_wp2_with fail
  go_loop [36, 8] (fun s36 s8 => ∃ (j x : Nat), j ≤ k ∧ s36 = .int .i64 j ∧ s8 = .int .u64 x ∧ Hid (x = beV (l2.take j))) (fun s36 _ => k - (intOf s36).toNat)
  case atStart => exact ⟨0, 0, Nat.zero_le _, rfl, rfl, rfl⟩
  case round =>
    obtain ⟨j, x, hj, rfl, rfl, HX⟩ := hrel
    by_cases hlt : j < k
    · obtain ⟨ch, hch⟩ : ∃ ch, l2[j]? = some ch := ⟨_, List.getElem?_eq_getElem (by rw [HL.out]; exact hlt)⟩
      obtain ⟨b, off, hA, he⟩ := HR.out.2 (by omega)
      have e0 := he j (vb ch) (by rw [List.getElem?_map, hch]; rfl)
      have hix := fun W => idx_of (T := 22) (E := 5) (sz := 1) (c := c - i) Tryz.underlying22 rfl Tryz.sizeOf5 hA hlt W
      have hxs : x ≤ 72057594037927935 := by rw [HX.out]; exact beV_small (by omega)
      have hor := or_be x ch.toNat hxs ch.toNat_lt
      have hct := ch.toNat_lt
      have HN : Hid (x * 256 + ch.toNat = beV (l2.take (j + 1))) := by show _ = _; rw [take_step hch, beV_snoc, HX.out]
      unfold vb at e0
      clear he hA hch HX
      go_wp2_with fail
      go_round
      case rel => exact ⟨j + 1, _, by omega, by go_num, rfl, HN⟩
      case measure => simp [intOf]; omega
    · go_wp2_with fail
      go_ret2
      exact ⟨by rw [HX.out, List.take_of_length_le (by rw [HL.out]; omega)]; rfl, rfl⟩
theorem codec_GetLe (A : Option Addr) (n c i k : Nat) (l : List UInt8) (w : World) (hr : Rd w 1 A n (l.map vb)) (hk : 1 ≤ k) (hk8 : k ≤ 8) (hi : i + k ≤ n) (hc : n ≤ c) (hc2 : c ≤ 4611686018427387904) :
    Calls Tryz.prog 87 #[.slice A n c, .int .i64 i, .int .i64 k] w fun e w' => e = .returned (.tuple #[.int .u64 (leV ((l.drop i).take k)), .bool true]) ∧ w' = w := by
  have hl := vb_map_len hr
  obtain ⟨jk, hjk⟩ : ∃ jk, i + k = jk := ⟨_, rfl⟩
  have hsl := fun W => slice_mid (T := 22) (E := 5) (sz := 1) Tryz.underlying22 rfl Tryz.sizeOf5 (A := A) (n := n) (c := c) (i := i) (j := jk) (by omega) (by omega) W
  have R2 := hr.cut (i := i) (j := jk) (c := c) (by omega) (by omega) hc
  obtain ⟨A2, hA2⟩ : ∃ A2, (if c = i then A else A.map (·.add (i * 1))) = A2 := ⟨_, rfl⟩
  rw [hA2, show jk - i = k by omega] at hsl R2
  rw [← List.map_drop, ← List.map_take] at R2
  obtain ⟨l2, hl2⟩ : ∃ l2, (l.drop i).take k = l2 := ⟨_, rfl⟩
  rw [hl2] at R2 ⊢
  have hl2l := vb_map_len R2
  have hci : ((i : Int) + (k : Int)) = (jk : Int) := by omega
  have d1 : decide ((k : Int) < 1) = false := decide_eq_false (by omega)
  have d2 : decide ((8 : Int) < (k : Int)) = false := decide_eq_false (by omega)
  have d3 : decide ((i : Int) < 0) = false := decide_eq_false (by omega)
  have d4 : decide ((n : Int) - (k : Int) < (i : Int)) = false := decide_eq_false (by omega)
  have HR := Lib.hid R2
  have HL := Lib.hid hl2l
  clear hr hl hA2 R2 hl2 hl2l hjk
  go_enter Tryz.func87, Tryz.ntmps87
  go_wp2_with fail
  go_loop [36, 8] (fun s36 s8 => ∃ (j x : Nat), j ≤ k ∧ s36 = .int .i64 j ∧ s8 = .int .u64 x ∧ Hid (x = leV (l2.take j))) (fun s36 _ => k - (intOf s36).toNat)
  case atStart => exact ⟨0, 0, Nat.zero_le _, rfl, rfl, rfl⟩
  case round =>
    obtain ⟨j, x, hj, rfl, rfl, HX⟩ := hrel
    by_cases hlt : j < k
    · obtain ⟨ch, hch⟩ : ∃ ch, l2[j]? = some ch := ⟨_, List.getElem?_eq_getElem (by rw [HL.out]; exact hlt)⟩
      obtain ⟨b, off, hA, he⟩ := HR.out.2 (by omega)
      have e0 := he j (vb ch) (by rw [List.getElem?_map, hch]; rfl)
      have hix := fun W => idx_of (T := 22) (E := 5) (sz := 1) (c := c - i) Tryz.underlying22 rfl Tryz.sizeOf5 hA hlt W
      have hxs : x ≤ 72057594037927935 := by rw [HX.out]; exact leV_small (by omega)
      have hct := ch.toNat_lt
      obtain ⟨s, hs⟩ : ∃ s, 8 * j = s := ⟨_, rfl⟩
      have hsi : (8 : Int) * (j : Int) = (s : Int) := by omega
      have hs56 : s ≤ 56 := by omega
      obtain ⟨y, hy⟩ : ∃ y, ch.toNat * 256 ^ j = y := ⟨_, rfl⟩
      have hp : 256 ^ j = 2 ^ s := by rw [← hs, Nat.pow_mul]
      have hsh := shl_byte ch (j := j) (s := s) (by omega) hp
      rw [hy] at hsh
      have hshw := (IntKind.wrap_u64 ((ch.toNat : Int) * 2 ^ s)).trans hsh
      have hx6 : x < 256 ^ j := by have := leV_lt (l2.take j); rw [List.length_take, Nat.min_eq_left (by rw [HL.out]; omega), ← HX.out] at this; exact this
      have hor := or_le (j := j) (s := s) ch hx6 (by omega) hp
      rw [hy] at hor
      have HN : Hid (x + y = leV (l2.take (j + 1))) := by show _ = _; rw [take_step hch, leV_snoc, HX.out, List.length_take, Nat.min_eq_left (by rw [HL.out]; omega), hy]
      unfold vb at e0
      clear he hA hch HX hy hp hs hx6
      go_wp2_with fail
      go_round
      case rel => exact ⟨j + 1, _, by omega, by go_num, rfl, HN⟩
      case measure => simp [intOf]; omega
    · go_wp2_with fail
      go_ret2
      exact ⟨by rw [HX.out, List.take_of_length_le (by rw [HL.out]; omega)]; rfl, rfl⟩
theorem made_bytes (n : Nat) : (madeCells (Value.int .u8 0).cells (n * 1)).toList = (List.replicate n (0 : UInt8)).map vb := by
  apply List.ext_getElem?
  intro j
  rw [Nat.mul_one, List.map_replicate, List.getElem?_replicate]
  by_cases h : j < n
  · simp [madeCells, h, Value.cells, vb, Nat.mod_one]
  · rw [if_neg h, List.getElem?_eq_none (by simp [madeCells]; omega)]
theorem shr_byte (x i s : Nat) (hs : 8 * i = s) : ((x : Int) / 2 ^ s) % 256 = ((dg x i).toNat : Int) := by
  have hp : 256 ^ i = 2 ^ s := by rw [← hs, Nat.pow_mul]
  unfold dg
  rw [hp]
  simp
theorem set_be {n m : Nat} {r : List UInt8} (c : UInt8) : ((List.replicate (n + 1) (0 : UInt8) ++ r).map vb).set n (vb c) = (List.replicate n 0 ++ c :: r).map vb := by
  rw [List.replicate_succ', List.append_assoc, List.map_append, List.map_append, List.set_append_right _ _ (by simp)]
  simp
theorem set_le {n : Nat} {r : List UInt8} (c : UInt8) : ((r ++ List.replicate (n + 1) (0 : UInt8)).map vb).set r.length (vb c) = (r ++ [c] ++ List.replicate n 0).map vb := by
  rw [List.replicate_succ, List.map_append, List.set_append_right _ _ (by simp)]
  simp
theorem info_u8b : (Tryz.prog.info? 5).map (fun i => (i.zero, i.size, i.bytes)) = some (some (.int .u8 0), 1, 1) := by kernel_rfl
theorem codec_Be (x k : Nat) (w : World) (hx : x < 18446744073709551616) (hk : 1 ≤ k) (hk8 : k ≤ 8) :
    Calls Tryz.prog 56 #[.int .u64 x, .int .i64 k] w fun e w' => ∃ g, e = .returned (.slice (some ⟨g, 0, none⟩) k k) ∧ w'.ownsRow w.heap.size 5 1 (.slice (some ⟨g, 0, none⟩) k k) k (Lib.byteCells (beL x k)) ∧ Below w.heap.size w w' := by
  obtain ⟨i0, hi, hz0, hz1, hz2⟩ := info_parts info_u8b
  have d1 : decide ((k : Int) < 1) = false := decide_eq_false (by omega)
  have d2 : decide ((8 : Int) < (k : Int)) = false := decide_eq_false (by omega)
  go_enter Tryz.func56, Tryz.ntmps56
  go_wp2_with (
    refine wpList_make_full _ rfl _ _ _ rfl w.heap.size 5 i0 _ 1 Tryz.underlying22 hi hz0 hz1 .i64 .i64 _ _ k rfl rfl rfl rfl (by rw [hz2]; omega) (by simp only [maxLen]; omega) (by omega) ?_
    intro w1 hr1 hg1)
  have R0 : Hid (w1.ownsRow w.heap.size 5 1 (.slice (some ⟨w.heap.size, 0, none⟩) k k) k ((List.replicate (k - 0) 0 ++ beL x 0).map vb)) := by
    have := hr1
    rw [made_bytes] at this
    show World.ownsRow _ _ _ _ _ _ _
    simpa [leL, beL] using this
  have L0 := Lib.hid ((Below.refl w.heap.size w).grown hg1 (Nat.le_refl _) (by simp))
  clear hr1 hg1
  go_wp2_with fail
  go_loopw [16] (fun s16 wr => ∃ i : Nat, i ≤ k ∧ s16 = .int .i64 i ∧ Hid (wr.ownsRow w.heap.size 5 1 (.slice (some ⟨w.heap.size, 0, none⟩) k k) k ((List.replicate (k - i) 0 ++ beL x i).map vb)) ∧ Hid (Below w.heap.size w wr)) (fun s16 _ => k - (intOf s16).toNat)
  case atStart => exact ⟨0, Nat.zero_le _, rfl, R0, L0⟩
  case round =>
    obtain ⟨i, hik, rfl, HR, HL⟩ := hrel
    by_cases hlt : i < k
    · obtain ⟨m, hm⟩ : ∃ m, k - i = m + 1 := ⟨k - i - 1, by omega⟩
      have hmi : (k : Int) - 1 - (i : Int) = (m : Int) := by omega
      obtain ⟨s, hs⟩ : ∃ s, 8 * i = s := ⟨_, rfl⟩
      have hsi : (8 : Int) * (i : Int) = (s : Int) := by omega
      have hs64 : s < 64 := by omega
      have hsh := shr_byte x i s hs
      obtain ⟨d, hd⟩ : ∃ d, dg x i = d := ⟨_, rfl⟩
      rw [hd] at hsh
      have hmk : m < k := by omega
      have cm := HR.out.cellAt (m) (by omega)
      obtain ⟨u, hu⟩ : ∃ u, ((List.replicate (k - i) 0 ++ beL x i).map vb)[m]? = some u := ⟨_, List.getElem?_eq_getElem (by simp [leL_len, beL_len]; omega)⟩
      rw [hu] at cm
      have fm := HR.out.frozenAt (m)
      have HN : Hid ((wr.setCell ⟨w.heap.size, m, none⟩ (vb d)).ownsRow w.heap.size 5 1 (.slice (some ⟨w.heap.size, 0, none⟩) k k) k ((List.replicate (k - (i + 1)) 0 ++ beL x (i + 1)).map vb)) := by
        have := (HR.out.stored (m) (vb d)).1
        rw [hm] at this
        rw [set_be (m := 0)] at this
        show World.ownsRow _ _ _ _ _ _ _
        rw [show k - (i + 1) = m by omega, beL_succ, hd]
        exact this
      have HL2 := Lib.hid (HL.out.setCell (p := ⟨w.heap.size, m, none⟩) (Nat.le_refl _) (vb d))
      unfold vb at HN HL2
      clear hm hs hd hu
      go_wp2_with fail
      go_roundw
      case rel => exact ⟨i + 1, by omega, by go_num, HN, HL2⟩
      case measure => simp [intOf]; omega
    · obtain rfl : i = k := by omega
      go_wp2_with fail
      go_ret
      refine ⟨_, rfl, ?_, HL.out⟩
      have := HR.out
      rw [Nat.sub_self, List.replicate_zero, List.nil_append] at this
      exact this
theorem codec_Le (x k : Nat) (w : World) (hx : x < 18446744073709551616) (hk : 1 ≤ k) (hk8 : k ≤ 8) :
    Calls Tryz.prog 57 #[.int .u64 x, .int .i64 k] w fun e w' => ∃ g, e = .returned (.slice (some ⟨g, 0, none⟩) k k) ∧ w'.ownsRow w.heap.size 5 1 (.slice (some ⟨g, 0, none⟩) k k) k (Lib.byteCells (leL x k)) ∧ Below w.heap.size w w' := by
  obtain ⟨i0, hi, hz0, hz1, hz2⟩ := info_parts info_u8b
  have d1 : decide ((k : Int) < 1) = false := decide_eq_false (by omega)
  have d2 : decide ((8 : Int) < (k : Int)) = false := decide_eq_false (by omega)
  go_enter Tryz.func57, Tryz.ntmps57
  go_wp2_with (
    refine wpList_make_full _ rfl _ _ _ rfl w.heap.size 5 i0 _ 1 Tryz.underlying22 hi hz0 hz1 .i64 .i64 _ _ k rfl rfl rfl rfl (by rw [hz2]; omega) (by simp only [maxLen]; omega) (by omega) ?_
    intro w1 hr1 hg1)
  have R0 : Hid (w1.ownsRow w.heap.size 5 1 (.slice (some ⟨w.heap.size, 0, none⟩) k k) k ((leL x 0 ++ List.replicate (k - 0) 0).map vb)) := by
    have := hr1
    rw [made_bytes] at this
    show World.ownsRow _ _ _ _ _ _ _
    simpa [leL, beL] using this
  have L0 := Lib.hid ((Below.refl w.heap.size w).grown hg1 (Nat.le_refl _) (by simp))
  clear hr1 hg1
  go_wp2_with fail
  go_loopw [16] (fun s16 wr => ∃ i : Nat, i ≤ k ∧ s16 = .int .i64 i ∧ Hid (wr.ownsRow w.heap.size 5 1 (.slice (some ⟨w.heap.size, 0, none⟩) k k) k ((leL x i ++ List.replicate (k - i) 0).map vb)) ∧ Hid (Below w.heap.size w wr)) (fun s16 _ => k - (intOf s16).toNat)
  case atStart => exact ⟨0, Nat.zero_le _, rfl, R0, L0⟩
  case round =>
    obtain ⟨i, hik, rfl, HR, HL⟩ := hrel
    by_cases hlt : i < k
    · obtain ⟨m, hm⟩ : ∃ m, k - i = m + 1 := ⟨k - i - 1, by omega⟩
      obtain ⟨s, hs⟩ : ∃ s, 8 * i = s := ⟨_, rfl⟩
      have hsi : (8 : Int) * (i : Int) = (s : Int) := by omega
      have hs64 : s < 64 := by omega
      have hsh := shr_byte x i s hs
      obtain ⟨d, hd⟩ : ∃ d, dg x i = d := ⟨_, rfl⟩
      rw [hd] at hsh
      have hmk : i < k := by omega
      have cm := HR.out.cellAt (i) (by omega)
      obtain ⟨u, hu⟩ : ∃ u, ((leL x i ++ List.replicate (k - i) 0).map vb)[i]? = some u := ⟨_, List.getElem?_eq_getElem (by simp [leL_len, beL_len]; omega)⟩
      rw [hu] at cm
      have fm := HR.out.frozenAt (i)
      have HN : Hid ((wr.setCell ⟨w.heap.size, i, none⟩ (vb d)).ownsRow w.heap.size 5 1 (.slice (some ⟨w.heap.size, 0, none⟩) k k) k ((leL x (i + 1) ++ List.replicate (k - (i + 1)) 0).map vb)) := by
        have := (HR.out.stored (i) (vb d)).1
        rw [hm] at this
        have e := set_le (n := m) (r := leL x i) d
        rw [leL_len] at e
        rw [e] at this
        show World.ownsRow _ _ _ _ _ _ _
        rw [show k - (i + 1) = m by omega, leL_succ, hd]
        exact this
      have HL2 := Lib.hid (HL.out.setCell (p := ⟨w.heap.size, i, none⟩) (Nat.le_refl _) (vb d))
      unfold vb at HN HL2
      clear hm hs hd hu
      go_wp2_with fail
      go_roundw
      case rel => exact ⟨i + 1, by omega, by go_num, HN, HL2⟩
      case measure => simp [intOf]; omega
    · obtain rfl : i = k := by omega
      go_wp2_with fail
      go_ret
      refine ⟨_, rfl, ?_, HL.out⟩
      have := HR.out
      rw [Nat.sub_self, List.replicate_zero, List.append_nil] at this
      exact this
theorem r01_GetBe (A : Option Addr) (n c i k : Nat) (l : List UInt8) (w : World) (hr : Rd w 1 A n (l.map vb)) (hk : 1 ≤ k) (hk8 : k ≤ 8) (hi : i + k ≤ n) (hc2 : n ≤ 4611686018427387904) :
    Calls Tryz.prog 58 #[.slice A n c, .int .i64 i, .int .i64 k] w fun e w' => e = .returned (.tuple #[.int .u64 (beV ((l.drop i).take k)), .bool true]) ∧ w' = w := by
  have hl := vb_map_len hr
  obtain ⟨l2, hl2⟩ : ∃ l2, (l.drop i).take k = l2 := ⟨_, rfl⟩
  rw [hl2]
  have hl2l : l2.length = k := by rw [← hl2, List.length_take, List.length_drop]; omega
  have hat : ∀ j, j < k → l2[j]? = l[i + j]? := fun j hj => by rw [← hl2, List.getElem?_take_of_lt hj, List.getElem?_drop]
  have d1 : decide ((k : Int) < 1) = false := decide_eq_false (by omega)
  have d2 : decide ((8 : Int) < (k : Int)) = false := decide_eq_false (by omega)
  have d3 : decide ((i : Int) < 0) = false := decide_eq_false (by omega)
  have d4 : decide ((n : Int) < (i : Int)) = false := decide_eq_false (by omega)
  have d5 : decide ((n : Int) - (i : Int) < (k : Int)) = false := decide_eq_false (by omega)
  have HR := Lib.hid hr
  have HL := Lib.hid hl2l
  have HT := Lib.hid hat
  clear hr hl hl2 hl2l hat
  go_enter Tryz.func58, Tryz.ntmps58
  go_wp2_with fail
  go_loop [9, 8] (fun s9 s8 => ∃ (j x : Nat), j ≤ k ∧ s9 = .int .i64 j ∧ s8 = .int .u64 x ∧ Hid (x = beV (l2.take j))) (fun s9 _ => k - (intOf s9).toNat)
  case atStart => exact ⟨0, 0, Nat.zero_le _, rfl, rfl, rfl⟩
  case round =>
    obtain ⟨j, x, hj, rfl, rfl, HX⟩ := hrel
    by_cases hlt : j < k
    · obtain ⟨ch, hch⟩ : ∃ ch, l2[j]? = some ch := ⟨_, List.getElem?_eq_getElem (by rw [HL.out]; exact hlt)⟩
      obtain ⟨b, off, hA, he⟩ := HR.out.2 (by omega)
      obtain ⟨p, hp⟩ : ∃ p, i + j = p := ⟨_, rfl⟩
      have e0 := he p (vb ch) (by rw [List.getElem?_map, ← hp, ← HT.out j hlt, hch]; rfl)
      have hpi : (i : Int) + (j : Int) = (p : Int) := by omega
      have hpn : p < n := by omega
      have hix := fun W => idx_of (T := 22) (E := 5) (sz := 1) (c := c) Tryz.underlying22 rfl Tryz.sizeOf5 hA hpn W
      have hxs : x ≤ 72057594037927935 := by rw [HX.out]; exact beV_small (by omega)
      have hct := ch.toNat_lt
      obtain ⟨y, hy⟩ : ∃ y, x * 256 + ch.toNat = y := ⟨_, rfl⟩
      have hyi : (x : Int) * 256 + (ch.toNat : Int) = (y : Int) := by omega
      have HN : Hid (y = beV (l2.take (j + 1))) := by show _ = _; rw [take_step hch, beV_snoc, ← HX.out, hy]
      unfold vb at e0
      clear he hA hch HX hp hy
      go_wp2_with fail
      go_round
      case rel => exact ⟨j + 1, y, by omega, by go_num, by go_num, HN⟩
      case measure => simp [intOf]; omega
    · go_wp2_with fail
      go_ret2
      exact ⟨by rw [HX.out, List.take_of_length_le (by rw [HL.out]; omega)]; rfl, rfl⟩
end
def TailOk (m tl : List UInt8) : Prop := tl.length = 64 ∧ tl.take (m.length % 64) = m.drop (m.length / 64 * 64)
def tailPut (m tl r : List UInt8) : List UInt8 := tl.take (m.length % 64) ++ (r ++ tl.drop (m.length % 64 + r.length))
theorem tailPut_len {m tl r : List UInt8} (h : tl.length = 64) (hr : m.length % 64 + r.length ≤ 64) : (tailPut m tl r).length = 64 := by
  simp [tailPut, h]; omega
theorem TailOk.zero {m tl : List UInt8} (h : tl.length = 64) (hm : m.length % 64 = 0) : TailOk m tl := by
  refine ⟨h, ?_⟩
  rw [hm, List.take_zero, List.drop_eq_nil_of_le (by omega)]
theorem TailOk.part {m tl r : List UInt8} (h : TailOk m tl) (hr : m.length % 64 + r.length < 64) : TailOk (m ++ r) (tailPut m tl r) := by
  obtain ⟨h1, h2⟩ := h
  refine ⟨tailPut_len h1 (by omega), ?_⟩
  have e1 : (m ++ r).length % 64 = m.length % 64 + r.length := by rw [List.length_append]; omega
  have e2 : (m ++ r).length / 64 = m.length / 64 := by rw [List.length_append]; omega
  rw [e1, e2, List.drop_append_of_le_length (by omega), ← h2]
  unfold tailPut
  rw [← List.append_assoc, List.take_append_of_le_length (by simp [h1]; omega)]
  exact List.take_of_length_le (by simp; omega)
theorem TailOk.full {m tl r : List UInt8} (h : TailOk m tl) (hr : m.length % 64 + r.length = 64) : tailPut m tl r = m.drop (m.length / 64 * 64) ++ r := by
  obtain ⟨h1, h2⟩ := h
  unfold tailPut
  rw [← h2, List.drop_eq_nil_of_le (by omega), List.append_nil]
theorem stateOf_block (kd : Nat) {m tl r : List UInt8} (h : TailOk m tl) (hr : m.length % 64 + r.length = 64) : stateOf kd (m ++ r) = compress kd (stateOf kd m) (tailPut m tl r) := by
  rw [stateOf_full kd hr, h.full hr]
section
open Go.RowKit
theorem r02_left (x : BitVec 32) (k : Nat) (hk : k < 32) (hk0 : 0 < k) (w : World) :
    Calls Tryz.prog 60 #[.int .u32 (nv x), .int .i64 (k : Int)] w fun e w' => e = .returned (.int .u32 (nv (rl k x))) ∧ w' = w := by
  have hs := nv_shl x k
  have hr := nv_shr x (32 - k)
  have ho := nv_or (x <<< k) (x >>> (32 - k))
  rw [show x <<< k ||| x >>> (32 - k) = rl k x from rfl] at ho
  obtain ⟨j, hj⟩ : ∃ j, 32 - k = j := ⟨_, rfl⟩
  rw [hj] at hr ho
  have e32 : (32 : Int) - (k : Int) = (j : Int) := by omega
  have e33 : IntKind.u64.wrap (j : Int) = (j : Int) := IntWalk.u64_in _ (by omega)
  have e34 : IntKind.u64.wrap (k : Int) = (k : Int) := IntWalk.u64_in _ (by omega)
  have hj32 : j < 32 := by omega
  clear hj
  go_enter Tryz.func60, Tryz.ntmps60
  go_wp2_with fail
  go_ret
  exact ⟨rfl, rfl⟩
theorem r02_right (x : BitVec 32) (k : Nat) (hk : k < 32) (hk0 : 0 < k) (w : World) :
    Calls Tryz.prog 62 #[.int .u32 (nv x), .int .i64 (k : Int)] w fun e w' => e = .returned (.int .u32 (nv (rr k x))) ∧ w' = w := by
  go_enter Tryz.func62, Tryz.ntmps62
  go_wp2_with fail
  rw [show (32 : Int) - (k : Int) = ((32 - k : Nat) : Int) by omega]
  refine (r02_left x (32 - k) (by omega) (by omega) w).mono ?_; rintro e w' ⟨rfl, rfl⟩
  go_wp2_with fail
  go_ret
  exact ⟨rfl, rfl⟩
theorem turn_at : ∀ i : Nat, i < 64 → ([.int .i64 7, .int .i64 12, .int .i64 17, .int .i64 22, .int .i64 5, .int .i64 9, .int .i64 14, .int .i64 20, .int .i64 4, .int .i64 11, .int .i64 16, .int .i64 23, .int .i64 6, .int .i64 10, .int .i64 15, .int .i64 21] : List Value)[4 * (i / 16) + i % 4]? = some (.int .i64 (md5Tu i : Nat)) := by
  intro i hi
  have h1 : i / 16 = 0 ∨ i / 16 = 1 ∨ i / 16 = 2 ∨ i / 16 = 3 := by omega
  have h2 : i % 4 = 0 ∨ i % 4 = 1 ∨ i % 4 = 2 ∨ i % 4 = 3 := by omega
  unfold md5Tu
  rcases h1 with h1 | h1 | h1 | h1 <;> rcases h2 with h2 | h2 | h2 | h2 <;> rw [h1, h2] <;> rfl
theorem r02_turn (i : Nat) (hi : i < 64) (w : World) :
    Calls Tryz.prog 61 #[.int .i64 (i : Int)] w fun e w' => e = .returned (.int .i64 (md5Tu i : Nat)) ∧ Below w.heap.size w w' := by
  obtain ⟨q, hq⟩ : ∃ q, i / 16 = q := ⟨_, rfl⟩
  obtain ⟨r, hr⟩ : ∃ r, i % 4 = r := ⟨_, rfl⟩
  obtain ⟨t, ht⟩ : ∃ t, 4 * q + r = t := ⟨_, rfl⟩
  have c0 := (Blk.new w [.int .i64 7, .int .i64 12, .int .i64 17, .int .i64 22, .int .i64 5, .int .i64 9, .int .i64 14, .int .i64 20, .int .i64 4, .int .i64 11, .int .i64 16, .int .i64 23, .int .i64 6, .int .i64 10, .int .i64 15, .int .i64 21] 3).cell t _ (by rw [← ht, ← hq, ← hr]; exact turn_at i hi)
  obtain ⟨tu, htu⟩ : ∃ tu, md5Tu i = tu := ⟨_, rfl⟩
  rw [htu] at c0 ⊢
  have L0 : Hid (Below w.heap.size w (w.alloc (.cells #[.int .i64 7, .int .i64 12, .int .i64 17, .int .i64 22, .int .i64 5, .int .i64 9, .int .i64 14, .int .i64 20, .int .i64 4, .int .i64 11, .int .i64 16, .int .i64 23, .int .i64 6, .int .i64 10, .int .i64 15, .int .i64 21] 3))) := (Below.refl _ _).alloc (Nat.le_refl _) _
  obtain ⟨W1, hW1⟩ : ∃ W1, w.alloc (.cells #[.int .i64 7, .int .i64 12, .int .i64 17, .int .i64 22, .int .i64 5, .int .i64 9, .int .i64 14, .int .i64 20, .int .i64 4, .int .i64 11, .int .i64 16, .int .i64 23, .int .i64 6, .int .i64 10, .int .i64 15, .int .i64 21] 3) = W1 := ⟨_, rfl⟩
  have c1 : W1.cell? ⟨w.heap.size, t, none⟩ = some (.int .i64 tu) := by rw [← hW1]; exact c0
  rw [hW1] at L0
  have e1 : (i : Int) / 16 = (q : Int) := by omega
  have e2 : (i : Int) % 4 = (r : Int) := by omega
  have e3 : (4 : Int) * (q : Int) + (r : Int) = (t : Int) := by omega
  have ht16 : (t : Int) < 16 := by omega
  clear hq hr ht htu c0
  go_enter Tryz.func61, Tryz.ntmps61
  go_wp2_with fail
  go_ret
  exact ⟨rfl, L0.out⟩
end
theorem wordsN_le (kd : Nat) : wordsN kd ≤ 8 := by unfold wordsN; split; decide; split <;> decide
theorem take_compress1 (st : List B32) (blk : List UInt8) {a b c d : B32} (h : st.take 4 = [a, b, c, d]) (hl : st.length = 8) :
    (compress 1 st blk).take 4 = [a + (md5Run (wordsOf true blk) ⟨a, b, c, d⟩ 64).a, b + (md5Run (wordsOf true blk) ⟨a, b, c, d⟩ 64).b, c + (md5Run (wordsOf true blk) ⟨a, b, c, d⟩ 64).c, d + (md5Run (wordsOf true blk) ⟨a, b, c, d⟩ 64).d] := by
  match st, hl with
  | [a', b', c', d', e, f, g, i], _ =>
    simp at h
    obtain ⟨rfl, rfl, rfl, rfl⟩ := h
    simp [compress, afterB, md5After, BitVec.add_comm]
theorem take_compress2 (st : List B32) (blk : List UInt8) {a b c d e : B32} (h : st.take 5 = [a, b, c, d, e]) (hl : st.length = 8) {s : S5} (hs : sha1Run (sha1W (wordsOf false blk) 64) ⟨a, b, c, d, e⟩ 80 = s) :
    (compress 2 st blk).take 5 = [a + s.a, b + s.b, c + s.c, d + s.d, e + s.e] := by
  match st, hl with
  | [a', b', c', d', e', f, g, i], _ =>
    simp at h
    obtain ⟨rfl, rfl, rfl, rfl, rfl⟩ := h
    subst hs
    simp [compress, afterB, sha1After, sha1End, BitVec.add_comm]
theorem take_compress3 (st : List B32) (blk : List UInt8) {a b c d e f g i : B32} (h : st = [a, b, c, d, e, f, g, i]) {s : S8} (hs : shaRun (shaW (wordsOf false blk) 48) ⟨a, b, c, d, e, f, g, i⟩ 64 = s) :
    compress 3 st blk = [a + s.a, b + s.b, c + s.c, d + s.d, e + s.e, f + s.f, g + s.g, i + s.h] := by
  subst h hs
  simp [compress, afterB, shaAfter, shaEnd, BitVec.add_comm]
section
open Go.RowKit
def hexDs : List UInt8 := [48, 49, 50, 51, 52, 53, 54, 55, 56, 57, 97, 98, 99, 100, 101, 102]
def hexD (k : Nat) : UInt8 := hexDs.getD k 48
def hexT (l : List UInt8) : List UInt8 := l.flatMap fun c => [hexD (c.toNat / 16), hexD (c.toNat % 16)]
theorem hexT_snoc {l : List UInt8} {i : Nat} {c : UInt8} (h : l[i]? = some c) : hexT (l.take (i + 1)) = hexT (l.take i) ++ [hexD (c.toNat / 16), hexD (c.toNat % 16)] := by
  unfold hexT
  rw [List.take_add_one, h, List.flatMap_append]
  rfl
theorem run_hexD : ∀ k : Nat, k < 16 → ∀ W : World, (Instr.index 9 (.string ⟨#[48, 49, 50, 51, 52, 53, 54, 55, 56, 57, 97, 98, 99, 100, 101, 102]⟩) (.int .u8 (k : Int))).run Tryz.prog W = .ok (.int .u8 (hexD k).toNat) W := by
  intro k hk W
  rcases (show k = 0 ∨ k = 1 ∨ k = 2 ∨ k = 3 ∨ k = 4 ∨ k = 5 ∨ k = 6 ∨ k = 7 ∨ k = 8 ∨ k = 9 ∨ k = 10 ∨ k = 11 ∨ k = 12 ∨ k = 13 ∨ k = 14 ∨ k = 15 by omega) with rfl | rfl | rfl | rfl | rfl | rfl | rfl | rfl | rfl | rfl | rfl | rfl | rfl | rfl | rfl | rfl <;> kernel_rfl
theorem and15 : ∀ k : Nat, k < 256 → bits .and .u8 (k : Int) 15 = ((k % 16 : Nat) : Int) := by decide
theorem reads_two (w : World) (t : TypeId) (x y : Value) : Reads ((w.alloc (.cells #[x, y] t)).drew) (w.heap.size + 1) 1 (some ⟨w.heap.size, 0, none⟩) 2 [x, y] := by
  refine ⟨rfl, fun _ => ⟨_, rfl, by simp, fun j u hu => ?_⟩⟩
  rw [add_at]
  exact (Blk.new w [x, y] t).cell j u hu
theorem codec_Hex (n c : Nat) (A : Option Addr) (bs : List UInt8) (w : World) (hr : Rd w 1 A n (bs.map vb)) (hn : n ≤ 1000000) :
    Calls Tryz.prog 14 #[.slice A n c] w fun e w' => e = .returned (.string ⟨(hexT bs).toArray⟩) ∧ Below w.heap.size w w' := by
  obtain ⟨i0, hi0, hz0, hz1, hz2⟩ := info_parts info_u8b
  have HR := Lib.hid hr
  have HBL : Hid (bs.length = n) := vb_map_len hr
  have e2 : (2 : Int) * (n : Int) = ((2 * n : Nat) : Int) := by omega
  obtain ⟨n2, hn2⟩ : ∃ n2, 2 * n = n2 := ⟨_, rfl⟩
  rw [hn2] at e2
  have HN2 := Lib.hid hn2
  have hn2b : n2 ≤ 2000000 := by omega
  clear hr hn2
  go_enter Tryz.func14, Tryz.ntmps14
  go_wp2_with (
    refine wpList_make_own _ rfl _ _ 22 rfl w.heap.size 5 i0 _ 1 Tryz.underlying22 hi0 hz0 hz1 .i64 .i64 _ n2 rfl rfl rfl (by rw [hz2]; omega) (by simp only [maxLen]; omega) (by omega) ?_
    intro w1 hr1 hg1)
  have O1 := Lib.hid hr1
  have L1 := Lib.hid ((Below.refl w.heap.size w).grown hg1 (Nat.le_refl _) (by simp))
  clear hr1 hg1
  go_wp2_with fail
  go_loopw [12, 3] (fun s12 s3 wr => ∃ (i q : Nat) (Ao : Option Addr) (co : Nat), i ≤ n ∧ s12 = .int .i64 i ∧ s3 = .slice Ao q co ∧ q ≤ 2000000 ∧ Hid (q = 2 * i) ∧ Hid (wr.ownsRow w.heap.size 5 1 (.slice Ao q co) q (Lib.byteCells (hexT (bs.take i)))) ∧ Hid (Below w.heap.size w wr)) (fun s12 _ _ => n - (intOf s12).toNat)
  case atStart => exact ⟨0, 0, _, _, by omega, rfl, rfl, by omega, rfl, O1, L1⟩
  case round =>
    obtain ⟨i, q, Ao, co, hi, rfl, rfl, hq, HQ, HO, HL⟩ := hrel
    by_cases hlt : i < n
    · obtain ⟨ch, hch⟩ : ∃ ch, bs[i]? = some ch := ⟨_, List.getElem?_eq_getElem (by rw [HBL.out]; exact hlt)⟩
      obtain ⟨b, off, hA, he⟩ := (HR.out.below HL.out).2 (by omega)
      have c0 := he i (vb ch) (by rw [List.getElem?_map, hch]; rfl)
      have hix := fun W => idx_of (T := 22) (E := 5) (sz := 1) (c := c) Tryz.underlying22 rfl Tryz.sizeOf5 hA hlt W
      have hcl := ch.toNat_lt
      obtain ⟨h1, hh1⟩ : ∃ k, ch.toNat / 16 = k := ⟨_, rfl⟩
      obtain ⟨h2, hh2⟩ : ∃ k, ch.toNat % 16 = k := ⟨_, rfl⟩
      have x1 : (ch.toNat : Int) / 16 = (h1 : Int) := by omega
      have x2 : (ch.toNat : Int) % 16 = (h2 : Int) := by omega
      have x3 : bits .and .u8 (ch.toNat : Int) 15 = (h2 : Int) := by rw [and15 ch.toNat hcl, hh2]
      have hx1 := run_hexD h1 (by omega)
      have hx2 := run_hexD h2 (by omega)
      obtain ⟨d1, hd1⟩ : ∃ d, hexD h1 = d := ⟨_, rfl⟩
      obtain ⟨d2, hd2⟩ : ∃ d, hexD h2 = d := ⟨_, rfl⟩
      rw [hd1] at hx1
      rw [hd2] at hx2
      have HN : Hid (Lib.byteCells (hexT (bs.take (i + 1))) = Lib.byteCells (hexT (bs.take i)) ++ [.int .u8 d1.toNat, .int .u8 d2.toNat]) := by
        show _ = _
        rw [hexT_snoc hch, hh1, hh2, hd1, hd2]
        simp [Lib.byteCells]
      have hq2 : q + 2 ≤ 2000000 := by have := HQ.out; omega
      have HQ2 : Hid (q + 2 = 2 * (i + 1)) := by have := HQ.out; show _ = _; omega
      have hwz := HL.out.size
      unfold vb at c0
      clear hA he hch hh1 hh2 hd1 hd2
      go_wp2_with fail
      go_region_law (
        refine step_append_any _ (by rfl) _ _ _ (by rfl) w.heap.size 5 i0 _ 1 1 Tryz.underlying22 hi0 hz0 hz1 hz2 rfl (by omega) (.slice Ao q co) q _ (by rfl) ((HO.out.alloc _).drew) (wr.heap.size + 1) (some ⟨wr.heap.size, 0, none⟩) 2 2 _ (by rfl) (reads_two wr _ _ _) (by simp [Value.oneCell']) (by simp only [maxLen]; omega) (by omega) (by simp; omega) ?_
        intro v1 w6 hown1 hg1 hat1)
      all_goals
        obtain ⟨A1, c1, rfl⟩ := owns_form hown1
        have O6 : Hid (w6.ownsRow w.heap.size 5 1 (.slice A1 (q + 2) c1) (q + 2) (Lib.byteCells (hexT (bs.take (i + 1))))) := by
          show World.ownsRow _ _ _ _ _ _ _
          rw [HN.out]
          exact hown1
        have L6 : Hid (Below w.heap.size w w6) := (below_drewN (HL.out.alloc hwz _) 1).grown hg1 (Nat.le_trans hwz (by simp)) (fun p hp => (HO.out.lt p hp).1)
        clear hown1 hg1 hat1
        go_wp2_with fail
        go_roundw
        case rel => exact ⟨i + 1, q + 2, A1, c1, by omega, by go_num, rfl, hq2, HQ2, O6, L6⟩
        case measure => simp [intOf]; omega
    · have HI : Hid (i = n) := by show _ = _; omega
      have hO := HO.out
      rw [HI.out, List.take_of_length_le (by rw [HBL.out]; exact Nat.le_refl _)] at hO
      have hlen : (hexT bs).length = q := by have := hO.1; simpa [Lib.byteCells] using this
      have hcv : (convert 22 9 (.slice Ao q co)).run Tryz.prog wr = .ok (.string ⟨(hexT bs).toArray⟩) wr := by
        rcases hO.2 with ⟨hv, _⟩ | ⟨g, cap, cur, hv, _⟩
        · injection hv with h1 h2 h3
          subst h1 h2 h3
          have hnil : hexT bs = [] := List.length_eq_zero_iff.1 hlen
          rw [hnil]
          simp [convert, run_underlying Tryz.underlying22, run_underlying Tryz.underlying5, run_underlying Tryz.underlying9, Conv.bytesToString]
          rfl
        · injection hv with h1 h2 h3
          subst h1 h3
          have h := run_convert_bytes_back (P := Tryz.prog) wr 22 9 5 ⟨g, 0, none⟩ co (hexT bs) Tryz.underlying22 Tryz.underlying5 Tryz.underlying9 (fun j hj => by
            refine hO.cells (g := g) rfl j _ ?_
            unfold Lib.byteCells; rw [List.getElem?_map, List.getElem?_eq_getElem hj]; rfl)
          rw [hlen] at h
          exact h
      clear hO hlen
      go_wp2_with fail
      go_ret
      exact ⟨rfl, HL.out⟩
theorem r01_Hex (n c : Nat) (A : Option Addr) (bs : List UInt8) (w : World) (hr : Rd w 1 A n (bs.map vb)) (hn : n ≤ 1000000) :
    Calls Tryz.prog 16 #[.slice A n c] w fun e w' => e = .returned (.string ⟨(hexT bs).toArray⟩) ∧ Below w.heap.size w w' := by
  obtain ⟨i0, hi0, hz0, hz1, hz2⟩ := info_parts info_u8b
  have HR := Lib.hid hr
  have HBL : Hid (bs.length = n) := vb_map_len hr
  clear hr
  go_enter Tryz.func16, Tryz.ntmps16
  go_wp2_with fail
  go_loopw [4, 3] (fun s12 s3 wr => ∃ (i q : Nat) (Ao : Option Addr) (co : Nat), i ≤ n ∧ s12 = .int .i64 i ∧ s3 = .slice Ao q co ∧ q ≤ 2000000 ∧ Hid (q = 2 * i) ∧ Hid (wr.ownsRow w.heap.size 5 1 (.slice Ao q co) q (Lib.byteCells (hexT (bs.take i)))) ∧ Hid (Below w.heap.size w wr)) (fun s12 _ _ => n - (intOf s12).toNat)
  case atStart => exact ⟨0, 0, none, 0, by omega, rfl, rfl, by omega, rfl, World.ownsRow_nil _ _ _ _, Below.refl _ _⟩
  case round =>
    obtain ⟨i, q, Ao, co, hi, rfl, rfl, hq, HQ, HO, HL⟩ := hrel
    by_cases hlt : i < n
    · obtain ⟨ch, hch⟩ : ∃ ch, bs[i]? = some ch := ⟨_, List.getElem?_eq_getElem (by rw [HBL.out]; exact hlt)⟩
      obtain ⟨b, off, hA, he⟩ := (HR.out.below HL.out).2 (by omega)
      have c0 := he i (vb ch) (by rw [List.getElem?_map, hch]; rfl)
      have hix := fun W => idx_of (T := 22) (E := 5) (sz := 1) (c := c) Tryz.underlying22 rfl Tryz.sizeOf5 hA hlt W
      have hcl := ch.toNat_lt
      obtain ⟨h1, hh1⟩ : ∃ k, ch.toNat / 16 = k := ⟨_, rfl⟩
      obtain ⟨h2, hh2⟩ : ∃ k, ch.toNat % 16 = k := ⟨_, rfl⟩
      have x1 : (ch.toNat : Int) / 16 = (h1 : Int) := by omega
      have x2 : (ch.toNat : Int) % 16 = (h2 : Int) := by omega
      have x3 : IntKind.u8.wrap (h1 : Int) = (h1 : Int) := IntWalk.u8_in _ (by omega)
      have x4 : (ch.toNat : Int).tdiv 16 = (h1 : Int) := by rw [Int.tdiv_eq_ediv_of_nonneg (by omega)]; omega
      have x5 : (ch.toNat : Int).tmod 16 = (h2 : Int) := by rw [Int.tmod_eq_emod_of_nonneg (by omega)]; omega
      have hx1 := run_hexD h1 (by omega)
      have hx2 := run_hexD h2 (by omega)
      obtain ⟨d1, hd1⟩ : ∃ d, hexD h1 = d := ⟨_, rfl⟩
      obtain ⟨d2, hd2⟩ : ∃ d, hexD h2 = d := ⟨_, rfl⟩
      rw [hd1] at hx1
      rw [hd2] at hx2
      have HN : Hid (Lib.byteCells (hexT (bs.take (i + 1))) = Lib.byteCells (hexT (bs.take i)) ++ [.int .u8 d1.toNat, .int .u8 d2.toNat]) := by
        show _ = _
        rw [hexT_snoc hch, hh1, hh2, hd1, hd2]
        simp [Lib.byteCells]
      have hq2 : q + 2 ≤ 2000000 := by have := HQ.out; omega
      have HQ2 : Hid (q + 2 = 2 * (i + 1)) := by have := HQ.out; show _ = _; omega
      have hwz := HL.out.size
      unfold vb at c0
      clear hA he hch hh1 hh2 hd1 hd2
      go_wp2_with fail
      go_region_law (
        refine step_append_any _ (by rfl) _ _ _ (by rfl) w.heap.size 5 i0 _ 1 1 Tryz.underlying22 hi0 hz0 hz1 hz2 rfl (by omega) (.slice Ao q co) q _ (by rfl) ((HO.out.alloc _).drew) (wr.heap.size + 1) (some ⟨wr.heap.size, 0, none⟩) 2 2 _ (by rfl) (reads_two wr _ _ _) (by simp [Value.oneCell']) (by simp only [maxLen]; omega) (by omega) (by simp; omega) ?_
        intro v1 w6 hown1 hg1 hat1)
      all_goals
        obtain ⟨A1, c1, rfl⟩ := owns_form hown1
        have O6 : Hid (w6.ownsRow w.heap.size 5 1 (.slice A1 (q + 2) c1) (q + 2) (Lib.byteCells (hexT (bs.take (i + 1))))) := by
          show World.ownsRow _ _ _ _ _ _ _
          rw [HN.out]
          exact hown1
        have L6 : Hid (Below w.heap.size w w6) := (below_drewN (HL.out.alloc hwz _) 1).grown hg1 (Nat.le_trans hwz (by simp)) (fun p hp => (HO.out.lt p hp).1)
        clear hown1 hg1 hat1
        go_wp2_with fail
        go_roundw
        case rel => exact ⟨i + 1, q + 2, A1, c1, by omega, by go_num, rfl, hq2, HQ2, O6, L6⟩
        case measure => simp [intOf]; omega
    · have HI : Hid (i = n) := by show _ = _; omega
      have hO := HO.out
      rw [HI.out, List.take_of_length_le (by rw [HBL.out]; exact Nat.le_refl _)] at hO
      have hlen : (hexT bs).length = q := by have := hO.1; simpa [Lib.byteCells] using this
      have hcv : (convert 22 9 (.slice Ao q co)).run Tryz.prog wr = .ok (.string ⟨(hexT bs).toArray⟩) wr := by
        rcases hO.2 with ⟨hv, _⟩ | ⟨g, cap, cur, hv, _⟩
        · injection hv with h1 h2 h3
          subst h1 h2 h3
          have hnil : hexT bs = [] := List.length_eq_zero_iff.1 hlen
          rw [hnil]
          simp [convert, run_underlying Tryz.underlying22, run_underlying Tryz.underlying5, run_underlying Tryz.underlying9, Conv.bytesToString]
          rfl
        · injection hv with h1 h2 h3
          subst h1 h3
          have h := run_convert_bytes_back (P := Tryz.prog) wr 22 9 5 ⟨g, 0, none⟩ co (hexT bs) Tryz.underlying22 Tryz.underlying5 Tryz.underlying9 (fun j hj => by
            refine hO.cells (g := g) rfl j _ ?_
            unfold Lib.byteCells; rw [List.getElem?_map, List.getElem?_eq_getElem hj]; rfl)
          rw [hlen] at h
          exact h
      clear hO hlen
      go_wp2_with fail
      go_ret
      exact ⟨rfl, HL.out⟩
end
end Go.Proofs.YtlhchpeecfbgnaaGreatDoor
