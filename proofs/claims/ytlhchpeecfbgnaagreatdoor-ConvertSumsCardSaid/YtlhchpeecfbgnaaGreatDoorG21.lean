/- A part of the proof that the digests of any content are the three of it, and that an installed set is new memory. No condition. -/
import Derived.Test.YtlhchpeecfbgnaaGreatDoorProg
import Derived.Below
import Derived.Lib.Hide
import Derived.WalkKit
set_option maxRecDepth 100000
set_option maxHeartbeats 20000000
set_option linter.unusedVariables false
set_option linter.unusedSimpArgs false
namespace Go.Proofs.YtlhchpeecfbgnaaGreatDoor
section
open Go.RowKit
def nv (x : BitVec 32) : Int := (x.toNat : Int)
theorem nv_lo (x : BitVec 32) : 0 ≤ nv x := by unfold nv; omega
theorem nv_hi (x : BitVec 32) : nv x ≤ 4294967295 := by have := x.isLt; unfold nv; omega
theorem nv_ofInt (x : BitVec 32) : BitVec.ofInt 32 (nv x) = x := by
  unfold nv
  rw [BitVec.ofInt_natCast, BitVec.ofNat_toNat, BitVec.setWidth_eq]
theorem nv_wrap (x : BitVec 32) : IntKind.u32.wrap (x.toNat : Int) = nv x := IntWalk.u32_in _ ⟨nv_lo x, nv_hi x⟩
theorem nv_and (x y : BitVec 32) : bits .and .u32 (nv x) (nv y) = nv (x &&& y) := by
  show IntKind.u32.wrap ((BitVec.ofInt 32 (nv x) &&& BitVec.ofInt 32 (nv y)).toNat : Int) = _
  rw [nv_ofInt, nv_ofInt, nv_wrap]
theorem nv_or (x y : BitVec 32) : bits .or .u32 (nv x) (nv y) = nv (x ||| y) := by
  show IntKind.u32.wrap ((BitVec.ofInt 32 (nv x) ||| BitVec.ofInt 32 (nv y)).toNat : Int) = _
  rw [nv_ofInt, nv_ofInt, nv_wrap]
theorem nv_xor (x y : BitVec 32) : bits .xor .u32 (nv x) (nv y) = nv (x ^^^ y) := by
  show IntKind.u32.wrap ((BitVec.ofInt 32 (nv x) ^^^ BitVec.ofInt 32 (nv y)).toNat : Int) = _
  rw [nv_ofInt, nv_ofInt, nv_wrap]
theorem nv_not (x : BitVec 32) : bits .xor .u32 4294967295 (nv x) = nv (~~~x) := by
  show IntKind.u32.wrap ((BitVec.ofInt 32 (4294967295 : Int) ^^^ BitVec.ofInt 32 (nv x)).toNat : Int) = _
  rw [nv_ofInt, show BitVec.ofInt 32 (4294967295 : Int) = BitVec.allOnes 32 from rfl, BitVec.allOnes_xor, nv_wrap]
theorem nv_add (x y : BitVec 32) : (nv x + nv y) % 4294967296 = nv (x + y) := by
  unfold nv
  rw [BitVec.toNat_add]
  omega
theorem nv_addw (x y : BitVec 32) : IntKind.u32.wrap (nv x + nv y) = nv (x + y) := by rw [IntKind.wrap_u32, nv_add]
theorem nv_shl (x : BitVec 32) (k : Nat) : nv x * 2 ^ k % 4294967296 = nv (x <<< k) := by
  unfold nv
  rw [BitVec.toNat_shiftLeft, Nat.shiftLeft_eq]
  simp
theorem nv_shr (x : BitVec 32) (k : Nat) : nv x / 2 ^ k = nv (x >>> k) := by
  unfold nv
  rw [BitVec.toNat_ushiftRight, Nat.shiftRight_eq_div_pow]
  simp
def rl (k : Nat) (x : BitVec 32) : BitVec 32 := (x <<< k) ||| (x >>> (32 - k))
def rr (k : Nat) (x : BitVec 32) : BitVec 32 := rl (32 - k) x
theorem w_ad (x y : BitVec 32) : ∃ z, IntKind.u32.wrap (nv x + nv y) = nv z ∧ (nv x + nv y) % 4294967296 = nv z ∧ Hid (z = x + y) := ⟨_, nv_addw _ _, nv_add _ _, rfl⟩
theorem w_and (x y : BitVec 32) : ∃ z, bits .and .u32 (nv x) (nv y) = nv z ∧ Hid (z = x &&& y) := ⟨_, nv_and _ _, rfl⟩
theorem w_or (x y : BitVec 32) : ∃ z, bits .or .u32 (nv x) (nv y) = nv z ∧ Hid (z = x ||| y) := ⟨_, nv_or _ _, rfl⟩
theorem w_xor (x y : BitVec 32) : ∃ z, bits .xor .u32 (nv x) (nv y) = nv z ∧ Hid (z = x ^^^ y) := ⟨_, nv_xor _ _, rfl⟩
theorem w_not (x : BitVec 32) : ∃ z, bits .xor .u32 (if IntKind.u32.signed = true then -1 else IntKind.u32.max) (nv x) = nv z ∧ Hid (z = ~~~x) := ⟨_, nv_not _, rfl⟩
theorem and31 : ∀ k : Nat, k < 32 → bits .and .u64 (k : Int) 31 = (k : Int) := by decide
theorem bits_rot (x : BitVec 32) (k : Nat) (hk : k < 32) (hk0 : 0 < k) (w : World) :
    Calls Tryz.prog 128 #[.int .u32 (nv x), .int .i64 (k : Int)] w fun e w' => e = .returned (.int .u32 (nv (rl k x))) ∧ w' = w := by
  have hs := nv_shl x k
  have hr := nv_shr x (32 - k)
  have ha := and31 k hk
  have ho := nv_or (x <<< k) (x >>> (32 - k))
  rw [show x <<< k ||| x >>> (32 - k) = rl k x from rfl] at ho
  have e32 : IntKind.u64.wrap (32 - (k : Int)) = 32 - (k : Int) := IntWalk.u64_in _ (by omega)
  go_enter Tryz.func128, Tryz.ntmps128
  go_wp2_with fail
  go_ret
  exact ⟨rfl, rfl⟩
theorem digest_right (x : BitVec 32) (k : Nat) (hk : k < 32) (hk0 : 0 < k) (w : World) :
    Calls Tryz.prog 129 #[.int .u32 (nv x), .int .i64 (k : Int)] w fun e w' => e = .returned (.int .u32 (nv (rr k x))) ∧ w' = w := by
  go_enter Tryz.func129, Tryz.ntmps129
  go_wp2_with fail
  rw [show (32 : Int) - (k : Int) = ((32 - k : Nat) : Int) by omega]
  refine (bits_rot x (32 - k) (by omega) (by omega) w).mono ?_; rintro e w' ⟨rfl, rfl⟩
  go_wp2_with fail
  go_ret
  exact ⟨rfl, rfl⟩
end
abbrev B32 := BitVec 32
def vw (x : B32) : Value := .int .u32 (nv x)
def vb (c : UInt8) : Value := .int .u8 c.toNat
def md5L : List B32 := [3614090360, 3905402710, 606105819, 3250441966, 4118548399, 1200080426, 2821735955, 4249261313, 1770035416, 2336552879, 4294925233, 2304563134, 1804603682, 4254626195, 2792965006, 1236535329, 4129170786, 3225465664, 643717713, 3921069994, 3593408605, 38016083, 3634488961, 3889429448, 568446438, 3275163606, 4107603335, 1163531501, 2850285829, 4243563512, 1735328473, 2368359562, 4294588738, 2272392833, 1839030562, 4259657740, 2763975236, 1272893353, 4139469664, 3200236656, 681279174, 3936430074, 3572445317, 76029189, 3654602809, 3873151461, 530742520, 3299628645, 4096336452, 1126891415, 2878612391, 4237533241, 1700485571, 2399980690, 4293915773, 2240044497, 1873313359, 4264355552, 2734768916, 1309151649, 4149444226, 3174756917, 718787259, 3951481745]
def shaL : List B32 := [1116352408, 1899447441, 3049323471, 3921009573, 961987163, 1508970993, 2453635748, 2870763221, 3624381080, 310598401, 607225278, 1426881987, 1925078388, 2162078206, 2614888103, 3248222580, 3835390401, 4022224774, 264347078, 604807628, 770255983, 1249150122, 1555081692, 1996064986, 2554220882, 2821834349, 2952996808, 3210313671, 3336571891, 3584528711, 113926993, 338241895, 666307205, 773529912, 1294757372, 1396182291, 1695183700, 1986661051, 2177026350, 2456956037, 2730485921, 2820302411, 3259730800, 3345764771, 3516065817, 3600352804, 4094571909, 275423344, 430227734, 506948616, 659060556, 883997877, 958139571, 1322822218, 1537002063, 1747873779, 1955562222, 2024104815, 2227730452, 2361852424, 2428436474, 2756734187, 3204031479, 3329325298]
def md5T (i : Nat) : B32 := md5L.getD i 0
def shaT (i : Nat) : B32 := shaL.getD i 0
def md5Tu (i : Nat) : Nat := [7, 12, 17, 22, 5, 9, 14, 20, 4, 11, 16, 23, 6, 10, 15, 21].getD (4 * (i / 16) + i % 4) 1
def md5F (q : Nat) (b c d : B32) : B32 := if q = 0 then b &&& c ||| ~~~b &&& d else if q = 1 then d &&& b ||| ~~~d &&& c else if q = 2 then b ^^^ c ^^^ d else c ^^^ (b ||| ~~~d)
def md5G (q i : Nat) : Nat := if q = 0 then i else if q = 1 then (5 * i + 1) % 16 else if q = 2 then (3 * i + 5) % 16 else 7 * i % 16
structure S4 where
  a : B32
  b : B32
  c : B32
  d : B32
def md5Step (w : List B32) (i : Nat) (s : S4) : S4 := ⟨s.d, s.b + rl (md5Tu i) (s.a + md5F (i / 16) s.b s.c s.d + md5T i + w.getD (md5G (i / 16) i) 0), s.b, s.c⟩
def md5Run (w : List B32) (s : S4) : Nat → S4
  | 0 => s
  | n + 1 => md5Step w n (md5Run w s n)
structure S5 where
  a : B32
  b : B32
  c : B32
  d : B32
  e : B32
def sha1F (q : Nat) (b c d : B32) : B32 := if q = 0 then b &&& c ||| ~~~b &&& d else if q = 1 then b ^^^ c ^^^ d else if q = 2 then b &&& c ||| b &&& d ||| c &&& d else b ^^^ c ^^^ d
def sha1K (q : Nat) : B32 := if q = 0 then 0x5a827999 else if q = 1 then 0x6ed9eba1 else if q = 2 then 0x8f1bbcdc else 0xca62c1d6
def sha1X (l : List B32) (i : Nat) : B32 := rl 1 (l.getD (i - 3) 0 ^^^ l.getD (i - 8) 0 ^^^ l.getD (i - 14) 0 ^^^ l.getD (i - 16) 0)
def sha1W (w : List B32) : Nat → List B32
  | 0 => w
  | n + 1 => sha1W w n ++ [sha1X (sha1W w n) (16 + n)]
def sha1Step (l : List B32) (i : Nat) (s : S5) : S5 := ⟨rl 5 s.a + sha1F (i / 20) s.b s.c s.d + s.e + sha1K (i / 20) + l.getD i 0, s.a, rl 30 s.b, s.c, s.d⟩
def sha1Run (l : List B32) (s : S5) : Nat → S5
  | 0 => s
  | n + 1 => sha1Step l n (sha1Run l s n)
structure S8 where
  a : B32
  b : B32
  c : B32
  d : B32
  e : B32
  f : B32
  g : B32
  h : B32
def shaS0 (x : B32) : B32 := rr 7 x ^^^ rr 18 x ^^^ x >>> 3
def shaS1 (x : B32) : B32 := rr 17 x ^^^ rr 19 x ^^^ x >>> 10
def shaX (l : List B32) (i : Nat) : B32 := l.getD (i - 16) 0 + shaS0 (l.getD (i - 15) 0) + l.getD (i - 7) 0 + shaS1 (l.getD (i - 2) 0)
def shaW (w : List B32) : Nat → List B32
  | 0 => w
  | n + 1 => shaW w n ++ [shaX (shaW w n) (16 + n)]
def sha1T1 (l : List B32) (i : Nat) (s : S8) : B32 := s.h + (rr 6 s.e ^^^ rr 11 s.e ^^^ rr 25 s.e) + (s.e &&& s.f ^^^ ~~~s.e &&& s.g) + shaT i + l.getD i 0
def sha1T2 (s : S8) : B32 := (rr 2 s.a ^^^ rr 13 s.a ^^^ rr 22 s.a) + (s.a &&& s.b ^^^ s.a &&& s.c ^^^ s.b &&& s.c)
def shaStep (l : List B32) (i : Nat) (s : S8) : S8 := ⟨sha1T1 l i s + sha1T2 s, s.a, s.b, s.c, s.d + sha1T1 l i s, s.e, s.f, s.g⟩
def shaRun (l : List B32) (s : S8) : Nat → S8
  | 0 => s
  | n + 1 => shaStep l n (shaRun l s n)
theorem md5Tu_ok : ∀ i : Nat, i < 64 → 0 < md5Tu i ∧ md5Tu i < 32 := by decide
theorem md5G_lt (i : Nat) (hi : i < 64) : md5G (i / 16) i < 16 := by
  unfold md5G
  split
  · omega
  · split
    · omega
    · split <;> omega
end Go.Proofs.YtlhchpeecfbgnaaGreatDoor
