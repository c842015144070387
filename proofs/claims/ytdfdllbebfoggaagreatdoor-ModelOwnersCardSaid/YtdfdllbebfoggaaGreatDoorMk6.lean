/- Contracts: two lists held against each other. -/
import Derived.Test.YtdfdllbebfoggaaGreatDoorMk5
import Derived.Test.YtdfdllbebfoggaaGreatDoorMa2
import Derived.Test.YtdfdllbebfoggaaGreatDoorGl
import Derived.Test.YtdfdllbebfoggaaGreatDoorGl
namespace Go.Proofs.YtdfdllbebfoggaaGreatDoor
open Go.RowKit

def eqL {α : Type} (eq : α → α → Bool) : List α → List α → Bool
  | [], [] => true
  | a :: r, b :: s => eq a b && eqL eq r s
  | _, _ => false
theorem eqL_length {α : Type} (eq : α → α → Bool) : ∀ (l m : List α), l.length ≠ m.length → eqL eq l m = false
  | [], [], h => absurd rfl h
  | [], _ :: _, _ => rfl
  | _ :: _, [], _ => rfl
  | a :: r, b :: s, h => by simp only [eqL]; rw [eqL_length eq r s (by simpa using h)]; simp
theorem eqL_bad {α : Type} (eq : α → α → Bool) : ∀ (l m : List α) (k : Nat) (x y : α), l[k]? = some x → m[k]? = some y → eq x y = false → eqL eq l m = false
  | [], _, k, x, y, h, _, _ => by simp at h
  | _ :: _, [], k, x, y, _, h, _ => by simp at h
  | a :: r, b :: s, 0, x, y, h, h', he => by simp at h h'; subst h h'; simp [eqL, he]
  | a :: r, b :: s, k + 1, x, y, h, h', he => by
    simp only [eqL]; rw [eqL_bad eq r s k x y (by simpa using h) (by simpa using h') he]; simp
theorem eqL_good {α : Type} (eq : α → α → Bool) : ∀ (l m : List α), l.length = m.length → (∀ (i : Nat) (x y : α), l[i]? = some x → m[i]? = some y → eq x y = true) → eqL eq l m = true
  | [], [], _, _ => rfl
  | [], _ :: _, h, _ => by simp at h
  | _ :: _, [], h, _ => by simp at h
  | a :: r, b :: s, h, hi => by
    simp only [eqL]
    rw [hi 0 a b rfl rfl, eqL_good eq r s (by simpa using h) (fun i x y hx hy => hi (i + 1) x y (by simpa using hx) (by simpa using hy))]
    rfl
def eqB (a b : ByteArray) : Bool := a.toList == b.toList
theorem eqB_eq {x y : ByteArray} (h : eqB x y = true) : x = y := by unfold eqB at h; rw [beq_bl] at h; exact of_decide_eq_true h
theorem eqB_refl (x : ByteArray) : eqB x x = true := by unfold eqB; simp
def eqAtom (x y : AtomM) : Bool := eqB x.nm y.nm && (x.op == y.op) && eqB x.ver y.ver
theorem neq_Atom (x y : AtomM) (w : World) : (binOp .neq 48 (.agg #[.string x.nm, .int .i64 x.op, .string x.ver]) (.agg #[.string y.nm, .int .i64 y.op, .string y.ver])).run Tryz.prog w = .ok (.bool (!eqAtom x y)) w := by
  go_simp
  unfold eqAtom eqB
  (repeat' split) <;> simp_all
theorem eql_Atom (x y : AtomM) (w : World) : (binOp .eql 48 (.agg #[.string x.nm, .int .i64 x.op, .string x.ver]) (.agg #[.string y.nm, .int .i64 y.op, .string y.ver])).run Tryz.prog w = .ok (.bool (eqAtom x y)) w := by
  go_simp
  unfold eqAtom eqB
  (repeat' split) <;> simp_all
set_option maxRecDepth 100000 in
set_option maxHeartbeats 1000000 in
theorem Equal_Atom (A B : Option Addr) (c d : Nat) (l m : List AtomM) (w : World) (h1 : Rd w 3 A l.length (l.flatMap AtomM.cells)) (h2 : Rd w 3 B m.length (m.flatMap AtomM.cells)) (n1 : l.length ≤ 9223372036854775807) (n2 : m.length ≤ 9223372036854775807) :
    Calls Tryz.prog 52 #[.slice A l.length c, .slice B m.length d] w fun e w' => e = .returned (.bool (eqL eqAtom l m)) ∧ Below w.heap.size w w' := by
  have H1 := Lib.hid h1; clear h1
  have H2 := Lib.hid h2; clear h2
  by_cases hl : l.length = m.length
  · have hb : ((l.length : Int) != (m.length : Int)) = false := by simp [hl]
    have HL := Lib.hid hl
    have hle : l.length ≤ m.length := by omega
    clear hl
    go_enter Tryz.func52, Tryz.ntmps52
    go_wp2_with fail
    go_loopw [13] (fun i wr => ∃ (k q : Nat), k ≤ l.length ∧ i = .int .i64 k ∧ wr = w.drewN q ∧ Hid (∀ (i : Nat) (x y : AtomM), i < k → l[i]? = some x → m[i]? = some y → eqAtom x y = true)) (fun i _ => l.length - (intOf i).toNat)
    case atStart => exact ⟨0, 0, Nat.zero_le _, rfl, rfl, fun i x y h => absurd h (Nat.not_lt_zero _)⟩
    case round =>
      obtain ⟨k, q, hk, rfl, rfl, HK⟩ := hrel
      by_cases hlt : k < l.length
      · obtain ⟨x, hx⟩ : ∃ x, l[k]? = some x := ⟨_, List.getElem?_eq_getElem hlt⟩
        have hlt2 : k < m.length := by omega
        obtain ⟨y, hy⟩ : ∃ y, m[k]? = some y := ⟨_, List.getElem?_eq_getElem hlt2⟩
        obtain ⟨b, off, hA, he⟩ := H1.out.elem atom_len k x hx
        obtain ⟨b', off', hA', he'⟩ := H2.out.elem atom_len k y hy
        have e0 := he 0 _ rfl
        have f0 := he' 0 _ rfl
        have e1 := he 1 _ rfl
        have f1 := he' 1 _ rfl
        have e2 := he 2 _ rfl
        have f2 := he' 2 _ rfl
        simp only [Nat.add_zero] at e0 f0
        clear he he'
        have hix := fun W => idx_of (T := 23) (E := 48) (sz := 3) (c := c) Tryz.underlying23 rfl Tryz.sizeOf48 hA hlt W
        have hix' := fun W => idx_of (T := 23) (E := 48) (sz := 3) (c := d) Tryz.underlying23 rfl Tryz.sizeOf48 hA' hlt2 W
        have HX := Lib.hid hx; have HY := Lib.hid hy
        clear hx hy hA hA'
        have hne := neq_Atom x y
        cases hxy : eqAtom x y
        · go_wp2_with fail
          go_quiet (fail)
          go_wp2_with fail
          go_ret
          exact ⟨ret_bool (eqL_bad eqAtom l m k x y HX.out HY.out hxy).symm, below_drewN (below_drewN (Below.refl _ _) _) _⟩
        · go_wp2_with fail
          go_quiet (fail)
          go_wp2_with fail
          have FK : Hid (∀ (i : Nat) (x y : AtomM), i < k + 1 → l[i]? = some x → m[i]? = some y → eqAtom x y = true) := by
            intro i x' y' hi hx' hy'
            rcases Nat.lt_succ_iff_lt_or_eq.1 hi with h | h
            · exact HK.out i x' y' h hx' hy'
            · subst h; rw [HX.out] at hx'; rw [HY.out] at hy'; injection hx' with hx'; injection hy' with hy'; subst hx' hy'; exact hxy
          go_roundw
          case rel => exact ⟨k + 1, _, by omega, by go_num, rfl, FK⟩
          case measure => simp [intOf]; omega
      · go_wp2_with fail
        go_ret
        exact ⟨ret_bool (eqL_good eqAtom l m HL.out (fun i x y hx hy => HK.out i x y (by have := (List.getElem?_eq_some_iff.1 hx).1; omega) hx hy)).symm, below_drewN (Below.refl _ _) _⟩
  · have hb : ((l.length : Int) != (m.length : Int)) = true := by simp; omega
    have HL := Lib.hid hl; clear hl
    go_enter Tryz.func52, Tryz.ntmps52
    go_wp2_with fail
    go_ret
    exact ⟨ret_bool (eqL_length eqAtom l m HL.out).symm, Below.refl _ _⟩

def eqFile (x y : FileM) : Bool := eqB x.path y.path && (x.kind == y.kind) && (x.mode == y.mode) && eqB x.owner y.owner && eqB x.group y.group && eqB x.link y.link && eqB x.sum y.sum && (x.conf == y.conf)
theorem neq_File (x y : FileM) (w : World) : (binOp .neq 46 (.agg #[.string x.path, .int .i64 x.kind, .int .i64 x.mode, .string x.owner, .string x.group, .string x.link, .string x.sum, .bool x.conf]) (.agg #[.string y.path, .int .i64 y.kind, .int .i64 y.mode, .string y.owner, .string y.group, .string y.link, .string y.sum, .bool y.conf])).run Tryz.prog w = .ok (.bool (!eqFile x y)) w := by
  go_simp
  unfold eqFile eqB
  (repeat' split) <;> simp_all
theorem eql_File (x y : FileM) (w : World) : (binOp .eql 46 (.agg #[.string x.path, .int .i64 x.kind, .int .i64 x.mode, .string x.owner, .string x.group, .string x.link, .string x.sum, .bool x.conf]) (.agg #[.string y.path, .int .i64 y.kind, .int .i64 y.mode, .string y.owner, .string y.group, .string y.link, .string y.sum, .bool y.conf])).run Tryz.prog w = .ok (.bool (eqFile x y)) w := by
  go_simp
  unfold eqFile eqB
  (repeat' split) <;> simp_all
set_option maxRecDepth 100000 in
set_option maxHeartbeats 1000000 in
theorem Equal_File (A B : Option Addr) (c d : Nat) (l m : List FileM) (w : World) (h1 : Rd w 8 A l.length (l.flatMap FileM.cells)) (h2 : Rd w 8 B m.length (m.flatMap FileM.cells)) (n1 : l.length ≤ 9223372036854775807) (n2 : m.length ≤ 9223372036854775807) :
    Calls Tryz.prog 53 #[.slice A l.length c, .slice B m.length d] w fun e w' => e = .returned (.bool (eqL eqFile l m)) ∧ Below w.heap.size w w' := by
  have H1 := Lib.hid h1; clear h1
  have H2 := Lib.hid h2; clear h2
  by_cases hl : l.length = m.length
  · have hb : ((l.length : Int) != (m.length : Int)) = false := by simp [hl]
    have HL := Lib.hid hl
    have hle : l.length ≤ m.length := by omega
    clear hl
    go_enter Tryz.func53, Tryz.ntmps53
    go_wp2_with fail
    go_loopw [13] (fun i wr => ∃ (k q : Nat), k ≤ l.length ∧ i = .int .i64 k ∧ wr = w.drewN q ∧ Hid (∀ (i : Nat) (x y : FileM), i < k → l[i]? = some x → m[i]? = some y → eqFile x y = true)) (fun i _ => l.length - (intOf i).toNat)
    case atStart => exact ⟨0, 0, Nat.zero_le _, rfl, rfl, fun i x y h => absurd h (Nat.not_lt_zero _)⟩
    case round =>
      obtain ⟨k, q, hk, rfl, rfl, HK⟩ := hrel
      by_cases hlt : k < l.length
      · obtain ⟨x, hx⟩ : ∃ x, l[k]? = some x := ⟨_, List.getElem?_eq_getElem hlt⟩
        have hlt2 : k < m.length := by omega
        obtain ⟨y, hy⟩ : ∃ y, m[k]? = some y := ⟨_, List.getElem?_eq_getElem hlt2⟩
        obtain ⟨b, off, hA, he⟩ := H1.out.elem file_len k x hx
        obtain ⟨b', off', hA', he'⟩ := H2.out.elem file_len k y hy
        have e0 := he 0 _ rfl
        have f0 := he' 0 _ rfl
        have e1 := he 1 _ rfl
        have f1 := he' 1 _ rfl
        have e2 := he 2 _ rfl
        have f2 := he' 2 _ rfl
        have e3 := he 3 _ rfl
        have f3 := he' 3 _ rfl
        have e4 := he 4 _ rfl
        have f4 := he' 4 _ rfl
        have e5 := he 5 _ rfl
        have f5 := he' 5 _ rfl
        have e6 := he 6 _ rfl
        have f6 := he' 6 _ rfl
        have e7 := he 7 _ rfl
        have f7 := he' 7 _ rfl
        simp only [Nat.add_zero] at e0 f0
        clear he he'
        have hix := fun W => idx_of (T := 24) (E := 46) (sz := 8) (c := c) Tryz.underlying24 rfl Tryz.sizeOf46 hA hlt W
        have hix' := fun W => idx_of (T := 24) (E := 46) (sz := 8) (c := d) Tryz.underlying24 rfl Tryz.sizeOf46 hA' hlt2 W
        have HX := Lib.hid hx; have HY := Lib.hid hy
        clear hx hy hA hA'
        have hne := neq_File x y
        cases hxy : eqFile x y
        · go_wp2_with fail
          go_quiet (fail)
          go_wp2_with fail
          go_ret
          exact ⟨ret_bool (eqL_bad eqFile l m k x y HX.out HY.out hxy).symm, below_drewN (below_drewN (Below.refl _ _) _) _⟩
        · go_wp2_with fail
          go_quiet (fail)
          go_wp2_with fail
          have FK : Hid (∀ (i : Nat) (x y : FileM), i < k + 1 → l[i]? = some x → m[i]? = some y → eqFile x y = true) := by
            intro i x' y' hi hx' hy'
            rcases Nat.lt_succ_iff_lt_or_eq.1 hi with h | h
            · exact HK.out i x' y' h hx' hy'
            · subst h; rw [HX.out] at hx'; rw [HY.out] at hy'; injection hx' with hx'; injection hy' with hy'; subst hx' hy'; exact hxy
          go_roundw
          case rel => exact ⟨k + 1, _, by omega, by go_num, rfl, FK⟩
          case measure => simp [intOf]; omega
      · go_wp2_with fail
        go_ret
        exact ⟨ret_bool (eqL_good eqFile l m HL.out (fun i x y hx hy => HK.out i x y (by have := (List.getElem?_eq_some_iff.1 hx).1; omega) hx hy)).symm, below_drewN (Below.refl _ _) _⟩
  · have hb : ((l.length : Int) != (m.length : Int)) = true := by simp; omega
    have HL := Lib.hid hl; clear hl
    go_enter Tryz.func53, Tryz.ntmps53
    go_wp2_with fail
    go_ret
    exact ⟨ret_bool (eqL_length eqFile l m HL.out).symm, Below.refl _ _⟩

def eqScript (x y : ScriptM) : Bool := (x.phase == y.phase) && eqB x.body y.body
theorem neq_Script (x y : ScriptM) (w : World) : (binOp .neq 50 (.agg #[.int .i64 x.phase, .string x.body]) (.agg #[.int .i64 y.phase, .string y.body])).run Tryz.prog w = .ok (.bool (!eqScript x y)) w := by
  go_simp
  unfold eqScript eqB
  (repeat' split) <;> simp_all
theorem eql_Script (x y : ScriptM) (w : World) : (binOp .eql 50 (.agg #[.int .i64 x.phase, .string x.body]) (.agg #[.int .i64 y.phase, .string y.body])).run Tryz.prog w = .ok (.bool (eqScript x y)) w := by
  go_simp
  unfold eqScript eqB
  (repeat' split) <;> simp_all
set_option maxRecDepth 100000 in
set_option maxHeartbeats 1000000 in
theorem Equal_Script (A B : Option Addr) (c d : Nat) (l m : List ScriptM) (w : World) (h1 : Rd w 2 A l.length (l.flatMap ScriptM.cells)) (h2 : Rd w 2 B m.length (m.flatMap ScriptM.cells)) (n1 : l.length ≤ 9223372036854775807) (n2 : m.length ≤ 9223372036854775807) :
    Calls Tryz.prog 54 #[.slice A l.length c, .slice B m.length d] w fun e w' => e = .returned (.bool (eqL eqScript l m)) ∧ Below w.heap.size w w' := by
  have H1 := Lib.hid h1; clear h1
  have H2 := Lib.hid h2; clear h2
  by_cases hl : l.length = m.length
  · have hb : ((l.length : Int) != (m.length : Int)) = false := by simp [hl]
    have HL := Lib.hid hl
    have hle : l.length ≤ m.length := by omega
    clear hl
    go_enter Tryz.func54, Tryz.ntmps54
    go_wp2_with fail
    go_loopw [13] (fun i wr => ∃ (k q : Nat), k ≤ l.length ∧ i = .int .i64 k ∧ wr = w.drewN q ∧ Hid (∀ (i : Nat) (x y : ScriptM), i < k → l[i]? = some x → m[i]? = some y → eqScript x y = true)) (fun i _ => l.length - (intOf i).toNat)
    case atStart => exact ⟨0, 0, Nat.zero_le _, rfl, rfl, fun i x y h => absurd h (Nat.not_lt_zero _)⟩
    case round =>
      obtain ⟨k, q, hk, rfl, rfl, HK⟩ := hrel
      by_cases hlt : k < l.length
      · obtain ⟨x, hx⟩ : ∃ x, l[k]? = some x := ⟨_, List.getElem?_eq_getElem hlt⟩
        have hlt2 : k < m.length := by omega
        obtain ⟨y, hy⟩ : ∃ y, m[k]? = some y := ⟨_, List.getElem?_eq_getElem hlt2⟩
        obtain ⟨b, off, hA, he⟩ := H1.out.elem script_len k x hx
        obtain ⟨b', off', hA', he'⟩ := H2.out.elem script_len k y hy
        have e0 := he 0 _ rfl
        have f0 := he' 0 _ rfl
        have e1 := he 1 _ rfl
        have f1 := he' 1 _ rfl
        simp only [Nat.add_zero] at e0 f0
        clear he he'
        have hix := fun W => idx_of (T := 25) (E := 50) (sz := 2) (c := c) Tryz.underlying25 rfl Tryz.sizeOf50 hA hlt W
        have hix' := fun W => idx_of (T := 25) (E := 50) (sz := 2) (c := d) Tryz.underlying25 rfl Tryz.sizeOf50 hA' hlt2 W
        have HX := Lib.hid hx; have HY := Lib.hid hy
        clear hx hy hA hA'
        have hne := neq_Script x y
        cases hxy : eqScript x y
        · go_wp2_with fail
          go_quiet (fail)
          go_wp2_with fail
          go_ret
          exact ⟨ret_bool (eqL_bad eqScript l m k x y HX.out HY.out hxy).symm, below_drewN (below_drewN (Below.refl _ _) _) _⟩
        · go_wp2_with fail
          go_quiet (fail)
          go_wp2_with fail
          have FK : Hid (∀ (i : Nat) (x y : ScriptM), i < k + 1 → l[i]? = some x → m[i]? = some y → eqScript x y = true) := by
            intro i x' y' hi hx' hy'
            rcases Nat.lt_succ_iff_lt_or_eq.1 hi with h | h
            · exact HK.out i x' y' h hx' hy'
            · subst h; rw [HX.out] at hx'; rw [HY.out] at hy'; injection hx' with hx'; injection hy' with hy'; subst hx' hy'; exact hxy
          go_roundw
          case rel => exact ⟨k + 1, _, by omega, by go_num, rfl, FK⟩
          case measure => simp [intOf]; omega
      · go_wp2_with fail
        go_ret
        exact ⟨ret_bool (eqL_good eqScript l m HL.out (fun i x y hx hy => HK.out i x y (by have := (List.getElem?_eq_some_iff.1 hx).1; omega) hx hy)).symm, below_drewN (Below.refl _ _) _⟩
  · have hb : ((l.length : Int) != (m.length : Int)) = true := by simp; omega
    have HL := Lib.hid hl; clear hl
    go_enter Tryz.func54, Tryz.ntmps54
    go_wp2_with fail
    go_ret
    exact ⟨ret_bool (eqL_length eqScript l m HL.out).symm, Below.refl _ _⟩

set_option maxRecDepth 100000 in
set_option maxHeartbeats 1000000 in
theorem Equal_Str (A B : Option Addr) (c d : Nat) (l m : List ByteArray) (w : World) (h1 : Rd w 1 A l.length (strCells l)) (h2 : Rd w 1 B m.length (strCells m)) (n1 : l.length ≤ 9223372036854775807) (n2 : m.length ≤ 9223372036854775807) :
    Calls Tryz.prog 51 #[.slice A l.length c, .slice B m.length d] w fun e w' => e = .returned (.bool (eqL eqB l m)) ∧ Below w.heap.size w w' := by
  have H1 := Lib.hid h1; clear h1
  have H2 := Lib.hid h2; clear h2
  by_cases hl : l.length = m.length
  · have hb : ((l.length : Int) != (m.length : Int)) = false := by simp [hl]
    have HL := Lib.hid hl
    have hle : l.length ≤ m.length := by omega
    clear hl
    go_enter Tryz.func51, Tryz.ntmps51
    go_wp2_with fail
    go_loopw [13] (fun i wr => ∃ (k q : Nat), k ≤ l.length ∧ i = .int .i64 k ∧ wr = w.drewN q ∧ Hid (∀ (i : Nat) (x y : ByteArray), i < k → l[i]? = some x → m[i]? = some y → eqB x y = true)) (fun i _ => l.length - (intOf i).toNat)
    case atStart => exact ⟨0, 0, Nat.zero_le _, rfl, rfl, fun i x y h => absurd h (Nat.not_lt_zero _)⟩
    case round =>
      obtain ⟨k, q, hk, rfl, rfl, HK⟩ := hrel
      by_cases hlt : k < l.length
      · obtain ⟨x, hx⟩ : ∃ x, l[k]? = some x := ⟨_, List.getElem?_eq_getElem hlt⟩
        have hlt2 : k < m.length := by omega
        obtain ⟨y, hy⟩ : ∃ y, m[k]? = some y := ⟨_, List.getElem?_eq_getElem hlt2⟩
        obtain ⟨b, off, hA, e0⟩ := H1.out.str k x hx
        obtain ⟨b', off', hA', f0⟩ := H2.out.str k y hy
        have hix := fun W => idx_of (T := 22) (E := 9) (sz := 1) (c := c) Tryz.underlying22 rfl Tryz.sizeOf9 hA hlt W
        have hix' := fun W => idx_of (T := 22) (E := 9) (sz := 1) (c := d) Tryz.underlying22 rfl Tryz.sizeOf9 hA' hlt2 W
        simp only [Nat.mul_one] at hix hix'
        have HX := Lib.hid hx; have HY := Lib.hid hy
        clear hx hy hA hA'
        cases hxy : eqB x y
        · have HXY := Lib.hid hxy; unfold eqB at hxy
          go_wp2_with fail
          go_quiet (fail)
          go_wp2_with fail
          go_ret
          exact ⟨ret_bool (eqL_bad eqB l m k x y HX.out HY.out HXY.out).symm, below_drewN (below_drewN (Below.refl _ _) _) _⟩
        · have HXY := Lib.hid hxy; obtain rfl := eqB_eq hxy
          clear hxy
          go_wp2_with fail
          go_quiet (fail)
          go_wp2_with fail
          have FK : Hid (∀ (i : Nat) (x y : ByteArray), i < k + 1 → l[i]? = some x → m[i]? = some y → eqB x y = true) := by
            intro i x' y' hi hx' hy'
            rcases Nat.lt_succ_iff_lt_or_eq.1 hi with h | h
            · exact HK.out i x' y' h hx' hy'
            · subst h; rw [HX.out] at hx'; rw [HY.out] at hy'; injection hx' with hx'; injection hy' with hy'; subst hx' hy'; exact HXY.out
          go_roundw
          case rel => exact ⟨k + 1, _, by omega, by go_num, rfl, FK⟩
          case measure => simp [intOf]; omega
      · go_wp2_with fail
        go_ret
        exact ⟨ret_bool (eqL_good eqB l m HL.out (fun i x y hx hy => HK.out i x y (by have := (List.getElem?_eq_some_iff.1 hx).1; omega) hx hy)).symm, below_drewN (Below.refl _ _) _⟩
  · have hb : ((l.length : Int) != (m.length : Int)) = true := by simp; omega
    have HL := Lib.hid hl; clear hl
    go_enter Tryz.func51, Tryz.ntmps51
    go_wp2_with fail
    go_ret
    exact ⟨ret_bool (eqL_length eqB l m HL.out).symm, Below.refl _ _⟩

end Go.Proofs.YtdfdllbebfoggaaGreatDoor
