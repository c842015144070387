/- A part of the proof that the digests of any content are the three of it, and that an installed set is new memory. No condition. -/
import Derived.Test.YtlhchpeecfbgnaaGreatDoorProg
import Derived.Below
import Derived.Deep.Draws
import Derived.Lib.Hide
import Derived.WalkKit
set_option maxRecDepth 100000
set_option maxHeartbeats 20000000
set_option linter.unusedVariables false
set_option linter.unusedSimpArgs false
namespace Go.Proofs.YtlhchpeecfbgnaaGreatDoor
section
open Go.RowKit
def Rd (w : World) (sz : Nat) (A : Option Addr) (n : Nat) (xs : List Value) : Prop :=
  xs.length = n * sz ∧ (0 < n → ∃ b off, A = some ⟨b, off, none⟩ ∧ ∀ (j : Nat) (u : Value), xs[j]? = some u → w.cell? ⟨b, off + j, none⟩ = some u)
theorem Rd.nil (w : World) (sz : Nat) (A : Option Addr) : Rd w sz A 0 [] := ⟨by simp, fun h => absurd h (by omega)⟩
theorem Rd.keep {w w' : World} {sz n : Nat} {A : Option Addr} {xs : List Value} (h : Rd w sz A n xs) (hk : ∀ p : Addr, p.block < w.heap.size → w'.cell? p = w.cell? p) : Rd w' sz A n xs :=
  ⟨h.1, fun hn => by
    obtain ⟨b, off, e, hc⟩ := h.2 hn
    exact ⟨b, off, e, fun j u hu => (hk _ (World.block_lt_of_cell? _ _ (hc j u hu))).trans (hc j u hu)⟩⟩
theorem Rd.below {w w' : World} {sz n : Nat} {A : Option Addr} {xs : List Value} (h : Rd w sz A n xs) (hb : Below w.heap.size w w') : Rd w' sz A n xs := h.keep fun _ hp => hb.cell hp
theorem Rd.drew {w : World} {sz n : Nat} {A : Option Addr} {xs : List Value} (h : Rd w sz A n xs) : Rd w.drew sz A n xs := h
structure AtomM where
  nm : ByteArray
  op : Int
  ver : ByteArray
structure FileM where
  path : ByteArray
  kind : Int
  mode : Int
  owner : ByteArray
  group : ByteArray
  link : ByteArray
  sum : ByteArray
  conf : Bool
structure ScriptM where
  phase : Int
  body : ByteArray
structure PkL where
  nm : ByteArray
  ver : ByteArray
  ar : ByteArray
  sm : ByteArray
  na : Option Addr
  nc : Nat
  needs : List ByteArray
  ba : Option Addr
  bc : Nat
  bars : List ByteArray
  ga : Option Addr
  gc : Nat
  gives : List AtomM
  fa : Option Addr
  fc : Nat
  files : List FileM
  sa : Option Addr
  sc : Nat
  scripts : List ScriptM
def AtomM.cells (x : AtomM) : List Value := [.string x.nm, .int .i64 x.op, .string x.ver]
def FileM.cells (x : FileM) : List Value := [.string x.path, .int .i64 x.kind, .int .i64 x.mode, .string x.owner, .string x.group, .string x.link, .string x.sum, .bool x.conf]
def ScriptM.cells (x : ScriptM) : List Value := [.int .i64 x.phase, .string x.body]
def strCells (l : List ByteArray) : List Value := l.map .string
def PkL.cells (p : PkL) : List Value := [.string p.nm, .string p.ver, .string p.ar, .string p.sm, .slice p.na p.needs.length p.nc, .slice p.ba p.bars.length p.bc, .slice p.ga p.gives.length p.gc, .slice p.fa p.files.length p.fc, .slice p.sa p.scripts.length p.sc]
def PkL.val (p : PkL) : Value := .agg #[.string p.nm, .string p.ver, .string p.ar, .string p.sm, .slice p.na p.needs.length p.nc, .slice p.ba p.bars.length p.bc, .slice p.ga p.gives.length p.gc, .slice p.fa p.files.length p.fc, .slice p.sa p.scripts.length p.sc]
structure PkL.ok (p : PkL) (w : World) : Prop where
  needs : Rd w 1 p.na p.needs.length (strCells p.needs)
  bars : Rd w 1 p.ba p.bars.length (strCells p.bars)
  gives : Rd w 3 p.ga p.gives.length (p.gives.flatMap AtomM.cells)
  files : Rd w 8 p.fa p.files.length (p.files.flatMap FileM.cells)
  scripts : Rd w 2 p.sa p.scripts.length (p.scripts.flatMap ScriptM.cells)
theorem PkL.ok.below {p : PkL} {w w' : World} (h : p.ok w) (hb : Below w.heap.size w w') : p.ok w' := ⟨h.1.below hb, h.2.below hb, h.3.below hb, h.4.below hb, h.5.below hb⟩
structure PkL.fits (p : PkL) : Prop where
  nm : p.nm.size ≤ 9223372036854775807
  ver : p.ver.size ≤ 9223372036854775807
  ar : p.ar.size ≤ 9223372036854775807
  sm : p.sm.size ≤ 9223372036854775807
  needs : p.needs.length ≤ 9223372036854775807
  bars : p.bars.length ≤ 9223372036854775807
  gives : p.gives.length ≤ 9223372036854775807
  files : p.files.length ≤ 9223372036854775807
  scripts : p.scripts.length ≤ 9223372036854775807
  needs_ : ∀ s ∈ p.needs, s.size ≤ 9223372036854775807
  bars_ : ∀ s ∈ p.bars, s.size ≤ 9223372036854775807
  gives_ : ∀ x ∈ p.gives, x.nm.size ≤ 9223372036854775807 ∧ x.ver.size ≤ 9223372036854775807 ∧ (Lit.int .i64 x.op).wf = true
  files_ : ∀ x ∈ p.files, x.path.size ≤ 9223372036854775807 ∧ x.owner.size ≤ 9223372036854775807 ∧ x.group.size ≤ 9223372036854775807 ∧ x.link.size ≤ 9223372036854775807 ∧ x.sum.size ≤ 9223372036854775807 ∧ (Lit.int .i64 x.kind).wf = true ∧ (Lit.int .i64 x.mode).wf = true
  scripts_ : ∀ x ∈ p.scripts, x.body.size ≤ 9223372036854775807 ∧ (Lit.int .i64 x.phase).wf = true
structure DbOk (w : World) (A : Option Addr) (l : List PkL) : Prop where
  row : Rd w 9 A l.length (l.flatMap PkL.cells)
  all : ∀ p ∈ l, p.ok w
theorem DbOk.below {w w' : World} {A : Option Addr} {l : List PkL} (h : DbOk w A l) (hb : Below w.heap.size w w') : DbOk w' A l := ⟨h.1.below hb, fun p hp => (h.2 p hp).below hb⟩
theorem flat_at {α : Type} {f : α → List Value} {sz : Nat} (hf : ∀ x, (f x).length = sz) : ∀ (l : List α) (i j : Nat) (x : α), l[i]? = some x → j < sz → (l.flatMap f)[i * sz + j]? = (f x)[j]?
  | [], i, j, x, h, _ => by simp at h
  | a :: r, 0, j, x, h, hj => by
    simp at h; subst h
    rw [List.flatMap_cons, List.getElem?_append_left (by rw [hf]; omega)]; simp
  | a :: r, i + 1, j, x, h, hj => by
    have h' : r[i]? = some x := by simpa using h
    rw [List.flatMap_cons, List.getElem?_append_right (by rw [hf, Nat.add_mul]; omega), hf, ← flat_at hf r i j x h' hj]
    congr 1; rw [Nat.add_mul]; omega
theorem flat_length {α : Type} {f : α → List Value} {sz : Nat} (hf : ∀ x, (f x).length = sz) : ∀ (l : List α), (l.flatMap f).length = l.length * sz
  | [] => by simp
  | a :: r => by rw [List.flatMap_cons, List.length_append, hf, flat_length hf r, List.length_cons, Nat.add_mul]; omega
theorem atom_len (x : AtomM) : x.cells.length = 3 := rfl
theorem file_len (x : FileM) : x.cells.length = 8 := rfl
theorem script_len (x : ScriptM) : x.cells.length = 2 := rfl
theorem pk_len (x : PkL) : x.cells.length = 9 := rfl
theorem Rd.elem {α : Type} {f : α → List Value} {sz : Nat} (hf : ∀ x, (f x).length = sz) {w : World} {A : Option Addr} {l : List α} (h : Rd w sz A l.length (l.flatMap f)) (i : Nat) (x : α) (hi : l[i]? = some x) :
    ∃ b off, A = some ⟨b, off, none⟩ ∧ ∀ (j : Nat) (u : Value), (f x)[j]? = some u → w.cell? ⟨b, off + i * sz + j, none⟩ = some u := by
  have hlt : i < l.length := (List.getElem?_eq_some_iff.1 hi).1
  obtain ⟨b, off, e, hc⟩ := h.2 (by omega)
  refine ⟨b, off, e, fun j u hu => ?_⟩
  have hj : j < sz := by rw [← hf x]; exact (List.getElem?_eq_some_iff.1 hu).1
  rw [Nat.add_assoc]
  exact hc _ u (by rw [flat_at hf l i j x hi hj, hu])
theorem Rd.str {w : World} {A : Option Addr} {l : List ByteArray} (h : Rd w 1 A l.length (strCells l)) (i : Nat) (x : ByteArray) (hi : l[i]? = some x) :
    ∃ b off, A = some ⟨b, off, none⟩ ∧ w.cell? ⟨b, off + i, none⟩ = some (.string x) := by
  have hlt : i < l.length := (List.getElem?_eq_some_iff.1 hi).1
  obtain ⟨b, off, e, hc⟩ := h.2 (by omega)
  exact ⟨b, off, e, hc i _ (by simp [strCells, hi])⟩
end
end Go.Proofs.YtlhchpeecfbgnaaGreatDoor
