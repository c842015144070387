/- Arguments opened: a database of packages. -/
import Derived.Test.YtdfdllbebfoggaaGreatDoorOpen
namespace Go.Proofs.YtdfdllbebfoggaaGreatDoor
open Go.ChangeShapes Go.WideShapes Go.Deep Go.RowKit

section
variable {H : Type} {enc : TypeId × Value → H} {w : World} {spare : Nat → Bool}
def AtomOk (x : AtomM) : Prop := x.nm.size ≤ 9223372036854775807 ∧ x.ver.size ≤ 9223372036854775807 ∧ (Lit.int .i64 x.op).wf = true
def FileOk (x : FileM) : Prop := x.path.size ≤ 9223372036854775807 ∧ x.owner.size ≤ 9223372036854775807 ∧ x.group.size ≤ 9223372036854775807 ∧ x.link.size ≤ 9223372036854775807 ∧ x.sum.size ≤ 9223372036854775807 ∧ (Lit.int .i64 x.kind).wf = true ∧ (Lit.int .i64 x.mode).wf = true
def ScriptOk (x : ScriptM) : Prop := x.body.size ≤ 9223372036854775807 ∧ (Lit.int .i64 x.phase).wf = true

theorem read_str {n : Nat} {v : Value} {y : DataW H × List MemPlace} (h : DataW.trod enc Tryz.prog w 0 spare true n 9 [v] = some y) : ∃ s : ByteArray, v = .string s ∧ s.size ≤ 9223372036854775807 := by
  obtain ⟨s, hs, _, hz⟩ := DataW.trod_string Tryz.underlying9 h
  injection hs with hs _
  exact ⟨s, hs, by unfold maxLen at hz; omega⟩
theorem read_int {n : Nat} {v : Value} {y : DataW H × List MemPlace} (h : DataW.trod enc Tryz.prog w 0 spare true n 3 [v] = some y) : ∃ z : Int, v = .int .i64 z ∧ (Lit.int .i64 z).wf = true := by
  obtain ⟨z, hz, _, hw⟩ := DataW.trod_int Tryz.underlying3 h
  injection hz with hz _
  exact ⟨z, hz, hw⟩
theorem read_bool {n : Nat} {v : Value} {y : DataW H × List MemPlace} (h : DataW.trod enc Tryz.prog w 0 spare true n 4 [v] = some y) : ∃ z : Bool, v = .bool z := by
  obtain ⟨z, hz, _⟩ := DataW.trod_bool Tryz.underlying4 h
  injection hz with hz _
  exact ⟨z, hz⟩

theorem open_atoms {fuel : Nat} {v : Value} {d : DataW H × List MemPlace} (h : DataW.trod enc Tryz.prog w 0 spare true fuel 23 [v] = some d) :
    ∃ (A : Option Addr) (c : Nat) (l : List AtomM), v = .slice A l.length c ∧ Rd w 3 A l.length (l.flatMap AtomM.cells) ∧ (∀ x ∈ l, AtomOk x) ∧ l.length ≤ 9223372036854775807 ∧ l.length ≤ c := by
  refine open_list Tryz.underlying23 Tryz.underlying48 (by kernel_rfl) (by kernel_rfl) (by decide) AtomM.cells AtomOk (fun _ => rfl) (fun n vs hv => ?_) h
  obtain ⟨y0, h0⟩ := hv 0 _ rfl
  obtain ⟨y1, h1⟩ := hv 1 _ rfl
  obtain ⟨y2, h2⟩ := hv 2 _ rfl
  obtain ⟨s0, e0, z0⟩ := read_str h0
  obtain ⟨s1, e1, z1⟩ := read_int h1
  obtain ⟨s2, e2, z2⟩ := read_str h2
  refine ⟨⟨s0, s1, s2⟩, ⟨z0, z2, z1⟩, fun j hj => ?_⟩
  have hj' : j < 3 := hj
  rcases (by omega : j = 0 ∨ j = 1 ∨ j = 2) with rfl | rfl | rfl
  · rw [e0]; rfl
  · rw [e1]; rfl
  · rw [e2]; rfl
theorem open_files {fuel : Nat} {v : Value} {d : DataW H × List MemPlace} (h : DataW.trod enc Tryz.prog w 0 spare true fuel 24 [v] = some d) :
    ∃ (A : Option Addr) (c : Nat) (l : List FileM), v = .slice A l.length c ∧ Rd w 8 A l.length (l.flatMap FileM.cells) ∧ (∀ x ∈ l, FileOk x) ∧ l.length ≤ 9223372036854775807 ∧ l.length ≤ c := by
  refine open_list Tryz.underlying24 Tryz.underlying46 (by kernel_rfl) (by kernel_rfl) (by decide) FileM.cells FileOk (fun _ => rfl) (fun n vs hv => ?_) h
  obtain ⟨y0, h0⟩ := hv 0 _ rfl
  obtain ⟨y1, h1⟩ := hv 1 _ rfl
  obtain ⟨y2, h2⟩ := hv 2 _ rfl
  obtain ⟨y3, h3⟩ := hv 3 _ rfl
  obtain ⟨y4, h4⟩ := hv 4 _ rfl
  obtain ⟨y5, h5⟩ := hv 5 _ rfl
  obtain ⟨y6, h6⟩ := hv 6 _ rfl
  obtain ⟨y7, h7⟩ := hv 7 _ rfl
  obtain ⟨s0, e0, z0⟩ := read_str h0
  obtain ⟨s1, e1, z1⟩ := read_int h1
  obtain ⟨s2, e2, z2⟩ := read_int h2
  obtain ⟨s3, e3, z3⟩ := read_str h3
  obtain ⟨s4, e4, z4⟩ := read_str h4
  obtain ⟨s5, e5, z5⟩ := read_str h5
  obtain ⟨s6, e6, z6⟩ := read_str h6
  obtain ⟨s7, e7⟩ := read_bool h7
  refine ⟨⟨s0, s1, s2, s3, s4, s5, s6, s7⟩, ⟨z0, z3, z4, z5, z6, z1, z2⟩, fun j hj => ?_⟩
  have hj' : j < 8 := hj
  rcases (by omega : j = 0 ∨ j = 1 ∨ j = 2 ∨ j = 3 ∨ j = 4 ∨ j = 5 ∨ j = 6 ∨ j = 7) with rfl | rfl | rfl | rfl | rfl | rfl | rfl | rfl
  · rw [e0]; rfl
  · rw [e1]; rfl
  · rw [e2]; rfl
  · rw [e3]; rfl
  · rw [e4]; rfl
  · rw [e5]; rfl
  · rw [e6]; rfl
  · rw [e7]; rfl
theorem open_scripts {fuel : Nat} {v : Value} {d : DataW H × List MemPlace} (h : DataW.trod enc Tryz.prog w 0 spare true fuel 25 [v] = some d) :
    ∃ (A : Option Addr) (c : Nat) (l : List ScriptM), v = .slice A l.length c ∧ Rd w 2 A l.length (l.flatMap ScriptM.cells) ∧ (∀ x ∈ l, ScriptOk x) ∧ l.length ≤ 9223372036854775807 ∧ l.length ≤ c := by
  refine open_list Tryz.underlying25 Tryz.underlying50 (by kernel_rfl) (by kernel_rfl) (by decide) ScriptM.cells ScriptOk (fun _ => rfl) (fun n vs hv => ?_) h
  obtain ⟨y0, h0⟩ := hv 0 _ rfl
  obtain ⟨y1, h1⟩ := hv 1 _ rfl
  obtain ⟨s0, e0, z0⟩ := read_int h0
  obtain ⟨s1, e1, z1⟩ := read_str h1
  refine ⟨⟨s0, s1⟩, ⟨z1, z0⟩, fun j hj => ?_⟩
  have hj' : j < 2 := hj
  rcases (by omega : j = 0 ∨ j = 1) with rfl | rfl
  · rw [e0]; rfl
  · rw [e1]; rfl

/-- The nine fields of a package. -/
theorem open_pk (n : Nat) (vs : Nat → Value)
    (hv : ∀ (j : Nat) (t : TypeId), [(9 : TypeId), 9, 9, 9, 22, 22, 23, 24, 25][j]? = some t → ∃ y, DataW.trod enc Tryz.prog w 0 spare true n t [vs j] = some y) :
    ∃ p : PkL, (p.ok w ∧ p.fits ∧ p.files.length ≤ p.fc ∧ p.needs.length ≤ p.nc ∧ p.bars.length ≤ p.bc ∧ p.gives.length ≤ p.gc ∧ p.scripts.length ≤ p.sc) ∧ ∀ j, j < 9 → p.cells[j]? = some (vs j) := by
  obtain ⟨y0, h0⟩ := hv 0 _ rfl
  obtain ⟨y1, h1⟩ := hv 1 _ rfl
  obtain ⟨y2, h2⟩ := hv 2 _ rfl
  obtain ⟨y3, h3⟩ := hv 3 _ rfl
  obtain ⟨y4, h4⟩ := hv 4 _ rfl
  obtain ⟨y5, h5⟩ := hv 5 _ rfl
  obtain ⟨y6, h6⟩ := hv 6 _ rfl
  obtain ⟨y7, h7⟩ := hv 7 _ rfl
  obtain ⟨y8, h8⟩ := hv 8 _ rfl
  obtain ⟨s0, e0, z0⟩ := read_str h0
  obtain ⟨s1, e1, z1⟩ := read_str h1
  obtain ⟨s2, e2, z2⟩ := read_str h2
  obtain ⟨s3, e3, z3⟩ := read_str h3
  obtain ⟨a4, c4, l4, e4, r4, x4, n4, k4⟩ := open_strs Tryz.underlying22 Tryz.underlying9 (by kernel_rfl) h4
  obtain ⟨a5, c5, l5, e5, r5, x5, n5, k5⟩ := open_strs Tryz.underlying22 Tryz.underlying9 (by kernel_rfl) h5
  obtain ⟨a6, c6, l6, e6, r6, x6, n6, k6⟩ := open_atoms h6
  obtain ⟨a7, c7, l7, e7, r7, x7, n7, k7⟩ := open_files h7
  obtain ⟨a8, c8, l8, e8, r8, x8, n8, k8⟩ := open_scripts h8
  refine ⟨⟨s0, s1, s2, s3, a4, c4, l4, a5, c5, l5, a6, c6, l6, a7, c7, l7, a8, c8, l8⟩, ⟨⟨r4, r5, r6, r7, r8⟩, ⟨z0, z1, z2, z3, n4, n5, n6, n7, n8, x4, x5, x6, x7, x8⟩, k7, k4, k5, k6, k8⟩, fun j hj => ?_⟩
  rcases (by omega : j = 0 ∨ j = 1 ∨ j = 2 ∨ j = 3 ∨ j = 4 ∨ j = 5 ∨ j = 6 ∨ j = 7 ∨ j = 8) with rfl | rfl | rfl | rfl | rfl | rfl | rfl | rfl | rfl
  · rw [e0]; rfl
  · rw [e1]; rfl
  · rw [e2]; rfl
  · rw [e3]; rfl
  · rw [e4]; rfl
  · rw [e5]; rfl
  · rw [e6]; rfl
  · rw [e7]; rfl
  · rw [e8]; rfl
theorem open_db {fuel : Nat} {v : Value} {d : DataW H × List MemPlace} (h : DataW.trod enc Tryz.prog w 0 spare true fuel 40 [v] = some d) :
    ∃ (A : Option Addr) (c : Nat) (l : List PkL), v = .slice A l.length c ∧ DbOk w A l ∧ (∀ p ∈ l, p.fits) ∧ l.length ≤ 9223372036854775807 ∧ (∀ p ∈ l, p.files.length ≤ p.fc ∧ p.needs.length ≤ p.nc ∧ p.bars.length ≤ p.bc ∧ p.gives.length ≤ p.gc ∧ p.scripts.length ≤ p.sc) ∧ l.length ≤ c := by
  obtain ⟨A, c, l, h1, h2, h3, h4, h5⟩ := open_list Tryz.underlying40 Tryz.underlying27 (by kernel_rfl) (by kernel_rfl) (by decide) PkL.cells (fun p => p.ok w ∧ p.fits ∧ p.files.length ≤ p.fc ∧ p.needs.length ≤ p.nc ∧ p.bars.length ≤ p.bc ∧ p.gives.length ≤ p.gc ∧ p.scripts.length ≤ p.sc) (fun _ => rfl) (fun n vs hv => by
    refine open_pk (enc := enc) (spare := spare) n vs (fun j t ht => ?_)
    have hj : j < 9 := by simpa using (List.getElem?_eq_some_iff.1 ht).1
    rcases (by omega : j = 0 ∨ j = 1 ∨ j = 2 ∨ j = 3 ∨ j = 4 ∨ j = 5 ∨ j = 6 ∨ j = 7 ∨ j = 8) with rfl | rfl | rfl | rfl | rfl | rfl | rfl | rfl | rfl
    · have ht := Option.some.inj ht; subst ht; exact hv 0 _ rfl
    · have ht := Option.some.inj ht; subst ht; exact hv 1 _ rfl
    · have ht := Option.some.inj ht; subst ht; exact hv 2 _ rfl
    · have ht := Option.some.inj ht; subst ht; exact hv 3 _ rfl
    · have ht := Option.some.inj ht; subst ht; exact hv 4 _ rfl
    · have ht := Option.some.inj ht; subst ht; exact hv 5 _ rfl
    · have ht := Option.some.inj ht; subst ht; exact hv 6 _ rfl
    · have ht := Option.some.inj ht; subst ht; exact hv 7 _ rfl
    · have ht := Option.some.inj ht; subst ht; exact hv 8 _ rfl) h
  exact ⟨A, c, l, h1, ⟨h2, fun p hp => (h3 p hp).1⟩, fun p hp => (h3 p hp).2.1, h4, fun p hp => (h3 p hp).2.2, h5⟩
end
end Go.Proofs.YtdfdllbebfoggaaGreatDoor
