/- A part of the proof of a law on which findings a policy admits. No condition. -/
import Derived.Test.YtfgidaaipmbibaaGreatDoorF05
set_option maxRecDepth 100000
set_option maxHeartbeats 20000000
set_option linter.unusedVariables false
set_option linter.unusedSimpArgs false
namespace Go.Proofs.YtfgidaaipmbibaaGreatDoor
section
open Go.RowKit
theorem bthen {w w1 w2 : World} (h1 : Below w.heap.size w w1) (h2 : Below w1.heap.size w1 w2) : Below w.heap.size w w2 := h1.trans (h2.mono h1.size)
def aw (fmt : Int) (n : Nat) : ByteArray :=
  if fmt = 1 then (match n with | 0 => ⟨#[97, 109, 100, 54, 52]⟩ | 1 => ⟨#[97, 114, 109, 54, 52]⟩ | _ => ⟨#[97, 108, 108]⟩)
  else (match n with | 0 => ⟨#[120, 56, 54, 95, 54, 52]⟩ | 1 => ⟨#[97, 97, 114, 99, 104, 54, 52]⟩ | _ => ⟨#[110, 111, 97, 114, 99, 104]⟩)
theorem model_archs (n : Int) (w : World) :
    Calls Tryz.prog 43 #[.int .i64 n] w fun e w' => e = .returned (.agg #[.string (aw n 0), .string (aw n 1), .string (aw n 2)]) ∧ Below w.heap.size w w' := by
  by_cases h : n = 1
  · subst h
    go_enter Tryz.func43, Tryz.ntmps43
    go_wp2
    refine bodyPost_ret (v := .agg #[.string (aw 1 0), .string (aw 1 1), .string (aw 1 2)]) (by simp [results, Tryz.results43, go_sem, aw]) rfl ⟨rfl, ?_⟩
    exact (Below.refl _ _).alloc (Nat.le_refl _) _
  · have hb : (n == 1) = false := by simpa using h
    go_enter Tryz.func43, Tryz.ntmps43
    go_wp2
    refine bodyPost_ret (v := .agg #[.string (aw n 0), .string (aw n 1), .string (aw n 2)]) (by simp [results, Tryz.results43, go_sem, aw, h]) rfl ⟨rfl, ?_⟩
    exact (Below.refl _ _).alloc (Nat.le_refl _) _
theorem beq_bl (s t : ByteArray) : (s.toList == t.toList) = decide (s = t) := by
  rw [bl_toList, bl_toList, Bool.eq_iff_iff]; simp; exact ⟨bl_inj, fun h => by rw [h]⟩
def wStrs (l : List ByteArray) : Nat := (l.map fun s => 1 + s.size).sum
def wAtoms (l : List AtomM) : Nat := (l.map fun x => 1 + x.nm.size + x.ver.size).sum
def wFiles (l : List FileM) : Nat := (l.map fun x => 1 + x.path.size + x.owner.size + x.group.size + x.link.size + x.sum.size).sum
def wScripts (l : List ScriptM) : Nat := (l.map fun x => 1 + x.body.size).sum
def wTexts (p : PkL) : Nat := p.nm.size + p.ver.size + p.ar.size + p.sm.size
def wsum (p : PkL) : Nat := wTexts p + wStrs p.needs + wStrs p.bars + wAtoms p.gives + wFiles p.files + wScripts p.scripts
structure Bx (w wr : World) (vs : List Value) : Prop where
  bel : Below w.heap.size w wr
  sz : w.heap.size < wr.heap.size
  cell : ∀ (j : Nat) (u : Value), vs[j]? = some u → wr.cell? ⟨w.heap.size, j, none⟩ = some u
  free : ∀ j : Nat, j < vs.length → wr.frozen? ⟨w.heap.size, j, none⟩ = false
theorem Bx.step {w w1 w2 : World} {vs : List Value} (h : Bx w w1 vs) (hb : Below w1.heap.size w1 w2) : Bx w w2 vs :=
  ⟨bthen h.bel hb, Nat.lt_of_lt_of_le h.sz hb.size, fun j u hu => (hb.cell (p := ⟨w.heap.size, j, none⟩) h.sz).trans (h.cell j u hu), fun j hj => (hb.frozen (p := ⟨w.heap.size, j, none⟩) h.sz).trans (h.free j hj)⟩
theorem Bx.start (w : World) (vs : List Value) (t : TypeId) : Bx w (w.alloc (.cells vs.toArray t)) vs :=
  ⟨(Below.refl _ _).alloc (Nat.le_refl _) _, by simp, fun j u hu => by simp [hu], fun j _ => by simp⟩
theorem Bx.drewN {w w1 : World} {vs : List Value} (h : Bx w w1 vs) (k : Nat) : Bx w (w1.drewN k) vs := h.step (below_drewN' k)
  where below_drewN' {w1 : World} (k : Nat) : Below w1.heap.size w1 (w1.drewN k) := ⟨rfl, rfl, rfl, Nat.le_refl _, fun _ _ => rfl⟩
theorem idx_of {T E : TypeId} {sz : Nat} (hT : Tryz.prog.underlying T = some (.slice (Tryz.prog.elem T))) (hE : Tryz.prog.elem T = E) (hs : ∀ w, (sizeOf E).run Tryz.prog w = .ok sz w)
    {A : Option Addr} {n c k b off : Nat} (hA : A = some ⟨b, off, none⟩) (hk : k < n) (w : World) : (Instr.indexAt T (.slice A n c) (.int .i64 k)).run Tryz.prog w = .ok (.pointer (some ⟨b, off + k * sz, none⟩)) w := by
  rw [hA, run_indexAt_slice _ _ _ _ _ _ _ hT, if_pos (by omega), hE, hs]
  simp [Addr.add]
end
end Go.Proofs.YtfgidaaipmbibaaGreatDoor
