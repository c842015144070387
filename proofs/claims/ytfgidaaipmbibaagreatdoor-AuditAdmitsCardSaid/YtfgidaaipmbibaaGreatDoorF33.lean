/- A part of the proof of a law on which findings a policy admits. No condition. -/
import Derived.Deep.RegionHeld3
import Derived.LaidEqlPtr
import Derived.Laws.StructEq
import Derived.MapKept
import Derived.Shelf.Strings.SlTrimAscii
import Derived.Test.YtfgidaaipmbibaaGreatDoorF20
set_option maxRecDepth 100000
set_option maxHeartbeats 20000000
set_option linter.unusedVariables false
set_option linter.unusedSimpArgs false
namespace Go.Proofs.YtfgidaaipmbibaaGreatDoor
section
open Go.RowKit Go.Maps Go.MapKept
def KA : Value := .agg #[.string ⟨#[97]⟩, .int .i64 1]
def KB : Value := .agg #[.string ⟨#[98]⟩, .int .i64 5]
def ZN (k : Value) (n b : Nat) : MapEntry := { key := k, val := .int .i64 n, born := b }
theorem fk_check (w : World) (em : Bool) (s : ByteArray) (n : Int) : (Instr.checkKey em 10000 45 (.agg #[.string s, .int .i64 n])).run Tryz.prog w = .ok () w := by
  have h : ∀ d : Nat, (Instr.checkKey em (d + 1 + 1) 45 (.agg #[.string s, .int .i64 n])).run Tryz.prog w = .ok () w := by
    intro d
    simp [Instr.checkKey, run_underlying Tryz.underlying45, go_sem]
  exact h 9998
theorem fk_equal (w : World) (s t : ByteArray) (n m : Int) : (Op.equal 45 (.agg #[.string s, .int .i64 n]) (.agg #[.string t, .int .i64 m])).run Tryz.prog w = .ok ((s.toList == t.toList) && (n == m)) w := by
  unfold Op.equal Op.maxDepth
  simp [go_sem]
  by_cases h1 : s.toList = t.toList <;> by_cases h2 : n = m <;> simp [h1, h2]
theorem fk_asks (w : World) (k : Value) (es : List MapEntry) : (Instr.findKey 45 k es).run Tryz.prog w = (Instr.findAsking 45 k es 0).run Tryz.prog w := by
  cases es with
  | nil => simp [Instr.findKey, Instr.findAsking, Instr.findNow, run_underlying Tryz.underlying45]
  | cons e r => simp [Instr.findKey, Instr.findNow, Instr.sameNow, run_underlying Tryz.underlying45]
theorem find0 (w : World) (k : Value) : (Instr.findKey 45 k []).run Tryz.prog w = .ok none w := by
  simp [fk_asks, Instr.findAsking]
theorem findA (w : World) (n b : Nat) (r : List MapEntry) : (Instr.findKey 45 KA (ZN KA n b :: r)).run Tryz.prog w = .ok (some (0, .int .i64 n)) w := by
  simp [fk_asks, Instr.findAsking, ZN, KA, fk_equal]
theorem findB0 (w : World) (n b : Nat) : (Instr.findKey 45 KB [ZN KA n b]).run Tryz.prog w = .ok none w := by
  have : ((⟨#[98]⟩ : ByteArray).toList == (⟨#[97]⟩ : ByteArray).toList) = false := by rw [beq_bl]; decide
  simp [fk_asks, Instr.findAsking, ZN, KA, KB, fk_equal, this]
theorem findB1 (w : World) (n b m c : Nat) : (Instr.findKey 45 KB [ZN KA n b, ZN KB m c]).run Tryz.prog w = .ok (some (1, .int .i64 m)) w := by
  have : ((⟨#[98]⟩ : ByteArray).toList == (⟨#[97]⟩ : ByteArray).toList) = false := by rw [beq_bl]; decide
  simp [fk_asks, Instr.findAsking, ZN, KA, KB, fk_equal, this]
theorem fk_look {w : World} {b c : Nat} {es : Array MapEntry} {s : ByteArray} {n : Int} (hb : w.heap[b]? = some (.map es c)) (hf : (Instr.findKey 45 (.agg #[.string s, .int .i64 n]) es.toList).run Tryz.prog w = .ok none w) :
    (Instr.lookup 51 (.map (some b)) (.agg #[.string s, .int .i64 n]) false).run Tryz.prog w = .ok (.int .i64 0) w := by
  simp [Instr.lookup, run_underlying Tryz.underlying51, MapKept.run_getObj_map hb, fk_check, hf, go_sem]
theorem fk_look1 {w : World} {b c i : Nat} {v : Value} {es : Array MapEntry} {s : ByteArray} {n : Int} (hb : w.heap[b]? = some (.map es c)) (hf : (Instr.findKey 45 (.agg #[.string s, .int .i64 n]) es.toList).run Tryz.prog w = .ok (some (i, v)) w) :
    (Instr.lookup 51 (.map (some b)) (.agg #[.string s, .int .i64 n]) false).run Tryz.prog w = .ok v w := by
  simp [Instr.lookup, run_underlying Tryz.underlying51, MapKept.run_getObj_map hb, fk_check, hf, go_sem]
theorem fk_grow {w : World} {b : Nat} {es : Array MapEntry} {c : Nat} (o : Obj) (hb : w.heap[b]? = some (.map es c)) : w.grownBy { w with heap := w.heap.setIfInBounds b o } (some b) := ⟨rfl, rfl, rfl, by simp, fun k hk hne => (heap_set hb).2 k (fun e => hne (by rw [e]))⟩
theorem fk_entry {w : World} {b c : Nat} {es : Array MapEntry} {s : ByteArray} {n : Int} (hb : w.heap[b]? = some (.map es c)) (hf : (Instr.findKey 45 (.agg #[.string s, .int .i64 n]) es.toList).run Tryz.prog w = .ok none w) :
    ∃ w', (Instr.mapEntry 51 (.map (some b)) (.agg #[.string s, .int .i64 n])).run Tryz.prog w = .ok (.tuple #[.int .i64 0, .int .i64 c]) w' ∧ w'.heap[b]? = some (.map (es.push (ZN (.agg #[.string s, .int .i64 n]) 0 c)) (c + 1)) ∧ w.grownBy w' (some b) ∧ w'.heap.size = w.heap.size := by
  refine ⟨{ w with heap := w.heap.setIfInBounds b (.map (es.push (ZN (.agg #[.string s, .int .i64 n]) 0 c)) (c + 1)) }, ?_, (heap_set hb).1, fk_grow _ hb, by simp⟩
  simp [Instr.mapEntry, run_underlying Tryz.underlying51, MapKept.run_getObj_map hb, fk_check, hf, zero_int_e, MapKept.run_setObj_map _ hb, ZN, goInt]
theorem fk_store {w : World} {b c i : Nat} {st : Int} {v : Value} {es : Array MapEntry} (hb : w.heap[b]? = some (.map es c)) (hi : es.findIdx? (fun e => ((e.born : Nat) : Int) == st) = some i) :
    ∃ w', (Instr.entryStore 51 (.map (some b)) (.int .i64 st) v).run Tryz.prog w = .ok () w' ∧ w'.heap[b]? = some (.map (es.modify i fun e => { e with val := v }) c) ∧ w.grownBy w' (some b) ∧ w'.heap.size = w.heap.size := by
  refine ⟨{ w with heap := w.heap.setIfInBounds b (.map (es.modify i fun e => { e with val := v }) c) }, ?_, (heap_set hb).1, fk_grow _ hb, by simp⟩
  simp [Instr.entryStore, MapKept.run_getObj_map hb, asInt, asIntOf, hi, MapKept.run_setObj_map _ hb]
end
end Go.Proofs.YtfgidaaipmbibaaGreatDoor
