/- A part of the proof of a law on which findings a policy admits. No condition. -/
import Derived.Test.YtfgidaaipmbibaaGreatDoorF33
set_option maxRecDepth 100000
set_option maxHeartbeats 20000000
set_option linter.unusedVariables false
set_option linter.unusedSimpArgs false
namespace Go.Proofs.YtfgidaaipmbibaaGreatDoor
section
open Go.RowKit Go.Maps Go.MapKept
structure Aud (w : World) (ab m1 m2 : Nat) (es : Array MapEntry) (c : Nat) : Prop where
  blk : Blk w ab [.int .i64 1, .map (some m1), .map (some m2)]
  map : w.heap[m2]? = some (.map es c)
theorem Aud.below {w w' : World} {ab m1 m2 c : Nat} {es : Array MapEntry} (h : Aud w ab m1 m2 es c) (hb : Below w.heap.size w w') : Aud w' ab m1 m2 es c :=
  ⟨h.blk.below hb, (hb.block m2 (Array.getElem?_eq_some_iff.1 h.map).1).trans h.map⟩
theorem note_of (ab m1 m2 c i j : Nat) (es es2 : Array MapEntry) (s : ByteArray) (n : Int) (w : World) (hA : Aud w ab m1 m2 es c)
    (hf : ∀ w, (Instr.findKey 45 (.agg #[.string s, .int .i64 n]) es.toList).run Tryz.prog w = .ok none w)
    (hf1 : ∀ w, (Instr.findKey 45 (.agg #[.string s, .int .i64 n]) (es.push (ZN (.agg #[.string s, .int .i64 n]) 0 c)).toList).run Tryz.prog w = .ok (some (j, .int .i64 0)) w)
    (hi : (es.push (ZN (.agg #[.string s, .int .i64 n]) 0 c)).findIdx? (fun e => ((e.born : Nat) : Int) == (c : Int)) = some i)
    (he : ((es.push (ZN (.agg #[.string s, .int .i64 n]) 0 c)).modify i fun e => { e with val := .int .i64 1 }) = es2) :
    Calls Tryz.prog 13 #[.pointer (some ⟨ab, 0, none⟩), .string s, .int .i64 n] w fun e w' => e = .returned (.tuple #[]) ∧ w'.heap[m2]? = some (.map es2 (c + 1)) ∧ w.grownBy w' (some m2) := by
  have b0 := hA.blk.cell 2 _ rfl
  have hbd : w.drew.heap[m2]? = some (.map es c) := hA.map
  have hL0 := fk_look (s := s) (n := n) hbd (hf _)
  obtain ⟨W1, hE, hb1, hg1, hz1⟩ := fk_entry (s := s) (n := n) hbd (hf _)
  have hL1 := fk_look1 (s := s) (n := n) hb1 (hf1 _)
  obtain ⟨W2, hS, hb2, hg2, hz2⟩ := fk_store (v := .int .i64 1) hb1 hi
  rw [he] at hb2
  have HB2 := Lib.hid hb2
  have HG2 : Hid (w.grownBy W2 (some m2)) := by
    show w.grownBy W2 (some m2)
    have h0 : w.grownBy w.drew (some m2) := ⟨rfl, rfl, rfl, Nat.le_refl _, fun _ _ _ => rfl⟩
    exact (h0.andThen hg1 (fun j hj => .inr hj)).andThen hg2 (fun j hj => .inr hj)
  clear hA hf hf1 hi he hbd hb1 hg1 hz1 hb2 hg2 hz2
  go_enter Tryz.func13, Tryz.ntmps13
  go_wp2_with fail
  go_region
  all_goals go_wp2_with fail
  all_goals go_end0
  all_goals exact ⟨rfl, HB2.out, HG2.out⟩
def fiA : Array Value := #[.string ⟨#[97]⟩, .int .i64 2, .int .i64 0, .string ⟨#[114, 111, 111, 116]⟩, .string ⟨#[114, 111, 111, 116]⟩, .string ⟨#[]⟩, .string ⟨#[]⟩, .bool false]
def zeE : Array Value := #[.string ⟨#[]⟩, .int .i64 0, .int .i64 0, .int .i64 0, .int .i64 0, .string ⟨#[]⟩, .string ⟨#[]⟩, .int .i64 0, .string ⟨#[]⟩, .slice none 0 0]
theorem zero_entry (w : World) : (zeroValue 42).run Tryz.prog w = .ok (.agg zeE) w := by kernel_rfl
theorem gb_of {w w' : World} {row : Option Nat} (hb : Below w.heap.size w w') : w.grownBy w' row := ⟨hb.os, hb.tape, hb.output, hb.size, fun k hk _ => hb.block k hk⟩
theorem fi_0 (k : Value) : ((#[] : Array MapEntry).push (ZN k 0 0)).findIdx? (fun e => ((e.born : Nat) : Int) == ((0 : Nat) : Int)) = some 0 := by
  simp [ZN, List.findIdx?_cons]
theorem fi_1 (k l : Value) (n : Nat) : ((#[ZN k n 0] : Array MapEntry).push (ZN l 0 1)).findIdx? (fun e => ((e.born : Nat) : Int) == ((1 : Nat) : Int)) = some 1 := by
  simp [ZN, List.findIdx?_cons]
theorem hold_a (ab m1 m2 k : Nat) (f : ByteArray → Option Value) (w : World) (hA : Aud w ab m1 m2 #[] 0) (hM : MapIs w m1 k f) (hf : f ⟨#[97]⟩ = none) :
    Calls Tryz.prog 11 #[.pointer (some ⟨ab, 0, none⟩), .agg fiA] w fun e w' => e = .returned (.tuple #[]) ∧ w'.heap[m2]? = some (.map #[ZN KA 1 0] 1) ∧ w.grownBy w' (some m2) := by
  have lk : ∀ W, Below w.heap.size w W → (Instr.lookup 50 (.map (some m1)) (.string ⟨#[97]⟩) true).run Tryz.prog W = .ok (.tuple #[.agg zeE, .bool false]) W := fun W hW => by
    have := (hM.below hW).look_ok Tryz.underlying50 zero_entry ⟨#[97]⟩ (by decide)
    rw [hf] at this
    exact this
  have HA := Lib.hid hA
  clear hA hM hf
  obtain ⟨W1, hW1⟩ : ∃ W1, w.alloc (.cells fiA 27) = W1 := ⟨_, rfl⟩
  have L1 : Hid (Below w.heap.size w W1) := by show Below _ _ _; rw [← hW1]; exact (Below.refl _ _).alloc (Nat.le_refl _) _
  have B1 : Hid (Blk W1 w.heap.size fiA.toList) := by show Blk _ _ _; rw [← hW1]; exact Blk.new w fiA.toList _
  have A1 := Lib.hid (HA.out.below L1.out)
  have k1 := A1.out.blk.cell 1 _ rfl
  have c0 := B1.out.cell 0 _ rfl
  have q1 := lk W1 L1.out
  have q2 := lk W1.drew (below_drewN L1.out 1)
  have q3 := lk ((W1.alloc (.cells zeE 42)).drew) (below_drewN (L1.out.alloc L1.out.size _) 1)
  have c0' := (B1.out.alloc (.cells zeE 42)).drew.cell 0 _ rfl
  have k1' := (A1.out.blk.alloc (.cells zeE 42)).drew.cell 1 _ rfl
  have LK := Lib.hid lk
  clear lk
  unfold fiA at hW1 ⊢
  unfold zeE at q1 q2 q3 c0' k1'
  go_enter Tryz.func11, Tryz.ntmps11
  go_wp2_with fail
  clear hW1
  go_region
  all_goals go_wp2_with fail
  all_goals (
    clear c0 k1 q1 q2 q3 c0' k1'
    refine (note_of ab m1 m2 0 0 0 #[] #[ZN KA 1 0] ⟨#[97]⟩ 1 _ (A1.out.below (by first | exact below_drewN ((Below.refl _ _).alloc (Nat.le_refl _) _) 1 | exact (below_drewN (Below.refl _ _) 1).alloc (Nat.le_refl _) _)) (fun w => find0 w _) (fun w => findA w 0 0 []) (fi_0 _) rfl).mono ?_; rintro e w' ⟨rfl, h1, h2⟩
    have H1 := Lib.hid h1
    have H2 : Hid (w.grownBy w' (some m2)) := by
      show w.grownBy w' (some m2)
      exact (gb_of (row := some m2) (by first | exact below_drewN (L1.out.alloc L1.out.size _) 1 | exact (below_drewN L1.out 1).alloc L1.out.size _)).andThen h2 (fun j hj => .inr hj)
    clear h1 h2
    go_wp2_with fail
    refine bodyPost_ret (results_none rfl _ _ _) rfl ?_
    exact ⟨rfl, H1.out, H2.out⟩)
end
end Go.Proofs.YtfgidaaipmbibaaGreatDoor
