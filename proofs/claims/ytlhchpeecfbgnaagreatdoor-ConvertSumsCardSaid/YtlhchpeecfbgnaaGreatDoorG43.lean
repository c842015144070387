/- A part of the proof that the digests of any content are the three of it, and that an installed set is new memory. No condition. -/
import Derived.Test.YtlhchpeecfbgnaaGreatDoorG24
import Derived.Test.YtlhchpeecfbgnaaGreatDoorG42
set_option maxRecDepth 100000
set_option maxHeartbeats 20000000
set_option linter.unusedVariables false
set_option linter.unusedSimpArgs false
namespace Go.Proofs.YtlhchpeecfbgnaaGreatDoor
section
open Go.RowKit
theorem take4 {l : List B32} (h : l.length = 8) : ∃ a b c d, l.take 4 = [a, b, c, d] := by
  match l, h with
  | [a, b, c, d, _, _, _, _], _ => exact ⟨a, b, c, d, rfl⟩
theorem take5 {l : List B32} (h : l.length = 8) : ∃ a b c d e, l.take 5 = [a, b, c, d, e] := by
  match l, h with
  | [a, b, c, d, e, _, _, _], _ => exact ⟨a, b, c, d, e, rfl⟩
theorem take8 {l : List B32} (h : l.length = 8) : ∃ a b c d e f g i, l = [a, b, c, d, e, f, g, i] := by
  match l, h with
  | [a, b, c, d, e, f, g, i], _ => exact ⟨a, b, c, d, e, f, g, i, rfl⟩
theorem below_low {n m : Nat} {a b : World} (h : Below n a b) (hm : m ≤ n) : Below m a b := ⟨h.os, h.tape, h.output, h.size, fun i hi => h.block i (Nat.lt_of_lt_of_le hi hm)⟩
theorem wordsOf_len (low : Bool) (blk : List UInt8) : (wordsOf low blk).length = 16 := by simp [wordsOf]
def StepPost (kd base : Nat) (st : List B32) (blk : List UInt8) (w : World) (e : Ending) (w' : World) : Prop := ∃ g, e = .returned (.slice (some ⟨g, 0, none⟩) (wordsN kd) (wordsN kd)) ∧ base ≤ g ∧ Rd w' 1 (some ⟨g, 0, none⟩) (wordsN kd) (((compress kd st blk).take (wordsN kd)).map vw) ∧ Below base w w'
theorem step_md5 (base ba ca cb : Nat) (B : Option Addr) (st : List B32) (blk : List UInt8) (w : World) (hG : GlT w) (hst : st.length = 8) (hbase : base ≤ w.heap.size) (hs : Rd w 1 (some ⟨ba, 0, none⟩) 4 ((st.take 4).map vw)) (hw : w.ownsRow base 76 1 (.slice B 16 cb) 16 ((wordsOf true blk).map vw)) :
    Calls Tryz.prog 30 #[.slice (some ⟨ba, 0, none⟩) 4 ca, .slice B 16 cb] w (StepPost 1 base st blk w) := by
  obtain ⟨a, b, c, d, h4⟩ := take4 hst
  rw [h4] at hs
  obtain ⟨g, cap, hv, hg, hg'⟩ := hw.form (by decide)
  injection hv with h1 _ h2
  subst h1 h2
  refine (r02_md5 ba 0 ca g 0 cb a b c d _ w hG (wordsOf_len _ _) hs (owns_rd hw)).mono ?_
  rintro e w' ⟨g', rfl, hg2, hr, hb⟩
  refine ⟨g', rfl, by omega, ?_, below_low hb hbase⟩
  show Rd _ _ _ 4 (((compress 1 st blk).take 4).map vw)
  rw [take_compress1 st blk h4 hst]
  exact hr _ rfl
theorem step_sha1 (base ba ca cb : Nat) (B : Option Addr) (st : List B32) (blk : List UInt8) (w : World) (hst : st.length = 8) (hbase : base ≤ w.heap.size) (hba : ba < base) (hs : Rd w 1 (some ⟨ba, 0, none⟩) 5 ((st.take 5).map vw)) (hw : w.ownsRow base 76 1 (.slice B 16 cb) 16 ((wordsOf false blk).map vw)) :
    Calls Tryz.prog 31 #[.slice (some ⟨ba, 0, none⟩) 5 ca, .slice B 16 cb] w (StepPost 2 base st blk w) := by
  obtain ⟨a, b, c, d, e, h5⟩ := take5 hst
  rw [h5] at hs
  refine (r02_sha1 base ba 0 ca cb B a b c d e _ w (wordsOf_len _ _) hbase hba hs hw).mono ?_
  rintro e w' ⟨g', rfl, hg2, hr, hb⟩
  refine ⟨g', rfl, hg2, ?_, hb⟩
  show Rd _ _ _ 5 (((compress 2 st blk).take 5).map vw)
  rw [take_compress2 st blk h5 hst rfl]
  exact hr _ rfl
theorem step_sha256 (base ba ca cb : Nat) (B : Option Addr) (st : List B32) (blk : List UInt8) (w : World) (hgb : ∀ w', Below base w w' → GlT w') (hst : st.length = 8) (hbase : base ≤ w.heap.size) (hba : ba < base) (hs : Rd w 1 (some ⟨ba, 0, none⟩) 8 ((st.take 8).map vw)) (hw : w.ownsRow base 76 1 (.slice B 16 cb) 16 ((wordsOf false blk).map vw)) :
    Calls Tryz.prog 32 #[.slice (some ⟨ba, 0, none⟩) 8 ca, .slice B 16 cb] w (StepPost 3 base st blk w) := by
  have hc := compress_len 3 blk hst
  obtain ⟨a, b, c, d, e, f, g, i, rfl⟩ := take8 hst
  refine (r02_sha256 base ba 0 ca cb B a b c d e f g i _ w (wordsOf_len _ _) hbase hgb hba hs hw).mono ?_
  rintro e w' ⟨g', rfl, hg2, hr, hb⟩
  refine ⟨g', rfl, hg2, ?_, hb⟩
  show Rd _ _ _ 8 (((compress 3 _ blk).take 8).map vw)
  rw [List.take_of_length_le (by omega), take_compress3 _ blk rfl rfl]
  exact hr _ rfl
end
end Go.Proofs.YtlhchpeecfbgnaaGreatDoor
