/- A part of the proof of a law on which findings a policy admits. No condition. -/
import Derived.Test.YtfgidaaipmbibaaGreatDoorF38
set_option maxRecDepth 100000
set_option maxHeartbeats 20000000
set_option linter.unusedVariables false
set_option linter.unusedSimpArgs false
namespace Go.Proofs.YtfgidaaipmbibaaGreatDoor
section
open Go.RowKit Go.Shelf
attribute [local go_sem] Oper.semAt_some
def BothF (ss : List (ByteArray × Int)) : Prop := ss = [fA, fB] ∨ ss = [fB, fA]
theorem keys_stops (F : Fence) (n : Nat) (hf : F.fn 37) (hro : F.round = none) (hn : 1 ≤ n) (Bm b : Nat) (w : World) (hBm : Bm < w.heap.size) (hm : w.cell? ⟨Bm, 0, none⟩ = some (.map (some b))) (hb : w.heap[b]? = some (.map E2 2)) :
    SeqStopsK F n Tryz.prog 37 #[.pointer (some ⟨Bm, 0, none⟩)] encS KeepsWalks BothF (fun _ => True) 2 w := fun l J Jx W hW hJ _ hY h0 =>
  keys1_in F n hf hro hn l Bm b J Jx hY W hJ ((hW.cell (p := ⟨Bm, 0, none⟩) hBm).trans hm) ((hW.block b (Array.getElem?_eq_some_iff.1 hb).1).trans hb) h0
theorem infoF : (Tryz.prog.info? 45).map (fun i => (i.zero, i.size, i.bytes)) = some (some (.agg #[.string ⟨#[]⟩, .int .i64 0]), 2, 24) := by kernel_rfl
theorem cells_two_new (w : World) (x y : Value) (t : TypeId) : ∀ j u, [x, y][j]? = some u → (w.alloc (.cells #[x, y] t)).cell? ((⟨w.heap.size, 0, none⟩ : Addr).add j) = some u := by
  intro j u hj
  match j, hj with
  | 0, hj => simp at hj; subst hj; simp [Addr.add]
  | 1, hj => simp at hj; subst hj; simp [Addr.add]
def flatF (ss : List (ByteArray × Int)) : List Value := ss.flatMap fun x => [.string x.1, .int .i64 x.2]
theorem flatF_snoc (ss : List (ByteArray × Int)) (x : ByteArray × Int) : flatF (ss ++ [x]) = flatF ss ++ [.string x.1, .int .i64 x.2] := by simp [flatF]
def AxF (B : Nat) (sv : Value) (x : ByteArray × Int) (a' : Act) (W : World) : Prop :=
  ∃ Bx, B < Bx ∧ W.heap[Bx]? = some (.cells #[.string x.1, .int .i64 x.2] 45 (0, 0)) ∧ a' = { tmps := #[.slice none 0 0, sv, .pointer (some ⟨B, 0, none⟩), undef, .slice none 0 0, .pointer (some ⟨Bx, 0, none⟩), sv, .agg #[.string x.1, .int .i64 x.2], undef, undef, undef, undef, undef], defers := [] }
theorem axF_own (B n : Nat) (sv : Value) (x : ByteArray × Int) (a' : Act) : OwnFrom n (fun (_ : Unit) W => AxF B sv x a' W) := by
  rintro _ W W' row ⟨Bx, h1, h2, h3⟩ hg hr
  refine ⟨Bx, h1, (hg.block Bx (Array.getElem?_eq_some_iff.1 h2).1 (fun e => ?_)).trans h2, h3⟩
  obtain ⟨_, o, ho, hc⟩ := hr Bx e.symm
  rw [h2] at ho; cases ho; cases hc
theorem AppendSeq_in (F : Fence) (n : Nat) (hf : F.fn 58) (hk : F.fn 37) (hro : F.round = none) (hn : 3 ≤ n) (Bm b : Nat) (w : World) (hBm : Bm < w.heap.size) (hm : w.cell? ⟨Bm, 0, none⟩ = some (.map (some b))) (hb : w.heap[b]? = some (.map E2 2)) :
    CallsIn F n Tryz.prog 58 #[.slice none 0 0, .func (.func 37) #[] #[.pointer (some ⟨Bm, 0, none⟩)]] w fun e W' => ∃ v ss, e = .returned v ∧ BothF ss ∧ W'.ownsRow w.heap.size 45 2 v 2 (flatF ss) ∧ Below w.heap.size w W' := by
  have h1 : 1 ≤ n := by omega
  obtain ⟨i0, hi, hz0, hz1, hz2⟩ := info_parts infoF
  refine callsIn_of_wp_marks Tryz.func58 rfl hf ?_ hro
  simp only [Tryz.ntmps58, List.size_toArray, List.length_cons, List.length_nil, Nat.reduceAdd, Nat.reduceSub, Array.replicate_succ, Array.replicate_zero, List.push_toArray, List.append_toArray, List.nil_append, List.cons_append]
  gi_wp2
  have bO := Boxed.new w 23 (.slice none 0 0)
  have hB0 : Below w.heap.size w (w.alloc (.cells #[.slice none 0 0] 23)) := (Below.refl _ w).alloc (Nat.le_refl _) _
  refine wpIn_rangeFunc_ownH hro h1 (gf := 37) (lb := #[.pointer (some ⟨Bm, 0, none⟩)]) rfl hk (enters_of Tryz.func37 (by kernel_rfl) rfl)
    (keys_stops F (n - 1) hk hro (by omega) Bm b w hBm hm hb) walksK_t walksK_b hB0 (fun _ => rfl)
    (fun pre W => (∃ v, Boxed W w.heap.size 23 v ∧ W.ownsRow w.heap.size 45 2 v pre.length (flatF pre) ∧ (v = .slice none 0 0 ↔ pre = [])) ∧ Below w.heap.size w W)
    (fun _ _ _ => False)
    (OwnFrom.and (Own.from (holdsRow_own w.heap.size w.heap.size 23 45 2 (fun pre => pre.length) flatF (fun pre v => v = .slice none 0 0 ↔ pre = [])) _) (ownFrom_below (Nat.le_refl _) (by simp)))
    (fun _ _ _ _ _ hs _ _ => hs)
    ⟨⟨_, bO, World.ownsRow_nil _ _ _ _, by simp⟩, hB0⟩
    (AxF w.heap.size (.func (.func 37) #[] #[.pointer (some ⟨Bm, 0, none⟩)])) (fun x a' => axF_own _ _ _ x a') ?assign ?body ?done ?stop
  case assign =>
    rintro l pre x W K ⟨⟨v, hv, hrow, hnil⟩, hB⟩ hK
    unfold encS
    gi_wp2
    refine hK _ _ ((KeepsOthers.alloc _ _).from _) (KeepsOthers.alloc _ _).walks ⟨⟨v, hv.alloc _, hrow.alloc _, hnil⟩, hB.alloc hB.size _⟩ ⟨W.heap.size, hv.lt, World.alloc_heap_new W _, rfl⟩
  case body =>
    rintro l pre x a' W hl ⟨r, hr⟩ ⟨⟨v, hv, hrow, hnil⟩, hB⟩ ⟨Bx, hBx, hX, rfl⟩ hlt
    have hc := hv.cell
    have x0 : W.cell? ⟨Bx, 0, none⟩ = some (.string x.1) := by simp [World.cell?, hX]
    have x1 : W.cell? ⟨Bx, 1, none⟩ = some (.int .i64 x.2) := by simp [World.cell?, hX]
    gi_wp2_with (gi_at_builtin; refine wpListIn_append_own _ rfl _ _ 23 rfl w.heap.size 45 i0 _ 2 24 Tryz.underlying23 hi hz0 hz1 hz2 rfl (by decide) _ _ _ rfl (hrow.alloc _) ⟨W.heap.size, 0, none⟩ 1 1 [.string x.1, .int .i64 x.2] rfl rfl (cells_two_new _ _ _ _) (by simp [Value.oneCell']) (by unfold maxLen; omega) (by omega) (by have := hB.size; simp; omega) ?_; intro v' w1 hown' hgrow _; obtain ⟨g', cap', rfl⟩ := ownsRow_succ hown'; obtain ⟨hv1, hv2, hr2, hk2, hb2⟩ := hv.appended (by decide) hrow hB.size (Nat.le_refl _) hown' hgrow; have hc1 := hv1.cell; have hf1 := hv1.frozen)
    exact ⟨hk2.from _, hk2.walks, ⟨_, hv2, by rw [flatF_snoc]; simpa using hr2, by simp⟩, hB.trans hb2⟩
  case done =>
    rintro D ys W hD hS ⟨⟨v, hv, hrow, hnil⟩, hB⟩ hK
    have hc := hv.cell
    have hl : ys.length = 2 := by rcases hS with rfl | rfl <;> rfl
    rw [hl] at hrow
    gi_wp2
    refine ⟨by simp, .inl ⟨_, _, rfl, run_takeDeferred hK, ?_⟩⟩
    exact ⟨_, results_tmp rfl _ _ _, v, ys, rfl, hS, ownsRow_putObj hrow _ hK rfl, hB.trans (belowK_b (w := w) (Nat.le_refl _) W D _ _ (by simp at hD; omega) hK rfl rfl)⟩
  case stop =>
    rintro D c pre W _ _ h _
    exact h.elim
end
end Go.Proofs.YtfgidaaipmbibaaGreatDoor
