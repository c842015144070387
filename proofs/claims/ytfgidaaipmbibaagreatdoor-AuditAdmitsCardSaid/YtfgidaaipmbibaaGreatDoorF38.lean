/- A part of the proof of a law on which findings a policy admits. No condition. -/
import Derived.Test.YtfgidaaipmbibaaGreatDoorF33
import Derived.Test.YtfgidaaipmbibaaGreatDoorF37
set_option maxRecDepth 100000
set_option maxHeartbeats 20000000
set_option linter.unusedVariables false
set_option linter.unusedSimpArgs false
namespace Go.Proofs.YtfgidaaipmbibaaGreatDoor
section
open Go.RowKit Go.Shelf
open Go.ChangeMaps (setBlock)
attribute [local go_sem] Oper.semAt_some
def E2 : Array MapEntry := #[ZN KA 1 0, ZN KB 1 1]
def encS (x : ByteArray × Int) : Array Value := #[.agg #[.string x.1, .int .i64 x.2]]
def Seen (s : Array Nat) (ss : List (ByteArray × Int)) : Prop := (s = #[] ∧ ss = []) ∨ (s = #[0] ∧ ss = [fA]) ∨ (s = #[1] ∧ ss = [fB]) ∨ (s = #[0, 1] ∧ ss = [fA, fB]) ∨ (s = #[1, 0] ∧ ss = [fB, fA])
theorem seen_end {s : Array Nat} {ss : List (ByteArray × Int)} (h : Seen s ss) (hl : (leftOf E2 s).size = 0) : ss = [fA, fB] ∨ ss = [fB, fA] := by
  rcases h with ⟨rfl, rfl⟩ | ⟨rfl, rfl⟩ | ⟨rfl, rfl⟩ | ⟨rfl, rfl⟩ | ⟨rfl, rfl⟩
  · exact absurd hl (by simp [leftOf, E2, ZN])
  · exact absurd hl (by simp [leftOf, E2, ZN])
  · exact absurd hl (by simp [leftOf, E2, ZN])
  · exact .inl rfl
  · exact .inr rfl
theorem seen_next {s : Array Nat} {ss : List (ByteArray × Int)} (h : Seen s ss) {e : MapEntry} (he : e ∈ (leftOf E2 s).toList) :
    ∃ x : ByteArray × Int, e.key = .agg #[.string x.1, .int .i64 x.2] ∧ Seen (s.push e.born) (ss ++ [x]) ∧ e ∈ E2.toList ∧ ss.length < 2 ∧ (leftOf E2 (s.push e.born)).size < (leftOf E2 s).size := by
  have hm : e = ZN KA 1 0 ∨ e = ZN KB 1 1 := by
    have : e ∈ E2.toList := by simp [leftOf] at he; simpa using he.1
    simpa [E2] using this
  rcases h with ⟨rfl, rfl⟩ | ⟨rfl, rfl⟩ | ⟨rfl, rfl⟩ | ⟨rfl, rfl⟩ | ⟨rfl, rfl⟩ <;> rcases hm with rfl | rfl
  · exact ⟨fA, rfl, .inr (.inl ⟨rfl, rfl⟩), by simp [E2], by decide, by simp [leftOf, E2, ZN]⟩
  · exact ⟨fB, rfl, .inr (.inr (.inl ⟨rfl, rfl⟩)), by simp [E2], by decide, by simp [leftOf, E2, ZN]⟩
  · simp [leftOf, E2, ZN] at he
  · exact ⟨fB, rfl, .inr (.inr (.inr (.inl ⟨rfl, rfl⟩))), by simp [E2], by decide, by simp [leftOf, E2, ZN]⟩
  · exact ⟨fA, rfl, .inr (.inr (.inr (.inr ⟨rfl, rfl⟩))), by simp [E2], by decide, by simp [leftOf, E2, ZN]⟩
  · simp [leftOf, E2, ZN] at he
  · simp [leftOf, E2, ZN] at he
  · simp [leftOf, E2, ZN] at he
  · simp [leftOf, E2, ZN] at he
  · simp [leftOf, E2, ZN] at he
def keysLeft (r : Nat) (w : World) : Nat := match w.heap[r]? with
  | some (.mapIter _ _ seen _) => (leftOf E2 seen).size
  | _ => 0
theorem keysLeft_eq {r : Nat} {w : World} {m : Option Nat} {s c : Nat} {seen : Array Nat} (h : w.heap[r]? = some (.mapIter m s seen c)) : keysLeft r w = (leftOf E2 seen).size := by unfold keysLeft; rw [h]
theorem keys1_in (F : Fence) (n : Nat) (hf : F.fn 37) (hro : F.round = none) (hn : 1 ≤ n) (l Bm b : Nat) (J Jx : List (ByteArray × Int) → World → Prop)
    (hY : ∀ pre x W, J pre W → pre.length < 2 → YieldAt F (n - 1) Tryz.prog l (encS x) W fun e W' =>
      (e = .returned (.bool true) ∧ J (pre ++ [x]) W' ∧ KeepsWalks W W') ∨ (e = .returned (.bool false) ∧ Jx (pre ++ [x]) W'))
    (W : World) (hJ : AbidesFrom W.heap.size J) (hm : W.cell? ⟨Bm, 0, none⟩ = some (.map (some b))) (hb : W.heap[b]? = some (.map E2 2)) (h0 : J [] W) :
    CallsIn F n Tryz.prog 37 #[.func (.yield l) #[] #[], .pointer (some ⟨Bm, 0, none⟩)] W fun e W' => (∃ v, e = .returned v) ∧
      ((∃ ss, (ss = [fA, fB] ∨ ss = [fB, fA]) ∧ J ss W') ∨ (∃ pre : List (ByteArray × Int), True ∧ Jx pre W')) := by
  have hrg := run_range_map (P := Tryz.prog) W _ _ _ b E2 2 Tryz.underlying51 hb
  refine callsIn_of_wp Tryz.func37 rfl hf ?_ hro
  simp only [Tryz.ntmps37, List.size_toArray, List.length_cons, List.length_nil, Nat.reduceAdd, Nat.reduceSub, Array.replicate_succ, Array.replicate_zero, List.push_toArray, List.append_toArray, List.nil_append, List.cons_append]
  gi_wp2
  gi_loopw [3] (fun _ wr => ∃ (s : Array Nat) (ss : List (ByteArray × Int)), wr.heap[W.heap.size]? = some (.mapIter (some b) 2 s 2) ∧ wr.heap[b]? = some (.map E2 2) ∧ Seen s ss ∧ J ss wr) (fun _ wr => keysLeft W.heap.size wr)
  case atStart =>
    exact ⟨#[], [], heap_alloc_new W _, (Below.heap_alloc W _ b (Array.getElem?_eq_some_iff.1 hb).1).trans hb, .inl ⟨rfl, rfl⟩, hJ [] W _ none h0 (World.grownBy_alloc W _ none) (fun r e => by cases e)⟩
  case round =>
    obtain ⟨s, ss, hr, hbr, hS, hJs⟩ := hrel
    have hW := (Array.getElem?_eq_some_iff.1 hr).1
    have hne : W.heap.size ≠ b := fun e => by rw [e, hbr] at hr; cases hr
    rcases run_next_at (P := Tryz.prog) wr 0 W.heap.size b 2 2 s E2 2 hr hbr (by simp [E2, ZN]) (Nat.le_refl 2) with ⟨hl, hrun⟩ | ⟨e, he, w1, hal, hrun⟩
    · have hend := seen_end hS hl
      clear hl hS hr hbr
      gi_wp2
      go_end0
      exact ⟨⟨_, rfl⟩, .inl ⟨ss, hend, hJs⟩⟩
    · obtain ⟨x, hkey, hS2, hem, hlen, hlt⟩ := seen_next hS he
      have hr1 : w1.heap[W.heap.size]? = some (.mapIter (some b) 2 s 2) := by rcases hal with rfl | rfl <;> exact hr
      have hb1 : w1.heap[b]? = some (.map E2 2) := by rcases hal with rfl | rfl <;> exact hbr
      have hset := Go.MapKept.heap_set (o' := .mapIter (some b) 2 (s.push e.born) 2) hr1
      have hg1 : wr.grownBy (setBlock w1 W.heap.size (.mapIter (some b) 2 (s.push e.born) 2)) (some W.heap.size) := by
        rcases hal with rfl | rfl <;> exact ⟨rfl, rfl, rfl, by simp [setBlock], fun k _ hk => hset.2 k (fun e => hk (by rw [e]))⟩
      obtain ⟨w2, hw2⟩ : ∃ w2, setBlock w1 W.heap.size (.mapIter (some b) 2 (s.push e.born) 2) = w2 := ⟨_, rfl⟩
      have hr2 : (setBlock w1 W.heap.size (.mapIter (some b) 2 (s.push e.born) 2)).heap[W.heap.size]? = some (.mapIter (some b) 2 (s.push e.born) 2) := hset.1
      have hb2 : (setBlock w1 W.heap.size (.mapIter (some b) 2 (s.push e.born) 2)).heap[b]? = some (.map E2 2) := (hset.2 b (fun e1 => hne e1.symm)).trans hb1
      rw [hw2] at hrun hg1 hr2 hb2
      have hent := run_entry_at (P := Tryz.prog) w2 W.heap.size b 2 s E2 2 e hr2 hb2 hem (by simp [E2, ZN])
      rw [hkey] at hent hrun
      have hJ2 : J ss w2 := hJ ss wr w2 (some W.heap.size) hJs hg1 (fun r e => by cases e; exact ⟨Nat.le_refl _, _, hr, rfl⟩)
      have hJ3 : J ss (w2.alloc (.cells #[.string x.1, .int .i64 x.2] 45)) := hJ ss w2 _ none hJ2 (World.grownBy_alloc w2 _ none) (fun r e => by cases e)
      obtain ⟨fn, tmps, assign, body, hy, hR⟩ := hY ss x _ hJ3 hlen
      have hlo := keysLeft_eq hr
      have HS2 := Lib.hid hS2
      have HLT := Lib.hid hlt
      have HR2 := Lib.hid ((Below.heap_alloc w2 (.cells #[.string x.1, .int .i64 x.2] 45) _ (Array.getElem?_eq_some_iff.1 hr2).1).trans hr2)
      have HB2 := Lib.hid ((Below.heap_alloc w2 (.cells #[.string x.1, .int .i64 x.2] 45) _ (Array.getElem?_eq_some_iff.1 hb2).1).trans hb2)
      have HLO := Lib.hid hlo
      clear hS2 hlt hr hbr hS hr1 hb1 hset hg1 hr2 hb2 hw2 hJ2 hJ3 hal he hem hlen hkey hlo
      unfold encS at hy
      gi_wp2
      refine hR.mono ?_
      rintro e' W3 (⟨rfl, hJ3, hk3⟩ | ⟨rfl, hJx3⟩)
      · have hr3 := hk3.same _ _ HR2.out rfl
        have hb3 := hk3.same _ _ HB2.out rfl
        have HR3 := Lib.hid hr3; have HB3 := Lib.hid hb3; have HJ3 := Lib.hid hJ3
        clear hr3 hb3 hk3 hJ3
        gi_wp2
        go_roundw
        case rel => exact ⟨_, ss ++ [x], HR3.out, HB3.out, HS2.out, HJ3.out⟩
        case measure => rw [keysLeft_eq HR3.out, HLO.out]; exact HLT.out
      · gi_wp2
        refine bodyPost_ret (results_none rfl _ _ _) rfl ?_
        exact ⟨⟨_, rfl⟩, .inr ⟨ss ++ [x], trivial, hJx3⟩⟩
end
end Go.Proofs.YtfgidaaipmbibaaGreatDoor
