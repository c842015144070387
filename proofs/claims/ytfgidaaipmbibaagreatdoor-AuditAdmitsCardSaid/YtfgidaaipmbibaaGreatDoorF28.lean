/- A part of the proof of a law on which findings a policy admits. No condition. -/
import Derived.Test.YtfgidaaipmbibaaGreatDoorF19
import Derived.Test.YtfgidaaipmbibaaGreatDoorF24
import Derived.Test.YtfgidaaipmbibaaGreatDoorF25
import Derived.Test.YtfgidaaipmbibaaGreatDoorF26
set_option maxRecDepth 100000
set_option maxHeartbeats 20000000
set_option linter.unusedVariables false
set_option linter.unusedSimpArgs false
namespace Go.Proofs.YtfgidaaipmbibaaGreatDoor
section
open Go.RowKit Go.Maps
def orderB (prev : Option FileM) (f : FileM) : Bool := match prev with
  | none => true
  | some g => decide (bl g.path < bl f.path)
def parBad (pre : List FileM) (f : FileM) : Bool := parB f.path && pre.any (fun g => decide (g.path = parS f.path) && decide (g.kind ≠ 2))
def fErr (fmt : Int) (pre : List FileM) (f : FileM) : Int :=
  if (pathB (bl f.path) && plainB (bl f.path)) = false then 10 else if orderB pre.getLast? f = false then 15 else if ¬ (f.kind = 1 ∨ f.kind = 2 ∨ f.kind = 3) then 9
  else if restB fmt f = false then 1 else if parBad pre f = true then 9 else 0
def filesE (fmt : Int) : List FileM → List FileM → Option (ByteArray × Int)
  | _, [] => none
  | pre, f :: r => if fErr fmt pre f = 0 then filesE fmt (pre ++ [f]) r else some (f.path, fErr fmt pre f)
theorem filesE_next {fmt : Int} {fs : List FileM} {k : Nat} {f : FileM} (h : fs[k]? = some f) (h0 : filesE fmt [] fs = filesE fmt (fs.take k) (fs.drop k)) (he : fErr fmt (fs.take k) f = 0) : filesE fmt [] fs = filesE fmt (fs.take (k + 1)) (fs.drop (k + 1)) := by
  obtain ⟨hk, hf⟩ := List.getElem?_eq_some_iff.1 h
  rw [h0, List.drop_eq_getElem_cons hk, hf, filesE, if_pos he, List.take_succ_eq_append_getElem hk, hf]
theorem filesE_bad {fmt : Int} {fs : List FileM} {k : Nat} {f : FileM} (h : fs[k]? = some f) (h0 : filesE fmt [] fs = filesE fmt (fs.take k) (fs.drop k)) (he : fErr fmt (fs.take k) f ≠ 0) : filesE fmt [] fs = some (f.path, fErr fmt (fs.take k) f) := by
  obtain ⟨hk, hf⟩ := List.getElem?_eq_some_iff.1 h
  rw [h0, List.drop_eq_getElem_cons hk, hf, filesE, if_neg he]
theorem filesE_end {fmt : Int} {fs : List FileM} {k : Nat} (hk : fs.length ≤ k) (h0 : filesE fmt [] fs = filesE fmt (fs.take k) (fs.drop k)) : filesE fmt [] fs = none := by
  rw [h0, List.drop_of_length_le hk]; rfl
def filesAns (fmt : Int) (fs : List FileM) : ByteArray × Int := if 512 < fs.length then (⟨#[102, 105, 108, 101, 115]⟩, 4) else (filesE fmt [] fs).getD (⟨#[]⟩, 0)
def filesV (fmt : Int) (fs : List FileM) : Value := .tuple #[.string (filesAns fmt fs).1, .int .i64 (filesAns fmt fs).2]
structure KInv (pre : List FileM) (g : ByteArray → Option Value) : Prop where
  sorted : (fpaths pre).Pairwise (fun s t => bl s < bl t)
  kind : ∀ x ∈ pre, g x.path = some (.int .i64 x.kind)
  mem : ∀ s, g s ≠ none → s ∈ fpaths pre
theorem KInv.nil : KInv [] (fun _ => none) := ⟨by simp [fpaths], by simp, by simp⟩
theorem KInv.less {pre : List FileM} {g : ByteArray → Option Value} (h : KInv pre g) {f : FileM} (ho : orderB pre.getLast? f = true) : ∀ x ∈ pre, bl x.path < bl f.path := by
  intro x hx
  cases hl : pre.getLast? with
  | none => rw [List.getLast?_eq_none_iff] at hl; subst hl; simp at hx
  | some y =>
    rw [hl] at ho
    have hyf : bl y.path < bl f.path := of_decide_eq_true ho
    obtain ⟨ys, rfl⟩ := List.getLast?_eq_some_iff.1 hl
    rcases List.mem_append.1 hx with hx | hx
    · have hs := h.sorted
      rw [show fpaths (ys ++ [y]) = fpaths ys ++ [y.path] by simp [fpaths], List.pairwise_append] at hs
      exact lt_tr (hs.2.2 x.path (List.mem_map.2 ⟨x, hx, rfl⟩) y.path (by simp)) hyf
    · rw [List.mem_singleton.1 hx]; exact hyf
theorem KInv.put {pre : List FileM} {g : ByteArray → Option Value} (h : KInv pre g) {f : FileM} (ho : orderB pre.getLast? f = true) : KInv (pre ++ [f]) (fun x => if x = f.path then some (.int .i64 f.kind) else g x) := by
  have hl := h.less ho
  refine ⟨?_, fun x hx => ?_, fun s hs => ?_⟩
  · rw [show fpaths (pre ++ [f]) = fpaths pre ++ [f.path] by simp [fpaths], List.pairwise_append]
    refine ⟨h.sorted, by simp, fun a ha b hb => ?_⟩
    obtain ⟨x, hx, rfl⟩ := List.mem_map.1 ha
    rw [List.mem_singleton.1 hb]; exact hl x hx
  · rcases List.mem_append.1 hx with hx | hx
    · have hne : x.path ≠ f.path := fun e => by have := hl x hx; rw [e] at this; exact lt_irr _ this
      simp only [if_neg hne]; exact h.kind x hx
    · rw [List.mem_singleton.1 hx]; simp
  · by_cases e : s = f.path
    · subst e; simp [fpaths]
    · simp only [if_neg e] at hs
      have := h.mem s hs
      simp only [fpaths, List.map_append, List.mem_append] at this ⊢
      exact .inl this
theorem KInv.par {pre : List FileM} {g : ByteArray → Option Value} (h : KInv pre g) (f : FileM) (hp : parB f.path = true) :
    (g (parS f.path) = none ∧ parBad pre f = false) ∨ ∃ k : Int, g (parS f.path) = some (.int .i64 k) ∧ parBad pre f = decide (k ≠ 2) := by
  unfold parBad
  rw [hp]
  cases hg : g (parS f.path) with
  | none =>
    refine .inl ⟨rfl, ?_⟩
    rw [Bool.true_and, List.any_eq_false]
    intro x hx hc
    rw [Bool.and_eq_true] at hc
    have he := of_decide_eq_true hc.1
    have := h.kind x hx
    rw [he, hg] at this; cases this
  | some v =>
    obtain ⟨x, hx, he⟩ := List.mem_map.1 (h.mem (parS f.path) (by rw [hg]; simp))
    have hk := h.kind x hx
    have he : x.path = parS f.path := he
    rw [he, hg] at hk
    injection hk with hk
    subst hk
    refine .inr ⟨x.kind, rfl, ?_⟩
    rw [Bool.true_and, Bool.eq_iff_iff, List.any_eq_true, decide_eq_true_iff]
    constructor
    · rintro ⟨y, hy, hc⟩
      rw [Bool.and_eq_true] at hc
      have hye := of_decide_eq_true hc.1
      have hyk := of_decide_eq_true hc.2
      have h1 := h.kind y hy
      have h2 := h.kind x hx
      rw [hye] at h1
      rw [he, h1] at h2
      injection h2 with h2
      injection h2 with _ h2
      rw [← h2]; exact hyk
    · intro hk
      exact ⟨x, hx, by rw [decide_eq_true he, decide_eq_true hk]; rfl⟩
theorem parS_le (s : ByteArray) : (parS s).size ≤ s.size := by
  have h : (bl (parS s)).length ≤ (bl s).length := by
    unfold parS; rw [bl_mk]
    unfold parentL
    split
    · cases lastL 47 (bl s) with
      | none => simp
      | some i => simp only [Option.map_some, Option.getD_some]; rw [List.length_take]; omega
    · simp
  rw [bl_length, bl_length] at h; exact h
theorem zeroInt (w : World) : (zeroValue 3).run Tryz.prog w = .ok (.int .i64 0) w := by kernel_rfl
theorem model_parentRight (f : FileM) (pre : List FileM) (g : ByteArray → Option Value) (mb B n : Nat) (w : World) (hG : Gl w) (hc : w.cell? ⟨mb, 0, none⟩ = some (.map (some B))) (hlt : mb < w.heap.size) (hM : MapIs w B n g) (hK : KInv pre g) (hs : f.path.size ≤ 4294967280) :
    Calls Tryz.prog 68 #[.string f.path, .pointer (some ⟨mb, 0, none⟩)] w fun e w' => e = .returned (.bool (!parBad pre f)) ∧ Below w.heap.size w w' := by
  have HG := Lib.hid hG; have HM := Lib.hid hM; have HK := Lib.hid hK; have HC := Lib.hid hc
  clear hG hM hK hc
  go_enter Tryz.func68, Tryz.ntmps68
  go_wp2_with fail
  refine (entry_Parent f.path _ HG.out hs).mono ?_; rintro e w1 ⟨rfl, hb⟩
  have HB := Lib.hid hb
  have hc1 : w1.cell? ⟨mb, 0, none⟩ = some (.map (some B)) := (hb.cell (p := ⟨mb, 0, none⟩) hlt).trans HC.out
  have hpl := parS_le f.path
  have hlk := (HM.out.below hb).look_ok Tryz.underlying81 zeroInt (parS f.path) (by unfold maxLen; omega)
  clear hb
  unfold parV
  cases hp : parB f.path
  · have E : Hid (parBad pre f = false) := by show _ = _; unfold parBad; rw [hp]; rfl
    clear hp
    go_wp2_with fail
    go_ret
    exact ⟨ret_bool (by rw [E.out]; rfl), HB.out⟩
  · rcases HK.out.par f hp with ⟨h1, h2⟩ | ⟨k, h1, h2⟩
    · rw [h1] at hlk
      simp only [Option.getD_none, Option.isSome_none] at hlk
      have E := Lib.hid h2
      clear h1 h2 hp
      go_wp2_with fail
      go_ret
      exact ⟨ret_bool (by rw [E.out]; rfl), HB.out⟩
    · rw [h1] at hlk
      simp only [Option.getD_some, Option.isSome_some] at hlk
      by_cases hk : k = 2
      · have hk1 : (k == 2) = true := by simpa using hk
        have E : Hid (parBad pre f = false) := by show _ = _; rw [h2]; simp [hk]
        clear h1 h2 hp hk
        go_wp2_with fail
        go_ret
        exact ⟨ret_bool (by rw [E.out]; rfl), HB.out⟩
      · have hk1 : (k == 2) = false := by simpa using hk
        have E : Hid (parBad pre f = true) := by show _ = _; rw [h2]; simp [hk]
        clear h1 h2 hp hk
        go_wp2_with fail
        go_ret
        exact ⟨ret_bool (by rw [E.out]; rfl), HB.out⟩
end
end Go.Proofs.YtfgidaaipmbibaaGreatDoor
