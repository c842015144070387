/- A part of the proof that the digests of any content are the three of it, and that an installed set is new memory. No condition. -/
import Derived.Test.YtlhchpeecfbgnaaGreatDoorG24
import Derived.Test.YtlhchpeecfbgnaaGreatDoorG27
set_option maxRecDepth 100000
set_option maxHeartbeats 20000000
set_option linter.unusedVariables false
set_option linter.unusedSimpArgs false
namespace Go.Proofs.YtlhchpeecfbgnaaGreatDoor
def ltB : List UInt8 → Bool
  | [] => true
  | [b] => smlB b
  | _ => false
def coreB (c : CoreM) : Bool := !c.nums.isEmpty && (c.nums.all (fun n => decide (n ≤ 999999999)) && (decide (c.ep ≤ 999999999) && (decide (c.pnum ≤ 999999999) && (decide (c.rev ≤ 999999999) && (ltB c.lt && (((c.pre.isEmpty && decide (c.pnum = 0)) || presL.contains c.pre) && decide ((coreT 1 c).length ≤ 64)))))))
theorem ltB_iff (l : List UInt8) : ltB l = true ↔ l = [] ∨ ∃ b, l = [b] ∧ smlB b = true := by
  match l with
  | [] => simp [ltB]
  | [b] => simp [ltB]
  | a :: b :: r => simp [ltB]
theorem coreB_iff (c : CoreM) : coreB c = true ↔ c.ok := by
  unfold coreB
  simp only [Bool.and_eq_true, Bool.or_eq_true, decide_eq_true_eq, Bool.not_eq_true', List.isEmpty_eq_false_iff, List.isEmpty_iff, List.all_eq_true, ltB_iff, List.contains_iff_mem]
  constructor
  · rintro ⟨h1, h2, h3, h4, h5, h6, h7, h8⟩; exact ⟨h1, h2, h3, h4, h5, h6, h7, h8⟩
  · rintro ⟨h1, h2, h3, h4, h5, h6, h7, h8⟩; exact ⟨h1, h2, h3, h4, h5, h6, h7, h8⟩
def printB (fmt : Int) (c : CoreM) : Bool := coreB c && (!decide (fmt = 3 ∧ c.ep ≠ 0) && decide ((coreT fmt c).length ≤ 64))
def prtV (fmt : Int) (c : CoreM) : List UInt8 × Int := if printB fmt c = true then (coreT fmt c, 0) else ([], 11)
def fits (fmt : Int) (l : List UInt8) (c : CoreM) : Bool := printB fmt c && decide (coreT fmt c = l)
def prsC (fmt : Int) (l : List UInt8) : Option CoreM := match splitF fmt l with
  | none => none
  | some x => if fits fmt l (candP fmt x) = true then some (candP fmt x) else none
def prsE (fmt : Int) (s : ByteArray) : Int := if verE fmt s ≠ 0 then verE fmt s else if prsC fmt (bl s) = none then 11 else 0
def trans (a b : Int) (s : ByteArray) : List UInt8 × Int :=
  if ¬ (a = 1 ∨ a = 2 ∨ a = 3) ∨ ¬ (b = 1 ∨ b = 2 ∨ b = 3) then ([], 9) else if verE a s ≠ 0 then ([], verE a s) else match prsC a (bl s) with
    | none => ([], 11)
    | some c => prtV b c
theorem coreT12 (c : CoreM) : coreT 2 c = coreT 1 c := by
  unfold coreT epT bodyT preT dashL sgn; simp
end Go.Proofs.YtlhchpeecfbgnaaGreatDoor
