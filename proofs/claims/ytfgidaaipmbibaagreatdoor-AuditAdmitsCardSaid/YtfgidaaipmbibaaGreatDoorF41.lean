/- A part of the proof of a law on which findings a policy admits. No condition. -/
import Derived.Test.YtfgidaaipmbibaaGreatDoorProg
import Derived.Ground.GgzProg
import Derived.Ground.SlgmProg
import Derived.Shelf.SlGeneric
import Derived.Shelf.SlIter.Nil
import Derived.Shelf.SortM.Plain
import Derived.Shelf.SortM.SortNone
set_option maxRecDepth 100000
set_option maxHeartbeats 20000000
set_option linter.unusedVariables false
set_option linter.unusedSimpArgs false
namespace Go.Proofs
open Go.Shelf
def Tryz.keys32_ren : Go.Shelf.Ren := ⟨fun | 7 => 32 | 10 => 57 | n => n, fun | 23 => 91 | 26 => 9 | 3 => 29 | 28 => 95 | 0 => 0 | 27 => 94 | 33 => 62 | 4 => 4 | n => n, fun | n => n⟩
theorem Tryz.keys32 : Go.Proofs.SlLaysZ.n7 Tryz.prog Tryz.keys32_ren := {
  mixed := by kernel_rfl
  f7 := ⟨Tryz.f32.name, by decide, Tryz.func32.trans (congrArg some (by kernel_rfl))⟩
  f10 := ⟨Tryz.f57.name, by decide, Tryz.func57.trans (congrArg some (by kernel_rfl))⟩
  t0 := Tryz.underlying0
  a0 := Tryz.isAgg0
  z0 := Tryz.sizeOf0
  v0 := Tryz.zeroValue0
  t4 := Tryz.underlying4
  a4 := Tryz.isAgg4
  z4 := Tryz.sizeOf4
  v4 := Tryz.zeroValue4
  t23 := Tryz.underlying91
  a23 := Tryz.isAgg91
  z23 := Tryz.sizeOf91
  v23 := Tryz.zeroValue91
  t26 := Tryz.underlying9
  a26 := Tryz.isAgg9
  z26 := Tryz.sizeOf9
  v26 := Tryz.zeroValue9
  t27 := Tryz.underlying94
  a27 := Tryz.isAgg94
  z27 := Tryz.sizeOf94
  v27 := Tryz.zeroValue94
  t28 := Tryz.underlying95
  a28 := Tryz.isAgg95
  z28 := Tryz.sizeOf95
  v28 := Tryz.zeroValue95
  t33 := Tryz.underlying62
  a33 := Tryz.isAgg62
  z33 := Tryz.sizeOf62
  v33 := Tryz.zeroValue62 }
def Tryz.sorted31_ren : Go.Shelf.Ren := ⟨fun | 6 => 31 | 8 => 55 | 9 => 56 | 11 => 80 | 13 => 60 | 12 => 81 | 23 => 90 | 24 => 91 | 14 => 116 | 15 => 117 | 16 => 118 | 17 => 119 | 18 => 120 | 19 => 121 | 20 => 122 | 21 => 123 | 22 => 124 | 25 => 163 | 26 => 126 | 27 => 127 | 28 => 164 | 29 => 165 | 30 => 166 | 31 => 205 | n => n, fun | 26 => 9 | 28 => 95 | 24 => 29 | 0 => 0 | 3 => 3 | 37 => 114 | 48 => 138 | 50 => 141 | 4 => 4 | 40 => 150 | 39 => 149 | 45 => 92 | 5 => 5 | 9 => 9 | 51 => 189 | 55 => 193 | 57 => 245 | 58 => 246 | 33 => 62 | n => n, fun | n => n⟩
theorem Tryz.sorted31 : Go.Proofs.SlLaysZ.n6 Tryz.prog Tryz.sorted31_ren := {
  mixed := by kernel_rfl
  f6 := ⟨Tryz.f31.name, by decide, Tryz.func31.trans (congrArg some (by kernel_rfl))⟩
  f8 := ⟨Tryz.f55.name, by decide, Tryz.func55.trans (congrArg some (by kernel_rfl))⟩
  f11 := ⟨Tryz.f80.name, by decide, Tryz.func80.trans (congrArg some (by kernel_rfl))⟩
  t0 := Tryz.underlying0
  a0 := Tryz.isAgg0
  z0 := Tryz.sizeOf0
  v0 := Tryz.zeroValue0
  t24 := Tryz.underlying29
  a24 := Tryz.isAgg29
  z24 := Tryz.sizeOf29
  v24 := Tryz.zeroValue29
  t26 := Tryz.underlying9
  a26 := Tryz.isAgg9
  z26 := Tryz.sizeOf9
  v26 := Tryz.zeroValue9
  t28 := Tryz.underlying95
  a28 := Tryz.isAgg95
  z28 := Tryz.sizeOf95
  v28 := Tryz.zeroValue95
  i26 := by kernel_rfl }
def Tryz.sort56_ren : Go.Shelf.Ren := ⟨fun | 6 => 56 | 8 => 60 | 9 => 81 | 19 => 90 | 20 => 91 | 21 => 116 | 22 => 117 | 23 => 118 | 24 => 119 | 25 => 120 | 26 => 121 | 27 => 122 | 28 => 123 | 29 => 124 | 36 => 163 | 31 => 126 | 32 => 127 | 37 => 164 | 38 => 165 | 39 => 166 | 41 => 205 | n => n, fun | 27 => 29 | 29 => 9 | 3 => 3 | 32 => 114 | 26 => 29 | 0 => 0 | 44 => 138 | 46 => 141 | 4 => 4 | 36 => 150 | 35 => 149 | 41 => 92 | 5 => 5 | 9 => 9 | 53 => 189 | 57 => 193 | 63 => 245 | 64 => 246 | n => n, fun | n => n⟩
theorem Tryz.sort56 : Go.Proofs.SlLaysM.n6 Tryz.prog Tryz.sort56_ren := {
  mixed := by kernel_rfl
  f6 := ⟨Tryz.f56.name, by decide, Tryz.func56.trans (congrArg some (by kernel_rfl))⟩
  f8 := Tryz.func60.trans (congrArg some (by kernel_rfl))
  f9 := ⟨Tryz.f81.name, by decide, Tryz.func81.trans (congrArg some (by kernel_rfl))⟩
  f19 := Tryz.func90.trans (congrArg some (by kernel_rfl))
  f20 := Tryz.func91.trans (congrArg some (by kernel_rfl))
  f21 := ⟨Tryz.f116.name, by decide, Tryz.func116.trans (congrArg some (by kernel_rfl))⟩
  f22 := ⟨Tryz.f117.name, by decide, Tryz.func117.trans (congrArg some (by kernel_rfl))⟩
  f23 := ⟨Tryz.f118.name, by decide, Tryz.func118.trans (congrArg some (by kernel_rfl))⟩
  f24 := ⟨Tryz.f119.name, by decide, Tryz.func119.trans (congrArg some (by kernel_rfl))⟩
  f25 := ⟨Tryz.f120.name, by decide, Tryz.func120.trans (congrArg some (by kernel_rfl))⟩
  f26 := ⟨Tryz.f121.name, by decide, Tryz.func121.trans (congrArg some (by kernel_rfl))⟩
  f27 := ⟨Tryz.f122.name, by decide, Tryz.func122.trans (congrArg some (by kernel_rfl))⟩
  f28 := ⟨Tryz.f123.name, by decide, Tryz.func123.trans (congrArg some (by kernel_rfl))⟩
  f29 := ⟨Tryz.f124.name, by decide, Tryz.func124.trans (congrArg some (by kernel_rfl))⟩
  f31 := Tryz.func126.trans (congrArg some (by kernel_rfl))
  f32 := Tryz.func127.trans (congrArg some (by kernel_rfl))
  f36 := ⟨Tryz.f163.name, by decide, Tryz.func163.trans (congrArg some (by kernel_rfl))⟩
  f37 := ⟨Tryz.f164.name, by decide, Tryz.func164.trans (congrArg some (by kernel_rfl))⟩
  f38 := ⟨Tryz.f165.name, by decide, Tryz.func165.trans (congrArg some (by kernel_rfl))⟩
  f39 := ⟨Tryz.f166.name, by decide, Tryz.func166.trans (congrArg some (by kernel_rfl))⟩
  f41 := ⟨Tryz.f205.name, by decide, Tryz.func205.trans (congrArg some (by kernel_rfl))⟩
  t0 := Tryz.underlying0
  a0 := Tryz.isAgg0
  z0 := Tryz.sizeOf0
  v0 := Tryz.zeroValue0
  t3 := Tryz.underlying3
  a3 := Tryz.isAgg3
  z3 := Tryz.sizeOf3
  v3 := Tryz.zeroValue3
  t4 := Tryz.underlying4
  a4 := Tryz.isAgg4
  z4 := Tryz.sizeOf4
  v4 := Tryz.zeroValue4
  t5 := Tryz.underlying5
  a5 := Tryz.isAgg5
  z5 := Tryz.sizeOf5
  v5 := Tryz.zeroValue5
  t9 := Tryz.underlying9
  a9 := Tryz.isAgg9
  z9 := Tryz.sizeOf9
  v9 := Tryz.zeroValue9
  t26 := Tryz.underlying29
  a26 := Tryz.isAgg29
  z26 := Tryz.sizeOf29
  v26 := Tryz.zeroValue29
  t27 := Tryz.underlying29
  a27 := Tryz.isAgg29
  z27 := Tryz.sizeOf29
  v27 := Tryz.zeroValue29
  t29 := Tryz.underlying9
  a29 := Tryz.isAgg9
  z29 := Tryz.sizeOf9
  v29 := Tryz.zeroValue9
  t32 := Tryz.underlying114
  a32 := Tryz.isAgg114
  z32 := Tryz.sizeOf114
  v32 := Tryz.zeroValue114
  t35 := Tryz.underlying149
  a35 := Tryz.isAgg149
  z35 := Tryz.sizeOf149
  v35 := Tryz.zeroValue149
  t36 := Tryz.underlying150
  a36 := Tryz.isAgg150
  z36 := Tryz.sizeOf150
  v36 := Tryz.zeroValue150
  t41 := Tryz.underlying92
  a41 := Tryz.isAgg92
  z41 := Tryz.sizeOf92
  v41 := Tryz.zeroValue92
  t44 := Tryz.underlying138
  a44 := Tryz.isAgg138
  z44 := Tryz.sizeOf138
  v44 := Tryz.zeroValue138
  t46 := Tryz.underlying141
  a46 := Tryz.isAgg141
  z46 := Tryz.sizeOf141
  v46 := Tryz.zeroValue141
  t53 := Tryz.underlying189
  a53 := Tryz.isAgg189
  z53 := Tryz.sizeOf189
  v53 := Tryz.zeroValue189
  t57 := Tryz.underlying193
  a57 := Tryz.isAgg193
  z57 := Tryz.sizeOf193
  v57 := Tryz.zeroValue193
  t63 := Tryz.underlying245
  a63 := Tryz.isAgg245
  z63 := Tryz.sizeOf245
  v63 := Tryz.zeroValue245
  t64 := Tryz.underlying246
  a64 := Tryz.isAgg246
  z64 := Tryz.sizeOf246
  v64 := Tryz.zeroValue246 }
open Go.RowKit Go.Maps Go.Sort Go.Shelf
theorem Tryz.sorts31 (m : Nat) : AnyZ.SortsIn Tryz.prog Tryz.sorted31_ren Fence.wide m :=
  ⟨fun blk off cap ss W hH hblk hsz => callsIn_wide.2 (AnyM.slices_Sort_string Tryz.sort56 blk off cap ss W hH hblk hsz),
   fun p cap W => callsIn_wide.2 (AnyM.slices_Sort_string_none Tryz.sort56 p cap W)⟩
theorem Tryz.maps_Keys_32 (mb : Option Nat) (W : World) : CallsIn Fence.wide 5 Tryz.prog 32 #[.map mb] W fun e w' => e = .returned (.func (.func 57) #[] #[.pointer (some ⟨W.heap.size, 0, none⟩)]) ∧ w' = W.alloc (.cells #[.map mb] 91) :=
  AnyZ.keys_in Tryz.keys32 Fence.wide 5 trivial rfl mb W
theorem Tryz.slices_Sorted_keys_31_32 {H : Type} (b nn : Nat) (D0 : DataW H) (R : Value → Option (DataW H × List MemPlace)) (w : World) (hown : w.ownsMap Tryz.prog 9 R b nn D0) (hmax : Maps.size D0 ≤ maxLen) (hbytes : Maps.size D0 * 16 ≤ 140737488355328) :
    CallsIn Fence.wide 5 Tryz.prog 31 #[.func (.func 57) #[] #[.pointer (some ⟨w.heap.size, 0, none⟩)]] (w.alloc (.cells #[.map (some b)] 91)) fun e w' => ∃ (v : Value) (ss : List (List UInt8)), e = .returned v ∧ ss.Perm (strKeys D0) ∧
      w'.ownsRow (w.alloc (.cells #[.map (some b)] 91)).heap.size 9 1 v ss.length ((ss.mergeSort (fun x y => decide (x ≤ y))).map encStr) ∧ (v = .slice none 0 0 ↔ ss = []) ∧ Below (w.alloc (.cells #[.map (some b)] 91)).heap.size (w.alloc (.cells #[.map (some b)] 91)) w' := by
  have hbl := hown.lt
  have hseq : SeqGives Fence.wide 2 Tryz.prog 57 #[.pointer (some ⟨w.heap.size, 0, none⟩)] encStr (fun ss => ss.Perm (strKeys D0)) (Maps.size D0) (w.alloc (.cells #[.map (some b)] 91)) :=
    AnyZ.keys_gives (ρ := Tryz.keys32_ren) { Tryz.keys32 with } Fence.wide _ trivial rfl (by omega) w.heap.size b nn D0 _ (by simp) (by simp) (by
      obtain ⟨es, clock, hb, Ft, hs, hD⟩ := hown
      exact ⟨es, clock, (Below.heap_alloc _ _ b hbl).trans hb, Ft, hs, hD⟩)
  exact AnyZ.sorted_in Tryz.sorted31 Fence.wide 5 trivial trivial trivial trivial rfl (by omega) (Tryz.sorts31 _) (enters_of Tryz.func56 (by kernel_rfl) rfl) 57 #[.pointer (some ⟨w.heap.size, 0, none⟩)] trivial (enters_of Tryz.func57 (by kernel_rfl) rfl) _ _ hmax hbytes _ hseq
end Go.Proofs
