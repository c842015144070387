/- The contracts of slices.Sorted(maps.Keys(m)) at this dump, laid by the kit's own tools, in plain declarations. -/
import Derived.Shelf.SlGeneric
import Derived.Shelf.SlIter.Nil
import Derived.Shelf.SortM.Plain
import Derived.Shelf.SortM.SortNone
import Derived.Ground.GgzProg
import Derived.Ground.SlgmProg
import Derived.Test.YtdfdllbebfoggaaGreatDoorProg
namespace Go.Proofs
open Go.Shelf
def Tryz.keys57_ren : Go.Shelf.Ren := ⟨fun | 7 => 57 | 10 => 80 | n => n, fun | 23 => 87 | 26 => 9 | 3 => 22 | 28 => 92 | 0 => 0 | 27 => 91 | 33 => 38 | 4 => 4 | n => n, fun | n => n⟩
theorem Tryz.keys57 : Go.Proofs.SlLaysZ.n7 Tryz.prog Tryz.keys57_ren := {
  mixed := by kernel_rfl
  f7 := ⟨Tryz.f57.name, by decide, Tryz.func57.trans (congrArg some (by kernel_rfl))⟩
  f10 := ⟨Tryz.f80.name, by decide, Tryz.func80.trans (congrArg some (by kernel_rfl))⟩
  t0 := Tryz.underlying0
  a0 := Tryz.isAgg0
  z0 := Tryz.sizeOf0
  v0 := Tryz.zeroValue0
  t4 := Tryz.underlying4
  a4 := Tryz.isAgg4
  z4 := Tryz.sizeOf4
  v4 := Tryz.zeroValue4
  t23 := Tryz.underlying87
  a23 := Tryz.isAgg87
  z23 := Tryz.sizeOf87
  v23 := Tryz.zeroValue87
  t26 := Tryz.underlying9
  a26 := Tryz.isAgg9
  z26 := Tryz.sizeOf9
  v26 := Tryz.zeroValue9
  t27 := Tryz.underlying91
  a27 := Tryz.isAgg91
  z27 := Tryz.sizeOf91
  v27 := Tryz.zeroValue91
  t28 := Tryz.underlying92
  a28 := Tryz.isAgg92
  z28 := Tryz.sizeOf92
  v28 := Tryz.zeroValue92
  t33 := Tryz.underlying38
  a33 := Tryz.isAgg38
  z33 := Tryz.sizeOf38
  v33 := Tryz.zeroValue38 }
def Tryz.sorted56_ren : Go.Shelf.Ren := ⟨fun | 6 => 56 | 8 => 78 | 9 => 79 | 11 => 108 | 13 => 110 | 12 => 109 | 23 => 165 | 24 => 166 | 14 => 156 | 15 => 157 | 16 => 158 | 17 => 159 | 18 => 160 | 19 => 161 | 20 => 162 | 21 => 163 | 22 => 164 | 25 => 221 | 26 => 222 | 27 => 223 | 28 => 224 | 29 => 225 | 30 => 226 | 31 => 262 | n => n, fun | 26 => 9 | 28 => 92 | 24 => 22 | 0 => 0 | 3 => 3 | 37 => 139 | 48 => 201 | 50 => 203 | 4 => 4 | 40 => 195 | 39 => 194 | 45 => 89 | 5 => 5 | 9 => 9 | 51 => 252 | 55 => 256 | 57 => 288 | 58 => 289 | 33 => 38 | n => n, fun | n => n⟩
theorem Tryz.sorted56 : Go.Proofs.SlLaysZ.n6 Tryz.prog Tryz.sorted56_ren := {
  mixed := by kernel_rfl
  f6 := ⟨Tryz.f56.name, by decide, Tryz.func56.trans (congrArg some (by kernel_rfl))⟩
  f8 := ⟨Tryz.f78.name, by decide, Tryz.func78.trans (congrArg some (by kernel_rfl))⟩
  f11 := ⟨Tryz.f108.name, by decide, Tryz.func108.trans (congrArg some (by kernel_rfl))⟩
  t0 := Tryz.underlying0
  a0 := Tryz.isAgg0
  z0 := Tryz.sizeOf0
  v0 := Tryz.zeroValue0
  t24 := Tryz.underlying22
  a24 := Tryz.isAgg22
  z24 := Tryz.sizeOf22
  v24 := Tryz.zeroValue22
  t26 := Tryz.underlying9
  a26 := Tryz.isAgg9
  z26 := Tryz.sizeOf9
  v26 := Tryz.zeroValue9
  t28 := Tryz.underlying92
  a28 := Tryz.isAgg92
  z28 := Tryz.sizeOf92
  v28 := Tryz.zeroValue92
  i26 := by kernel_rfl }
def Tryz.sort79_ren : Go.Shelf.Ren := ⟨fun | 6 => 79 | 8 => 110 | 9 => 109 | 19 => 165 | 20 => 166 | 21 => 156 | 22 => 157 | 23 => 158 | 24 => 159 | 25 => 160 | 26 => 161 | 27 => 162 | 28 => 163 | 29 => 164 | 36 => 221 | 31 => 222 | 32 => 223 | 37 => 224 | 38 => 225 | 39 => 226 | 41 => 262 | n => n, fun | 27 => 22 | 29 => 9 | 3 => 3 | 32 => 139 | 26 => 22 | 0 => 0 | 44 => 201 | 46 => 203 | 4 => 4 | 36 => 195 | 35 => 194 | 41 => 89 | 5 => 5 | 9 => 9 | 53 => 252 | 57 => 256 | 63 => 288 | 64 => 289 | n => n, fun | n => n⟩
theorem Tryz.sort79 : Go.Proofs.SlLaysM.n6 Tryz.prog Tryz.sort79_ren := {
  mixed := by kernel_rfl
  f6 := ⟨Tryz.f79.name, by decide, Tryz.func79.trans (congrArg some (by kernel_rfl))⟩
  f8 := Tryz.func110.trans (congrArg some (by kernel_rfl))
  f9 := ⟨Tryz.f109.name, by decide, Tryz.func109.trans (congrArg some (by kernel_rfl))⟩
  f19 := Tryz.func165.trans (congrArg some (by kernel_rfl))
  f20 := Tryz.func166.trans (congrArg some (by kernel_rfl))
  f21 := ⟨Tryz.f156.name, by decide, Tryz.func156.trans (congrArg some (by kernel_rfl))⟩
  f22 := ⟨Tryz.f157.name, by decide, Tryz.func157.trans (congrArg some (by kernel_rfl))⟩
  f23 := ⟨Tryz.f158.name, by decide, Tryz.func158.trans (congrArg some (by kernel_rfl))⟩
  f24 := ⟨Tryz.f159.name, by decide, Tryz.func159.trans (congrArg some (by kernel_rfl))⟩
  f25 := ⟨Tryz.f160.name, by decide, Tryz.func160.trans (congrArg some (by kernel_rfl))⟩
  f26 := ⟨Tryz.f161.name, by decide, Tryz.func161.trans (congrArg some (by kernel_rfl))⟩
  f27 := ⟨Tryz.f162.name, by decide, Tryz.func162.trans (congrArg some (by kernel_rfl))⟩
  f28 := ⟨Tryz.f163.name, by decide, Tryz.func163.trans (congrArg some (by kernel_rfl))⟩
  f29 := ⟨Tryz.f164.name, by decide, Tryz.func164.trans (congrArg some (by kernel_rfl))⟩
  f31 := Tryz.func222.trans (congrArg some (by kernel_rfl))
  f32 := Tryz.func223.trans (congrArg some (by kernel_rfl))
  f36 := ⟨Tryz.f221.name, by decide, Tryz.func221.trans (congrArg some (by kernel_rfl))⟩
  f37 := ⟨Tryz.f224.name, by decide, Tryz.func224.trans (congrArg some (by kernel_rfl))⟩
  f38 := ⟨Tryz.f225.name, by decide, Tryz.func225.trans (congrArg some (by kernel_rfl))⟩
  f39 := ⟨Tryz.f226.name, by decide, Tryz.func226.trans (congrArg some (by kernel_rfl))⟩
  f41 := ⟨Tryz.f262.name, by decide, Tryz.func262.trans (congrArg some (by kernel_rfl))⟩
  t0 := Tryz.underlying0
  a0 := Tryz.isAgg0
  z0 := Tryz.sizeOf0
  v0 := Tryz.zeroValue0
  t3 := Tryz.underlying3
  a3 := Tryz.isAgg3
  z3 := Tryz.sizeOf3
  v3 := Tryz.zeroValue3
  t4 := Tryz.underlying4
  a4 := Tryz.isAgg4
  z4 := Tryz.sizeOf4
  v4 := Tryz.zeroValue4
  t5 := Tryz.underlying5
  a5 := Tryz.isAgg5
  z5 := Tryz.sizeOf5
  v5 := Tryz.zeroValue5
  t9 := Tryz.underlying9
  a9 := Tryz.isAgg9
  z9 := Tryz.sizeOf9
  v9 := Tryz.zeroValue9
  t26 := Tryz.underlying22
  a26 := Tryz.isAgg22
  z26 := Tryz.sizeOf22
  v26 := Tryz.zeroValue22
  t27 := Tryz.underlying22
  a27 := Tryz.isAgg22
  z27 := Tryz.sizeOf22
  v27 := Tryz.zeroValue22
  t29 := Tryz.underlying9
  a29 := Tryz.isAgg9
  z29 := Tryz.sizeOf9
  v29 := Tryz.zeroValue9
  t32 := Tryz.underlying139
  a32 := Tryz.isAgg139
  z32 := Tryz.sizeOf139
  v32 := Tryz.zeroValue139
  t35 := Tryz.underlying194
  a35 := Tryz.isAgg194
  z35 := Tryz.sizeOf194
  v35 := Tryz.zeroValue194
  t36 := Tryz.underlying195
  a36 := Tryz.isAgg195
  z36 := Tryz.sizeOf195
  v36 := Tryz.zeroValue195
  t41 := Tryz.underlying89
  a41 := Tryz.isAgg89
  z41 := Tryz.sizeOf89
  v41 := Tryz.zeroValue89
  t44 := Tryz.underlying201
  a44 := Tryz.isAgg201
  z44 := Tryz.sizeOf201
  v44 := Tryz.zeroValue201
  t46 := Tryz.underlying203
  a46 := Tryz.isAgg203
  z46 := Tryz.sizeOf203
  v46 := Tryz.zeroValue203
  t53 := Tryz.underlying252
  a53 := Tryz.isAgg252
  z53 := Tryz.sizeOf252
  v53 := Tryz.zeroValue252
  t57 := Tryz.underlying256
  a57 := Tryz.isAgg256
  z57 := Tryz.sizeOf256
  v57 := Tryz.zeroValue256
  t63 := Tryz.underlying288
  a63 := Tryz.isAgg288
  z63 := Tryz.sizeOf288
  v63 := Tryz.zeroValue288
  t64 := Tryz.underlying289
  a64 := Tryz.isAgg289
  z64 := Tryz.sizeOf289
  v64 := Tryz.zeroValue289 }
open Go.RowKit Go.Maps Go.Sort Go.Shelf


theorem Tryz.sorts56 (m : Nat) : AnyZ.SortsIn Tryz.prog Tryz.sorted56_ren Fence.wide m :=
  ⟨fun blk off cap ss W hH hblk hsz => callsIn_wide.2 (AnyM.slices_Sort_string Tryz.sort79 blk off cap ss W hH hblk hsz),
   fun p cap W => callsIn_wide.2 (AnyM.slices_Sort_string_none Tryz.sort79 p cap W)⟩

theorem Tryz.maps_Keys_57 (mb : Option Nat) (W : World) : CallsIn Fence.wide 5 Tryz.prog 57 #[.map mb] W fun e w' => e = .returned (.func (.func 80) #[] #[.pointer (some ⟨W.heap.size, 0, none⟩)]) ∧ w' = W.alloc (.cells #[.map mb] 87) :=
  AnyZ.keys_in Tryz.keys57 Fence.wide 5 trivial rfl mb W

set_option maxHeartbeats 1000000 in
theorem Tryz.slices_Sorted_keys_56_57 {H : Type} (b nn : Nat) (D0 : DataW H) (R : Value → Option (DataW H × List MemPlace)) (w : World) (hown : w.ownsMap Tryz.prog 9 R b nn D0) (hmax : Maps.size D0 ≤ maxLen) (hbytes : Maps.size D0 * 16 ≤ 140737488355328) :
    CallsIn Fence.wide 5 Tryz.prog 56 #[.func (.func 80) #[] #[.pointer (some ⟨w.heap.size, 0, none⟩)]] (w.alloc (.cells #[.map (some b)] 87)) fun e w' => ∃ (v : Value) (ss : List (List UInt8)), e = .returned v ∧ ss.Perm (strKeys D0) ∧
      w'.ownsRow (w.alloc (.cells #[.map (some b)] 87)).heap.size 9 1 v ss.length ((ss.mergeSort (fun x y => decide (x ≤ y))).map encStr) ∧ (v = .slice none 0 0 ↔ ss = []) ∧ Below (w.alloc (.cells #[.map (some b)] 87)).heap.size (w.alloc (.cells #[.map (some b)] 87)) w' := by
  have hbl := hown.lt
  have hseq : SeqGives Fence.wide 2 Tryz.prog 80 #[.pointer (some ⟨w.heap.size, 0, none⟩)] encStr (fun ss => ss.Perm (strKeys D0)) (Maps.size D0) (w.alloc (.cells #[.map (some b)] 87)) :=
    AnyZ.keys_gives (ρ := Tryz.keys57_ren) { Tryz.keys57 with } Fence.wide _ trivial rfl (by omega) w.heap.size b nn D0 _ (by simp) (by simp) (by
      obtain ⟨es, clock, hb, Ft, hs, hD⟩ := hown
      exact ⟨es, clock, (Below.heap_alloc _ _ b hbl).trans hb, Ft, hs, hD⟩)
  exact AnyZ.sorted_in Tryz.sorted56 Fence.wide 5 trivial trivial trivial trivial rfl (by omega) (Tryz.sorts56 _) (enters_of Tryz.func79 (by kernel_rfl) rfl) 80 #[.pointer (some ⟨w.heap.size, 0, none⟩)] trivial (enters_of Tryz.func80 (by kernel_rfl) rfl) _ _ hmax hbytes _ hseq

set_option maxHeartbeats 1000000 in
theorem Tryz.slices_Sorted_keys_nil_56_57 (w : World) :
    CallsIn Fence.wide 5 Tryz.prog 56 #[.func (.func 80) #[] #[.pointer (some ⟨w.heap.size, 0, none⟩)]] (w.alloc (.cells #[.map none] 87)) fun e w' => ∃ (v : Value) (ss : List (List UInt8)), e = .returned v ∧ ss = [] ∧
      w'.ownsRow (w.alloc (.cells #[.map none] 87)).heap.size 9 1 v ss.length ((ss.mergeSort (fun x y => decide (x ≤ y))).map encStr) ∧ (v = .slice none 0 0 ↔ ss = []) ∧ Below (w.alloc (.cells #[.map none] 87)).heap.size (w.alloc (.cells #[.map none] 87)) w' := by
  have hseq : SeqGives Fence.wide 2 Tryz.prog 80 #[.pointer (some ⟨w.heap.size, 0, none⟩)] encStr (fun ss : List (List UInt8) => ss = []) 0 (w.alloc (.cells #[.map none] 87)) :=
    AnyZ.keys_gives_nil (ρ := Tryz.keys57_ren) { Tryz.keys57 with } Fence.wide _ trivial rfl w.heap.size _ (by simp) (by simp)
  exact AnyZ.sorted_in Tryz.sorted56 Fence.wide 5 trivial trivial trivial trivial rfl (by omega) (Tryz.sorts56 _) (enters_of Tryz.func79 (by kernel_rfl) rfl) 80 #[.pointer (some ⟨w.heap.size, 0, none⟩)] trivial (enters_of Tryz.func80 (by kernel_rfl) rfl) _ 0 (Nat.zero_le _) (by omega) _ hseq



end Go.Proofs
