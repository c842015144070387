/- A part of the proof. -/
import Derived.Test.YtaohgmcbpafdeaaGreatDoorProg
import Derived.Ground.GgzProg
import Derived.Ground.SlgmProg
import Derived.Shelf.SlGeneric
import Derived.Shelf.SlIter.Nil
import Derived.Shelf.SortM.Plain
import Derived.Shelf.SortM.SortNone
import Derived.Test.YtaohgmcbpafdeaaGreatDoorA00
set_option maxRecDepth 100000
set_option maxHeartbeats 20000000
set_option linter.unusedVariables false
set_option linter.unusedSimpArgs false
namespace Go.Proofs
open Go.Shelf
def Tryz.keys37_ren:Go.Shelf.Ren:=⟨fun | 7=>37 | 10=>67 | n=>n,fun | 23=>97 | 26=>9 | 3=>26 | 28=>101 | 0=>0 | 27=>100 | 33=>66 | 4=>4 | n=>n,fun | n=>n⟩
theorem Tryz.keys37:Go.Proofs.SlLaysZ.n7 Tryz.prog Tryz.keys37_ren:={
 mixed:=by kernel_rfl
 f7:=⟨Tryz.f37.name,by decide,Tryz.func37.trans (congrArg some (by kernel_rfl))⟩
 f10:=⟨Tryz.f67.name,by decide,Tryz.func67.trans (congrArg some (by kernel_rfl))⟩
 t0:=Tryz.underlying0
 a0:=Tryz.isAgg0
 z0:=Tryz.sizeOf0
 v0:=Tryz.zeroValue0
 t4:=Tryz.underlying4
 a4:=Tryz.isAgg4
 z4:=Tryz.sizeOf4
 v4:=Tryz.zeroValue4
 t23:=Tryz.underlying97
 a23:=Tryz.isAgg97
 z23:=Tryz.sizeOf97
 v23:=Tryz.zeroValue97
 t26:=Tryz.underlying9
 a26:=Tryz.isAgg9
 z26:=Tryz.sizeOf9
 v26:=Tryz.zeroValue9
 t27:=Tryz.underlying100
 a27:=Tryz.isAgg100
 z27:=Tryz.sizeOf100
 v27:=Tryz.zeroValue100
 t28:=Tryz.underlying101
 a28:=Tryz.isAgg101
 z28:=Tryz.sizeOf101
 v28:=Tryz.zeroValue101
 t33:=Tryz.underlying66
 a33:=Tryz.isAgg66
 z33:=Tryz.sizeOf66
 v33:=Tryz.zeroValue66 }
def Tryz.sorted36_ren:Go.Shelf.Ren:=⟨fun | 6=>36 | 8=>65 | 9=>66 | 11=>93 | 13=>70 | 12=>94 | 23=>103 | 24=>104 | 14=>130 | 15=>131 | 16=>132 | 17=>133 | 18=>134 | 19=>135 | 20=>136 | 21=>137 | 22=>138 | 25=>177 | 26=>140 | 27=>141 | 28=>178 | 29=>179 | 30=>180 | 31=>219 | n=>n,fun | 26=>9 | 28=>101 | 24=>26 | 0=>0 | 3=>3 | 37=>126 | 48=>146 | 50=>149 | 4=>4 | 40=>158 | 39=>157 | 45=>98 | 5=>5 | 9=>9 | 51=>197 | 55=>201 | 57=>253 | 58=>254 | 33=>66 | n=>n,fun | n=>n⟩
theorem Tryz.sorted36:Go.Proofs.SlLaysZ.n6 Tryz.prog Tryz.sorted36_ren:={
 mixed:=by kernel_rfl
 f6:=⟨Tryz.f36.name,by decide,Tryz.func36.trans (congrArg some (by kernel_rfl))⟩
 f8:=⟨Tryz.f65.name,by decide,Tryz.func65.trans (congrArg some (by kernel_rfl))⟩
 f11:=⟨Tryz.f93.name,by decide,Tryz.func93.trans (congrArg some (by kernel_rfl))⟩
 t0:=Tryz.underlying0
 a0:=Tryz.isAgg0
 z0:=Tryz.sizeOf0
 v0:=Tryz.zeroValue0
 t24:=Tryz.underlying26
 a24:=Tryz.isAgg26
 z24:=Tryz.sizeOf26
 v24:=Tryz.zeroValue26
 t26:=Tryz.underlying9
 a26:=Tryz.isAgg9
 z26:=Tryz.sizeOf9
 v26:=Tryz.zeroValue9
 t28:=Tryz.underlying101
 a28:=Tryz.isAgg101
 z28:=Tryz.sizeOf101
 v28:=Tryz.zeroValue101
 i26:=by kernel_rfl }
def Tryz.sort66_ren:Go.Shelf.Ren:=⟨fun | 6=>66 | 8=>70 | 9=>94 | 19=>103 | 20=>104 | 21=>130 | 22=>131 | 23=>132 | 24=>133 | 25=>134 | 26=>135 | 27=>136 | 28=>137 | 29=>138 | 36=>177 | 31=>140 | 32=>141 | 37=>178 | 38=>179 | 39=>180 | 41=>219 | n=>n,fun | 27=>26 | 29=>9 | 3=>3 | 32=>126 | 26=>26 | 0=>0 | 44=>146 | 46=>149 | 4=>4 | 36=>158 | 35=>157 | 41=>98 | 5=>5 | 9=>9 | 53=>197 | 57=>201 | 63=>253 | 64=>254 | n=>n,fun | n=>n⟩
theorem Tryz.sort66:Go.Proofs.SlLaysM.n6 Tryz.prog Tryz.sort66_ren:={
 mixed:=by kernel_rfl
 f6:=⟨Tryz.f66.name,by decide,Tryz.func66.trans (congrArg some (by kernel_rfl))⟩
 f8:=Tryz.func70.trans (congrArg some (by kernel_rfl))
 f9:=⟨Tryz.f94.name,by decide,Tryz.func94.trans (congrArg some (by kernel_rfl))⟩
 f19:=Tryz.func103.trans (congrArg some (by kernel_rfl))
 f20:=Tryz.func104.trans (congrArg some (by kernel_rfl))
 f21:=⟨Tryz.f130.name,by decide,Tryz.func130.trans (congrArg some (by kernel_rfl))⟩
 f22:=⟨Tryz.f131.name,by decide,Tryz.func131.trans (congrArg some (by kernel_rfl))⟩
 f23:=⟨Tryz.f132.name,by decide,Tryz.func132.trans (congrArg some (by kernel_rfl))⟩
 f24:=⟨Tryz.f133.name,by decide,Tryz.func133.trans (congrArg some (by kernel_rfl))⟩
 f25:=⟨Tryz.f134.name,by decide,Tryz.func134.trans (congrArg some (by kernel_rfl))⟩
 f26:=⟨Tryz.f135.name,by decide,Tryz.func135.trans (congrArg some (by kernel_rfl))⟩
 f27:=⟨Tryz.f136.name,by decide,Tryz.func136.trans (congrArg some (by kernel_rfl))⟩
 f28:=⟨Tryz.f137.name,by decide,Tryz.func137.trans (congrArg some (by kernel_rfl))⟩
 f29:=⟨Tryz.f138.name,by decide,Tryz.func138.trans (congrArg some (by kernel_rfl))⟩
 f31:=Tryz.func140.trans (congrArg some (by kernel_rfl))
 f32:=Tryz.func141.trans (congrArg some (by kernel_rfl))
 f36:=⟨Tryz.f177.name,by decide,Tryz.func177.trans (congrArg some (by kernel_rfl))⟩
 f37:=⟨Tryz.f178.name,by decide,Tryz.func178.trans (congrArg some (by kernel_rfl))⟩
 f38:=⟨Tryz.f179.name,by decide,Tryz.func179.trans (congrArg some (by kernel_rfl))⟩
 f39:=⟨Tryz.f180.name,by decide,Tryz.func180.trans (congrArg some (by kernel_rfl))⟩
 f41:=⟨Tryz.f219.name,by decide,Tryz.func219.trans (congrArg some (by kernel_rfl))⟩
 t0:=Tryz.underlying0
 a0:=Tryz.isAgg0
 z0:=Tryz.sizeOf0
 v0:=Tryz.zeroValue0
 t3:=Tryz.underlying3
 a3:=Tryz.isAgg3
 z3:=Tryz.sizeOf3
 v3:=Tryz.zeroValue3
 t4:=Tryz.underlying4
 a4:=Tryz.isAgg4
 z4:=Tryz.sizeOf4
 v4:=Tryz.zeroValue4
 t5:=Tryz.underlying5
 a5:=Tryz.isAgg5
 z5:=Tryz.sizeOf5
 v5:=Tryz.zeroValue5
 t9:=Tryz.underlying9
 a9:=Tryz.isAgg9
 z9:=Tryz.sizeOf9
 v9:=Tryz.zeroValue9
 t26:=Tryz.underlying26
 a26:=Tryz.isAgg26
 z26:=Tryz.sizeOf26
 v26:=Tryz.zeroValue26
 t27:=Tryz.underlying26
 a27:=Tryz.isAgg26
 z27:=Tryz.sizeOf26
 v27:=Tryz.zeroValue26
 t29:=Tryz.underlying9
 a29:=Tryz.isAgg9
 z29:=Tryz.sizeOf9
 v29:=Tryz.zeroValue9
 t32:=Tryz.underlying126
 a32:=Tryz.isAgg126
 z32:=Tryz.sizeOf126
 v32:=Tryz.zeroValue126
 t35:=Tryz.underlying157
 a35:=Tryz.isAgg157
 z35:=Tryz.sizeOf157
 v35:=Tryz.zeroValue157
 t36:=Tryz.underlying158
 a36:=Tryz.isAgg158
 z36:=Tryz.sizeOf158
 v36:=Tryz.zeroValue158
 t41:=Tryz.underlying98
 a41:=Tryz.isAgg98
 z41:=Tryz.sizeOf98
 v41:=Tryz.zeroValue98
 t44:=Tryz.underlying146
 a44:=Tryz.isAgg146
 z44:=Tryz.sizeOf146
 v44:=Tryz.zeroValue146
 t46:=Tryz.underlying149
 a46:=Tryz.isAgg149
 z46:=Tryz.sizeOf149
 v46:=Tryz.zeroValue149
 t53:=Tryz.underlying197
 a53:=Tryz.isAgg197
 z53:=Tryz.sizeOf197
 v53:=Tryz.zeroValue197
 t57:=Tryz.underlying201
 a57:=Tryz.isAgg201
 z57:=Tryz.sizeOf201
 v57:=Tryz.zeroValue201
 t63:=Tryz.underlying253
 a63:=Tryz.isAgg253
 z63:=Tryz.sizeOf253
 v63:=Tryz.zeroValue253
 t64:=Tryz.underlying254
 a64:=Tryz.isAgg254
 z64:=Tryz.sizeOf254
 v64:=Tryz.zeroValue254 }
open Go.RowKit Go.Maps Go.Sort Go.Shelf
theorem Tryz.sorts36 (m:Nat):AnyZ.SortsIn Tryz.prog Tryz.sorted36_ren Fence.wide m:=
 ⟨fun blk off cap ss W hH hblk hsz=>callsIn_wide.2 (AnyM.slices_Sort_string Tryz.sort66 blk off cap ss W hH hblk hsz),
  fun p cap W=>callsIn_wide.2 (AnyM.slices_Sort_string_none Tryz.sort66 p cap W)⟩
theorem Tryz.maps_Keys_37 (mb:Option Nat)(W:World):CallsIn Fence.wide 5 Tryz.prog 37 #[.map mb] W fun e w'=>e=.returned (.func (.func 67) #[] #[.pointer (some ⟨W.heap.size,0,none⟩)])∧w'=W.alloc (.cells #[.map mb] 97):=
 AnyZ.keys_in Tryz.keys37 Fence.wide 5 trivial rfl mb W
theorem Tryz.slices_Sorted_keys_36_37 {H:Type}(b nn:Nat)(D0:DataW H)(R:Value→Option (DataW H×List MemPlace))(w:World)(hown:w.ownsMap Tryz.prog 9 R b nn D0)(hmax:Maps.size D0≤maxLen)(hbytes:Maps.size D0*16≤140737488355328):
  CallsIn Fence.wide 5 Tryz.prog 36 #[.func (.func 67) #[] #[.pointer (some ⟨w.heap.size,0,none⟩)]] (w.alloc (.cells #[.map (some b)] 97)) fun e w'=>∃ (v:Value) (ss:List (List UInt8)),e=.returned v∧ss.Perm (strKeys D0) ∧
   w'.ownsRow (w.alloc (.cells #[.map (some b)] 97)).heap.size 9 1 v ss.length ((ss.mergeSort (fun x y=>decide (x≤y))).map encStr)∧(v=.slice none 0 0↔ss=[])∧Below (w.alloc (.cells #[.map (some b)] 97)).heap.size (w.alloc (.cells #[.map (some b)] 97)) w':=by
 have hbl:=hown.lt
 have hseq:SeqGives Fence.wide 2 Tryz.prog 67 #[.pointer (some ⟨w.heap.size,0,none⟩)] encStr (fun ss=>ss.Perm (strKeys D0)) (Maps.size D0) (w.alloc (.cells #[.map (some b)] 97)):=
  AnyZ.keys_gives (ρ:=Tryz.keys37_ren) { Tryz.keys37 with } Fence.wide _ trivial rfl (by omega) w.heap.size b nn D0 _ (by simp) (by simp) (by
   obtain⟨es,clock,hb,Ft,hs,hD⟩:=hown
   exact⟨es,clock,(Below.heap_alloc _ _ b hbl).trans hb,Ft,hs,hD⟩)
 exact AnyZ.sorted_in Tryz.sorted36 Fence.wide 5 trivial trivial trivial trivial rfl (by omega) (Tryz.sorts36 _) (enters_of Tryz.func66 (by kernel_rfl) rfl) 67 #[.pointer (some ⟨w.heap.size,0,none⟩)] trivial (enters_of Tryz.func67 (by kernel_rfl) rfl) _ _ hmax hbytes _ hseq
end Go.Proofs
