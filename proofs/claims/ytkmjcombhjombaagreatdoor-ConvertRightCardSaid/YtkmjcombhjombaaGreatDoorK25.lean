/- A part of the proof. -/
import Derived.Ground.GgzProg
import Derived.Ground.SlgmProg
import Derived.Shelf.SlGeneric
import Derived.Shelf.SlIter.Nil
import Derived.Shelf.SortM.Plain
import Derived.Shelf.SortM.SortNone
import Derived.Test.YtkmjcombhjombaaGreatDoorK00
set_option maxRecDepth 100000
set_option maxHeartbeats 20000000
set_option linter.unusedVariables false
set_option linter.unusedSimpArgs false
namespace Go.Proofs
open Go.Shelf
def Tryz.keys36_ren:Go.Shelf.Ren:=⟨fun | 7=>36 | 10=>75 | n=>n,fun | 23=>98 | 26=>9 | 3=>33 | 28=>103 | 0=>0 | 27=>102 | 33=>123 | 4=>4 | n=>n,fun | n=>n⟩
theorem Tryz.keys36:Go.Proofs.SlLaysZ.n7 Tryz.prog Tryz.keys36_ren:={
 mixed:=by kernel_rfl
 f7:=⟨Tryz.f36.name,by decide,Tryz.func36.trans (congrArg some (by kernel_rfl))⟩
 f10:=⟨Tryz.f75.name,by decide,Tryz.func75.trans (congrArg some (by kernel_rfl))⟩
 t0:=Tryz.underlying0
 a0:=Tryz.isAgg0
 z0:=Tryz.sizeOf0
 v0:=Tryz.zeroValue0
 t4:=Tryz.underlying4
 a4:=Tryz.isAgg4
 z4:=Tryz.sizeOf4
 v4:=Tryz.zeroValue4
 t23:=Tryz.underlying98
 a23:=Tryz.isAgg98
 z23:=Tryz.sizeOf98
 v23:=Tryz.zeroValue98
 t26:=Tryz.underlying9
 a26:=Tryz.isAgg9
 z26:=Tryz.sizeOf9
 v26:=Tryz.zeroValue9
 t27:=Tryz.underlying102
 a27:=Tryz.isAgg102
 z27:=Tryz.sizeOf102
 v27:=Tryz.zeroValue102
 t28:=Tryz.underlying103
 a28:=Tryz.isAgg103
 z28:=Tryz.sizeOf103
 v28:=Tryz.zeroValue103
 t33:=Tryz.underlying123
 a33:=Tryz.isAgg123
 z33:=Tryz.sizeOf123
 v33:=Tryz.zeroValue123 }
def Tryz.sorted35_ren:Go.Shelf.Ren:=⟨fun | 6=>35 | 8=>73 | 9=>74 | 11=>120 | 13=>122 | 12=>121 | 23=>178 | 24=>179 | 14=>169 | 15=>170 | 16=>171 | 17=>172 | 18=>173 | 19=>174 | 20=>175 | 21=>176 | 22=>177 | 25=>223 | 26=>224 | 27=>225 | 28=>226 | 29=>227 | 30=>228 | 31=>265 | n=>n,fun | 26=>9 | 28=>103 | 24=>33 | 0=>0 | 3=>3 | 37=>216 | 48=>267 | 50=>269 | 4=>4 | 40=>261 | 39=>260 | 45=>100 | 5=>5 | 9=>9 | 51=>313 | 55=>317 | 57=>355 | 58=>356 | 33=>123 | n=>n,fun | n=>n⟩
theorem Tryz.sorted35:Go.Proofs.SlLaysZ.n6 Tryz.prog Tryz.sorted35_ren:={
 mixed:=by kernel_rfl
 f6:=⟨Tryz.f35.name,by decide,Tryz.func35.trans (congrArg some (by kernel_rfl))⟩
 f8:=⟨Tryz.f73.name,by decide,Tryz.func73.trans (congrArg some (by kernel_rfl))⟩
 f11:=⟨Tryz.f120.name,by decide,Tryz.func120.trans (congrArg some (by kernel_rfl))⟩
 t0:=Tryz.underlying0
 a0:=Tryz.isAgg0
 z0:=Tryz.sizeOf0
 v0:=Tryz.zeroValue0
 t24:=Tryz.underlying33
 a24:=Tryz.isAgg33
 z24:=Tryz.sizeOf33
 v24:=Tryz.zeroValue33
 t26:=Tryz.underlying9
 a26:=Tryz.isAgg9
 z26:=Tryz.sizeOf9
 v26:=Tryz.zeroValue9
 t28:=Tryz.underlying103
 a28:=Tryz.isAgg103
 z28:=Tryz.sizeOf103
 v28:=Tryz.zeroValue103
 i26:=by kernel_rfl }
def Tryz.sort74_ren:Go.Shelf.Ren:=⟨fun | 6=>74 | 8=>122 | 9=>121 | 19=>178 | 20=>179 | 21=>169 | 22=>170 | 23=>171 | 24=>172 | 25=>173 | 26=>174 | 27=>175 | 28=>176 | 29=>177 | 36=>223 | 31=>224 | 32=>225 | 37=>226 | 38=>227 | 39=>228 | 41=>265 | n=>n,fun | 27=>33 | 29=>9 | 3=>3 | 32=>216 | 26=>33 | 0=>0 | 44=>267 | 46=>269 | 4=>4 | 36=>261 | 35=>260 | 41=>100 | 5=>5 | 9=>9 | 53=>313 | 57=>317 | 63=>355 | 64=>356 | n=>n,fun | n=>n⟩
theorem Tryz.sort74:Go.Proofs.SlLaysM.n6 Tryz.prog Tryz.sort74_ren:={
 mixed:=by kernel_rfl
 f6:=⟨Tryz.f74.name,by decide,Tryz.func74.trans (congrArg some (by kernel_rfl))⟩
 f8:=Tryz.func122.trans (congrArg some (by kernel_rfl))
 f9:=⟨Tryz.f121.name,by decide,Tryz.func121.trans (congrArg some (by kernel_rfl))⟩
 f19:=Tryz.func178.trans (congrArg some (by kernel_rfl))
 f20:=Tryz.func179.trans (congrArg some (by kernel_rfl))
 f21:=⟨Tryz.f169.name,by decide,Tryz.func169.trans (congrArg some (by kernel_rfl))⟩
 f22:=⟨Tryz.f170.name,by decide,Tryz.func170.trans (congrArg some (by kernel_rfl))⟩
 f23:=⟨Tryz.f171.name,by decide,Tryz.func171.trans (congrArg some (by kernel_rfl))⟩
 f24:=⟨Tryz.f172.name,by decide,Tryz.func172.trans (congrArg some (by kernel_rfl))⟩
 f25:=⟨Tryz.f173.name,by decide,Tryz.func173.trans (congrArg some (by kernel_rfl))⟩
 f26:=⟨Tryz.f174.name,by decide,Tryz.func174.trans (congrArg some (by kernel_rfl))⟩
 f27:=⟨Tryz.f175.name,by decide,Tryz.func175.trans (congrArg some (by kernel_rfl))⟩
 f28:=⟨Tryz.f176.name,by decide,Tryz.func176.trans (congrArg some (by kernel_rfl))⟩
 f29:=⟨Tryz.f177.name,by decide,Tryz.func177.trans (congrArg some (by kernel_rfl))⟩
 f31:=Tryz.func224.trans (congrArg some (by kernel_rfl))
 f32:=Tryz.func225.trans (congrArg some (by kernel_rfl))
 f36:=⟨Tryz.f223.name,by decide,Tryz.func223.trans (congrArg some (by kernel_rfl))⟩
 f37:=⟨Tryz.f226.name,by decide,Tryz.func226.trans (congrArg some (by kernel_rfl))⟩
 f38:=⟨Tryz.f227.name,by decide,Tryz.func227.trans (congrArg some (by kernel_rfl))⟩
 f39:=⟨Tryz.f228.name,by decide,Tryz.func228.trans (congrArg some (by kernel_rfl))⟩
 f41:=⟨Tryz.f265.name,by decide,Tryz.func265.trans (congrArg some (by kernel_rfl))⟩
 t0:=Tryz.underlying0
 a0:=Tryz.isAgg0
 z0:=Tryz.sizeOf0
 v0:=Tryz.zeroValue0
 t3:=Tryz.underlying3
 a3:=Tryz.isAgg3
 z3:=Tryz.sizeOf3
 v3:=Tryz.zeroValue3
 t4:=Tryz.underlying4
 a4:=Tryz.isAgg4
 z4:=Tryz.sizeOf4
 v4:=Tryz.zeroValue4
 t5:=Tryz.underlying5
 a5:=Tryz.isAgg5
 z5:=Tryz.sizeOf5
 v5:=Tryz.zeroValue5
 t9:=Tryz.underlying9
 a9:=Tryz.isAgg9
 z9:=Tryz.sizeOf9
 v9:=Tryz.zeroValue9
 t26:=Tryz.underlying33
 a26:=Tryz.isAgg33
 z26:=Tryz.sizeOf33
 v26:=Tryz.zeroValue33
 t27:=Tryz.underlying33
 a27:=Tryz.isAgg33
 z27:=Tryz.sizeOf33
 v27:=Tryz.zeroValue33
 t29:=Tryz.underlying9
 a29:=Tryz.isAgg9
 z29:=Tryz.sizeOf9
 v29:=Tryz.zeroValue9
 t32:=Tryz.underlying216
 a32:=Tryz.isAgg216
 z32:=Tryz.sizeOf216
 v32:=Tryz.zeroValue216
 t35:=Tryz.underlying260
 a35:=Tryz.isAgg260
 z35:=Tryz.sizeOf260
 v35:=Tryz.zeroValue260
 t36:=Tryz.underlying261
 a36:=Tryz.isAgg261
 z36:=Tryz.sizeOf261
 v36:=Tryz.zeroValue261
 t41:=Tryz.underlying100
 a41:=Tryz.isAgg100
 z41:=Tryz.sizeOf100
 v41:=Tryz.zeroValue100
 t44:=Tryz.underlying267
 a44:=Tryz.isAgg267
 z44:=Tryz.sizeOf267
 v44:=Tryz.zeroValue267
 t46:=Tryz.underlying269
 a46:=Tryz.isAgg269
 z46:=Tryz.sizeOf269
 v46:=Tryz.zeroValue269
 t53:=Tryz.underlying313
 a53:=Tryz.isAgg313
 z53:=Tryz.sizeOf313
 v53:=Tryz.zeroValue313
 t57:=Tryz.underlying317
 a57:=Tryz.isAgg317
 z57:=Tryz.sizeOf317
 v57:=Tryz.zeroValue317
 t63:=Tryz.underlying355
 a63:=Tryz.isAgg355
 z63:=Tryz.sizeOf355
 v63:=Tryz.zeroValue355
 t64:=Tryz.underlying356
 a64:=Tryz.isAgg356
 z64:=Tryz.sizeOf356
 v64:=Tryz.zeroValue356 }
open Go.RowKit Go.Maps Go.Sort Go.Shelf
theorem Tryz.sorts35 (m:Nat):AnyZ.SortsIn Tryz.prog Tryz.sorted35_ren Fence.wide m:=
 ⟨fun blk off cap F W D y z=>callsIn_wide.2 (AnyM.slices_Sort_string Tryz.sort74 blk off cap F W D y z),
  fun p cap W=>callsIn_wide.2 (AnyM.slices_Sort_string_none Tryz.sort74 p cap W)⟩
theorem Tryz.maps_Keys_36 (mb:Option Nat)(W:World):CallsIn Fence.wide 5 Tryz.prog 36 #[.map mb] W fun e w'=>e=.returned (.func (.func 75) #[] #[.pointer (some ⟨W.heap.size,0,none⟩)])/\w'=W.alloc (.cells #[.map mb] 98):=
 AnyZ.keys_in Tryz.keys36 Fence.wide 5 trivial rfl mb W
theorem Tryz.slices_Sorted_keys_35_36 {H:Type}(b nn:Nat)(D0:DataW H)(R:Value->Option (DataW H×List MemPlace))(w:World)(hown:w.ownsMap Tryz.prog 9 R b nn D0)(hmax:Maps.size D0<=maxLen)(hbytes:Maps.size D0*16<=140737488355328):
  CallsIn Fence.wide 5 Tryz.prog 35 #[.func (.func 75) #[] #[.pointer (some ⟨w.heap.size,0,none⟩)]] (w.alloc (.cells #[.map (some b)] 98)) fun e w'=>∃ (v:Value) (ss:List (List UInt8)),e=.returned v/\ss.Perm (strKeys D0) /\
   w'.ownsRow (w.alloc (.cells #[.map (some b)] 98)).heap.size 9 1 v ss.length ((ss.mergeSort (fun x y=>decide (x<=y))).map encStr)/\(v=.slice none 0 0↔ss=[])/\Below (w.alloc (.cells #[.map (some b)] 98)).heap.size (w.alloc (.cells #[.map (some b)] 98)) w':=by
 have F:=hown.lt;have D:SeqGives Fence.wide 2 Tryz.prog 75 #[.pointer (some ⟨w.heap.size,0,none⟩)] encStr (fun ss=>ss.Perm (strKeys D0)) (Maps.size D0) (w.alloc (.cells #[.map (some b)] 98)):=
  AnyZ.keys_gives (ρ:=Tryz.keys36_ren) { Tryz.keys36 with } Fence.wide _ trivial rfl (by omega) w.heap.size b nn D0 _ (by simp) (by simp) (by
   obtain⟨K,z,N,M,I,J⟩:=hown;exact⟨K,z,(Below.heap_alloc _ _ b F).trans N,M,I,J⟩)
 exact AnyZ.sorted_in Tryz.sorted35 Fence.wide 5 trivial trivial trivial trivial rfl (by omega) (Tryz.sorts35 _) (enters_of Tryz.func74 (by kernel_rfl) rfl) 75 #[.pointer (some ⟨w.heap.size,0,none⟩)] trivial (enters_of Tryz.func75 (by kernel_rfl) rfl) _ _ hmax hbytes _ D
end Go.Proofs
