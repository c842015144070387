/- A part of the proof. -/
import Derived.Below
import Derived.Lib.Hide
set_option maxRecDepth 100000
set_option maxHeartbeats 20000000
set_option linter.unusedVariables false
set_option linter.unusedSimpArgs false
namespace Go.Proofs.YtaohgmcbpafdeaaGreatDoor
theorem dF{p:Prop}[Decidable p](h:¬p:=by omega):decide p=false:=decide_eq_false h
theorem dT{p:Prop}[Decidable p](h:p:=by omega):decide p=true:=decide_eq_true h
theorem lr{a:Nat}:a≤a:=Nat.le_refl a
theorem ae{p:Prop}(h:p):RowKit.Hid p:=h
abbrev LU:=List UInt8
abbrev BA:=ByteArray
theorem gG{α:Type}{l:List α}{i:Nat}(h:i<l.length):l[i]?=some l[i]:=List.getElem?_eq_getElem h
theorem gM{α:Type}{l:List α}{i:Nat}{a:α}(h:l[i]?=some a):a∈l:=List.mem_of_getElem? h
theorem gS{α:Type}{l:List α}{i:Nat}{a:α}(h:l[i]?=some a):∃h:i<l.length,l[i]=a:=List.getElem?_eq_some_iff.1 h
theorem bR{n:Nat}{w:World}:RowKit.Below n w w:=RowKit.Below.refl n w
theorem z0{n:Nat}:0≤n:=Nat.zero_le n
theorem tS{α:Type}{i:Nat}{l:List α}(h:i<l.length):l.take (i+1)=l.take i++[l[i]]:=List.take_succ_eq_append_getElem h
theorem bI{a b:Bool}:a=b↔(a=true↔b=true):=Bool.eq_iff_iff
theorem bF{α:Type}[BEq α][LawfulBEq α]{a b:α}:(a==b)=false↔a≠b:=beq_eq_false_iff_ne
theorem dO{p:Prop}[Decidable p](h:decide p=true):p:=of_decide_eq_true h
theorem tL{α:Type}{l:List α}{i:Nat}(h:l.length≤i):l.take i=l:=List.take_of_length_le h
theorem Pu{P:Nat→Value→Prop}{a b c:Value}{r:List Value}(h:∀(j:Nat)(u:Value),(a::b::c::r)[j]?=some u→P j u):P 0 a∧P 1 b∧P 2 c:=⟨h 0 _ rfl,h 1 _ rfl,h 2 _ rfl⟩
theorem Pv{P:Nat→Value→Prop}{a b c d:Value}{r:List Value}(h:∀(j:Nat)(u:Value),(a::b::c::d::r)[j]?=some u→P j u):P 0 a∧P 1 b∧P 2 c∧P 3 d:=⟨h 0 _ rfl,h 1 _ rfl,h 2 _ rfl,h 3 _ rfl⟩
theorem Pw{P:Nat→Value→Prop}{a b c d e:Value}{r:List Value}(h:∀(j:Nat)(u:Value),(a::b::c::d::e::r)[j]?=some u→P j u):P 0 a∧P 1 b∧P 2 c∧P 3 d∧P 4 e:=⟨h 0 _ rfl,h 1 _ rfl,h 2 _ rfl,h 3 _ rfl,h 4 _ rfl⟩
theorem Px{P:Nat→Value→Prop}{a b c d e f:Value}{r:List Value}(h:∀(j:Nat)(u:Value),(a::b::c::d::e::f::r)[j]?=some u→P j u):P 0 a∧P 1 b∧P 2 c∧P 3 d∧P 4 e∧P 5 f:=⟨h 0 _ rfl,h 1 _ rfl,h 2 _ rfl,h 3 _ rfl,h 4 _ rfl,h 5 _ rfl⟩
theorem Py{P:Nat→Value→Prop}{a b c d e f g:Value}{r:List Value}(h:∀(j:Nat)(u:Value),(a::b::c::d::e::f::g::r)[j]?=some u→P j u):P 0 a∧P 1 b∧P 2 c∧P 3 d∧P 4 e∧P 5 f∧P 6 g:=⟨h 0 _ rfl,h 1 _ rfl,h 2 _ rfl,h 3 _ rfl,h 4 _ rfl,h 5 _ rfl,h 6 _ rfl⟩
theorem Pz{P:Nat→Value→Prop}{a b c d e f g k:Value}{r:List Value}(h:∀(j:Nat)(u:Value),(a::b::c::d::e::f::g::k::r)[j]?=some u→P j u):P 0 a∧P 1 b∧P 2 c∧P 3 d∧P 4 e∧P 5 f∧P 6 g∧P 7 k:=⟨h 0 _ rfl,h 1 _ rfl,h 2 _ rfl,h 3 _ rfl,h 4 _ rfl,h 5 _ rfl,h 6 _ rfl,h 7 _ rfl⟩
theorem PA{P:Nat→Value→Prop}{a b c d e f g k l:Value}{r:List Value}(h:∀(j:Nat)(u:Value),(a::b::c::d::e::f::g::k::l::r)[j]?=some u→P j u):P 0 a∧P 1 b∧P 2 c∧P 3 d∧P 4 e∧P 5 f∧P 6 g∧P 7 k∧P 8 l:=⟨h 0 _ rfl,h 1 _ rfl,h 2 _ rfl,h 3 _ rfl,h 4 _ rfl,h 5 _ rfl,h 6 _ rfl,h 7 _ rfl,h 8 _ rfl⟩
abbrev OA:=Option Addr
abbrev LV:=List Value
abbrev Bw(w v:World):Prop:=RowKit.Below w.heap.size w v
theorem mb{P:Program}{f:FuncId}{a:Array Value}{w:World}{v:Value}{p:World→Prop}{Q:Ending→World→Prop}(h:Calls P f a w fun e u=>e=.returned v∧p u)(k:∀ u,p u→Q (.returned v) u):Calls P f a w Q:=h.mono fun _ u ⟨h,g⟩=>h ▸ k u g
theorem sA{α:Type}(l:List α)(i:Nat)(a:α):l.toArray.setIfInBounds i a=(l.set i a).toArray:=List.setIfInBounds_toArray ..
theorem sB{α:Type}{a b:α}{l:List α}:(a::l).set 0 b=b::l:=rfl
theorem sC{α:Type}{a b:α}{l:List α}{i:Nat}:(a::l).set (i+1) b=a::l.set i b:=rfl
end Go.Proofs.YtaohgmcbpafdeaaGreatDoor
