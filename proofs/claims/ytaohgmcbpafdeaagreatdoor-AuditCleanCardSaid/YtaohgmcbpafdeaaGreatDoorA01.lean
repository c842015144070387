/- A part of the proof. -/
import Derived.Test.YtaohgmcbpafdeaaGreatDoorA00
set_option maxRecDepth 100000
set_option maxHeartbeats 20000000
set_option linter.unusedVariables false
set_option linter.unusedSimpArgs false
namespace Go.Proofs.YtaohgmcbpafdeaaGreatDoor
theorem uw {p:UInt8→Bool}(l:LU)(k:Nat)(h:k<l.length):(l.take (k+1)).all p=((l.take k).all p&&p (l[k])):=by
 rw[tS h,List.all_append];simp only[List.all_cons,List.all_nil,Bool.and_true]
theorem wE {p:UInt8→Bool}(l:LU)(k:Nat)(h:k<l.length)(hp:p (l[k])=false):l.all p=false:=by
 rw[List.all_eq_false];exact⟨l[k],List.getElem_mem h,by simp[hp]⟩
def bl (s:BA):LU:=s.data.toList
theorem ag (s:BA):(bl s).length=s.size:=by simp[bl]
theorem gj (s:BA)(k:Nat)(h:k<s.size):(bl s)[k]'(by rw[ag];exact h)=s[k]:=by simp[bl];rfl
theorem cZ (s:BA)(k:Nat)(h:k<s.size):(bl s)[k]?=some s[k]:=by
 rw[gG (by rw[ag];exact h),gj s k h]
theorem iC (s:BA)(a b:Nat):bl (s.extract a b)=((bl s).drop a).take (b-a):=by
 simp[bl,ByteArray.data_extract]
theorem dY {s t:BA}(h:bl s=bl t):s=t:=by
 cases s;cases t;simp only[bl] at h;congr;exact Array.toList_inj.1 h
theorem cj (s t:BA):bl (s++t)=bl s++bl t:=by simp[bl]
theorem ii (l:LU):bl ⟨l.toArray⟩=l:=by simp[bl]
theorem de {p:UInt8→Bool}(s:BA)(k:Nat)(h:k<s.size):((bl s).take (k+1)).all p=(((bl s).take k).all p&&p (s[k])):=by
 rw[uw _ _ (by rw[ag];exact h),gj s k h]
theorem jX {p:UInt8→Bool}(s:BA)(k:Nat)(h:k<s.size)(hp:p (s[k])=false):(bl s).all p=false:=
 wE _ k (by rw[ag];exact h) (by rw[gj s k h];exact hp)
theorem wF (s:BA):(bl s).take s.size=bl s:=by rw[←ag,List.take_length]
theorem gm (s:BA)(k:Nat)(h:s.size≤k):(bl s).take k=bl s:=tL (by rw[ag];exact h)
end Go.Proofs.YtaohgmcbpafdeaaGreatDoor
