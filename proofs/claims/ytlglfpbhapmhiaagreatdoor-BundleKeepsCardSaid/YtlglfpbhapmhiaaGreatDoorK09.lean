/- A part of the proof. -/
import Derived.Test.YtlglfpbhapmhiaaGreatDoorK04
set_option maxRecDepth 100000
set_option maxHeartbeats 20000000
set_option linter.unusedVariables false
set_option linter.unusedSimpArgs false
namespace Go.Proofs.YtlglfpbhapmhiaaGreatDoor
section
open Go.RowKit
theorem eZ (p:UInt8→Bool)(l:LU):aA p l≤l.length:=by
 unfold aA;exact(List.takeWhile_sublist p).length_le
theorem Jo (p:UInt8→Bool)(l:LU):decide (aA p l=l.length)=l.all p:=by
 rw[bI]
 constructor
 ·intro h
  have h:=dO h
  have:=(List.takeWhile_sublist p (l:=l)).eq_of_length h
  rw[←this];simp
 ·intro h
  unfold aA;rw[jx _ h];simp
theorem xz (p:UInt8→Bool)(s:BA):(((aA p (bl s):Nat):Int)==(s.size:Int))=(bl s).all p:=by
 rw[←Jo,ah,bI];simp;omega
theorem kJ (s:BA)(j:Nat)(c:UInt8)(h:j<s.size):((s.data[j]!).toNat:Int)=c.toNat↔(bl s)[j]?=some c:=by
 rw[dD s j h]
 have e:s.data[j]! = s[j]:=getElem!_pos s.data j h
 rw[e]
 constructor
 ·intro hh;congr 1;apply UInt8.toNat_inj.1;omega
 ·intro hh;injection hh with hh;rw[hh]
theorem vI (s:BA)(j:Nat)(h:¬ j<s.size):(bl s)[j]?=none:=by
 apply List.getElem?_eq_none;rw[ah];omega
theorem xA (s:BA)(c:UInt8)(h:dB c (bl s)=none):Lib.lastIndexByte s c.toNat=-1:=by
 rcases Lib.lastIndexByte_spec s c.toNat with⟨e,_⟩ | ⟨i,hi,e,hc,hn⟩
 ·exact e
 ·have:=mB c (bl s) i ((kJ s i c hi).1 hc) (fun j hj hh=>by
   by_cases hjs:j<s.size
   ·exact hn j hj hjs ((kJ s j c hjs).2 hh)
   ·rw[vI s j hjs] at hh;cases hh)
  rw[this] at h;cases h
theorem xB (s:BA)(c:UInt8)(i:Nat)(h:dB c (bl s)=some i):Lib.lastIndexByte s c.toNat=i:=by
 rcases Lib.lastIndexByte_spec s c.toNat with⟨e,hn⟩ | ⟨k,hk,e,hc,hn⟩
 ·have:=qD c (bl s) (fun j hh=>by
   by_cases hjs:j<s.size
   ·exact hn j hjs ((kJ s j c hjs).2 hh)
   ·rw[vI s j hjs] at hh;cases hh)
  rw[this] at h;cases h
 ·have:=mB c (bl s) k ((kJ s k c hk).1 hc) (fun j hj hh=>by
   by_cases hjs:j<s.size
   ·exact hn j hj hjs ((kJ s j c hjs).2 hh)
   ·rw[vI s j hjs] at hh;cases hh)
  rw[this] at h;injection h with h;rw[e,h]
theorem tC (c:UInt8)(a:Addr)(o:BA)(w:World)(ha:w.cell? a=some (.string o)):
  Calls Tryz.prog 199 #[.int .u8 c.toNat,.pointer (some a)] w fun e w'=>e=.returned (.bool (jE c||cv c||(bl o).contains c))∧w=w':=by
 cases h1:jE c
 ·cases h2:cv c
  ·cases h3:(bl o).contains c
   ·have hn:=eY o c h3
    have H3:=ae h3;clear h3
    go_enter Tryz.func199,Tryz.ntmps199
    go_wp2_with (first | (go_at_call 200;refine(fO _ _).mono ?_;rintro e w' ⟨rfl,rfl⟩) | (go_at_call 163;refine(cN _ _).mono ?_;rintro e w' ⟨rfl,rfl⟩) | (go_at_call 119;refine(aQ _ _ _).mono ?_;rintro e w' ⟨rfl,rfl⟩))
    go_ret
    exact⟨af dF,rfl⟩
   ·have hn:=fN o c h3
    have H3:=ae h3;clear h3
    go_enter Tryz.func199,Tryz.ntmps199
    go_wp2_with (first | (go_at_call 200;refine(fO _ _).mono ?_;rintro e w' ⟨rfl,rfl⟩) | (go_at_call 163;refine(cN _ _).mono ?_;rintro e w' ⟨rfl,rfl⟩) | (go_at_call 119;refine(aQ _ _ _).mono ?_;rintro e w' ⟨rfl,rfl⟩))
    go_ret
    exact⟨af rfl,rfl⟩
  ·go_enter Tryz.func199,Tryz.ntmps199
   go_wp2_with (first | (go_at_call 200;refine(fO _ _).mono ?_;rintro e w' ⟨rfl,rfl⟩) | (go_at_call 163;refine(cN _ _).mono ?_;rintro e w' ⟨rfl,rfl⟩))
   go_ret
   exact⟨rfl,rfl⟩
 ·go_enter Tryz.func199,Tryz.ntmps199
  go_wp2_with (first | (go_at_call 200;refine(fO _ _).mono ?_;rintro e w' ⟨rfl,rfl⟩))
  go_ret
  exact⟨rfl,rfl⟩
theorem De (s o:BA)(a:Addr)(w:World)(ha:w.cell? a=some (.string o))(hs:s.size≤9223372036854775807):
  Calls Tryz.prog 166 #[.string s,.func (.func 199) #[] #[.pointer (some a)]] w fun e w'=>e=.returned (.int .i64 (aA (Mj (bl o)) (bl s)))∧w=w':=
 vH _ _ _ s w hs Tryz.call199 (ae fun c=>tC c a o w ha)
theorem vJ (s o:BA)(w:World)(hs:s.size≤9223372036854775807):
  Calls Tryz.prog 162 #[.string s,.string o] w fun e w'=>e=.returned (.bool (bB (bl o) (bl s)))∧Below w.heap.size w w':=by
 by_cases h0:s.size=0
 ·have he:s.toList=[]:=by rw[ai,bL s h0]
  go_enter Tryz.func162,Tryz.ntmps162
  go_wp2_with fail
  go_ret
  exact⟨af (by rw[bL s h0];rfl),bR.alloc lr _⟩
 ·have he:s.toList.isEmpty=false:=by rw[ai,aY];simpa using h0
  have he':¬ s.toList=[]:=by intro h;rw[h] at he;simp at he
  go_enter Tryz.func162,Tryz.ntmps162
  go_wp2_with (go_at_call 166;refine(De _ _ _ _ (by simp;rfl) hs).mono ?_;rintro e w' ⟨rfl,rfl⟩)
  go_ret
  refine⟨af ?_,bR.alloc lr _⟩
  rw[xz];unfold bB;rw[aY,dF h0];rfl
theorem qL (s:BA)(w:World)(hs:s.size≤9223372036854775807):
  Calls Tryz.prog 161 #[.string s] w fun e w'=>e=.returned (.bool (jY (bl s)))∧w=w':=by
 by_cases h0:s.size=0
 ·have he:s.toList=[]:=by rw[ai,bL s h0]
  go_enter Tryz.func161,Tryz.ntmps161
  go_wp2_with fail
  go_ret
  exact⟨af (by rw[bL s h0];rfl),rfl⟩
 ·have he:s.toList.isEmpty=false:=by rw[ai,aY];simpa using h0
  have he':¬ s.toList=[]:=by intro h;rw[h] at he;simp at he
  go_enter Tryz.func161,Tryz.ntmps161
  go_wp2_with (go_at_call 166;refine(uw _ _ hs).mono ?_;rintro e w' ⟨rfl,rfl⟩)
  go_ret
  refine⟨af ?_,rfl⟩
  rw[xz];unfold jY;rw[aY,dF h0];rfl
theorem cO (s:BA)(c:UInt8)(w:World)(hs:s.size≤9223372036)(h:Hid (dB c (bl s)=none)):
  Calls Tryz.prog 131 #[.string s,.int .u8 c.toNat] w fun e w'=>e=.returned (.int .i64 (-1))∧w=w':=
 (Tryz.strings_LastIndexByte s c.toNat (by omega) w).mono fun _ _ ⟨he,hw⟩=>⟨by rw[he,xA s c h.out],hw.symm⟩
theorem bJ (s:BA)(c:UInt8)(i:Nat)(w:World)(hs:s.size≤9223372036)(h:Hid (dB c (bl s)=some i)):
  Calls Tryz.prog 131 #[.string s,.int .u8 c.toNat] w fun e w'=>e=.returned (.int .i64 i)∧w=w':=
 (Tryz.strings_LastIndexByte s c.toNat (by omega) w).mono fun _ _ ⟨he,hw⟩=>⟨by rw[he,xB s c i h.out],hw.symm⟩
theorem bH (s sep:BA)(w:World)(hG:Gl w)(hs:s.size≤4294967280):
  Calls Tryz.prog 160 #[.string s,.string sep] w fun e w'=>e=.returned (.tuple #[.string (gf s sep),.string (kg s sep),.bool (vD s sep)])∧Below w.heap.size w w':=by
 obtain⟨m,hm⟩:=hG.ml
 exact(Tryz.strings_Cut s sep m w (by omega) hm).mono fun _ _ ⟨he,n,hw⟩=>⟨he,by rw[hw];exact aq bR n⟩
end
end Go.Proofs.YtlglfpbhapmhiaaGreatDoor
