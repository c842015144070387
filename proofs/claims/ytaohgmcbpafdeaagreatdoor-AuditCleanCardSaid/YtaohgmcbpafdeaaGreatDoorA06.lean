/- A part of the proof. -/
import Derived.Test.YtaohgmcbpafdeaaGreatDoorProg
import Derived.ProofKit
import Derived.WalkKit
import Derived.WalkLawsBesides
import Derived.WalkSpells
import Derived.Test.YtaohgmcbpafdeaaGreatDoorA01
set_option maxRecDepth 100000
set_option maxHeartbeats 20000000
set_option linter.unusedVariables false
set_option linter.unusedSimpArgs false
namespace Go.Proofs.YtaohgmcbpafdeaaGreatDoor
section
open Go.RowKit
theorem ah (s:BA):s.toList=bl s:=ByteArray.toList_eq s
theorem aT (s:BA):(bl s).isEmpty=decide (s.size=0):=by
 rw[bI,List.isEmpty_iff,←List.length_eq_zero_iff,ag];simp
theorem af {a b:Bool}(h:a=b):Ending.returned (.bool a)=.returned (.bool b):=by rw[h]
theorem ap {k:IntKind}{a b:Int}(h:a=b):Ending.returned (.int k a)=.returned (.int k b):=by rw[h]
def Ie (n:Int):Int:=if n=1 then 1 else if n=2 then 3 else if n=3 then 2 else 0
def jg (n:Int):Bool:=decide (n=1∨n=2∨n=3)
theorem Bc (n:Int)(w:World):
  Calls Tryz.prog 35 #[.int .i64 n] w fun e w'=>e=.returned (.int .i64 (Ie n))∧w=w':=by
 go_enter Tryz.func35,Tryz.ntmps35
 go_wp2
 all_goals (go_ret;refine⟨?_,rfl⟩;simp_all [Ie])
theorem kG (n:Int)(w:World):
  Calls Tryz.prog 29 #[.int .i64 n] w fun e w'=>e=.returned (.bool (jg n))∧w=w':=by
 go_enter Tryz.func29,Tryz.ntmps29
 go_wp2
 all_goals (go_ret;refine⟨af ?_,rfl⟩;rw[bI];simp_all [jg];try omega)
def rt (least:Nat)(l:LU):Bool:=l.all fun c=>least≤c.toNat&&c.toNat≤126
def iE (l:LU):Bool:=!l.isEmpty&&rt 33 l
theorem Ex (least:Nat)(s:BA)(k:Nat)(h:k<s.size)(h0:rt least ((bl s).take k)=true)(h1:least≤s[k].toNat)(h2:¬ s[k].toNat<least∧(s[k].toNat:Int)≤126):rt least ((bl s).take (k+1))=true:=by
 unfold rt at *;rw[de s k h,h0];simp;omega
theorem yp (least:Nat)(s:BA)(k:Nat)(h:k<s.size)(h1:s[k].toNat<least∨126<(s[k].toNat:Int)):rt least (bl s)=false:=by
 unfold rt;apply jX s k h;simp;omega
theorem jZ (s:BA)(least:Nat)(w:World)(hs:s.size≤9223372036854775807):
  Calls Tryz.prog 78 #[.string s,.int .u8 least] w fun e w'=>e=.returned (.bool (rt least (bl s)))∧w=w':=by
 go_enter Tryz.func78,Tryz.ntmps78
 go_wp2
 go_loop [8] (fun i=>∃ k:Nat,k≤s.size∧i=.int .i64 k∧Hid (rt least ((bl s).take k)=true)) (fun i=>s.size-(intOf i).toNat)
 case atStart=>exact⟨0,z0,rfl,by simp[rt,Hid]⟩
 case round=>
  obtain⟨k,hk,rfl,hw⟩:=hrel
  by_cases hlt:k<s.size
  ·by_cases h1:least≤s[k].toNat
   ·by_cases h2:(s[k].toNat:Int)≤126
    ·go_wp2
     go_round
     case rel=>exact⟨k+1,by omega,by go_num,Ex least s k hlt hw.out h1 ⟨by omega,h2⟩⟩
     case measure=>simp[intOf];omega
    ·go_wp2
     go_ret
     exact⟨af (by rw[yp least s k hlt (by omega)]),rfl⟩
   ·go_wp2
    go_ret
    exact⟨af (by rw[yp least s k hlt (by omega)]),rfl⟩
  ·go_wp2
   go_ret
   exact⟨af (by have:=hw.out;rw[gm s k (by omega)] at this;rw[this]),rfl⟩
theorem pN (s:BA)(w:World)(hs:s.size≤9223372036854775807):
  Calls Tryz.prog 84 #[.string s] w fun e w'=>e=.returned (.bool (iE (bl s)))∧w=w':=by
 go_enter Tryz.func84,Tryz.ntmps84
 go_wp2_with (go_at_call 78;refine(jZ _ 33 _ hs).mono ?_;rintro e w' ⟨rfl,rfl⟩)
 all_goals (go_ret;refine⟨af ?_,rfl⟩;simp_all [iE,ah])
end
end Go.Proofs.YtaohgmcbpafdeaaGreatDoor
