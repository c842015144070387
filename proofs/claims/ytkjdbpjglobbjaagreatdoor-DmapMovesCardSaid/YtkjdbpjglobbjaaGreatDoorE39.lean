/- A part of the proof of a law on dependencies in three formats. No condition. -/
import Derived.Test.YtkjdbpjglobbjaaGreatDoorE04
set_option maxRecDepth 100000
set_option maxHeartbeats 20000000
set_option linter.unusedVariables false
set_option linter.unusedSimpArgs false
namespace Go.Proofs.YtkjdbpjglobbjaaGreatDoor
section
open Go.RowKit
theorem Ae (x:aA)(w:World):(binOp .neq 53 (.agg #[.string x.nm,.int .i64 x.op,.string x.ver]) (.agg #[.string x.nm,.int .i64 x.op,.string x.ver])).run Tryz.prog w=.ok (.bool false) w:=by
 go_simp
theorem pM (A B:Option Addr)(c d:Nat)(l:List aA)(w:World)(h1:Rd w 3 A l.length (l.flatMap aA.cells))(h2:Rd w 3 B l.length (l.flatMap aA.cells))(hl:l.length≤1000000):
  Calls Tryz.prog 26 #[.slice A l.length c,.slice B l.length d] w fun e w'=>e=.returned (.bool true)∧Below w.heap.size w w':=by
 have H1:=ae h1;have H2:=ae h2
 clear h1 h2
 have q:((l.length:Int) != (l.length:Int))=false:=by simp
 go_enter Tryz.func26,Tryz.ntmps26
 go_wp2_with fail
 go_loopw [5] (fun i wr=>∃ k:Nat,k≤l.length∧i=.int .i64 k∧Hid (Below w.heap.size w wr)) (fun i _=>l.length-(intOf i).toNat)
 case atStart=>exact⟨0,z0,rfl,bR⟩
 case round=>
  obtain⟨k,hk,rfl,HB⟩:=hrel
  by_cases hlt:k<l.length
  ·obtain⟨x,hx⟩:∃ x,l[k]?=some x:=⟨_,gG hlt⟩
   obtain⟨b1,o1,hA1,he1⟩:=(H1.out.below HB.out).elem dw k x hx
   obtain⟨b2,o2,hA2,he2⟩:=(H2.out.below HB.out).elem dw k x hx
   have e0:=he1 0 _ rfl
   have e1:=he1 1 _ rfl
   have e2:=he1 2 _ rfl
   have f0:=he2 0 _ rfl
   have f1:=he2 1 _ rfl
   have f2:=he2 2 _ rfl
   simp only[Nat.add_zero] at e0 f0
   have hix:=fun W=>aH (T:=31) (E:=53) (sz:=3) (c:=c) Tryz.underlying31 rfl Tryz.sizeOf53 hA1 hlt W
   have hiy:=fun W=>aH (T:=31) (E:=53) (sz:=3) (c:=d) Tryz.underlying31 rfl Tryz.sizeOf53 hA2 hlt W
   have nq:=fun W=>Ae x W
   clear hx hA1 hA2 he1 he2
   go_wp2_with fail
   go_quiet (fail)
   go_wp2_with fail
   go_roundw
   case rel=>exact⟨k+1,by omega,by go_num,bJ HB.out _⟩
   case measure=>simp[intOf];omega
  ·go_wp2_with fail
   go_ret
   exact⟨rfl,HB.out⟩
end
end Go.Proofs.YtkjdbpjglobbjaaGreatDoor
