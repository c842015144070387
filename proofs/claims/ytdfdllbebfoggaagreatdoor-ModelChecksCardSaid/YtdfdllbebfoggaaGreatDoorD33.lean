/- A part of the proof that ModelChecks holds. No condition. -/
import Derived.Test.YtdfdllbebfoggaaGreatDoorD24
set_option maxRecDepth 100000
set_option maxHeartbeats 20000000
set_option linter.unusedVariables false
set_option linter.unusedSimpArgs false
namespace Go.Proofs.YtdfdllbebfoggaaGreatDoor
section
open Go.RowKit Go.Deep
theorem drew2 (w:World)(a b:Nat):∃ n,(w.drewN a).drewN b=w.drewN n:=⟨a+b,by rw[World.drewN_drewN]⟩
theorem KT.drewN {a:Nat}{w w':World}(h:KT a w w')(n:Nat):KT a w (w'.drewN n):=⟨below_drewN h.bel n,h.same⟩
theorem KT.size {a:Nat}{w w':World}(h:KT a w w'):w.heap.size≤w'.heap.size:=h.bel.size
theorem r14_has (a:Nat)(s:BA)(p:Nat)(bad:Bool)(ps:List Prt)(gs:List GrpM)(hs:List Int)(w:World)(hz:s.size≤4294967280)(h:RS w a s p bad ps gs hs):
  Calls Tryz.prog 251 #[.pointer (some ⟨a,0,none⟩)] w fun e w'=>e=.returned (.bool (decide (p<s.size)))∧∃ n,w'=w.drewN n:=by
 obtain⟨v3,v4,v5,k⟩:=h.cells
 have c0:=k.c0
 have c1:=k.c1
 have HR:=hid h;clear h k
 by_cases hlt:p<s.size
 ·have e1:decide (p<s.size)=true:=dT hlt
  go_enter Tryz.func251,Tryz.ntmps251
  go_wp2_with fail
  go_quiet (fail)
  go_wp2_with fail
  go_ret
  exact⟨by simp[hlt],_,rfl⟩
 ·have e1:decide (p<s.size)=false:=dF hlt
  go_enter Tryz.func251,Tryz.ntmps251
  go_wp2_with fail
  go_quiet (fail)
  go_wp2_with fail
  go_ret
  exact⟨by simp[hlt],_,rfl⟩
theorem r14_next (a:Nat)(s:BA)(p:Nat)(bad:Bool)(ps:List Prt)(gs:List GrpM)(hs:List Int)(w:World)(hz:s.size≤4294967280)(h:RS w a s p bad ps gs hs)(hlt:p<s.size):
  Calls Tryz.prog 277 #[.pointer (some ⟨a,0,none⟩)] w fun e w'=>e=.returned (.int .u8 (s[p].toNat:Nat))∧∃ n,w'=w.drewN n:=by
 obtain⟨v3,v4,v5,k⟩:=h.cells
 have c0:=k.c0
 have c1:=k.c1
 have HR:=hid h;clear h k
 go_enter Tryz.func277,Tryz.ntmps277
 go_wp2_with fail
 go_quiet (fail)
 go_wp2_with fail
 go_quiet (fail)
 go_wp2_with fail
 go_ret
 exact⟨rfl,drew2 _ _ _⟩
theorem r14_has_is (a:Nat)(s:BA)(p:Nat)(bad:Bool)(ps:List Prt)(gs:List GrpM)(hs:List Int)(w:World)(hz:s.size≤4294967280)(h:RS w a s p bad ps gs hs)(b:Bool)(hb:Hid (decide (p<s.size)=b)):
  Calls Tryz.prog 251 #[.pointer (some ⟨a,0,none⟩)] w fun e w'=>e=.returned (.bool b)∧RS w' a s p bad ps gs hs∧KT a w w':=by
 refine(r14_has a s p bad ps gs hs w hz h).mono fun e w' ⟨h1,n,h2⟩=>?_
 rw[hb.out] at h1;subst h2
 exact⟨h1,h.drewN n,(KT.refl a w).drewN n⟩
theorem r14_next_is (a:Nat)(s:BA)(p:Nat)(bad:Bool)(ps:List Prt)(gs:List GrpM)(hs:List Int)(w:World)(hz:s.size≤4294967280)(h:RS w a s p bad ps gs hs)(hlt:p<s.size)(d:UInt8)(hd:Hid (s[p]=d)):
  Calls Tryz.prog 277 #[.pointer (some ⟨a,0,none⟩)] w fun e w'=>e=.returned (.int .u8 d.toNat)∧RS w' a s p bad ps gs hs∧KT a w w':=by
 refine(r14_next a s p bad ps gs hs w hz h hlt).mono fun e w' ⟨h1,n,h2⟩=>?_
 rw[hd.out] at h1;subst h2
 exact⟨h1,h.drewN n,(KT.refl a w).drewN n⟩
theorem r14_take (ch:UInt8)(a:Nat)(s:BA)(p:Nat)(bad:Bool)(ps:List Prt)(gs:List GrpM)(hs:List Int)(w:World)(hz:s.size≤4294967280)(h:RS w a s p bad ps gs hs)(b:Bool)(hb:Hid (head0 ch ((bl s).drop p)=b)):
  Calls Tryz.prog 253 #[.pointer (some ⟨a,0,none⟩),.int .u8 ch.toNat] w fun e w'=>e=.returned (.bool b)∧RS w' a s (if b then p+1 else p) bad ps gs hs∧KT a w w':=by
 have HR:=hid h;clear h
 by_cases hlt:p<s.size
 ·obtain⟨d,hd⟩:∃ d:UInt8,s[p]=d:=⟨_,rfl⟩
  have HD:=hid hd
  have e1:((d.toNat:Int)==(ch.toNat:Int))=b:=by have:=hb.out;rw[head_at s p ch hlt,hd] at this;rw[toNat_beq];exact this
  clear hb hd
  cases b with
  | true=>
   go_enter Tryz.func253,Tryz.ntmps253
   go_wp2_with fail
   refine(r14_has_is a s p bad ps gs hs w hz HR.out true (dT hlt)).mono ?_;rintro e w1 ⟨rfl,h1,k1⟩
   have R1:=hid h1;have K1:=hid k1;clear h1 k1
   go_wp2_with fail
   refine(r14_next_is a s p bad ps gs hs w1 hz R1.out hlt d HD).mono ?_;rintro e w2 ⟨rfl,h1,k1⟩
   have R2:=hid h1;have K2:=hid (K1.out.trans k1);clear h1 k1
   obtain⟨v3,v4,v5,k⟩:=R2.out.cells
   have c1:=k.c1
   have f1:=k.f1
   clear k
   have R3:=hid (R2.out.move (q:=p+1) (by omega) (by omega))
   go_wp2_with fail
   go_ret
   exact⟨rfl,R3.out,K2.out.trans (R2.out.kt _)⟩
  | false=>
   go_enter Tryz.func253,Tryz.ntmps253
   go_wp2_with fail
   refine(r14_has_is a s p bad ps gs hs w hz HR.out true (dT hlt)).mono ?_;rintro e w1 ⟨rfl,h1,k1⟩
   have R1:=hid h1;have K1:=hid k1;clear h1 k1
   go_wp2_with fail
   refine(r14_next_is a s p bad ps gs hs w1 hz R1.out hlt d HD).mono ?_;rintro e w2 ⟨rfl,h1,k1⟩
   have R2:=hid h1;have K2:=hid (K1.out.trans k1);clear h1 k1
   go_wp2_with fail
   go_ret
   exact⟨rfl,R2.out,K2.out⟩
 ·have hb0:b=false:=by rw[←hb.out,head_end s p ch hlt]
  subst hb0
  clear hb
  go_enter Tryz.func253,Tryz.ntmps253
  go_wp2_with fail
  refine(r14_has_is a s p bad ps gs hs w hz HR.out false (dF hlt)).mono ?_;rintro e w1 ⟨rfl,h1,k1⟩
  have R1:=hid h1;have K1:=hid k1;clear h1 k1
  go_wp2_with fail
  go_ret
  exact⟨rfl,R1.out,K1.out⟩
theorem r14_blanks (a:Nat)(s:BA)(p:Nat)(bad:Bool)(ps:List Prt)(gs:List GrpM)(hs:List Int)(w:World)(hz:s.size≤4294967280)(h:RS w a s p bad ps gs hs):
  Calls Tryz.prog 250 #[.pointer (some ⟨a,0,none⟩)] w fun e w'=>e=.returned (.tuple #[])∧RS w' a s (p+runN blankB ((bl s).drop p)) bad ps gs hs∧KT a w w':=by
 have HR:=hid h
 have hp:=h.le
 clear h
 go_enter Tryz.func250,Tryz.ntmps250
 go_wp2_with fail
 go_loopw [] (fun wr=>∃ k:Nat,k≤s.size∧Hid (RS wr a s k bad ps gs hs)∧Hid (KT a w wr)∧Hid (p+runN blankB ((bl s).drop p)=k+runN blankB ((bl s).drop k))) (fun wr=>s.size-atOf a wr)
 case atStart=>exact⟨p,hp,HR,KT.refl _ _,rfl⟩
 case round=>
  obtain⟨k,hk,R0,K0,HN⟩:=hrel
  by_cases hlt:k<s.size
  ·obtain⟨d,hd⟩:∃ d:UInt8,s[k]=d:=⟨_,rfl⟩
   have HD:=hid hd
   by_cases h32:d.toNat=32
   ·have HN2:Hid (p+runN blankB ((bl s).drop p)=(k+1)+runN blankB ((bl s).drop (k+1))):=by
     have:=HN.out;rw[runN_step s k hlt (by rw[hd];simp[blankB];exact UInt8.toNat_inj.1 h32)] at this;show _=_;omega
    clear hd
    go_wp2_with fail
    refine(r14_has_is a s k bad ps gs hs wr hz R0.out true (dT hlt)).mono ?_;rintro e w1 ⟨rfl,h1,k1⟩
    have R1:=hid h1;have K1:=hid (K0.out.trans k1);clear h1 k1
    go_wp2_with fail
    refine(r14_next_is a s k bad ps gs hs w1 hz R1.out hlt d HD).mono ?_;rintro e w2 ⟨rfl,h1,k1⟩
    have R2:=hid h1;have K2:=hid (K1.out.trans k1);clear h1 k1
    obtain⟨v3,v4,v5,q⟩:=R2.out.cells
    have c1:=q.c1
    have f1:=q.f1
    clear q
    have R3:=hid (R2.out.move (q:=k+1) (by omega) (by omega))
    have K3:=hid (K2.out.trans (R2.out.kt (j:=1) (.int .i64 ((k+1:Nat):Int))))
    go_wp2_with fail
    go_roundw
    case rel=>exact⟨k+1,by omega,R3,K3,HN2⟩
    case measure=>exact RS.dec R3.out R0.out (Nat.lt_succ_self _)
   ·have h32':((d.toNat:Int)==32)=false:=by simp;omega
    have HE:Hid (p+runN blankB ((bl s).drop p)=k):=by
     have:=HN.out;rw[runN_halt s k hlt (by rw[hd];simp[blankB];intro e;exact h32 (by rw[e];rfl))] at this;exact this
    clear h32 hd
    go_wp2_with fail
    refine(r14_has_is a s k bad ps gs hs wr hz R0.out true (dT hlt)).mono ?_;rintro e w1 ⟨rfl,h1,k1⟩
    have R1:=hid h1;have K1:=hid (K0.out.trans k1);clear h1 k1
    go_wp2_with fail
    refine(r14_next_is a s k bad ps gs hs w1 hz R1.out hlt d HD).mono ?_;rintro e w2 ⟨rfl,h1,k1⟩
    have R2:=hid h1;have K2:=hid (K1.out.trans k1);clear h1 k1
    go_wp2_with fail
    go_end0
    exact⟨rfl,by rw[HE.out];exact R2.out,K2.out⟩
  ·have HE:Hid (p+runN blankB ((bl s).drop p)=k):=by
    have:=HN.out;rw[runN_end _ s k hlt] at this;exact this
   go_wp2_with fail
   refine(r14_has_is a s k bad ps gs hs wr hz R0.out false (dF hlt)).mono ?_;rintro e w1 ⟨rfl,h1,k1⟩
   have R1:=hid h1;have K1:=hid (K0.out.trans k1);clear h1 k1
   go_wp2_with fail
   go_end0
   exact⟨rfl,by rw[HE.out];exact R1.out,K1.out⟩
theorem r14_op_a (a:Nat)(s:BA)(p:Nat)(bad:Bool)(ps:List Prt)(gs:List GrpM)(hs:List Int)(w:World)(hz:s.size≤4294967280)(h:RS w a s p bad ps gs hs)(H0:Hid (head0 61 ((bl s).drop p)=true)):
  Calls Tryz.prog 279 #[.pointer (some ⟨a,0,none⟩)] w fun e w'=>e=.returned (.int .i64 3)∧RS w' a s (p+1) bad ps gs hs∧KT a w w':=by
 have R0:=hid h;clear h
 go_enter Tryz.func279,Tryz.ntmps279
 go_wp2_with fail
 refine(r14_take 61 a s p bad ps gs hs w hz R0.out true H0).mono ?_;rintro e w1 ⟨rfl,h1,k1⟩
 have R1:=hid h1;have K1:=hid k1;clear h1 k1
 go_wp2_with fail
 go_ret
 exact⟨rfl,R1.out,K1.out⟩
theorem r14_op_b (a:Nat)(s:BA)(p:Nat)(bad:Bool)(ps:List Prt)(gs:List GrpM)(hs:List Int)(w:World)(hz:s.size≤4294967280)(h:RS w a s p bad ps gs hs)(H0:Hid (head0 61 ((bl s).drop p)=false))(H1:Hid (head0 60 ((bl s).drop p)=true))(H2:Hid (head0 60 ((bl s).drop (p+1))=true)):
  Calls Tryz.prog 279 #[.pointer (some ⟨a,0,none⟩)] w fun e w'=>e=.returned (.int .i64 1)∧RS w' a s (p+2) bad ps gs hs∧KT a w w':=by
 have R0:=hid h;clear h
 go_enter Tryz.func279,Tryz.ntmps279
 go_wp2_with fail
 refine(r14_take 61 a s p bad ps gs hs w hz R0.out false H0).mono ?_;rintro e w1 ⟨rfl,h1,k1⟩
 have R1:=hid h1;have K1:=hid k1;clear h1 k1
 go_wp2_with fail
 refine(r14_take 60 a s p bad ps gs hs w1 hz R1.out true H1).mono ?_;rintro e w2 ⟨rfl,h1,k1⟩
 have R2:=hid h1;have K2:=hid (K1.out.trans k1);clear h1 k1
 go_wp2_with fail
 refine(r14_take 60 a s (p+1) bad ps gs hs w2 hz R2.out true H2).mono ?_;rintro e w3 ⟨rfl,h1,k1⟩
 have R3:=hid h1;have K3:=hid (K2.out.trans k1);clear h1 k1
 go_wp2_with fail
 go_ret
 exact⟨rfl,R3.out,K3.out⟩
theorem r14_op_c (a:Nat)(s:BA)(p:Nat)(bad:Bool)(ps:List Prt)(gs:List GrpM)(hs:List Int)(w:World)(hz:s.size≤4294967280)(h:RS w a s p bad ps gs hs)(H0:Hid (head0 61 ((bl s).drop p)=false))(H1:Hid (head0 60 ((bl s).drop p)=true))(H2:Hid (head0 60 ((bl s).drop (p+1))=false))(H3:Hid (head0 61 ((bl s).drop (p+1))=true)):
  Calls Tryz.prog 279 #[.pointer (some ⟨a,0,none⟩)] w fun e w'=>e=.returned (.int .i64 2)∧RS w' a s (p+2) bad ps gs hs∧KT a w w':=by
 have R0:=hid h;clear h
 go_enter Tryz.func279,Tryz.ntmps279
 go_wp2_with fail
 refine(r14_take 61 a s p bad ps gs hs w hz R0.out false H0).mono ?_;rintro e w1 ⟨rfl,h1,k1⟩
 have R1:=hid h1;have K1:=hid k1;clear h1 k1
 go_wp2_with fail
 refine(r14_take 60 a s p bad ps gs hs w1 hz R1.out true H1).mono ?_;rintro e w2 ⟨rfl,h1,k1⟩
 have R2:=hid h1;have K2:=hid (K1.out.trans k1);clear h1 k1
 go_wp2_with fail
 refine(r14_take 60 a s (p+1) bad ps gs hs w2 hz R2.out false H2).mono ?_;rintro e w3 ⟨rfl,h1,k1⟩
 have R3:=hid h1;have K3:=hid (K2.out.trans k1);clear h1 k1
 go_wp2_with fail
 refine(r14_take 61 a s (p+1) bad ps gs hs w3 hz R3.out true H3).mono ?_;rintro e w4 ⟨rfl,h1,k1⟩
 have R4:=hid h1;have K4:=hid (K3.out.trans k1);clear h1 k1
 go_wp2_with fail
 go_ret
 exact⟨rfl,R4.out,K4.out⟩
theorem r14_op_x (a:Nat)(s:BA)(p:Nat)(bad:Bool)(ps:List Prt)(gs:List GrpM)(hs:List Int)(w:World)(hz:s.size≤4294967280)(h:RS w a s p bad ps gs hs)(H0:Hid (head0 61 ((bl s).drop p)=false))(H1:Hid (head0 60 ((bl s).drop p)=true))(H2:Hid (head0 60 ((bl s).drop (p+1))=false))(H3:Hid (head0 61 ((bl s).drop (p+1))=false)):
  Calls Tryz.prog 279 #[.pointer (some ⟨a,0,none⟩)] w fun e w'=>e=.returned (.int .i64 0)∧RS w' a s (p+1) bad ps gs hs∧KT a w w':=by
 have R0:=hid h;clear h
 go_enter Tryz.func279,Tryz.ntmps279
 go_wp2_with fail
 refine(r14_take 61 a s p bad ps gs hs w hz R0.out false H0).mono ?_;rintro e w1 ⟨rfl,h1,k1⟩
 have R1:=hid h1;have K1:=hid k1;clear h1 k1
 go_wp2_with fail
 refine(r14_take 60 a s p bad ps gs hs w1 hz R1.out true H1).mono ?_;rintro e w2 ⟨rfl,h1,k1⟩
 have R2:=hid h1;have K2:=hid (K1.out.trans k1);clear h1 k1
 go_wp2_with fail
 refine(r14_take 60 a s (p+1) bad ps gs hs w2 hz R2.out false H2).mono ?_;rintro e w3 ⟨rfl,h1,k1⟩
 have R3:=hid h1;have K3:=hid (K2.out.trans k1);clear h1 k1
 go_wp2_with fail
 refine(r14_take 61 a s (p+1) bad ps gs hs w3 hz R3.out false H3).mono ?_;rintro e w4 ⟨rfl,h1,k1⟩
 have R4:=hid h1;have K4:=hid (K3.out.trans k1);clear h1 k1
 go_wp2_with fail
 go_ret
 exact⟨rfl,R4.out,K4.out⟩
theorem r14_op_e (a:Nat)(s:BA)(p:Nat)(bad:Bool)(ps:List Prt)(gs:List GrpM)(hs:List Int)(w:World)(hz:s.size≤4294967280)(h:RS w a s p bad ps gs hs)(H0:Hid (head0 61 ((bl s).drop p)=false))(H1:Hid (head0 60 ((bl s).drop p)=false))(H2:Hid (head0 62 ((bl s).drop p)=true))(H3:Hid (head0 61 ((bl s).drop (p+1))=true)):
  Calls Tryz.prog 279 #[.pointer (some ⟨a,0,none⟩)] w fun e w'=>e=.returned (.int .i64 4)∧RS w' a s (p+2) bad ps gs hs∧KT a w w':=by
 have R0:=hid h;clear h
 go_enter Tryz.func279,Tryz.ntmps279
 go_wp2_with fail
 refine(r14_take 61 a s p bad ps gs hs w hz R0.out false H0).mono ?_;rintro e w1 ⟨rfl,h1,k1⟩
 have R1:=hid h1;have K1:=hid k1;clear h1 k1
 go_wp2_with fail
 refine(r14_take 60 a s p bad ps gs hs w1 hz R1.out false H1).mono ?_;rintro e w2 ⟨rfl,h1,k1⟩
 have R2:=hid h1;have K2:=hid (K1.out.trans k1);clear h1 k1
 go_wp2_with fail
 refine(r14_take 62 a s p bad ps gs hs w2 hz R2.out true H2).mono ?_;rintro e w3 ⟨rfl,h1,k1⟩
 have R3:=hid h1;have K3:=hid (K2.out.trans k1);clear h1 k1
 go_wp2_with fail
 refine(r14_take 61 a s (p+1) bad ps gs hs w3 hz R3.out true H3).mono ?_;rintro e w4 ⟨rfl,h1,k1⟩
 have R4:=hid h1;have K4:=hid (K3.out.trans k1);clear h1 k1
 go_wp2_with fail
 go_ret
 exact⟨rfl,R4.out,K4.out⟩
theorem r14_op_d (a:Nat)(s:BA)(p:Nat)(bad:Bool)(ps:List Prt)(gs:List GrpM)(hs:List Int)(w:World)(hz:s.size≤4294967280)(h:RS w a s p bad ps gs hs)(H0:Hid (head0 61 ((bl s).drop p)=false))(H1:Hid (head0 60 ((bl s).drop p)=false))(H2:Hid (head0 62 ((bl s).drop p)=true))(H3:Hid (head0 61 ((bl s).drop (p+1))=false))(H4:Hid (head0 62 ((bl s).drop (p+1))=true)):
  Calls Tryz.prog 279 #[.pointer (some ⟨a,0,none⟩)] w fun e w'=>e=.returned (.int .i64 5)∧RS w' a s (p+2) bad ps gs hs∧KT a w w':=by
 have R0:=hid h;clear h
 go_enter Tryz.func279,Tryz.ntmps279
 go_wp2_with fail
 refine(r14_take 61 a s p bad ps gs hs w hz R0.out false H0).mono ?_;rintro e w1 ⟨rfl,h1,k1⟩
 have R1:=hid h1;have K1:=hid k1;clear h1 k1
 go_wp2_with fail
 refine(r14_take 60 a s p bad ps gs hs w1 hz R1.out false H1).mono ?_;rintro e w2 ⟨rfl,h1,k1⟩
 have R2:=hid h1;have K2:=hid (K1.out.trans k1);clear h1 k1
 go_wp2_with fail
 refine(r14_take 62 a s p bad ps gs hs w2 hz R2.out true H2).mono ?_;rintro e w3 ⟨rfl,h1,k1⟩
 have R3:=hid h1;have K3:=hid (K2.out.trans k1);clear h1 k1
 go_wp2_with fail
 refine(r14_take 61 a s (p+1) bad ps gs hs w3 hz R3.out false H3).mono ?_;rintro e w4 ⟨rfl,h1,k1⟩
 have R4:=hid h1;have K4:=hid (K3.out.trans k1);clear h1 k1
 go_wp2_with fail
 refine(r14_take 62 a s (p+1) bad ps gs hs w4 hz R4.out true H4).mono ?_;rintro e w5 ⟨rfl,h1,k1⟩
 have R5:=hid h1;have K5:=hid (K4.out.trans k1);clear h1 k1
 go_wp2_with fail
 go_ret
 exact⟨rfl,R5.out,K5.out⟩
theorem r14_op_y (a:Nat)(s:BA)(p:Nat)(bad:Bool)(ps:List Prt)(gs:List GrpM)(hs:List Int)(w:World)(hz:s.size≤4294967280)(h:RS w a s p bad ps gs hs)(H0:Hid (head0 61 ((bl s).drop p)=false))(H1:Hid (head0 60 ((bl s).drop p)=false))(H2:Hid (head0 62 ((bl s).drop p)=true))(H3:Hid (head0 61 ((bl s).drop (p+1))=false))(H4:Hid (head0 62 ((bl s).drop (p+1))=false)):
  Calls Tryz.prog 279 #[.pointer (some ⟨a,0,none⟩)] w fun e w'=>e=.returned (.int .i64 0)∧RS w' a s (p+1) bad ps gs hs∧KT a w w':=by
 have R0:=hid h;clear h
 go_enter Tryz.func279,Tryz.ntmps279
 go_wp2_with fail
 refine(r14_take 61 a s p bad ps gs hs w hz R0.out false H0).mono ?_;rintro e w1 ⟨rfl,h1,k1⟩
 have R1:=hid h1;have K1:=hid k1;clear h1 k1
 go_wp2_with fail
 refine(r14_take 60 a s p bad ps gs hs w1 hz R1.out false H1).mono ?_;rintro e w2 ⟨rfl,h1,k1⟩
 have R2:=hid h1;have K2:=hid (K1.out.trans k1);clear h1 k1
 go_wp2_with fail
 refine(r14_take 62 a s p bad ps gs hs w2 hz R2.out true H2).mono ?_;rintro e w3 ⟨rfl,h1,k1⟩
 have R3:=hid h1;have K3:=hid (K2.out.trans k1);clear h1 k1
 go_wp2_with fail
 refine(r14_take 61 a s (p+1) bad ps gs hs w3 hz R3.out false H3).mono ?_;rintro e w4 ⟨rfl,h1,k1⟩
 have R4:=hid h1;have K4:=hid (K3.out.trans k1);clear h1 k1
 go_wp2_with fail
 refine(r14_take 62 a s (p+1) bad ps gs hs w4 hz R4.out false H4).mono ?_;rintro e w5 ⟨rfl,h1,k1⟩
 have R5:=hid h1;have K5:=hid (K4.out.trans k1);clear h1 k1
 go_wp2_with fail
 go_ret
 exact⟨rfl,R5.out,K5.out⟩
theorem r14_op_z (a:Nat)(s:BA)(p:Nat)(bad:Bool)(ps:List Prt)(gs:List GrpM)(hs:List Int)(w:World)(hz:s.size≤4294967280)(h:RS w a s p bad ps gs hs)(H0:Hid (head0 61 ((bl s).drop p)=false))(H1:Hid (head0 60 ((bl s).drop p)=false))(H2:Hid (head0 62 ((bl s).drop p)=false)):
  Calls Tryz.prog 279 #[.pointer (some ⟨a,0,none⟩)] w fun e w'=>e=.returned (.int .i64 0)∧RS w' a s (p+0) bad ps gs hs∧KT a w w':=by
 have R0:=hid h;clear h
 go_enter Tryz.func279,Tryz.ntmps279
 go_wp2_with fail
 refine(r14_take 61 a s p bad ps gs hs w hz R0.out false H0).mono ?_;rintro e w1 ⟨rfl,h1,k1⟩
 have R1:=hid h1;have K1:=hid k1;clear h1 k1
 go_wp2_with fail
 refine(r14_take 60 a s p bad ps gs hs w1 hz R1.out false H1).mono ?_;rintro e w2 ⟨rfl,h1,k1⟩
 have R2:=hid h1;have K2:=hid (K1.out.trans k1);clear h1 k1
 go_wp2_with fail
 refine(r14_take 62 a s p bad ps gs hs w2 hz R2.out false H2).mono ?_;rintro e w3 ⟨rfl,h1,k1⟩
 have R3:=hid h1;have K3:=hid (K2.out.trans k1);clear h1 k1
 go_wp2_with fail
 go_ret
 exact⟨rfl,R3.out,K3.out⟩
def OpPost (a:Nat)(s:BA)(p:Nat)(bad:Bool)(ps:List Prt)(gs:List GrpM)(hs:List Int)(w:World)(e:Ending)(w':World):Prop:=
 ∃ (o q:Nat),e=.returned (.int .i64 o)∧RS w' a s q bad ps gs hs∧KT a w w'∧p≤q∧dOp ((bl s).drop p)=(o,(bl s).drop q)
theorem r14_op (a:Nat)(s:BA)(p:Nat)(bad:Bool)(ps:List Prt)(gs:List GrpM)(hs:List Int)(w:World)(hz:s.size≤4294967280)(h:RS w a s p bad ps gs hs):
  Calls Tryz.prog 279 #[.pointer (some ⟨a,0,none⟩)] w (OpPost a s p bad ps gs hs w):=by
 cases h61:head0 61 ((bl s).drop p) with
 | true=>exact(r14_op_a a s p bad ps gs hs w hz h h61).mono fun e w' ⟨h1,h2,h3⟩=>⟨3,p+1,h1,h2,h3,by omega,by unfold dOp;rw[h61,List.drop_drop];rfl⟩
 | false=>
 cases h60:head0 60 ((bl s).drop p) with
 | true=>
  cases k60:head0 60 ((bl s).drop (p+1)) with
  | true=>exact(r14_op_b a s p bad ps gs hs w hz h h61 h60 k60).mono fun e w' ⟨h1,h2,h3⟩=>⟨1,p+2,h1,h2,h3,by omega,by unfold dOp;rw[h61,h60,List.drop_drop,k60,List.drop_drop];rfl⟩
  | false=>
  cases k61:head0 61 ((bl s).drop (p+1)) with
  | true=>exact(r14_op_c a s p bad ps gs hs w hz h h61 h60 k60 k61).mono fun e w' ⟨h1,h2,h3⟩=>⟨2,p+2,h1,h2,h3,by omega,by unfold dOp;rw[h61,h60,List.drop_drop,k60,k61,List.drop_drop];rfl⟩
  | false=>exact(r14_op_x a s p bad ps gs hs w hz h h61 h60 k60 k61).mono fun e w' ⟨h1,h2,h3⟩=>⟨0,p+1,h1,h2,h3,by omega,by unfold dOp;rw[h61,h60,List.drop_drop,k60,k61];rfl⟩
 | false=>
 cases h62:head0 62 ((bl s).drop p) with
 | true=>
  cases k61:head0 61 ((bl s).drop (p+1)) with
  | true=>
   have k62:head0 62 ((bl s).drop (p+1))=false:=by
    cases hl:(bl s).drop (p+1) with
    | nil=>rfl
    | cons a r=>rw[hl] at k61;have:a=61:=by simpa [head0] using k61
                subst this;rfl
   exact(r14_op_e a s p bad ps gs hs w hz h h61 h60 h62 k61).mono fun e w' ⟨h1,h2,h3⟩=>⟨4,p+2,h1,h2,h3,by omega,by unfold dOp;rw[h61,h60,h62,List.drop_drop,k62,k61,List.drop_drop];rfl⟩
  | false=>
  cases k62:head0 62 ((bl s).drop (p+1)) with
  | true=>exact(r14_op_d a s p bad ps gs hs w hz h h61 h60 h62 k61 k62).mono fun e w' ⟨h1,h2,h3⟩=>⟨5,p+2,h1,h2,h3,by omega,by unfold dOp;rw[h61,h60,h62,List.drop_drop,k62,List.drop_drop];rfl⟩
  | false=>exact(r14_op_y a s p bad ps gs hs w hz h h61 h60 h62 k61 k62).mono fun e w' ⟨h1,h2,h3⟩=>⟨0,p+1,h1,h2,h3,by omega,by unfold dOp;rw[h61,h60,h62,List.drop_drop,k62,k61];rfl⟩
 | false=>exact(r14_op_z a s p bad ps gs hs w hz h h61 h60 h62).mono fun e w' ⟨h1,h2,h3⟩=>⟨0,p,h1,h2,h3,by omega,by unfold dOp;rw[h61,h60,h62];rfl⟩
end
end Go.Proofs.YtdfdllbebfoggaaGreatDoor
