/- A part of the proof that ModelPackages holds. No condition. -/
import Derived.Test.YtdfdllbebfoggaaGreatDoorC28
import Derived.Test.YtdfdllbebfoggaaGreatDoorC39
set_option maxRecDepth 100000
set_option maxHeartbeats 20000000
set_option linter.unusedVariables false
set_option linter.unusedSimpArgs false
namespace Go.Proofs.YtdfdllbebfoggaaGreatDoor
section
open Go.RowKit Go.Deep
theorem r15_sign (o:Nat)(ho:o<6)(w:World):
  Calls Tryz.prog 261 #[.int .i64 o] w fun e w'=>e=.returned (.string (rSign o))∧Below w.heap.size w w':=by
 rcases(by omega:o=0∨o=1∨o=2∨o=3∨o=4∨o=5) with rfl | rfl | rfl | rfl | rfl | rfl
 all_goals
  go_enter Tryz.func261,Tryz.ntmps261
  go_wp2_with fail
  go_ret
  exact⟨rfl,(Below.refl _ _).alloc lr _⟩
def sgOn (l:List UInt8)(k:Nat):Prop:=∀ j,1≤j→j<k→bl (rSign j)≠l
theorem rOp_on {l:List UInt8}(h:sgOn l 6):rOp l=0:=by
 have h1:=h 1 (by omega) (by omega);have h2:=h 2 (by omega) (by omega);have h3:=h 3 (by omega) (by omega);have h4:=h 4 (by omega) (by omega);have h5:=h 5 (by omega) (by omega)
 rw[rSign_at _ (by omega)] at h1 h2 h3 h4 h5
 unfold rOp
 rw[if_neg (fun e=>h1 e.symm),if_neg (fun e=>h2 e.symm),if_neg (fun e=>h3 e.symm),if_neg (fun e=>h4 e.symm),if_neg (fun e=>h5 e.symm)]
theorem r15_Op (s:ByteArray)(w:World):
  Calls Tryz.prog 280 #[.string s] w fun e w'=>e=.returned (.int .i64 (rOp (bl s)))∧Below w.heap.size w w':=by
 go_enter Tryz.func280,Tryz.ntmps280
 go_wp2_with fail
 go_loopw [3] (fun i wr=>∃ k:Nat,1≤k∧k≤6∧i=.int .i64 k∧Hid (sgOn (bl s) k)∧Hid (Below w.heap.size w wr)) (fun i _=>6-(intOf i).toNat)
 case atStart=>exact⟨1,by omega,by omega,rfl,fun j h1 h2=>by omega,Below.refl _ _⟩
 case round=>
  obtain⟨k,hk1,hk,rfl,HR,HB⟩:=hrel
  by_cases hlt:k<6
  ·have hS:=r15_sign k hlt wr
   cases hq:((rSign k).toList==s.toList) with
   | true=>
    have E:Hid (rOp (bl s)=k):=rOp_found hlt (by rw[beq_bl] at hq;rw[of_decide_eq_true hq])
    go_wp2_with fail
    refine hS.mono ?_;rintro e w2 ⟨rfl,hb⟩
    have B2:=hid (bthen HB.out hb)
    clear hb hS
    go_wp2_with fail
    go_ret
    exact⟨ret_int (by rw[E.out]),B2.out⟩
   | false=>
    have HN:Hid (sgOn (bl s) (k+1)):=by
     intro j h1 h2
     rcases(by omega:j<k∨j=k) with h3 | rfl
     ·exact HR.out j h1 h3
     ·rw[beq_bl] at hq;exact fun e=>of_decide_eq_false hq (bl_inj e)
    go_wp2_with fail
    refine hS.mono ?_;rintro e w2 ⟨rfl,hb⟩
    have B2:=hid (bthen HB.out hb)
    clear hb hS
    go_wp2_with fail
    go_roundw
    case rel=>exact⟨k+1,by omega,by omega,by go_num,HN,B2⟩
    case measure=>simp[intOf];omega
  ·have E:Hid (rOp (bl s)=0):=rOp_on (by have:=HR.out;rwa [show k=6 by omega] at this)
   go_wp2_with fail
   go_ret
   exact⟨ret_int (by rw[E.out];rfl),HB.out⟩
theorem r15_Word_And (s:ByteArray)(w:World)(h:bl s=wAnd):
  Calls Tryz.prog 256 #[.string s] w fun e w'=>e=.returned (.bool (rWordB (bl s)))∧w=w':=by
 have E:s.toList=[97,110,100]:=by rw[bl_toList];exact h
 have R:Hid (rWordB (bl s)=true):=by show _=_;rw[h];rfl
 clear h
 go_enter Tryz.func256,Tryz.ntmps256
 go_wp2_with fail
 go_ret
 exact⟨ret_bool R.out.symm,rfl⟩
theorem r15_Word_Or (s:ByteArray)(w:World)(h:bl s=wOr):
  Calls Tryz.prog 256 #[.string s] w fun e w'=>e=.returned (.bool (rWordB (bl s)))∧w=w':=by
 have E:s.toList=[111,114]:=by rw[bl_toList];exact h
 have R:Hid (rWordB (bl s)=true):=by show _=_;rw[h];rfl
 clear h
 go_enter Tryz.func256,Tryz.ntmps256
 go_wp2_with fail
 go_ret
 exact⟨ret_bool R.out.symm,rfl⟩
theorem r15_Word_If (s:ByteArray)(w:World)(h:bl s=wIf):
  Calls Tryz.prog 256 #[.string s] w fun e w'=>e=.returned (.bool (rWordB (bl s)))∧w=w':=by
 have E:s.toList=[105,102]:=by rw[bl_toList];exact h
 have R:Hid (rWordB (bl s)=true):=by show _=_;rw[h];rfl
 clear h
 go_enter Tryz.func256,Tryz.ntmps256
 go_wp2_with fail
 go_ret
 exact⟨ret_bool R.out.symm,rfl⟩
theorem r15_Word_Unless (s:ByteArray)(w:World)(h:bl s=wUnless):
  Calls Tryz.prog 256 #[.string s] w fun e w'=>e=.returned (.bool (rWordB (bl s)))∧w=w':=by
 have E:s.toList=[117,110,108,101,115,115]:=by rw[bl_toList];exact h
 have R:Hid (rWordB (bl s)=true):=by show _=_;rw[h];rfl
 clear h
 go_enter Tryz.func256,Tryz.ntmps256
 go_wp2_with fail
 go_ret
 exact⟨ret_bool R.out.symm,rfl⟩
theorem r15_Word_With (s:ByteArray)(w:World)(h:bl s=wWith):
  Calls Tryz.prog 256 #[.string s] w fun e w'=>e=.returned (.bool (rWordB (bl s)))∧w=w':=by
 have E:s.toList=[119,105,116,104]:=by rw[bl_toList];exact h
 have R:Hid (rWordB (bl s)=true):=by show _=_;rw[h];rfl
 clear h
 go_enter Tryz.func256,Tryz.ntmps256
 go_wp2_with fail
 go_ret
 exact⟨ret_bool R.out.symm,rfl⟩
theorem r15_Word_Without (s:ByteArray)(w:World)(h:bl s=wWithout):
  Calls Tryz.prog 256 #[.string s] w fun e w'=>e=.returned (.bool (rWordB (bl s)))∧w=w':=by
 have E:s.toList=[119,105,116,104,111,117,116]:=by rw[bl_toList];exact h
 have R:Hid (rWordB (bl s)=true):=by show _=_;rw[h];rfl
 clear h
 go_enter Tryz.func256,Tryz.ntmps256
 go_wp2_with fail
 go_ret
 exact⟨ret_bool R.out.symm,rfl⟩
theorem r15_Word (s:ByteArray)(w:World):
  Calls Tryz.prog 256 #[.string s] w fun e w'=>e=.returned (.bool (rWordB (bl s)))∧w=w':=by
 rcases word_cases (bl s) with h | h | h | h | h | h | h
 ·exact r15_Word_And s w h
 ·exact r15_Word_Or s w h
 ·exact r15_Word_If s w h
 ·exact r15_Word_Unless s w h
 ·exact r15_Word_With s w h
 ·exact r15_Word_Without s w h
 ·obtain⟨h1,h2,h3,h4,h5,h6⟩:=not_word h
  have R:=hid h
  clear h
  go_enter Tryz.func256,Tryz.ntmps256
  go_wp2_with fail
  go_ret
  exact⟨ret_bool R.out.symm,rfl⟩
theorem r15_right_And (op:ByteArray)(n:Nat)(w:World)(h:bl op=wAnd):
  Calls Tryz.prog 281 #[.string op,.int .i64 n] w fun e w'=>e=.returned (.bool (rCloses (bl op) n))∧w=w':=by
 have E:op.toList=[97,110,100]:=by rw[bl_toList];exact h
 have R:Hid (rCloses (bl op) n=rCloses wAnd n):=by show _=_;rw[h]
 clear h
 go_enter Tryz.func281,Tryz.ntmps281
 go_wp2_with fail
 go_ret
 exact⟨ret_bool (by rw[R.out,closes_And,Bool.eq_iff_iff];simp;omega),rfl⟩
theorem r15_right_Or (op:ByteArray)(n:Nat)(w:World)(h:bl op=wOr):
  Calls Tryz.prog 281 #[.string op,.int .i64 n] w fun e w'=>e=.returned (.bool (rCloses (bl op) n))∧w=w':=by
 have E:op.toList=[111,114]:=by rw[bl_toList];exact h
 have R:Hid (rCloses (bl op) n=rCloses wOr n):=by show _=_;rw[h]
 clear h
 go_enter Tryz.func281,Tryz.ntmps281
 go_wp2_with fail
 go_ret
 exact⟨ret_bool (by rw[R.out,closes_Or,Bool.eq_iff_iff];simp;omega),rfl⟩
theorem r15_right_If (op:ByteArray)(n:Nat)(w:World)(h:bl op=wIf):
  Calls Tryz.prog 281 #[.string op,.int .i64 n] w fun e w'=>e=.returned (.bool (rCloses (bl op) n))∧w=w':=by
 have E:op.toList=[105,102]:=by rw[bl_toList];exact h
 have R:Hid (rCloses (bl op) n=rCloses wIf n):=by show _=_;rw[h]
 clear h
 by_cases n2:n=2
 ·subst n2
  go_enter Tryz.func281,Tryz.ntmps281
  go_wp2_with fail
  go_ret
  exact⟨ret_bool (by rw[R.out];rfl),rfl⟩
 ·have q2:((n:Int)==2)=false:=by simp;omega
  by_cases n3:n=3
  ·subst n3
   go_enter Tryz.func281,Tryz.ntmps281
   go_wp2_with fail
   go_ret
   exact⟨ret_bool (by rw[R.out];rfl),rfl⟩
  ·have q3:((n:Int)==3)=false:=by simp;omega
   go_enter Tryz.func281,Tryz.ntmps281
   go_wp2_with fail
   go_ret
   exact⟨ret_bool (by rw[R.out,closes_If];simp[n2,n3]),rfl⟩
theorem r15_right_Unless (op:ByteArray)(n:Nat)(w:World)(h:bl op=wUnless):
  Calls Tryz.prog 281 #[.string op,.int .i64 n] w fun e w'=>e=.returned (.bool (rCloses (bl op) n))∧w=w':=by
 have E:op.toList=[117,110,108,101,115,115]:=by rw[bl_toList];exact h
 have R:Hid (rCloses (bl op) n=rCloses wUnless n):=by show _=_;rw[h]
 clear h
 by_cases n2:n=2
 ·subst n2
  go_enter Tryz.func281,Tryz.ntmps281
  go_wp2_with fail
  go_ret
  exact⟨ret_bool (by rw[R.out];rfl),rfl⟩
 ·have q2:((n:Int)==2)=false:=by simp;omega
  by_cases n3:n=3
  ·subst n3
   go_enter Tryz.func281,Tryz.ntmps281
   go_wp2_with fail
   go_ret
   exact⟨ret_bool (by rw[R.out];rfl),rfl⟩
  ·have q3:((n:Int)==3)=false:=by simp;omega
   go_enter Tryz.func281,Tryz.ntmps281
   go_wp2_with fail
   go_ret
   exact⟨ret_bool (by rw[R.out,closes_Unless];simp[n2,n3]),rfl⟩
theorem r15_right_With (op:ByteArray)(n:Nat)(w:World)(h:bl op=wWith):
  Calls Tryz.prog 281 #[.string op,.int .i64 n] w fun e w'=>e=.returned (.bool (rCloses (bl op) n))∧w=w':=by
 have E:op.toList=[119,105,116,104]:=by rw[bl_toList];exact h
 have R:Hid (rCloses (bl op) n=rCloses wWith n):=by show _=_;rw[h]
 clear h
 go_enter Tryz.func281,Tryz.ntmps281
 go_wp2_with fail
 go_ret
 exact⟨ret_bool (by rw[R.out,closes_With,Bool.eq_iff_iff];simp;omega),rfl⟩
theorem r15_right_Without (op:ByteArray)(n:Nat)(w:World)(h:bl op=wWithout):
  Calls Tryz.prog 281 #[.string op,.int .i64 n] w fun e w'=>e=.returned (.bool (rCloses (bl op) n))∧w=w':=by
 have E:op.toList=[119,105,116,104,111,117,116]:=by rw[bl_toList];exact h
 have R:Hid (rCloses (bl op) n=rCloses wWithout n):=by show _=_;rw[h]
 clear h
 go_enter Tryz.func281,Tryz.ntmps281
 go_wp2_with fail
 go_ret
 exact⟨ret_bool (by rw[R.out,closes_Without,Bool.eq_iff_iff];simp;omega),rfl⟩
theorem r15_right (op:ByteArray)(n:Nat)(w:World)(hw:rWordB (bl op)=true):
  Calls Tryz.prog 281 #[.string op,.int .i64 n] w fun e w'=>e=.returned (.bool (rCloses (bl op) n))∧w=w':=by
 rcases rWordB_iff.1 hw with h | h | h | h | h | h
 ·exact r15_right_And op n w h
 ·exact r15_right_Or op n w h
 ·exact r15_right_If op n w h
 ·exact r15_right_Unless op n w h
 ·exact r15_right_With op n w h
 ·exact r15_right_Without op n w h
theorem r15_skip (a:Nat)(s:ByteArray)(p n:Nat)(c:Int)(w:World)(hz:s.size≤4294967280)(h:RX w a s p n c):
  Calls Tryz.prog 257 #[.pointer (some ⟨a,0,none⟩)] w fun e w'=>e=.returned (.tuple #[])∧RX w' a s (p+runN blankB ((bl s).drop p)) n c∧w.grownBy w' (some a):=by
 have HR:=hid h
 have hp:=h.le
 clear h
 go_enter Tryz.func257,Tryz.ntmps257
 go_wp2_with fail
 go_loopw [] (fun wr=>∃ k:Nat,k≤s.size∧Hid (RX wr a s k n c)∧Hid (w.grownBy wr (some a))∧Hid (p+runN blankB ((bl s).drop p)=k+runN blankB ((bl s).drop k))) (fun wr=>s.size-atOf a wr)
 case atStart=>exact⟨p,hp,HR,World.grownBy.refl _ _,rfl⟩
 case round=>
  clear HR
  obtain⟨k,hk,R0,G0,HN⟩:=hrel
  obtain⟨f,x,q⟩:=R0.out.cells
  have c0:=q.c0
  have c1:=q.c1
  have f1:=q.f1
  clear q
  by_cases hlt:k<s.size
  ·obtain⟨d,hd⟩:∃ d:UInt8,s[k]=d:=⟨_,rfl⟩
   have e1:decide (k<s.size)=true:=decide_eq_true hlt
   have e2:decide ((k:Int)<(s.size:Int))=true:=decide_eq_true (by omega)
   cases h32:(d==32) with
   | true=>
    have e32:((d.toNat:Int)==32)=true:=(toNat_beq d 32).trans h32
    have HN2:Hid (p+runN blankB ((bl s).drop p)=(k+1)+runN blankB ((bl s).drop (k+1))):=by
     have:=HN.out;rw[runN_step s k hlt (by rw[hd];exact h32)] at this;show _=_;omega
    clear h32
    go_wp2_with fail
    go_quiet (fail)
    go_wp2_with fail
    have R1:=hid ((R0.out.drewN nq).move (q:=k+1) (by omega))
    have G1:Hid (w.grownBy ((wr.drewN nq).setCell ⟨a,1,none⟩ (.int .i64 ((k+1:Nat):Int))) (some a)):=by
     have g0:w.grownBy (wr.drewN nq) (some a):=grown_below G0.out ⟨rfl,rfl,rfl,lr,fun _ _=>rfl⟩
     exact only_setCell (p:=⟨a,1,none⟩) g0 (.inl rfl) _
    go_roundw
    case rel=>exact⟨k+1,by omega,R1,G1,HN2⟩
    case measure=>show s.size-atOf a ((wr.drewN nq).setCell ⟨a,1,none⟩ (.int .i64 ((k+1:Nat):Int)))<_;rw[R1.out.at_,R0.out.at_];omega
   | false=>
    have e32:((d.toNat:Int)==32)=false:=(toNat_beq d 32).trans h32
    have HE:Hid (p+runN blankB ((bl s).drop p)=k):=by
     have:=HN.out;rw[runN_halt s k hlt (by rw[hd];exact h32)] at this;exact this
    clear h32
    go_wp2_with fail
    go_quiet (fail)
    go_wp2_with fail
    go_end0
    exact⟨rfl,by rw[HE.out];exact R0.out.drewN nq,grown_below G0.out ⟨rfl,rfl,rfl,lr,fun _ _=>rfl⟩⟩
  ·have e1:decide (k<s.size)=false:=decide_eq_false hlt
   have e2:decide ((k:Int)<(s.size:Int))=false:=decide_eq_false (by omega)
   have HE:Hid (p+runN blankB ((bl s).drop p)=k):=by
    have:=HN.out;rw[runN_end _ s k hlt] at this;exact this
   go_wp2_with fail
   go_quiet (fail)
   go_wp2_with fail
   go_end0
   exact⟨rfl,by rw[HE.out];exact R0.out.drewN nq,grown_below G0.out ⟨rfl,rfl,rfl,lr,fun _ _=>rfl⟩⟩
def LookPost (a:Nat)(s:ByteArray)(p n:Nat)(c:Int)(w:World)(e:Ending)(w':World):Prop:=
 ∃ (P:ByteArray) (q:Nat),e=.returned (.string P)∧RX w' a s q n c∧bl P=rLook ((bl s).drop p)∧(bl s).drop (q+P.size)=rNext ((bl s).drop p)∧q+P.size≤s.size∧p≤q∧w.grownBy w' (some a)∧(bl s).drop q=skipL ((bl s).drop p)
theorem rLen_look (s:ByteArray)(q:Nat)(h:q<s.size)(d:UInt8)(hd:s[q]=d)(h40:(d==40)=false)(h41:(d==41)=false):rLen ((bl s).drop q)=rEnd 0 ((bl s).drop q):=by
 rw[rLen_at s q h d hd];unfold brB;rw[h40,h41];rfl
theorem LookPost.mk {a:Nat}{s P:ByteArray}{p q n:Nat}{c:Int}{w w':World}(hr:RX w' a s q n c)(hs:skipL ((bl s).drop p)=(bl s).drop q)(hq:q≤s.size)(hP:bl P=((bl s).drop q).take (rLen ((bl s).drop q)))(hpq:p≤q)(hg:w.grownBy w' (some a)):LookPost a s p n c w (.returned (.string P)) w':=by
 have hz:P.size=rLen ((bl s).drop q):=by
  rw[←bl_length,hP,List.length_take];have:=rLen_le ((bl s).drop q);omega
 have hle:=rLen_le ((bl s).drop q)
 rw[List.length_drop,bl_length] at hle
 refine⟨P,q,rfl,hr,?_,?_,by omega,hpq,hg,hs.symm⟩
 ·unfold rLook;rw[hs,hP]
 ·unfold rNext;rw[hs,List.drop_drop,hz]
theorem skip_head_ne {l:List UInt8}{s:ByteArray}{q:Nat}(hs:skipL l=(bl s).drop q)(h:q<s.size)(d:UInt8)(hd:s[q]=d):(d==32)=false:=by
 rw[drop_cons s q h,hd] at hs;exact skip_head hs
theorem r15_look (a:Nat)(s:ByteArray)(p n:Nat)(c:Int)(w:World)(hz:s.size≤4294967280)(h:RX w a s p n c):
  Calls Tryz.prog 213 #[.pointer (some ⟨a,0,none⟩)] w (LookPost a s p n c w):=by
 have hS:=r15_skip a s p n c w hz h
 obtain⟨q,hq⟩:∃ q,p+runN blankB ((bl s).drop p)=q:=⟨_,rfl⟩
 have SK:Hid (skipL ((bl s).drop p)=(bl s).drop q):=by show _=_;rw[skip_at,hq]
 have PQ:Hid (p≤q):=by show _≤_;omega
 rw[hq] at hS
 clear h hq
 go_enter Tryz.func213,Tryz.ntmps213
 go_wp2_with fail
 refine hS.mono ?_;rintro e w1 ⟨rfl,hr,hg⟩
 have R1:=hid hr
 have G1:=hid hg
 have hqs:=hr.le
 obtain⟨f,x,k⟩:=hr.cells
 have c0:=k.c0
 have c1:=k.c1
 clear hr hg hS k
 by_cases hlt:q<s.size
 ·obtain⟨d,hd⟩:∃ d:UInt8,s[q]=d:=⟨_,rfl⟩
  have h32:=hid (skip_head_ne SK.out hlt d hd)
  have e1:((q:Int)==(s.size:Int))=false:=by simp;omega
  have LA:=hid (rLen_at s q hlt d hd)
  cases h40:(d==40) with
  | true=>
   have e40:((d.toNat:Int)==40)=true:=(toNat_beq d 40).trans h40
   have E:Hid (bl (s.extract q (q+1))=((bl s).drop q).take (rLen ((bl s).drop q))):=by show _=_;rw[bl_extract,LA.out];unfold brB;rw[h40];simp
   clear h40
   go_wp2_with fail
   go_ret
   exact LookPost.mk R1.out SK.out hqs E.out PQ.out G1.out
  | false=>
  have e40:((d.toNat:Int)==40)=false:=(toNat_beq d 40).trans h40
  cases h41:(d==41) with
  | true=>
   have e41:((d.toNat:Int)==41)=true:=(toNat_beq d 41).trans h41
   have E:Hid (bl (s.extract q (q+1))=((bl s).drop q).take (rLen ((bl s).drop q))):=by show _=_;rw[bl_extract,LA.out];unfold brB;rw[h41];simp
   clear h40 h41
   go_wp2_with fail
   go_ret
   exact LookPost.mk R1.out SK.out hqs E.out PQ.out G1.out
  | false=>
  have e41:((d.toNat:Int)==41)=false:=(toNat_beq d 41).trans h41
  have LE:=hid (rLen_look s q hlt d hd h40 h41)
  obtain⟨R,hR⟩:∃ R,q+rEnd 0 ((bl s).drop q)=R:=⟨_,rfl⟩
  have FIN:Hid (∀ k,k=R→k≤s.size→q≤k∧bl (s.extract q k)=((bl s).drop q).take (rLen ((bl s).drop q))):=by
   rintro k rfl hk
   refine⟨by omega,?_⟩
   rw[bl_extract,LE.out,←hR];congr 1;omega
  have HR0:=hid hR
  clear h40 h41 hR
  go_wp2_with fail
  clear e40 e41 hd e1
  go_loop [3,4] (fun i o=>∃ k m:Nat,i=.int .i64 k∧o=.int .i64 m∧k≤s.size∧m≤k∧q≤k∧Hid (k+rEnd m ((bl s).drop k)=R)) (fun i _=>s.size-(intOf i).toNat)
  case atStart=>exact⟨q,0,rfl,rfl,hqs,Nat.zero_le _,lr,HR0.out⟩
  case round=>
   clear HR0
   obtain⟨k,m,rfl,rfl,hk,hm,hqk,HE⟩:=hrel
   by_cases hlk:k<s.size
   ·obtain⟨d,hd⟩:∃ d:UInt8,s[k]=d:=⟨_,rfl⟩
    have ST:=hid (rEnd_at s k m hlk d hd)
    have d0:decide ((k:Int)<(s.size:Int))=true:=decide_eq_true (by omega)
    have d1:decide (k<s.size)=true:=decide_eq_true hlk
    cases h32:(d==32) with
    | true=>
     have e32:((d.toNat:Int) != 32)=false:=by rw[bne,show((d.toNat:Int)==32)=true from(toNat_beq d 32).trans h32];rfl
     have E:Hid (k=R):=by have h1:=HE.out;rw[ST.out,h32] at h1;exact h1
     clear h32
     go_wp2_with fail
     go_quiet (fail)
     go_wp2_with fail
     go_ret
     exact LookPost.mk (R1.out.drewN _) SK.out hqs (FIN.out k E.out hk).2 PQ.out (grown_below G1.out ⟨rfl,rfl,rfl,lr,fun _ _=>rfl⟩)
    | false=>
     have e32:((d.toNat:Int) != 32)=true:=by rw[bne,show((d.toNat:Int)==32)=false from(toNat_beq d 32).trans h32];rfl
     cases h40:(d==40) with
     | true=>
      have e40:((d.toNat:Int)==40)=true:=(toNat_beq d 40).trans h40
      have e41:((d.toNat:Int)==41)=false:=by rw[show d=40 from by simpa using h40];rfl
      have HN:Hid ((k+1)+rEnd (m+1) ((bl s).drop (k+1))=R):=by have h1:=HE.out;rw[ST.out,h32,h40] at h1;simp at h1;show _=_;omega
      clear h32 h40
      go_wp2_with fail
      go_round
      case rel=>exact⟨k+1,m+1,by go_num,by go_num,by omega,by omega,by omega,HN⟩
      case measure=>simp[intOf];omega
     | false=>
      have e40:((d.toNat:Int)==40)=false:=(toNat_beq d 40).trans h40
      cases h41:(d==41) with
      | true=>
       have e41:((d.toNat:Int)==41)=true:=(toNat_beq d 41).trans h41
       by_cases m0:m=0
       ·have E:Hid (k=R):=by have h1:=HE.out;rw[ST.out,h32,h40,h41,if_neg (by decide),if_neg (by decide),if_pos rfl,if_pos m0] at h1;exact h1
        subst m0
        clear h32 h40 h41
        go_wp2_with fail
        go_quiet (fail)
        go_wp2_with fail
        go_ret
        exact LookPost.mk (R1.out.drewN _) SK.out hqs (FIN.out k E.out hk).2 PQ.out (grown_below G1.out ⟨rfl,rfl,rfl,lr,fun _ _=>rfl⟩)
       ·have HN:Hid ((k+1)+rEnd (m-1) ((bl s).drop (k+1))=R):=by have h1:=HE.out;rw[ST.out,h32,h40,h41,if_neg (by decide),if_neg (by decide),if_pos rfl,if_neg m0] at h1;show _=_;omega
        have en:decide ((m:Int)-1<0)=false:=decide_eq_false (by omega)
        have hm1:1≤m:=by omega
        clear h32 h40 h41
        go_wp2_with fail
        go_round
        case rel=>exact⟨k+1,m-1,by go_num,by congr 1;omega,by omega,by omega,by omega,HN⟩
        case measure=>simp[intOf];omega
      | false=>
       have e41:((d.toNat:Int)==41)=false:=(toNat_beq d 41).trans h41
       have HN:Hid ((k+1)+rEnd m ((bl s).drop (k+1))=R):=by have h1:=HE.out;rw[ST.out,h32,h40,h41,if_neg (by decide),if_neg (by decide),if_neg (by decide)] at h1;show _=_;omega
       clear h32 h40 h41
       go_wp2_with fail
       go_round
       case rel=>exact⟨k+1,m,by go_num,rfl,by omega,by omega,by omega,HN⟩
       case measure=>simp[intOf];omega
   ·have d0:decide ((k:Int)<(s.size:Int))=false:=decide_eq_false (by omega)
    have d1:decide (k<s.size)=false:=decide_eq_false hlk
    have E:Hid (k=R):=by have h1:=HE.out;rw[rEnd_none s k m hlk] at h1;exact h1
    go_wp2_with fail
    go_quiet (fail)
    go_wp2_with fail
    go_ret
    exact LookPost.mk (R1.out.drewN _) SK.out hqs (FIN.out k E.out hk).2 PQ.out (grown_below G1.out ⟨rfl,rfl,rfl,lr,fun _ _=>rfl⟩)
 ·have e1:((q:Int)==(s.size:Int))=true:=by simp;omega
  have E:Hid (bl ⟨#[]⟩=((bl s).drop q).take (rLen ((bl s).drop q))):=by show _=_;rw[drop_end s q hlt];rfl
  go_wp2_with fail
  go_ret
  exact LookPost.mk R1.out SK.out hqs E.out PQ.out G1.out
theorem r15_bad (v:Int)(a:Nat)(s:ByteArray)(p n:Nat)(c:Int)(w:World)(h:RX w a s p n c):
  Calls Tryz.prog 214 #[.pointer (some ⟨a,0,none⟩),.int .i64 v] w fun e w'=>e=.returned (.tuple #[])∧RX w' a s p n v∧w.grownBy w' (some a):=by
 obtain⟨f,x,k⟩:=h.cells
 have HR:=hid h
 obtain⟨c0,c1,c2,c3,c4,c5,f1,f2,f3,f4,f5⟩:=k
 clear h
 go_enter Tryz.func214,Tryz.ntmps214
 go_wp2_with fail
 go_end0
 refine⟨rfl,HR.out.noted ⟨#[]⟩ p v,?_⟩
 exact only_setCell (p:=⟨a,4,none⟩) (only_setCell (p:=⟨a,3,none⟩) (only_setCell (p:=⟨a,2,none⟩) (World.grownBy.refl w (some a)) (.inl rfl) (.string ⟨#[]⟩)) (.inl rfl) (.int .i64 p)) (.inl rfl) (.int .i64 v)
end
section
open Go.RowKit Go.Deep
def RchM.sl (t:RchM):Value:=.slice t.ka t.kids.length t.kc
inductive TShape:RchM→Prop
 | mk (t:RchM) (leaf:t.kids=[]→t.op.size=0) (node:t.kids≠[]→t.op.size≠0) (kids:∀ k∈t.kids,TShape k):TShape t
theorem TShape.leaf {t:RchM}(h:TShape t):t.kids=[]→t.op.size=0:=by cases h;assumption
theorem TShape.node {t:RchM}(h:TShape t):t.kids≠[]→t.op.size≠0:=by cases h;assumption
theorem TShape.kids {t:RchM}(h:TShape t):∀ k∈t.kids,TShape k:=by cases h;assumption
theorem TGood.shape {t:RchM}(h:TGood t):TShape t:=by
 induction h with
 | atom nm aop ver _ _ _ _=>exact .mk _ (fun _=>rfl) (fun h=>absurd rfl h) (by simp[RchM.kids])
 | node op ka kc kids ho hc hk ih=>
  refine .mk _ (fun e=>?_) (fun _ e=>?_) ih
  ·have h2:=closes_two hc
   simp only[RchM.kids] at e
   rw[e] at h2;simp at h2
  ·simp only[RchM.op] at e
   exact(word_ne ho).1 (bl_nil op e)
theorem TShape.zero:TShape zeroR:=.mk _ (fun _=>rfl) (fun h=>absurd rfl h) (by simp[zeroR,RchM.kids])
def Tame (w:World)(row:Option Nat):Prop:=∀ g cs fr,row=some g→w.heap[g]?≠some (.cells cs 121 fr)
theorem Tame.map {w:World}{b:Nat}{ms:List (RchM×Nat)}(h:KMap w b ms):Tame w (some b):=by
 intro g cs fr e h2
 injection e with e;subst e
 obtain⟨es,clock,hb,_⟩:=h.ex
 rw[hb] at h2;simp at h2
theorem Tame.row {w:World}{lo n:Nat}{v:Value}{xs:List Value}(h:w.ownsRow lo 119 1 v n xs):Tame w v.ownBlock:=by
 intro g cs fr e h2
 rcases h.2 with⟨hv,_⟩ | ⟨g',cap,cur,hv,_,hg,_⟩
 ·rw[hv] at e;simp[Value.ownBlock] at e
 ·rw[hv] at e;simp[Value.ownBlock] at e
  subst e
  rw[hg] at h2
  injection h2 with h2
  injection h2 with _ h2 _
  exact absurd h2 (by decide)
theorem TOwn.tame {w w':World}{lo:Nat}{row:Option Nat}{t:RchM}(h:TOwn w lo none t)(ht:Tame w row)(hg:w.grownBy w' row):TOwn w' lo none t:=by
 induction h with
 | mk t r ne _ ih=>
  refine .mk t (r.kept hg ?_) (fun g _=>by simp) ih
  rcases r.2 with⟨hv,_⟩ | ⟨g',cap,cur,hv,_,hg',_⟩
  ·left;rw[hv];rfl
  ·right;rw[hv];intro e
   exact ht g' _ _ e.symm hg'
theorem KMap.tame {w w':World}{b:Nat}{row:Option Nat}{ms:List (RchM×Nat)}(h:KMap w b ms)(ht:Tame w row)(hne:some b≠row)(hg:w.grownBy w' row):KMap w' b ms:=by
 obtain⟨es,clock,h1,h2⟩:=h.ex
 exact⟨⟨es,clock,(hg.block b h.lt hne).trans h1,h2⟩,fun p hp=>⟨(h.own p hp).1.tame ht hg,(h.own p hp).2⟩⟩
theorem KMap.ne_row {w:World}{b lo n size:Nat}{e:TypeId}{ms:List (RchM×Nat)}{v:Value}{xs:List Value}(h:KMap w b ms)(r:w.ownsRow lo e size v n xs):some b≠v.ownBlock:=by
 intro he
 obtain⟨es,clock,h1,h2⟩:=h.ex
 rcases r.2 with⟨hv,_⟩ | ⟨g',cap,cur,hv,_,hg,_⟩
 ·rw[hv] at he;simp[Value.ownBlock] at he
 ·rw[hv] at he;simp[Value.ownBlock] at he
  subst he;rw[h1] at hg;simp at hg
structure Lev (lo:Nat) (wr:World) (A:Option Addr) (n c:Nat) (xs:List RchM):Prop where
 len:xs.length=n
 row:wr.ownsRow lo 119 1 (.slice A n c) n (xs.map RchM.sl)
 own:∀ x∈xs,TOwn wr 0 none x
 ne:∀ x∈xs,x.kids≠[]
 shape:∀ x∈xs,∀ k∈x.kids,TShape k
theorem Lev.nil (lo:Nat)(wr:World):Lev lo wr none 0 0 []:=⟨rfl,World.ownsRow_nil _ _ _ _,by simp,by simp,by simp⟩
theorem Lev.tame {lo:Nat}{wr w':World}{A:Option Addr}{n c:Nat}{xs:List RchM}{row:Option Nat}(h:Lev lo wr A n c xs)(ht:Tame wr row)(hne:(Value.slice A n c).ownBlock=none∨(Value.slice A n c).ownBlock≠row)(hg:wr.grownBy w' row):Lev lo w' A n c xs:=
 ⟨h.len,h.row.kept hg hne,fun x hx=>(h.own x hx).tame ht hg,h.ne,h.shape⟩
theorem Lev.below {lo:Nat}{wr w':World}{A:Option Addr}{n c:Nat}{xs:List RchM}(h:Lev lo wr A n c xs)(hb:Below wr.heap.size wr w'):Lev lo w' A n c xs:=
 ⟨h.len,owns_below h.row hb,fun x hx=>(h.own x hx).low hb,h.ne,h.shape⟩
theorem Lev.map {lo:Nat}{wr w':World}{A:Option Addr}{n c b:Nat}{xs:List RchM}{ms:List (RchM×Nat)}(h:Lev lo wr A n c xs)(hm:KMap wr b ms)(hg:wr.grownBy w' (some b)):Lev lo w' A n c xs:=
 h.tame (.map hm) (.inr (hm.ne_row h.row).symm) hg
def Seen (L ys:List RchM)(ms:List (RchM×Nat)):Prop:=∀ t∈L,t.kids≠[]→(∃ y∈ys,y.kids=t.kids)∧∃ q∈ms,q.1.kids=t.kids
theorem Seen.nil (ys:List RchM)(ms:List (RchM×Nat)):Seen [] ys ms:=by intro t ht;simp at ht
theorem Seen.leaf {L ys:List RchM}{ms:List (RchM×Nat)}{t:RchM}(h:Seen L ys ms)(ht:t.kids=[]):Seen (L++[t]) ys ms:=by
 intro x hx hk
 rcases List.mem_append.1 hx with hx | hx
 ·exact h x hx hk
 ·obtain rfl:=List.mem_singleton.1 hx;exact absurd ht hk
structure DpS (s0:Nat) (wr:World) (mb hb h k:Nat) (A:Option Addr) (n c:Nat) (xs:List RchM) (B:Option Addr) (m cB:Nat) (ys:List RchM) (ms hs:List (RchM×Nat)):Prop where
 lev:Lev 0 wr A n c xs
 old:∀ g,(Value.slice A n c).ownBlock=some g→g<s0
 new:Lev s0 wr B m cB ys
 met:KMap wr mb ms
 here:KMap wr hb hs
 hne:mb≠hb
 xh:∀ x∈xs,x.ht+k≤h+1
 yh:∀ y∈ys,y.ht+k≤h
 hsy:∀ p∈hs,(∃ y∈ys,y.kids=p.1.kids)∧∃ q∈ms,q.1.kids=p.1.kids
 mok:∀ i,i<k→∃ p∈ms,p.1.ht+i=h
 top:∃ x∈xs,x.ht+k=h+1
theorem DpS.below {s0:Nat}{wr w':World}{mb hb h k:Nat}{A:Option Addr}{n c:Nat}{xs:List RchM}{B:Option Addr}{m cB:Nat}{ys:List RchM}{ms hs:List (RchM×Nat)}(d:DpS s0 wr mb hb h k A n c xs B m cB ys ms hs)(b:Below wr.heap.size wr w'):DpS s0 w' mb hb h k A n c xs B m cB ys ms hs:=
 ⟨d.lev.below b,d.old,d.new.below b,d.met.below b,d.here.below b,d.hne,d.xh,d.yh,d.hsy,d.mok,d.top⟩
theorem DpS.hit {s0:Nat}{wr:World}{mb hb h k:Nat}{A:Option Addr}{n c:Nat}{xs:List RchM}{B:Option Addr}{m cB:Nat}{ys:List RchM}{ms hs:List (RchM×Nat)}(d:DpS s0 wr mb hb h k A n c xs B m cB ys ms hs){L:List RchM}(hl:Seen L ys ms){t:RchM}{p:RchM×Nat}(hp:p∈hs)(e:p.1.kids=t.kids):Seen (L++[t]) ys ms:=by
 intro x hx hk
 rcases List.mem_append.1 hx with hx | hx
 ·exact hl x hx hk
 ·obtain rfl:=List.mem_singleton.1 hx
  rw[←e];exact d.hsy p hp
theorem DpS.grow {s0:Nat}{wr w1 w2 wb w3:World}{mb hb h k v:Nat}{A:Option Addr}{n c:Nat}{xs:List RchM}{B B1:Option Addr}{m cB c1:Nat}{ys:List RchM}{ms hs ms' hs':List (RchM×Nat)}{t:RchM}
  (d:DpS s0 wr mb hb h k A n c xs B m cB ys ms hs)(ht:TOwn wr 0 none t)(tk:t.kids≠[])(tsh:∀ x∈t.kids,TShape x)(tht:t.ht+k≤h)
  (k1:KMap w1 hb hs')(g1:wr.grownBy w1 (some hb))(f1:∀ p∈hs',(∃ q∈hs,q=p)∨p.1.kids=t.kids∧p.2=v)
  (k2:KMap w2 mb ms')(g2:w1.grownBy w2 (some mb))(f2:∀ p∈ms,∃ q∈ms',q.1=p.1)(f3:∃ q∈ms',q.1.kids=t.kids)
  (b:Below w2.heap.size w2 wb)(o:w3.ownsRow s0 119 1 (.slice B1 (m+1) c1) (m+1) (ys.map RchM.sl++[t.sl]))(g3:wb.grownBy w3 (Value.slice B m cB).ownBlock):
  DpS s0 w3 mb hb h k A n c xs B1 (m+1) c1 (ys++[t]) ms' hs':=by
 have m1:KMap w1 mb ms:=d.met.tame (.map d.here) (fun e=>d.hne (by injection e)) g1
 have t1:=ht.tame (.map d.here) g1
 have l1:=d.lev.map d.here g1
 have n1:=d.new.map d.here g1
 have t2:=t1.tame (.map m1) g2
 have l2:=l1.map m1 g2
 have n2:=n1.map m1 g2
 have h2:KMap w2 hb hs':=k1.tame (.map m1) (fun e=>d.hne (by injection e with e;exact e.symm)) g2
 have tb:=t2.low b
 have lb:=l2.below b
 have nb:=n2.below b
 have hb':=h2.below b
 have mb':=k2.below b
 have tm:Tame wb (Value.slice B m cB).ownBlock:=.row nb.row
 refine⟨lb.tame tm ?_ g3,d.old,⟨by simp[nb.len],by simpa using o,fun x hx=>?_,fun x hx=>?_,fun x hx=>?_⟩,mb'.tame tm (mb'.ne_row nb.row) g3,hb'.tame tm (hb'.ne_row nb.row) g3,d.hne,d.xh,fun y hy=>?_,fun p hp=>?_,fun i hi=>?_,d.top⟩
 ·cases e:(Value.slice A n c).ownBlock with
  | none=>exact .inl rfl
  | some g=>
   right;intro e2
   have:=d.old g e
   have:=(nb.row.lt g e2.symm).1
   omega
 ·rcases List.mem_append.1 hx with hx | hx
  ·exact(nb.own x hx).tame tm g3
  ·obtain rfl:=List.mem_singleton.1 hx;exact tb.tame tm g3
 ·rcases List.mem_append.1 hx with hx | hx
  ·exact nb.ne x hx
  ·obtain rfl:=List.mem_singleton.1 hx;exact tk
 ·rcases List.mem_append.1 hx with hx | hx
  ·exact nb.shape x hx
  ·obtain rfl:=List.mem_singleton.1 hx;exact tsh
 ·rcases List.mem_append.1 hy with hy | hy
  ·exact d.yh y hy
  ·obtain rfl:=List.mem_singleton.1 hy;exact tht
 ·rcases f1 p hp with⟨q,hq,rfl⟩ | ⟨e,_⟩
  ·obtain⟨⟨y,hy,ey⟩,q2,hq2,eq2⟩:=d.hsy q hq
   obtain⟨q3,hq3,e3⟩:=f2 q2 hq2
   exact⟨⟨y,by simp[hy],ey⟩,q3,hq3,by rw[e3,eq2]⟩
  ·obtain⟨q3,hq3,e3⟩:=f3
   exact⟨⟨t,by simp,e.symm⟩,q3,hq3,by rw[e3,e]⟩
 ·obtain⟨p,hp,e⟩:=d.mok i hi
  obtain⟨q,hq,e2⟩:=f2 p hp
  exact⟨q,hq,by rw[e2];exact e⟩
theorem Seen.grow {L ys:List RchM}{ms ms':List (RchM×Nat)}{t:RchM}(h:Seen L ys ms)(f2:∀ p∈ms,∃ q∈ms',q.1=p.1)(f3:∃ q∈ms',q.1.kids=t.kids):Seen (L++[t]) (ys++[t]) ms':=by
 intro x hx hk
 rcases List.mem_append.1 hx with hx | hx
 ·obtain⟨⟨y,hy,ey⟩,q,hq,eq⟩:=h x hx hk
  obtain⟨q3,hq3,e3⟩:=f2 q hq
  exact⟨⟨y,by simp[hy],ey⟩,q3,hq3,by rw[e3,eq]⟩
 ·obtain rfl:=List.mem_singleton.1 hx
  exact⟨⟨x,by simp,rfl⟩,f3⟩
theorem ht_of_kids {a b:RchM}(h:a.kids=b.kids):a.ht=b.ht:=by rw[ht_eq,ht_eq,h]
theorem DpS.next {s0:Nat}{wr:World}{mb hb h k:Nat}{A:Option Addr}{n c:Nat}{xs:List RchM}{B:Option Addr}{m cB:Nat}{ys:List RchM}{ms hs:List (RchM×Nat)}(d:DpS s0 wr mb hb h k A n c xs B m cB ys ms hs)(hs:Seen (xs.flatMap RchM.kids) ys ms)(hm:0<m):
  k<ms.length∧k+1≤h∧(∀ i,i<k+1→∃ p∈ms,p.1.ht+i=h)∧∃ y∈ys,y.ht+(k+1)=h+1:=by
 obtain⟨y,hy⟩:∃ y,y∈ys:=by
  have:=d.new.len
  cases ys with
  | nil=>simp at this;omega
  | cons a r=>exact⟨a,by simp⟩
 have y1:=d.yh y hy
 have y2:y.ht≠0:=fun e=>d.new.ne y hy (ht_zero.1 e)
 obtain⟨x,hx,xe⟩:=d.top
 obtain⟨t,ht,te⟩:=htL_top (d.lev.ne x hx)
 rw[←ht_eq] at te
 have tk:t.kids≠[]:=fun e=>by have:=ht_zero.2 e;omega
 obtain⟨⟨z,hz,ez⟩,q,hq,eq⟩:=hs t (List.mem_flatMap.2 ⟨x,hx,ht⟩) tk
 have ezh:=ht_of_kids ez
 have eqh:=ht_of_kids eq
 have mk:∀ i,i<k+1→∃ p∈ms,p.1.ht+i=h:=by
  intro i hi
  rcases(by omega:i<k∨i=k) with hi | rfl
  ·exact d.mok i hi
  ·exact⟨q,hq,by omega⟩
 refine⟨?_,by omega,mk,z,hz,by omega⟩
 refine heights_len (fun t=>h-t.ht) (k+1) ms (fun i hi=>?_)
 obtain⟨p,hp,e⟩:=mk i hi
 exact⟨p,hp,by show h-p.1.ht=i;omega⟩
end
section
open Go.RowKit Go.Deep
theorem by_ht {C:RchM→Prop}(step:∀ T:RchM,(∀ t∈T.kids,C t)→C T)(T:RchM):C T:=by
 have:∀ n:Nat,∀ T:RchM,T.ht<n→C T:=by
  intro n
  induction n with
  | zero=>intro T h;omega
  | succ n ih=>intro T h;exact step T fun t ht=>ih t (by have:=ht_kid ht;omega)
 exact this (T.ht+1) T (by omega)
theorem htL_snoc (l:List RchM)(t:RchM):htL (l++[t])=max (htL l) (t.ht+1):=by
 induction l with
 | nil=>simp[htL]
 | cons a r ih=>simp only[List.cons_append,htL,ih];omega
theorem take_snoc' {ks:List RchM}{j:Nat}{t:RchM}(ht:ks[j]?=some t):ks.take (j+1)=ks.take j++[t]:=by
 obtain⟨hk,hg⟩:=List.getElem?_eq_some_iff.1 ht
 rw[List.take_succ_eq_append_getElem hk,hg]
def RDpC (T:RchM):Prop:=∀ w:World,TOwn w 0 none T→TShape T→T.cnt≤64→T.ht≤32→Calls Tryz.prog 258 #[T.val] w fun e w'=>e=.returned (.int .i64 T.ht)∧Below w.heap.size w w'
theorem r15_Depth (T:RchM):RDpC T:=by
 refine by_ht (fun T IH=>?_) T
 intro w hO hS hc hht
 have HO:=hid hO
 have HS:=hid hS
 have HIH:=hid IH
 obtain⟨tl,htl⟩:∃ tl,T.kids.length=tl:=⟨_,rfl⟩
 have HTL:=hid htl
 have HCN:Hid (∀ t∈T.kids,t.cnt≤64):=fun t ht=>by
  have h1:=cntL_mem ht
  rw[←cnt_node (fun e=>by rw[e] at ht;simp at ht)] at h1;omega
 have htl9:tl≤64:=by
  by_cases h0:T.kids=[]
  ·rw[h0] at htl;simp at htl;omega
  ·have h1:=cntL_len T.kids;rw[←cnt_node h0] at h1;omega
 obtain⟨W1,hW1⟩:∃ W1,w.alloc (.cells #[.string T.op,.string T.nm,.int .i64 T.aop,.string T.ver,.slice T.ka tl T.kc] 121)=W1:=⟨_,rfl⟩
 have B1:Hid (Below w.heap.size w W1):=by rw[←hW1];exact(Below.refl _ _).alloc lr _
 have K1:Hid (Blk W1 w.heap.size [.string T.op,.string T.nm,.int .i64 T.aop,.string T.ver,.slice T.ka tl T.kc]):=by rw[←hW1];exact Blk.new w [.string T.op,.string T.nm,.int .i64 T.aop,.string T.ver,.slice T.ka tl T.kc] _
 have KV:Hid (T.val=.agg #[.string T.op,.string T.nm,.int .i64 T.aop,.string T.ver,.slice T.ka tl T.kc]):=by show _=_;unfold RchM.val;rw[htl]
 rw[KV.out]
 clear hO hS IH htl hc
 go_enter Tryz.func258,Tryz.ntmps258
 go_wp2_with fail
 clear hW1
 go_loopw [3,4] (fun nv iv wr=>∃ i n:Nat,nv=.int .i64 n∧iv=.int .i64 i∧i≤tl∧n≤100∧Hid (n=htL (T.kids.take i))∧Hid (Below w.heap.size w wr)∧Hid (Blk wr w.heap.size [.string T.op,.string T.nm,.int .i64 T.aop,.string T.ver,.slice T.ka tl T.kc])) (fun _ iv _=>tl-(intOf iv).toNat)
 case atStart=>exact⟨0,0,rfl,rfl,Nat.zero_le _,by omega,by simp[Hid,htL],B1,K1⟩
 case round=>
  clear B1 K1
  obtain⟨i,n,rfl,rfl,hi,hn,HN,HB,HK⟩:=hrel
  have k0:=HK.out.cell 0 _ rfl
  have k4:=HK.out.cell 4 _ rfl
  by_cases hlt:i<tl
  ·obtain⟨t,ht⟩:∃ t,T.kids[i]?=some t:=⟨_,List.getElem?_eq_getElem (by rw[HTL.out];exact hlt)⟩
   have htm:Hid (t∈T.kids):=List.mem_of_getElem? ht
   have O2:=HO.out.low HB.out
   obtain⟨b',off,hA,he⟩:=O2.rd.cell i t ht
   have e0:=he 0 _ rfl
   have e1:=he 1 _ rfl
   have e2:=he 2 _ rfl
   have e3:=he 3 _ rfl
   have e4:=he 4 _ rfl
   simp only[Nat.add_zero] at e0
   have hix:=fun W=>idx_of (T:=119) (E:=121) (sz:=5) (n:=tl) (c:=T.kc) Tryz.underlying119 rfl Tryz.sizeOf121 hA hlt W
   have hcall:=HIH.out t htm.out wr (O2.kids t htm.out) (HS.out.kids t htm.out) (HCN.out t htm.out) (by have:=ht_kid htm.out;omega)
   have HN2:Hid (max n (t.ht+1)=htL (T.kids.take (i+1))):=by show _=_;rw[take_snoc' ht,htL_snoc,HN.out]
   obtain⟨h,hh⟩:∃ h,t.ht=h:=⟨_,rfl⟩
   have HH:=hid hh
   have hh64:h≤99:=by have:=ht_kid htm.out;omega
   rw[hh] at hcall HN2
   unfold RchM.val at hcall
   clear ht hA he O2 hh
   by_cases hm:n<h+1
   ·have q1:decide ((n:Int)<(h:Int)+1)=true:=decide_eq_true (by omega)
    have q2:decide (n<h+1)=true:=decide_eq_true hm
    have E:Hid (max n (h+1)=h+1):=by show _=_;omega
    clear hm
    go_wp2_with fail
    refine hcall.mono ?_;rintro e w4 ⟨rfl,hb⟩
    have B4:=hid (bthen HB.out hb)
    have K4:=hid (HK.out.below hb)
    clear hcall hb e0 e1 e2 e3 e4 hix k0 k4
    go_wp2_with fail
    go_roundw
    case rel=>exact⟨i+1,h+1,by go_num,by go_num,by omega,by omega,by rw[←E.out];exact HN2,B4,K4⟩
    case measure=>simp[intOf];omega
   ·have q1:decide ((n:Int)<(h:Int)+1)=false:=decide_eq_false (by omega)
    have q2:decide (n<h+1)=false:=decide_eq_false hm
    have E:Hid (max n (h+1)=n):=by show _=_;omega
    clear hm
    go_wp2_with fail
    refine hcall.mono ?_;rintro e w4 ⟨rfl,hb⟩
    have B4:=hid (bthen HB.out hb)
    have K4:=hid (HK.out.below hb)
    clear hcall hb e0 e1 e2 e3 e4 hix k0 k4
    go_wp2_with fail
    go_roundw
    case rel=>exact⟨i+1,n,rfl,by go_num,by omega,by omega,by rw[←E.out];exact HN2,B4,K4⟩
    case measure=>simp[intOf];omega
  ·have E:Hid (T.ht=n):=by show _=_;rw[HN.out,List.take_of_length_le (by rw[HTL.out];omega),ht_eq]
   by_cases h0:T.kids=[]
   ·have o0:T.op.toList=[]:=by rw[bl_toList];exact bl_nil _ (HS.out.leaf h0)
    have o1:T.op.toList.isEmpty=true:=by rw[o0];rfl
    have n0:n=0:=by have:=ht_zero.2 h0;have:=E.out;omega
    have E0:Hid (T.ht=0):=ht_zero.2 h0
    subst n0
    clear h0
    go_wp2_with fail
    go_ret
    exact⟨ret_int (by rw[E0.out]),HB.out⟩
   ·have n0:((n:Int)==0)=false:=by
     have:T.ht≠0:=fun e=>h0 (ht_zero.1 e)
     have:=E.out;simp;omega
    clear h0
    go_wp2_with fail
    go_ret
    exact⟨ret_int (by rw[E.out]),HB.out⟩
def RAtC (T:RchM):Prop:=∀ w:World,TOwn w 0 none T→TShape T→T.cnt≤64→Calls Tryz.prog 259 #[T.val] w fun e w'=>e=.returned (.int .i64 T.cnt)∧Below w.heap.size w w'
theorem r15_Atoms (T:RchM):RAtC T:=by
 refine by_ht (fun T IH=>?_) T
 intro w hO hS hc
 have HO:=hid hO
 have HS:=hid hS
 have HIH:=hid IH
 have HC:=hid hc
 obtain⟨tl,htl⟩:∃ tl,T.kids.length=tl:=⟨_,rfl⟩
 have HTL:=hid htl
 have HCN:Hid (∀ t∈T.kids,t.cnt≤64):=fun t ht=>by
  have h1:=cntL_mem ht
  rw[←cnt_node (fun e=>by rw[e] at ht;simp at ht)] at h1;omega
 have htl9:tl≤64:=by
  by_cases h0:T.kids=[]
  ·rw[h0] at htl;simp at htl;omega
  ·have h1:=cntL_len T.kids;rw[←cnt_node h0] at h1;omega
 obtain⟨W1,hW1⟩:∃ W1,w.alloc (.cells #[.string T.op,.string T.nm,.int .i64 T.aop,.string T.ver,.slice T.ka tl T.kc] 121)=W1:=⟨_,rfl⟩
 have B1:Hid (Below w.heap.size w W1):=by rw[←hW1];exact(Below.refl _ _).alloc lr _
 have K1:Hid (Blk W1 w.heap.size [.string T.op,.string T.nm,.int .i64 T.aop,.string T.ver,.slice T.ka tl T.kc]):=by rw[←hW1];exact Blk.new w [.string T.op,.string T.nm,.int .i64 T.aop,.string T.ver,.slice T.ka tl T.kc] _
 have KV:Hid (T.val=.agg #[.string T.op,.string T.nm,.int .i64 T.aop,.string T.ver,.slice T.ka tl T.kc]):=by show _=_;unfold RchM.val;rw[htl]
 rw[KV.out]
 have k0:=K1.out.cell 0 _ rfl
 by_cases tk:T.kids=[]
 ·have o0:T.op.toList=[]:=by rw[bl_toList];exact bl_nil _ (HS.out.leaf tk)
  have o1:T.op.toList.isEmpty=true:=by rw[o0];rfl
  have E:Hid (T.cnt=1):=cnt_leaf tk
  clear hO hS IH htl hc tk
  go_enter Tryz.func259,Tryz.ntmps259
  go_wp2_with fail
  go_ret
  exact⟨ret_int (by rw[E.out];rfl),B1.out⟩
 have o0:(T.op.toList==([]:List UInt8))=false:=by rw[bl_toList,beq_eq_false_iff_ne];intro e;exact HS.out.node tk (by rw[←bl_length,e];rfl)
 have o1:T.op.toList.isEmpty=false:=by rw[bl_toList,bl_isEmpty];exact decide_eq_false (HS.out.node tk)
 have o2:¬ T.op.toList=[]:=by intro e;rw[e] at o1;simp at o1
 have CN:Hid (T.cnt=cntL T.kids):=cnt_node tk
 clear hO hS IH htl hc tk
 go_enter Tryz.func259,Tryz.ntmps259
 go_wp2_with fail
 clear hW1 k0
 go_loopw [3,4] (fun nv iv wr=>∃ i n:Nat,nv=.int .i64 n∧iv=.int .i64 i∧i≤tl∧n≤64∧Hid (n=cntL (T.kids.take i))∧Hid (Below w.heap.size w wr)∧Hid (Blk wr w.heap.size [.string T.op,.string T.nm,.int .i64 T.aop,.string T.ver,.slice T.ka tl T.kc])) (fun _ iv _=>tl-(intOf iv).toNat)
 case atStart=>exact⟨0,0,rfl,rfl,Nat.zero_le _,by omega,by simp[Hid,cntL],B1,K1⟩
 case round=>
  clear B1 K1
  obtain⟨i,n,rfl,rfl,hi,hn,HN,HB,HK⟩:=hrel
  have k4:=HK.out.cell 4 _ rfl
  by_cases hlt:i<tl
  ·obtain⟨t,ht⟩:∃ t,T.kids[i]?=some t:=⟨_,List.getElem?_eq_getElem (by rw[HTL.out];exact hlt)⟩
   have htm:Hid (t∈T.kids):=List.mem_of_getElem? ht
   have O2:=HO.out.low HB.out
   obtain⟨b',off,hA,he⟩:=O2.rd.cell i t ht
   have e0:=he 0 _ rfl
   have e1:=he 1 _ rfl
   have e2:=he 2 _ rfl
   have e3:=he 3 _ rfl
   have e4:=he 4 _ rfl
   simp only[Nat.add_zero] at e0
   have hix:=fun W=>idx_of (T:=119) (E:=121) (sz:=5) (n:=tl) (c:=T.kc) Tryz.underlying119 rfl Tryz.sizeOf121 hA hlt W
   have hcall:=HIH.out t htm.out wr (O2.kids t htm.out) (HS.out.kids t htm.out) (HCN.out t htm.out)
   have HN2:Hid (n+t.cnt=cntL (T.kids.take (i+1))):=by show _=_;rw[cntL_take ht,HN.out]
   have hn2:n+t.cnt≤64:=by have h1:=HN2.out;have h2:=cntL_take_le T.kids (i+1);have:=HC.out;have:=CN.out;omega
   unfold RchM.val at hcall
   clear ht hA he O2
   go_wp2_with fail
   refine hcall.mono ?_;rintro e w4 ⟨rfl,hb⟩
   have B4:=hid (bthen HB.out hb)
   have K4:=hid (HK.out.below hb)
   clear hcall hb e0 e1 e2 e3 e4 hix k4
   go_wp2_with fail
   go_roundw
   case rel=>exact⟨i+1,n+t.cnt,by go_num,by go_num,by omega,hn2,HN2,B4,K4⟩
   case measure=>simp[intOf];omega
  ·have E:Hid (T.cnt=n):=by show _=_;rw[HN.out,List.take_of_length_le (by rw[HTL.out];omega),CN.out]
   go_wp2_with fail
   go_ret
   exact⟨ret_int (by rw[E.out]),HB.out⟩
end
section
open Go.RowKit Go.Deep
theorem r15_inner_atom (nm:ByteArray)(aop:Nat)(ver:ByteArray)(hn:rnameB (bl nm)=true)(ho:aop≤5)(hv0:aop=0→ver.size=0)(hv:0<aop→verE 2 ver=0)(w:World):
  Calls Tryz.prog 260 #[.agg #[.string ⟨#[]⟩,.string nm,.int .i64 aop,.string ver,.slice none 0 0]] w fun e w'=>e=.returned (.int .i64 0)∧Below w.heap.size w w':=by
 have hnz:=rname_len hn
 have hN:=fun W=>r15_Name nm W (by omega)
 rw[hn] at hN
 have HV0:=hid hv0
 have HV:=hid hv
 clear hn hv0 hv
 obtain⟨W1,hW1⟩:∃ W1,w.alloc (.cells #[.string ⟨#[]⟩,.string nm,.int .i64 aop,.string ver,.slice none 0 0] 121)=W1:=⟨_,rfl⟩
 have B1:Hid (Below w.heap.size w W1):=by rw[←hW1];exact(Below.refl _ _).alloc lr _
 have K1:Hid (Blk W1 w.heap.size [.string ⟨#[]⟩,.string nm,.int .i64 aop,.string ver,.slice none 0 0]):=by rw[←hW1];exact Blk.new w [.string ⟨#[]⟩,.string nm,.int .i64 aop,.string ver,.slice none 0 0] _
 have k0:=K1.out.cell 0 _ rfl
 have k1:=K1.out.cell 1 _ rfl
 have k2:=K1.out.cell 2 _ rfl
 have k3:=K1.out.cell 3 _ rfl
 have k4:=K1.out.cell 4 _ rfl
 by_cases a0:aop=0
 ·have he:ver.toList=[]:=by rw[bl_toList,bl_nil ver (HV0.out a0)]
  have he2:ver.toList.isEmpty=true:=by rw[he];rfl
  subst a0
  go_enter Tryz.func260,Tryz.ntmps260
  go_wp2_with fail
  refine(hN _).mono ?_;rintro e w' ⟨rfl,rfl⟩
  go_wp2_with fail
  go_ret
  exact⟨rfl,(Below.refl _ _).alloc lr _⟩
 ·have hvv:=HV.out (by omega)
  have q0:((aop:Int)==0)=false:=by simp;omega
  have q1:decide ((aop:Int)<0)=false:=decide_eq_false (by omega)
  have q2:decide ((5:Int)<(aop:Int))=false:=decide_eq_false (by omega)
  have q3:decide (5<aop)=false:=decide_eq_false (by omega)
  have hvz:=ver_size hvv
  have hC:=r12_Check 2 ver W1 (by omega)
  rw[hvv] at hC
  clear a0 hvv hvz
  go_enter Tryz.func260,Tryz.ntmps260
  go_wp2_with fail
  refine(hN _).mono ?_;rintro e w' ⟨rfl,rfl⟩
  go_wp2_with fail
  refine hC.mono ?_;rintro e w2 ⟨rfl,hb⟩
  have B2:=hid (bthen B1.out hb)
  clear hb
  go_wp2_with fail
  go_ret
  exact⟨rfl,B2.out⟩
theorem r15_inner0 (w:World):
  Calls Tryz.prog 260 #[.agg #[.string ⟨#[]⟩,.string ⟨#[]⟩,.int .i64 0,.string ⟨#[]⟩,.slice none 0 0]] w fun e w'=>e=.returned (.int .i64 10)∧Below w.heap.size w w':=by
 have hN:=fun W=>r15_Name ⟨#[]⟩ W (by decide)
 rw[show rnameB (bl ⟨#[]⟩)=false from by rfl] at hN
 have B1:Hid (Below w.heap.size w (w.alloc (.cells #[.string ⟨#[]⟩,.string ⟨#[]⟩,.int .i64 0,.string ⟨#[]⟩,.slice none 0 0] 121))):=(Below.refl _ _).alloc lr _
 go_enter Tryz.func260,Tryz.ntmps260
 go_wp2_with fail
 refine(hN _).mono ?_;rintro e w' ⟨rfl,rfl⟩
 go_wp2_with fail
 go_ret
 exact⟨rfl,B1.out⟩
def RInC (T:RchM):Prop:=∀ w:World,TOwn w 0 none T→T.cnt≤64→Calls Tryz.prog 260 #[T.val] w fun e w'=>e=.returned (.int .i64 0)∧Below w.heap.size w w'
theorem r15_inner {T:RchM}(h:TGood T):RInC T:=by
 induction h with
 | atom nm aop ver hn ho hv0 hv=>
  intro w _ _
  exact r15_inner_atom nm aop ver hn ho hv0 hv w
 | node op ka kc kids ho hc hk ih=>
  intro w hO hcn
  have HO:=hid hO
  have HIH:=hid ih
  have hw:=(word_ne ho).1
  have o0:(op.toList==([]:List UInt8))=false:=by rw[bl_toList,beq_eq_false_iff_ne];exact hw
  have o2:¬ op.toList=[]:=by rw[bl_toList];exact hw
  have o1:op.toList.isEmpty=false:=by rw[List.isEmpty_eq_false_iff];exact o2
  obtain⟨tl,htl⟩:∃ tl,kids.length=tl:=⟨_,rfl⟩
  have HTL:=hid htl
  have CNE:=hid (cnt_node (t:=.mk op ⟨#[]⟩ 0 ⟨#[]⟩ ka kc kids) (by have:=closes_two hc;intro e;simp only[RchM.kids] at e;rw[e] at this;simp at this))
  have HCN:Hid (cntL kids≤64):=by have h1:=CNE.out;simp only[RchM.kids] at h1;show _≤_;omega
  have htl9:tl≤64:=by have h1:=cntL_len kids;have:=HCN.out;omega
  obtain⟨W1,hW1⟩:∃ W1,w.alloc (.cells #[.string op,.string ⟨#[]⟩,.int .i64 0,.string ⟨#[]⟩,.slice ka tl kc] 121)=W1:=⟨_,rfl⟩
  have B1:Hid (Below w.heap.size w W1):=by rw[←hW1];exact(Below.refl _ _).alloc lr _
  have K1:Hid (Blk W1 w.heap.size [.string op,.string ⟨#[]⟩,.int .i64 0,.string ⟨#[]⟩,.slice ka tl kc]):=by rw[←hW1];exact Blk.new w [.string op,.string ⟨#[]⟩,.int .i64 0,.string ⟨#[]⟩,.slice ka tl kc] _
  have k0:=K1.out.cell 0 _ rfl
  have k1:=K1.out.cell 1 _ rfl
  have k2:=K1.out.cell 2 _ rfl
  have k3:=K1.out.cell 3 _ rfl
  have k4:=K1.out.cell 4 _ rfl
  have hK:=r15_Word op W1
  rw[ho] at hK
  have hC:=r15_right op tl W1 ho
  rw[←htl,hc,htl] at hC
  clear ho hc hk ih hO hw htl hcn CNE
  show Calls Tryz.prog 260 #[.agg #[.string op,.string ⟨#[]⟩,.int .i64 0,.string ⟨#[]⟩,.slice ka kids.length kc]] w _
  rw[HTL.out]
  go_enter Tryz.func260,Tryz.ntmps260
  go_wp2_with fail
  refine hK.mono ?_;rintro e w' ⟨rfl,rfl⟩
  go_wp2_with fail
  refine hC.mono ?_;rintro e w' ⟨rfl,rfl⟩
  clear hK hC
  go_wp2_with fail
  clear k0 k1 k2 k3 k4
  go_loopw [2,3] (fun rv iv wr=>∃ i:Nat,rv=.int .i64 0∧iv=.int .i64 i∧i≤tl∧Hid (Below w.heap.size w wr)∧Hid (Blk wr w.heap.size [.string op,.string ⟨#[]⟩,.int .i64 0,.string ⟨#[]⟩,.slice ka tl kc])) (fun _ iv _=>tl-(intOf iv).toNat)
  case atStart=>exact⟨0,rfl,rfl,Nat.zero_le _,B1,K1⟩
  case round=>
   clear B1 K1
   obtain⟨i,rfl,rfl,hi,HB,HK⟩:=hrel
   have k4:=HK.out.cell 4 _ rfl
   by_cases hlt:i<tl
   ·obtain⟨t,ht⟩:∃ t,kids[i]?=some t:=⟨_,List.getElem?_eq_getElem (by rw[HTL.out];exact hlt)⟩
    have htm:Hid (t∈kids):=List.mem_of_getElem? ht
    have O2:=HO.out.low HB.out
    obtain⟨b',off,hA,he⟩:=O2.rd.cell i t ht
    have e0:=he 0 _ rfl
    have e1:=he 1 _ rfl
    have e2:=he 2 _ rfl
    have e3:=he 3 _ rfl
    have e4:=he 4 _ rfl
    simp only[Nat.add_zero] at e0
    have hix:=fun W=>idx_of (T:=119) (E:=121) (sz:=5) (n:=tl) (c:=kc) (A:=ka) Tryz.underlying119 rfl Tryz.sizeOf121 hA hlt W
    have hcall:=HIH.out t htm.out wr (O2.kids t htm.out) (by have h1:=cntL_mem htm.out;have:=HCN.out;omega)
    unfold RchM.val at hcall
    clear ht hA he O2
    go_wp2_with fail
    refine hcall.mono ?_;rintro e w4 ⟨rfl,hb⟩
    have B5:=hid (bthen HB.out hb)
    have K5:=hid (HK.out.below hb)
    clear hcall hb e0 e1 e2 e3 e4 hix k4
    go_wp2_with fail
    go_roundw
    case rel=>exact⟨i+1,rfl,by go_num,by omega,B5,K5⟩
    case measure=>simp[intOf];omega
   ·go_wp2_with fail
    go_ret
    exact⟨rfl,HB.out⟩
theorem r15_Check_any (T:RchM)(c:Int)(hS:TShape T)(hcn:T.cnt≤64)(hht:T.ht≤32)(w:World)(hO:TOwn w 0 none T)
  (hch:∀ W,TOwn W 0 none T→Calls Tryz.prog 260 #[T.val] W fun e w'=>e=.returned (.int .i64 c)∧Below W.heap.size W w'):
  Calls Tryz.prog 215 #[T.val] w fun e w'=>e=.returned (.int .i64 c)∧Below w.heap.size w w':=by
 have HO:=hid hO
 have HCH:=hid hch
 obtain⟨W1,hW1⟩:∃ W1,w.alloc (.cells #[.string T.op,.string T.nm,.int .i64 T.aop,.string T.ver,.slice T.ka T.kids.length T.kc] 121)=W1:=⟨_,rfl⟩
 have B1:Hid (Below w.heap.size w W1):=by rw[←hW1];exact(Below.refl _ _).alloc lr _
 have K1:Hid (Blk W1 w.heap.size T.cells):=by rw[←hW1];exact Blk.new w T.cells _
 have k0:=K1.out.cell 0 _ rfl
 have k1:=K1.out.cell 1 _ rfl
 have k2:=K1.out.cell 2 _ rfl
 have k3:=K1.out.cell 3 _ rfl
 have k4:=K1.out.cell 4 _ rfl
 have hD:=r15_Depth T W1 (HO.out.low B1.out) hS hcn hht
 have HA:Hid (∀ W:World,TOwn W 0 none T→Calls Tryz.prog 259 #[T.val] W fun e w'=>e=.returned (.int .i64 T.cnt)∧Below W.heap.size W w'):=fun W h=>r15_Atoms T W h hS hcn
 have q1:decide ((32:Int)<(T.ht:Int))=false:=decide_eq_false (by omega)
 have q2:decide (32<T.ht)=false:=decide_eq_false (by omega)
 have q3:decide ((64:Int)<(T.cnt:Int))=false:=decide_eq_false (by omega)
 have q4:decide (64<T.cnt)=false:=decide_eq_false (by omega)
 clear hS hO hch
 unfold RchM.val at *
 go_enter Tryz.func215,Tryz.ntmps215
 go_wp2_with fail
 clear hW1
 refine hD.mono ?_;rintro e w2 ⟨rfl,hb⟩
 have B2:=hid (bthen B1.out hb)
 have K2:=hid (K1.out.below hb)
 clear hb k0 k1 k2 k3 k4 hD
 have k0:=K2.out.cell 0 _ rfl
 have k1:=K2.out.cell 1 _ rfl
 have k2:=K2.out.cell 2 _ rfl
 have k3:=K2.out.cell 3 _ rfl
 have k4:=K2.out.cell 4 _ rfl
 go_wp2_with fail
 refine(HA.out w2 (HO.out.low B2.out)).mono ?_;rintro e w4 ⟨rfl,hb⟩
 have B4:=hid (bthen B2.out hb)
 have K4:=hid (K2.out.below hb)
 clear hb k0 k1 k2 k3 k4
 have k0:=K4.out.cell 0 _ rfl
 have k1:=K4.out.cell 1 _ rfl
 have k2:=K4.out.cell 2 _ rfl
 have k3:=K4.out.cell 3 _ rfl
 have k4:=K4.out.cell 4 _ rfl
 go_wp2_with fail
 refine(HCH.out w4 (HO.out.low B4.out)).mono ?_;rintro e w5 ⟨rfl,hb⟩
 have B6:=hid (bthen B4.out hb)
 clear hb
 go_wp2_with fail
 go_ret
 exact⟨rfl,B6.out⟩
end
section
open Go.RowKit Go.Deep
structure RdS (w W:World) (a hi:Nat) (l:List UInt8) (n m:Nat):Prop where
 two:Two W w.heap.size
 pr:PR W a hi l n m
 gr:w.grownBy W (some a)
 gl:GlA a W
 lt:hi≤w.heap.size
theorem RdS.alt {w W:World}{a hi n m:Nat}{l:List UInt8}(h:RdS w W a hi l n m):a<w.heap.size:=by have:=h.pr.lt;have:=h.lt;omega
theorem RdS.start {w:World}{a hi n m:Nat}{l:List UInt8}(hG:GlA a w)(h:PR w a hi l n m)(t t':TypeId):RdS w ((w.alloc (.cells #[.string ⟨#[]⟩,.string ⟨#[]⟩,.int .i64 0,.string ⟨#[]⟩,.slice none 0 0] t)).alloc (.cells #[.string ⟨#[]⟩,.int .i64 0,.int .i64 0] t')) a hi l n m:=by
 have B:Below w.heap.size w ((w.alloc (.cells #[.string ⟨#[]⟩,.string ⟨#[]⟩,.int .i64 0,.string ⟨#[]⟩,.slice none 0 0] t)).alloc (.cells #[.string ⟨#[]⟩,.int .i64 0,.int .i64 0] t')):=((Below.refl _ _).alloc lr _).alloc (by simp) _
 exact⟨Two.new w t t',h.below B,below_grows B _,hG.below B,h.hz⟩
theorem RdS.step {w W W':World}{a hi n m n' m':Nat}{l l':List UInt8}(h:RdS w W a hi l n m)(hg:W.grownBy W' (some a))(hd:PR W' a hi l' n' m'):RdS w W' a hi l' n' m':=
 ⟨h.two.step hg h.alt,hd,grown_thru h.gr hg,h.gl.kept hg,h.lt⟩
theorem RdS.below {w W W':World}{a hi n m:Nat}{l:List UInt8}(h:RdS w W a hi l n m)(hb:Below W.heap.size W W'):RdS w W' a hi l n m:=h.step (below_grows hb _) (h.pr.below hb)
theorem RdS.far {w W:World}{a hi n m b j:Nat}{l:List UInt8}(h:RdS w W a hi l n m)(hb:w.heap.size+2≤b)(v:Value):RdS w (W.setCell ⟨b,j,none⟩ v) a hi l n m:=by
 have h1:=h.lt
 refine⟨⟨h.two.b0.far (by omega) v,h.two.b1.far (by omega) v⟩,h.pr.far (by omega) v,only_setCell h.gr (.inr (by show _≤b;omega)) v,?_,h1⟩
 obtain⟨w0,g1,g2,g3⟩:=h.gl
 have h2:=h.pr.lt
 exact⟨w0,g1,below_set g2 (by omega) v,g3⟩
theorem Blk.stay {w W W':World}{a hi n m b:Nat}{l:List UInt8}{vs:List Value}(k:Blk W b vs)(h:RdS w W a hi l n m)(hb:w.heap.size≤b)(hg:W.grownBy W' (some a)):Blk W' b vs:=k.grownBy hg (by have:=h.alt;simp;omega)
theorem leaf_own (W:World)(lo:Nat)(bad:Option Nat)(nm:ByteArray)(o:Nat)(v:ByteArray):TOwn W lo bad (.mk ⟨#[]⟩ nm o v none 0 []):=
 .mk _ (World.ownsRow_nil _ _ _ _) (fun g hg=>by simp[RchM.ka,RchM.kc,Value.ownBlock] at hg) (fun k hk=>by simp[RchM.kids] at hk)
theorem atom_long (l:List UInt8):rAtom 64 l=none:=by unfold rAtom;rw[if_pos rfl]
theorem atom_noname {n:Nat}{l:List UInt8}(h:rnameB (rLook l)=false):rAtom n l=none:=by
 unfold rAtom
 split
 ·rfl
 ·simp[h]
theorem atom_name {n:Nat}{l:List UInt8}(h0:n≠64)(h:rnameB (rLook l)=true):rAtom n l=rAtomR (rLook l) (n+1) (rNext l):=by unfold rAtom;rw[if_neg h0,if_pos h]
theorem atom_any {nm:List UInt8}{n:Nat}{l:List UInt8}(h:rOp (rLook l)=0):rAtomR nm n l=some (.atom nm 0 [],l,n):=by unfold rAtomR;rw[if_pos h]
theorem atom_op {nm:List UInt8}{n:Nat}{l:List UInt8}(h:rOp (rLook l)≠0):rAtomR nm n l=rAtomV nm (rOp (rLook l)) n (rNext l):=by unfold rAtomR;rw[if_neg h]
theorem atom_nover {nm:List UInt8}{o n:Nat}{l:List UInt8}(h:rLook l=[]∨rLook l=[40]∨rLook l=[41]):rAtomV nm o n l=none:=by unfold rAtomV;rw[if_pos h]
theorem atom_badver {nm:List UInt8}{o n:Nat}{l:List UInt8}(h:verE 2 (mkB (rLook l))≠0):rAtomV nm o n l=none:=by
 unfold rAtomV
 split
 ·rfl
 ·simp[h]
theorem atom_ver {nm:List UInt8}{o n:Nat}{l:List UInt8}(h0:¬ (rLook l=[]∨rLook l=[40]∨rLook l=[41]))(h:verE 2 (mkB (rLook l))=0):rAtomV nm o n l=some (.atom nm o (rLook l),rNext l,n):=by unfold rAtomV;rw[if_neg h0,if_pos h]
theorem rOp_le (p:List UInt8):rOp p≤5:=by unfold rOp;repeat' split
                                          all_goals omega
theorem rOp_look {p:List UInt8}(h:rOp p≠0):p≠[]:=by rintro rfl;exact h rfl
theorem rdep_atom (a hi n m deep:Nat)(l:List UInt8)(w:World)(hG:GlA a w)(h:PR w a hi l n m)(hn:n≤64)(hd:deep≤32):
  Calls Tryz.prog 183 #[.pointer (some ⟨a,0,none⟩)] w (DepPost (rAtom n l) a hi m deep n w):=by
 obtain⟨W0,hW0⟩:∃ W0,(w.alloc (.cells #[.string ⟨#[]⟩,.string ⟨#[]⟩,.int .i64 0,.string ⟨#[]⟩,.slice none 0 0] 121)).alloc (.cells #[.string ⟨#[]⟩,.int .i64 0,.int .i64 0] 114)=W0:=⟨_,rfl⟩
 have S0:Hid (RdS w W0 a hi l n m):=by rw[←hW0];exact RdS.start hG h _ _
 have z0:W0.heap.size=w.heap.size+2:=by rw[←hW0];simp
 obtain⟨b,off,c,T,p,k,hT,h2⟩:=S0.out.pr.cells
 have HT:=hid hT
 obtain⟨c0,c1,f0,f1,t0,t1,ne,m1,mc,cz,tz⟩:=k
 clear h h2 hT
 obtain⟨W1,hW1⟩:∃ W1,W0.alloc (.cells #[.string T,.int .i64 p] 167)=W1:=⟨_,rfl⟩
 have S1:Hid (RdS w W1 a hi l n m):=by rw[←hW1];exact S0.out.below ((Below.refl _ _).alloc lr _)
 have K1:Hid (Blk W1 W0.heap.size [.string T,.int .i64 p]):=by rw[←hW1];exact Blk.new W0 [.string T,.int .i64 p] _
 have HZ0:=hid z0
 clear S0 hG z0
 go_enter Tryz.func183,Tryz.ntmps183
 go_upto_region 2 with(fail)
 clear hW0 hW1 c0 c1 f0 f1 t0 t1 ne m1 mc cz
 have ha:=S1.out.alt
 have k1:=S1.out.pr.cells
 obtain⟨b1,off1,c1',T',p',k1,-,-⟩:=k1
 have c1:=k1.c1
 have f1:=k1.f1
 have t0:=K1.out.cell 0 _ rfl
 have t1:=K1.out.cell 1 _ rfl
 clear k1
 by_cases n64:n=64
 ·have EN:Hid (rAtom n l=none):=by show _=_;rw[n64];exact atom_long l
  have q64:((n:Int)==64)=true:=by simp[n64]
  clear n64
  go_wp2_with fail
  refine(rdep_fault T p 4 _).mono ?_;rintro e w2 ⟨rfl,hb⟩
  have S2:=hid (S1.out.below hb)
  have tc:=S2.out.two.c
  obtain⟨x0,x1,x2,x3,x4,y0,y1,y2,g0,g1,g2,g3,g4,k0,k1,k2⟩:=tc
  clear hb
  unfold fltV
  go_wp2_with fail
  refine bodyPost_ret (atom_res _ S2.out.two.c rfl rfl _ _ _ _ _ _ _ _ ⟨rfl,rfl,rfl,rfl,rfl,rfl,rfl,rfl⟩) rfl ?_
  exact DepPost.no EN.out (put8_grown S2.out.gr lr _ _ _ _ _ _ _ _) (by decide)
 have N64:Hid (n<64):=by show _<_;omega
 have q64:((n:Int)==64)=false:=by simp;omega
 have EN:Hid (rAtom n l=if rnameB (bl T) then rAtomR (bl T) (n+1) (rNext l) else none):=by
  show _=_;unfold rAtom;rw[if_neg n64,HT.out]
 clear n64
 go_wp2_with fail
 refine(rdep_Name T _ (by omega)).mono ?_;rintro e w2 ⟨rfl,rfl⟩
 cases hnm:rnameB (bl T) with
 | false=>
  rw[hnm] at EN
  clear hnm
  go_wp2_with fail
  refine(rdep_fault T p 10 _).mono ?_;rintro e w2 ⟨rfl,hb⟩
  have S2:=hid (S1.out.below hb)
  have tc:=S2.out.two.c
  obtain⟨x0,x1,x2,x3,x4,y0,y1,y2,g0,g1,g2,g3,g4,k0,k1,k2⟩:=tc
  clear hb
  unfold fltV
  go_wp2_with fail
  refine bodyPost_ret (atom_res _ S2.out.two.c rfl rfl _ _ _ _ _ _ _ _ ⟨rfl,rfl,rfl,rfl,rfl,rfl,rfl,rfl⟩) rfl ?_
  exact DepPost.no EN.out (put8_grown S2.out.gr lr _ _ _ _ _ _ _ _) (by decide)
 | true=>
 have ER:Hid (rAtom n l=rAtomR (bl T) (n+1) (rNext l)):=by have:=EN.out;rwa [hnm,if_pos rfl] at this
 clear EN
 have HNM:=hid hnm
 have HL:Hid (rLook l≠[]):=by have:=rname_len hnm;rw[←bl_length,HT.out] at this;intro e;rw[e] at this;simp at this
 have P2:Hid (PR (W1.setCell ⟨a,1,none⟩ (.int .i64 ((n:Int)+1))) a hi l (n+1) m):=by have:=S1.out.pr.count (n+1);rwa [show((n+1:Nat):Int)=(n:Int)+1 from by omega] at this
 have S2:=hid (S1.out.step (kept_set (j:=1) (.int .i64 ((n:Int)+1))) P2.out)
 have K2:=hid (K1.out.stay S1.out (by have:=HZ0.out;omega) (kept_set (a:=a) (j:=1) (.int .i64 ((n:Int)+1))))
 clear hnm
 go_wp2_with fail
 clear c1 f1 t0 t1
 refine(rdep_next a hi (n+1) m l _ P2.out HL.out).mono ?_;rintro e w3 ⟨rfl,hp,hg,hm2⟩
 have S3:=hid (S2.out.step hg hp)
 have K3:=hid (K2.out.stay S2.out (by have:=HZ0.out;omega) hg)
 have M2:=hid hm2
 clear hp hg P2 S2 K2 hm2
 have t0:=K3.out.cell 0 _ rfl
 go_upto_region 9 with(fail)
 clear t0
 obtain⟨W4,hW4⟩:∃ W4,w3.alloc (.cells #[.string ⟨#[]⟩,.string T,.int .i64 0,.string ⟨#[]⟩,.slice none 0 0] 121)=W4:=⟨_,rfl⟩
 have B4:Hid (Below w3.heap.size w3 W4):=by rw[←hW4];exact(Below.refl _ _).alloc lr _
 have D4:Hid (Blk W4 w3.heap.size [.string ⟨#[]⟩,.string T,.int .i64 0,.string ⟨#[]⟩,.slice none 0 0]):=by rw[←hW4];exact Blk.new w3 [.string ⟨#[]⟩,.string T,.int .i64 0,.string ⟨#[]⟩,.slice none 0 0] _
 have S4:=hid (S3.out.below B4.out)
 have K4:=hid (K3.out.below B4.out)
 have H3:Hid (W0.heap.size<w3.heap.size):=K3.out.sz
 rw[hW4]
 clear hW4
 obtain⟨b4,off4,c4,T4,p4,k4,hT4,-⟩:=S4.out.pr.cells
 have HT4:=hid hT4
 obtain⟨r0,r1,r2,r3,r4,r5,r6,r7,r8,r9,tz4⟩:=k4
 have hR:=rdep_relation T4 W4 S4.out.gl.gl
 obtain⟨o,ho⟩:∃ o,rOp (bl T4)=o:=⟨_,rfl⟩
 rw[ho] at hR
 have HO:=hid ho
 have ho5:o≤5:=by rw[←ho];exact rOp_le _
 clear hT4 ho S3 B4
 go_wp2_with fail
 clear r0 r1 r2 r3 r4 r5 r6 r7 r8 r9
 refine hR.mono ?_;rintro e w5 ⟨rfl,rfl⟩
 clear hR
 by_cases o0:o=0
 ·have EY:Hid (rAtom n l=some ((RchM.mk ⟨#[]⟩ T 0 ⟨#[]⟩ none 0 []).pl,rNext l,n+1)):=by
   show _=_;rw[ER.out,pl_atom _ _ _ _ _ _ _ rfl];exact atom_any (by rw[←HT4.out,HO.out,o0])
  have q0:((o:Int)==0)=true:=by simp[o0]
  have tc:=S4.out.two.c
  obtain⟨x0,x1,x2,x3,x4,y0,y1,y2,g0,g1,g2,g3,g4,k0,k1,k2⟩:=tc
  have d0:=D4.out.cell 0 _ rfl
  have d1:=D4.out.cell 1 _ rfl
  have d2:=D4.out.cell 2 _ rfl
  have d3:=D4.out.cell 3 _ rfl
  have d4:=D4.out.cell 4 _ rfl
  clear o0
  go_wp2_with fail
  refine bodyPost_ret (atom_res _ S4.out.two.c rfl rfl _ _ _ _ _ _ _ _ ⟨rfl,rfl,rfl,rfl,rfl,rfl,rfl,rfl⟩) rfl ?_
  exact DepPost.yes (T:=.mk ⟨#[]⟩ T 0 ⟨#[]⟩ none 0 []) EY.out (put8_grown S4.out.gr lr _ _ _ _ _ _ _ _) (.atom T 0 ⟨#[]⟩ HNM.out (by omega) (fun _=>rfl) (fun h=>by omega)) (leaf_own _ _ _ _ _ _) (by simp[RchM.ht,htL];exact hd) (by simp[RchM.cnt]) (by have:=N64.out;omega) (put8_pr S4.out.pr S4.out.lt _ _ _ _ _ _ _ _) (by have:=M2.out;omega)
 have q0:((o:Int)==0)=false:=by simp[o0]
 have HL4:Hid (rLook (rNext l)≠[]):=by show ¬ _;rw[←HT4.out];exact rOp_look (by rw[HO.out];exact o0)
 have EV:Hid (rAtom n l=rAtomV (bl T) o (n+1) (rNext (rNext l))):=by show _=_;rw[ER.out,atom_op (by rw[←HT4.out,HO.out];exact o0),←HT4.out,HO.out]
 have OP:Hid (0<o):=by show _<_;omega
 have HZB:Hid (w.heap.size+2≤W0.heap.size):=by show _≤_;have:=HZ0.out;omega
 clear ER o0 HO HT4
 go_wp2_with fail
 refine(rdep_next a hi (n+1) (m-1) (rNext l) _ S4.out.pr HL4.out).mono ?_;rintro e w5 ⟨rfl,hp,hg,hm2⟩
 have S5:=hid (S4.out.step hg hp)
 have K5:=hid (K4.out.stay S4.out (by have:=HZB.out;omega) hg)
 have D5:=hid (D4.out.stay S4.out (by have:=HZB.out;have:=H3.out;omega) hg)
 have M3:=hid hm2
 clear hp hg hm2 S4 K4 D4 HL4
 have t0:=K5.out.cell 0 _ rfl
 have t1:=K5.out.cell 1 _ rfl
 have e0:=K5.out.free 0 (by simp)
 have e1:=K5.out.free 1 (by simp)
 obtain⟨b5,off5,c5,T5,p5,k5,hT5,hnx⟩:=S5.out.pr.cells
 have HT5:=hid hT5
 obtain⟨r0,r1,r2,r3,r4,r5,r6,r7,r8,r9,tz5⟩:=k5
 clear hT5 hnx
 go_upto_region 14 with(fail)
 clear t0 t1 e0 e1 r0 r1 r2 r3 r4 r5 r6 r7 r8 r9
 obtain⟨W6,hW6⟩:∃ W6,(w5.setCell ⟨W0.heap.size,0,none⟩ (.string T5)).setCell ⟨W0.heap.size,1,none⟩ (.int .i64 p5)=W6:=⟨_,rfl⟩
 have S6:Hid (RdS w W6 a hi (rNext (rNext l)) (n+1) (m-1-1)):=by rw[←hW6];exact(S5.out.far HZB.out _).far HZB.out _
 have K6:Hid (Blk W6 W0.heap.size [.string T5,.int .i64 p5]):=by rw[←hW6];exact(K5.out.set 0 (by simp) (.string T5)).set 1 (by simp) (.int .i64 p5)
 have D6:Hid (Blk W6 w3.heap.size [.string ⟨#[]⟩,.string T,.int .i64 0,.string ⟨#[]⟩,.slice none 0 0]):=by rw[←hW6];exact(D5.out.far (by have:=H3.out;omega) _).far (by have:=H3.out;omega) _
 rw[hW6]
 clear hW6 S5 K5 D5
 have t0:=K6.out.cell 0 _ rfl
 have t1:=K6.out.cell 1 _ rfl
 obtain⟨bb,hbb⟩:∃ bb:Bool,decide (bl T5=[]∨bl T5=[40]∨bl T5=[41])=bb:=⟨_,rfl⟩
 go_cut [74] (fun v wx=>v=.bool bb∧W6=wx)
 case first=>
  by_cases h1:bl T5=[]
  ·have E1:T5.toList=[]:=by rw[bl_toList];exact h1
   have E2:Hid (bb=true):=by show _=_;rw[←hbb];exact decide_eq_true (.inl h1)
   clear hbb h1
   go_wp2_with fail
   go_meet
   exact⟨by rw[E2.out],rfl⟩
  by_cases h2:bl T5=[40]
  ·have E1:T5.toList=[40]:=by rw[bl_toList];exact h2
   have E2:Hid (bb=true):=by show _=_;rw[←hbb];exact decide_eq_true (.inr (.inl h2))
   clear hbb h1 h2
   go_wp2_with fail
   go_meet
   exact⟨by rw[E2.out],rfl⟩
  by_cases h3:bl T5=[41]
  ·have E1:T5.toList=[41]:=by rw[bl_toList];exact h3
   have E2:Hid (bb=true):=by show _=_;rw[←hbb];exact decide_eq_true (.inr (.inr h3))
   clear hbb h1 h2 h3
   go_wp2_with fail
   go_meet
   exact⟨by rw[E2.out],rfl⟩
  ·have E1:(T5.toList==([]:List UInt8))=false:=by rw[bl_toList,beq_eq_false_iff_ne];exact h1
   have E3:(T5.toList==([40]:List UInt8))=false:=by rw[bl_toList,beq_eq_false_iff_ne];exact h2
   have E4:(T5.toList==([41]:List UInt8))=false:=by rw[bl_toList,beq_eq_false_iff_ne];exact h3
   have E5:T5.toList.isEmpty=false:=by rw[bl_toList,List.isEmpty_eq_false_iff];exact h1
   have E2:Hid (bb=false):=by show _=_;rw[←hbb];exact decide_eq_false (by rintro(h | h | h)<;>contradiction)
   clear hbb h1 h2 h3
   go_wp2_with fail
   go_meet
   exact⟨by rw[E2.out],rfl⟩
 case rest=>
 obtain⟨rfl,rfl⟩:=hcut
 cases bb with
 | true=>
  have EN:Hid (rAtom n l=none):=by show _=_;rw[EV.out];exact atom_nover (by rw[←HT5.out];exact of_decide_eq_true hbb)
  clear hbb
  go_wp2_with fail
  refine(rdep_fault T5 p5 3 _).mono ?_;rintro e w2 ⟨rfl,hb⟩
  have S2:=hid (S6.out.below hb)
  have tc:=S2.out.two.c
  obtain⟨x0,x1,x2,x3,x4,y0,y1,y2,g0,g1,g2,g3,g4,k0,k1,k2⟩:=tc
  clear hb
  unfold fltV
  go_wp2_with fail
  refine bodyPost_ret (atom_res _ S2.out.two.c rfl rfl _ _ _ _ _ _ _ _ ⟨rfl,rfl,rfl,rfl,rfl,rfl,rfl,rfl⟩) rfl ?_
  exact DepPost.no EN.out (put8_grown S2.out.gr lr _ _ _ _ _ _ _ _) (by decide)
 | false=>
 have HB:Hid (¬ (rLook (rNext (rNext l))=[]∨rLook (rNext (rNext l))=[40]∨rLook (rNext (rNext l))=[41])):=by rw[←HT5.out];exact of_decide_eq_false hbb
 clear hbb
 obtain⟨ve,hve⟩:∃ ve,verE 2 T5=ve:=⟨_,rfl⟩
 have HV:=hid hve
 have hVC:=version_Check_any 2 T5 W6 S6.out.gl.gl (by omega)
 rw[hve] at hVC
 clear hve
 go_wp2_with fail
 clear t0 t1
 refine hVC.mono ?_;rintro e w7 ⟨rfl,hb7⟩
 have S7:=hid (S6.out.below hb7)
 have K7:=hid (K6.out.below hb7)
 have D7:=hid (D6.out.below hb7)
 have t0:=K7.out.cell 0 _ rfl
 have t1:=K7.out.cell 1 _ rfl
 clear hb7 hVC S6 K6 D6
 by_cases hv0:ve=0
 ·have q1:(ve != 0)=false:=by simp[hv0]
  have EY:Hid (rAtom n l=some ((RchM.mk ⟨#[]⟩ T o T5 none 0 []).pl,rNext (rNext (rNext l)),n+1)):=by
   show _=_;rw[EV.out,pl_atom _ _ _ _ _ _ _ rfl,atom_ver HB.out (by rw[←HT5.out,mk_bl,HV.out,hv0]),HT5.out]
  have VZ:Hid (verE 2 T5=0):=by show _=_;rw[HV.out,hv0]
  have HL5:Hid (rLook (rNext (rNext l))≠[]):=fun e=>HB.out (.inl e)
  clear hv0
  go_wp2_with fail
  refine(rdep_next a hi (n+1) (m-1-1) (rNext (rNext l)) _ S7.out.pr HL5.out).mono ?_;rintro e w8 ⟨rfl,hp,hg,hm3⟩
  have S8:=hid (S7.out.step hg hp)
  have K8:=hid (K7.out.stay S7.out (by have:=HZB.out;omega) hg)
  have D8:=hid (D7.out.stay S7.out (by have:=HZB.out;have:=H3.out;omega) hg)
  have M4:=hid hm3
  clear hp hg hm3 S7 K7 D7 t0 t1
  have t0:=K8.out.cell 0 _ rfl
  have d0:=D8.out.cell 0 _ rfl
  have d1:=D8.out.cell 1 _ rfl
  have d2:=D8.out.cell 2 _ rfl
  have d3:=D8.out.cell 3 _ rfl
  have d4:=D8.out.cell 4 _ rfl
  have h2:=D8.out.free 2 (by simp)
  have h3:=D8.out.free 3 (by simp)
  have hne:¬ W0.heap.size=w3.heap.size:=by have:=H3.out;omega
  have hne2:¬ w3.heap.size=W0.heap.size:=by have:=H3.out;omega
  go_wp2_with fail
  go_region
  clear t0 d0 d1 d2 d3 d4 h2 h3 hne hne2
  obtain⟨W9,hW9⟩:∃ W9,((w8.setCell ⟨w3.heap.size,2,none⟩ (.int .i64 o)).setCell ⟨w3.heap.size,3,none⟩ (.string T5)).drew=W9:=⟨_,rfl⟩
  have hd3:w.heap.size+2≤w3.heap.size:=by have:=H3.out;have:=HZB.out;omega
  have S9:Hid (RdS w W9 a hi (rNext (rNext (rNext l))) (n+1) (m-1-1-1)):=by rw[←hW9];exact((S8.out.far hd3 _).far hd3 _).below ⟨rfl,rfl,rfl,lr,fun _ _=>rfl⟩
  have D9:Hid (Blk W9 w3.heap.size [.string ⟨#[]⟩,.string T,.int .i64 o,.string T5,.slice none 0 0]):=by rw[←hW9];exact((D8.out.set 2 (by simp) (.int .i64 o)).set 3 (by simp) (.string T5)).drew
  rw[hW9]
  clear hW9 S8 K8 D8
  have tc:=S9.out.two.c
  obtain⟨x0,x1,x2,x3,x4,y0,y1,y2,g0,g1,g2,g3,g4,k0,k1,k2⟩:=tc
  have d0:=D9.out.cell 0 _ rfl
  have d1:=D9.out.cell 1 _ rfl
  have d2:=D9.out.cell 2 _ rfl
  have d3:=D9.out.cell 3 _ rfl
  have d4:=D9.out.cell 4 _ rfl
  go_wp2_with fail
  refine bodyPost_ret (atom_res _ S9.out.two.c rfl rfl _ _ _ _ _ _ _ _ ⟨rfl,rfl,rfl,rfl,rfl,rfl,rfl,rfl⟩) rfl ?_
  exact DepPost.yes (T:=.mk ⟨#[]⟩ T o T5 none 0 []) EY.out (put8_grown S9.out.gr lr _ _ _ _ _ _ _ _) (.atom T o T5 HNM.out ho5 (fun h=>by have:=OP.out;omega) (fun _=>VZ.out)) (leaf_own _ _ _ _ _ _) (by simp[RchM.ht,htL];exact hd) (by simp[RchM.cnt]) (by have:=N64.out;omega) (put8_pr S9.out.pr S9.out.lt _ _ _ _ _ _ _ _) (by have:=M2.out;omega)
 ·have q1:(ve != 0)=true:=by simp[hv0]
  have EN:Hid (rAtom n l=none):=by show _=_;rw[EV.out];exact atom_badver (by rw[←HT5.out,mk_bl,HV.out];exact hv0)
  have HVN:=HidN.mk hv0
  clear hv0
  go_wp2_with fail
  refine(rdep_fault T5 p5 ve _).mono ?_;rintro e w2 ⟨rfl,hb⟩
  have S2:=hid (S7.out.below hb)
  have tc:=S2.out.two.c
  obtain⟨x0,x1,x2,x3,x4,y0,y1,y2,g0,g1,g2,g3,g4,k0,k1,k2⟩:=tc
  clear hb
  unfold fltV
  go_wp2_with fail
  refine bodyPost_ret (atom_res _ S2.out.two.c rfl rfl _ _ _ _ _ _ _ _ ⟨rfl,rfl,rfl,rfl,rfl,rfl,rfl,rfl⟩) rfl ?_
  exact DepPost.no EN.out (put8_grown S2.out.gr lr _ _ _ _ _ _ _ _) HVN.out
end
section
open Go.RowKit Go.Deep
abbrev put5 (W:World) (s:Nat) (v0 v1 v2 v3 v4:Value):World:=
 ((((W.setCell ⟨s,0,none⟩ v0).setCell ⟨s,1,none⟩ v1).setCell ⟨s,2,none⟩ v2).setCell ⟨s,3,none⟩ v3).setCell ⟨s,4,none⟩ v4
theorem put5_grown {w W:World}{a s:Nat}(h:w.grownBy W (some a))(hs:w.heap.size≤s)(v0 v1 v2 v3 v4:Value):w.grownBy (put5 W s v0 v1 v2 v3 v4) (some a):=by
 unfold put5
 repeat' refine only_setCell ?_ (.inr (by simp only;omega)) _
 exact h
theorem RX.far {w:World}{a b j:Nat}{s:ByteArray}{p n:Nat}{c:Int}(h:RX w a s p n c)(hb:b≠a)(v:Value):RX (w.setCell ⟨b,j,none⟩ v) a s p n c:=h.grown (kept_set v) (by simp;omega)
theorem put5_rx {W:World}{a b:Nat}{s:ByteArray}{p n:Nat}{c:Int}(h:RX W a s p n c)(hb:b≠a)(v0 v1 v2 v3 v4:Value):RX (put5 W b v0 v1 v2 v3 v4) a s p n c:=by
 unfold put5
 repeat' refine RX.far ?_ hb _
 exact h
theorem put5_own {W:World}{lo s:Nat}{bad:Option Nat}{T:RchM}(h:TOwn W lo bad T)(hs:s<lo)(v0 v1 v2 v3 v4:Value):TOwn (put5 W s v0 v1 v2 v3 v4) lo bad T:=by
 unfold put5
 repeat' refine TOwn.kept ?_ (by omega) (kept_set _)
 exact h
def RePost (r:Option (Rch×List UInt8×Nat))(a:Nat)(s:ByteArray)(deep p n:Nat)(w:World)(e:Ending)(w':World):Prop:=
 w.grownBy w' (some a)∧∃ T:RchM,e=.returned T.val∧match r with
  | none=>∃ (p' n':Nat) (c':Int),c'≠0∧RX w' a s p' n' c'
  | some (t,l',n')=>∃ p':Nat,T.pl=t∧TGood T∧TOwn w' w.heap.size none T∧T.ht+deep≤32∧n'=n+T.cnt∧n'≤64∧RX w' a s p' n' 0∧skipL ((bl s).drop p')=skipL l'∧p<p'
theorem RePost.no {r:Option (Rch×List UInt8×Nat)}{a:Nat}{s:ByteArray}{deep p n p' n':Nat}{c':Int}{w w':World}(T:RchM)(hr:r=none)(hg:w.grownBy w' (some a))(hc:c'≠0)(hx:RX w' a s p' n' c'):RePost r a s deep p n w (.returned T.val) w':=by
 subst hr;exact⟨hg,T,rfl,p',n',c',hc,hx⟩
theorem RePost.yes {r:Option (Rch×List UInt8×Nat)}{a:Nat}{s:ByteArray}{deep p n p' n':Nat}{l':List UInt8}{w w':World}{T:RchM}(hr:r=some (T.pl,l',n'))(hg:w.grownBy w' (some a))(h1:TGood T)(h2:TOwn w' w.heap.size none T)(h3:T.ht+deep≤32)(h4:n'=n+T.cnt)(h5:n'≤64)(h6:RX w' a s p' n' 0)(h7:skipL ((bl s).drop p')=skipL l')(h8:p<p'):RePost r a s deep p n w (.returned T.val) w':=by
 subst hr;exact⟨hg,T,rfl,p',rfl,h1,h2,h3,h4,h5,h6,h7,h8⟩
structure RdX (w W:World) (a:Nat) (s:ByteArray) (p n:Nat) (c:Int):Prop where
 box:Blk W w.heap.size [.string ⟨#[]⟩,.string ⟨#[]⟩,.int .i64 0,.string ⟨#[]⟩,.slice none 0 0]
 rx:RX W a s p n c
 gr:w.grownBy W (some a)
 lt:a<w.heap.size
theorem RdX.start {w:World}{a:Nat}{s:ByteArray}{p n:Nat}{c:Int}(h:RX w a s p n c)(t:TypeId):RdX w (w.alloc (.cells #[.string ⟨#[]⟩,.string ⟨#[]⟩,.int .i64 0,.string ⟨#[]⟩,.slice none 0 0] t)) a s p n c:=
 ⟨Blk.new w _ t,h.alloc _,below_grows ((Below.refl _ _).alloc lr _) _,h.sz⟩
theorem RdX.step {w W W':World}{a:Nat}{s:ByteArray}{p n p' n':Nat}{c c':Int}(h:RdX w W a s p n c)(hg:W.grownBy W' (some a))(hd:RX W' a s p' n' c'):RdX w W' a s p' n' c':=
 ⟨h.box.grownBy hg (by have:=h.lt;simp;omega),hd,grown_thru h.gr hg,h.lt⟩
theorem RdX.below {w W W':World}{a:Nat}{s:ByteArray}{p n:Nat}{c:Int}(h:RdX w W a s p n c)(hb:Below W.heap.size W W'):RdX w W' a s p n c:=h.step (below_grows hb _) (h.rx.below hb)
theorem RdX.far {w W:World}{a b j:Nat}{s:ByteArray}{p n:Nat}{c:Int}(h:RdX w W a s p n c)(hb:w.heap.size<b)(v:Value):RdX w (W.setCell ⟨b,j,none⟩ v) a s p n c:=by
 have:=h.lt
 exact⟨h.box.far (by omega) v,h.rx.far (by omega) v,only_setCell h.gr (.inr (by show _≤b;omega)) v,h.lt⟩
theorem RdX.wide {w W W':World}{a:Nat}{s:ByteArray}{p n:Nat}{c:Int}{row:Option Nat}(h:RdX w W a s p n c)(k:W.grownBy W' row)(hr:∀ j,row=some j→w.heap.size<j):RdX w W' a s p n c:=by
 have h1:=h.lt
 exact⟨h.box.grownBy k (fun e=>by have:=hr _ e.symm;omega),h.rx.grown k (fun e=>by have:=hr _ e.symm;omega),grown_new h.gr k (fun j e=>by have:=hr j e;omega),h1⟩
theorem Blk.stayX {w W W':World}{a b:Nat}{s:ByteArray}{p n:Nat}{c:Int}{vs:List Value}(k:Blk W b vs)(h:RdX w W a s p n c)(hb:w.heap.size≤b)(hg:W.grownBy W' (some a)):Blk W' b vs:=k.grownBy hg (by have:=h.lt;simp;omega)
structure OneC (W:World) (s:Nat):Prop where
 x0:W.cell? ⟨s,0,none⟩=some (.string ⟨#[]⟩)
 x1:W.cell? ⟨s,1,none⟩=some (.string ⟨#[]⟩)
 x2:W.cell? ⟨s,2,none⟩=some (.int .i64 0)
 x3:W.cell? ⟨s,3,none⟩=some (.string ⟨#[]⟩)
 x4:W.cell? ⟨s,4,none⟩=some (.slice none 0 0)
 f0:W.frozen? ⟨s,0,none⟩=false
 f1:W.frozen? ⟨s,1,none⟩=false
 f2:W.frozen? ⟨s,2,none⟩=false
 f3:W.frozen? ⟨s,3,none⟩=false
 f4:W.frozen? ⟨s,4,none⟩=false
theorem RdX.c {w W:World}{a:Nat}{s:ByteArray}{p n:Nat}{c:Int}(h:RdX w W a s p n c):OneC W w.heap.size:=
 ⟨h.box.cell 0 _ rfl,h.box.cell 1 _ rfl,h.box.cell 2 _ rfl,h.box.cell 3 _ rfl,h.box.cell 4 _ rfl,h.box.free 0 (by simp),h.box.free 1 (by simp),h.box.free 2 (by simp),h.box.free 3 (by simp),h.box.free 4 (by simp)⟩
theorem ratom_res (tmps:Array Value){W:World}{s:Nat}(h:OneC W s)(h2:tmps[4]?=some (.pointer (some ⟨s,0,none⟩)))(v0 v1 v2 v3 v4:Value)
  (hv:v0.oneCell'=true∧v1.oneCell'=true∧v2.oneCell'=true∧v3.oneCell'=true∧v4.oneCell'=true):
  (results Tryz.f255 tmps).run Tryz.prog (put5 W s v0 v1 v2 v3 v4)=.ok (.agg #[v0,v1,v2,v3,v4]) (put5 W s v0 v1 v2 v3 v4):=by
 obtain⟨x0,x1,x2,x3,x4,_,_,_,_,_⟩:=h
 simp(maxDischargeDepth:=10) [results,Tryz.results255,h2,go_sem,x0,x1,x2,x3,x4]
theorem r15_atom (a:Nat)(s:ByteArray)(q n deep:Nat)(P:ByteArray)(l:List UInt8)(w:World)(hz:s.size≤4294967280)(h:RX w a s q n 0)(hP:bl P=rLook l)(hN:(bl s).drop (q+P.size)=rNext l)(hq:q+P.size≤s.size)(hn:n≤64)(hd:deep≤32):
  Calls Tryz.prog 255 #[.pointer (some ⟨a,0,none⟩),.string P] w (RePost (rAtom n l) a s deep q n w):=by
 obtain⟨W0,hW0⟩:∃ W0,w.alloc (.cells #[.string ⟨#[]⟩,.string ⟨#[]⟩,.int .i64 0,.string ⟨#[]⟩,.slice none 0 0] 121)=W0:=⟨_,rfl⟩
 have S0:Hid (RdX w W0 a s q n 0):=by rw[←hW0];exact RdX.start h _
 have HP:=hid hP
 have HN:=hid hN
 have ha:=h.sz
 obtain⟨f,x,k⟩:=S0.out.rx.cells
 have c5:=k.c5
 have f5:=k.f5
 have S1:Hid (RdX w (W0.setCell ⟨a,5,none⟩ (.int .i64 ((n:Int)+1))) a s q (n+1) 0):=S0.out.step (kept_set _) (S0.out.rx.count (n+1))
 obtain⟨W1,hW1⟩:∃ W1,W0.setCell ⟨a,5,none⟩ (.int .i64 ((n:Int)+1))=W1:=⟨_,rfl⟩
 have S1':Hid (RdX w W1 a s q (n+1) 0):=by rw[←hW1];exact S1.out
 clear h k hP hN S0 S1
 go_enter Tryz.func255,Tryz.ntmps255
 go_upto_region 2 with(fail)
 clear hW0 hW1 c5 f5
 obtain⟨f,x,k⟩:=S1'.out.rx.cells
 have c5:=k.c5
 clear k
 by_cases n64:n=64
 ·have EN:Hid (rAtom n l=none):=by show _=_;rw[n64];exact atom_long l
  have q1:decide ((64:Int)<((n+1:Nat):Int))=true:=decide_eq_true (by omega)
  have q2:decide (64<n+1)=true:=decide_eq_true (by omega)
  have q3:decide ((64:Int)<(n:Int)+1)=true:=decide_eq_true (by omega)
  clear n64
  go_wp2_with fail
  refine(r15_bad 4 a s q (n+1) 0 W1 S1'.out.rx).mono ?_;rintro e w2 ⟨rfl,hr,hg⟩
  have S2:=hid (S1'.out.step hg hr)
  obtain⟨x0,x1,x2,x3,x4,g0,g1,g2,g3,g4⟩:=S2.out.c
  clear hr hg
  go_wp2_with fail
  refine bodyPost_ret (ratom_res _ S2.out.c rfl _ _ _ _ _ ⟨rfl,rfl,rfl,rfl,rfl⟩) rfl ?_
  exact RePost.no zeroR EN.out (put5_grown S2.out.gr lr _ _ _ _ _) (by decide) (put5_rx S2.out.rx (by omega) _ _ _ _ _)
 have N64:Hid (n<64):=by show _<_;omega
 have q1:decide ((64:Int)<((n+1:Nat):Int))=false:=decide_eq_false (by omega)
 have q2:decide (64<n+1)=false:=decide_eq_false (by omega)
 have q3:decide ((64:Int)<(n:Int)+1)=false:=decide_eq_false (by omega)
 clear n64
 go_wp2_with fail
 clear c5 q1 q2 q3
 refine(r15_Name P _ (by omega)).mono ?_;rintro e w2 ⟨rfl,rfl⟩
 cases hnm:rnameB (bl P) with
 | false=>
  have EN:Hid (rAtom n l=none):=atom_noname (by rw[←HP.out];exact hnm)
  clear hnm
  go_wp2_with fail
  refine(r15_bad 10 a s q (n+1) 0 W1 S1'.out.rx).mono ?_;rintro e w2 ⟨rfl,hr,hg⟩
  have S2:=hid (S1'.out.step hg hr)
  obtain⟨x0,x1,x2,x3,x4,g0,g1,g2,g3,g4⟩:=S2.out.c
  clear hr hg
  go_wp2_with fail
  refine bodyPost_ret (ratom_res _ S2.out.c rfl _ _ _ _ _ ⟨rfl,rfl,rfl,rfl,rfl⟩) rfl ?_
  exact RePost.no zeroR EN.out (put5_grown S2.out.gr lr _ _ _ _ _) (by decide) (put5_rx S2.out.rx (by omega) _ _ _ _ _)
 | true=>
 have ER:Hid (rAtom n l=rAtomR (bl P) (n+1) (rNext l)):=by show _=_;rw[HP.out];exact atom_name (by have:=N64.out;omega) (by rw[←HP.out];exact hnm)
 have HNM:=hid hnm
 have hpz:Hid (0<P.size):=by have:=rname_len hnm;show _<_;omega
 clear hnm
 have H1:Hid (w.heap.size<W1.heap.size):=S1'.out.box.sz
 go_upto_region 9 with(fail)
 obtain⟨W2,hW2⟩:∃ W2,W1.alloc (.cells #[.string P,.int .i64 0,.string ⟨#[]⟩] 48)=W2:=⟨_,rfl⟩
 have S2:Hid (RdX w W2 a s q (n+1) 0):=by rw[←hW2];exact S1'.out.below ((Below.refl _ _).alloc lr _)
 have A2:Hid (Blk W2 W1.heap.size [.string P,.int .i64 0,.string ⟨#[]⟩]):=by rw[←hW2];exact Blk.new W1 [.string P,.int .i64 0,.string ⟨#[]⟩] _
 rw[hW2]
 clear hW2 S1'
 obtain⟨f,x,k⟩:=S2.out.rx.cells
 have c1:=k.c1
 have f1:=k.f1
 clear k
 have S3:Hid (RdX w (W2.setCell ⟨a,1,none⟩ (.int .i64 ((q+P.size:Nat):Int))) a s (q+P.size) (n+1) 0):=S2.out.step (kept_set _) (S2.out.rx.move hq)
 have A3:Hid (Blk (W2.setCell ⟨a,1,none⟩ (.int .i64 ((q+P.size:Nat):Int))) W1.heap.size [.string P,.int .i64 0,.string ⟨#[]⟩]):=A2.out.stayX S2.out (by have:=H1.out;omega) (kept_set _)
 have hL:=r15_look a s (q+P.size) (n+1) 0 _ hz S3.out.rx
 rw[show((q+P.size:Nat):Int)=(q:Int)+(P.size:Int) from by omega] at hL
 go_wp2_with fail
 clear c1 f1
 refine hL.mono ?_;rintro e w4 ⟨P4,q4,rfl,hr,hP4,hN4,hq4,hqq,hg,hs4⟩
 clear hL
 rw[HN.out] at hP4 hN4 hs4
 have HS4:=hid hs4
 rw[show(q:Int)+(P.size:Int)=((q+P.size:Nat):Int) from by omega] at hg
 have S4:=hid (S3.out.step hg hr)
 have A4:=hid (A3.out.stayX S3.out (by have:=H1.out;omega) hg)
 have HP4:=hid hP4
 have HN4:=hid hN4
 have QQ:Hid (q<q4):=by have:=hpz.out;show _<_;omega
 clear hr hP4 hN4 hqq hg hs4 S2 A2 S3 A3
 have hO:=r15_Op P4 w4
 obtain⟨o,ho⟩:∃ o,rOp (bl P4)=o:=⟨_,rfl⟩
 rw[ho] at hO
 have HO:=hid ho
 have ho5:o≤5:=by rw[←ho];exact rOp_le _
 clear ho
 go_wp2_with fail
 refine hO.mono ?_;rintro e w5 ⟨rfl,hb⟩
 have S5:=hid (S4.out.below hb)
 have A5:=hid (A4.out.below hb)
 clear hO hb S4 A4
 have y1:=A5.out.cell 1 _ rfl
 have z1:=A5.out.free 1 (by simp)
 go_upto_region 12 with(fail)
 clear y1 z1
 obtain⟨W6,hW6⟩:∃ W6,w5.setCell ⟨W1.heap.size,1,none⟩ (.int .i64 o)=W6:=⟨_,rfl⟩
 have S6:Hid (RdX w W6 a s q4 (n+1) 0):=by rw[←hW6];exact S5.out.far H1.out _
 have A6:Hid (Blk W6 W1.heap.size [.string P,.int .i64 o,.string ⟨#[]⟩]):=by rw[←hW6];exact A5.out.set 1 (by simp) (.int .i64 o)
 rw[hW6]
 clear hW6 S5 A5
 have y0:=A6.out.cell 0 _ rfl
 have y1:=A6.out.cell 1 _ rfl
 have y2:=A6.out.cell 2 _ rfl
 by_cases o0:o=0
 ·have EY:Hid (rAtom n l=some ((RchM.mk ⟨#[]⟩ P 0 ⟨#[]⟩ none 0 []).pl,rNext l,n+1)):=by
   show _=_;rw[ER.out,pl_atom _ _ _ _ _ _ _ rfl];exact atom_any (by rw[←HP4.out,HO.out,o0])
  have DR':Hid (skipL ((bl s).drop q4)=skipL (rNext l)):=by show _=_;rw[HS4.out,skip_idem]
  subst o0
  obtain⟨x0,x1,x2,x3,x4,g0,g1,g2,g3,g4⟩:=S6.out.c
  go_wp2_with fail
  refine bodyPost_ret (ratom_res _ S6.out.c rfl _ _ _ _ _ ⟨rfl,rfl,rfl,rfl,rfl⟩) rfl ?_
  exact RePost.yes (T:=.mk ⟨#[]⟩ P 0 ⟨#[]⟩ none 0 []) EY.out (put5_grown S6.out.gr lr _ _ _ _ _) (.atom P 0 ⟨#[]⟩ HNM.out (by omega) (fun _=>rfl) (fun h=>by omega)) (leaf_own _ _ _ _ _ _) (by simp[RchM.ht,htL];exact hd) (by simp[RchM.cnt]) (by have:=N64.out;omega) (put5_rx S6.out.rx (by omega) _ _ _ _ _) DR'.out QQ.out
 have q0:decide ((0:Int)<(o:Int))=true:=decide_eq_true (by omega)
 have q1:decide (0<o)=true:=decide_eq_true (by omega)
 have EV:Hid (rAtom n l=rAtomV (bl P) o (n+1) (rNext (rNext l))):=by show _=_;rw[ER.out,atom_op (by rw[←HP4.out,HO.out];exact o0),←HP4.out,HO.out]
 have OP:Hid (0<o):=by show _<_;omega
 clear o0 ER
 obtain⟨f,x,k⟩:=S6.out.rx.cells
 have c1:=k.c1
 have f1:=k.f1
 clear k
 have S7:Hid (RdX w (W6.setCell ⟨a,1,none⟩ (.int .i64 ((q4+P4.size:Nat):Int))) a s (q4+P4.size) (n+1) 0):=S6.out.step (kept_set _) (S6.out.rx.move hq4)
 have A7:Hid (Blk (W6.setCell ⟨a,1,none⟩ (.int .i64 ((q4+P4.size:Nat):Int))) W1.heap.size [.string P,.int .i64 o,.string ⟨#[]⟩]):=A6.out.stayX S6.out (by have:=H1.out;omega) (kept_set _)
 have hL:=r15_look a s (q4+P4.size) (n+1) 0 _ hz S7.out.rx
 rw[show((q4+P4.size:Nat):Int)=(q4:Int)+(P4.size:Int) from by omega] at hL
 go_wp2_with fail
 clear c1 f1 y0 y1 y2
 refine hL.mono ?_;rintro e w8 ⟨P8,q8,rfl,hr,hP8,hN8,hq8,hqq,hg,hs8⟩
 clear hL
 rw[HN4.out] at hP8 hN8 hs8
 rw[show(q4:Int)+(P4.size:Int)=((q4+P4.size:Nat):Int) from by omega] at hg
 have S8:=hid (S7.out.step hg hr)
 have A8:=hid (A7.out.stayX S7.out (by have:=H1.out;omega) hg)
 have HP8:=hid hP8
 have HN8:=hid hN8
 have QQ8:Hid (q<q8):=by have:=QQ.out;show _<_;omega
 clear hr hP8 hN8 hqq hg hs8 S6 A6 S7 A7
 obtain⟨bb,hbb⟩:∃ bb:Bool,decide (bl P8=[]∨bl P8=[40]∨bl P8=[41])=bb:=⟨_,rfl⟩
 go_upto_region 15 with(fail)
 go_cut [72] (fun v wx=>v=.bool bb∧w8=wx)
 case first=>
  by_cases h1:bl P8=[]
  ·have E1:P8.toList=[]:=by rw[bl_toList];exact h1
   have E2:Hid (bb=true):=by show _=_;rw[←hbb];exact decide_eq_true (.inl h1)
   clear hbb h1
   go_wp2_with fail
   go_meet
   exact⟨by rw[E2.out],rfl⟩
  by_cases h2:bl P8=[40]
  ·have E1:P8.toList=[40]:=by rw[bl_toList];exact h2
   have E2:Hid (bb=true):=by show _=_;rw[←hbb];exact decide_eq_true (.inr (.inl h2))
   clear hbb h1 h2
   go_wp2_with fail
   go_meet
   exact⟨by rw[E2.out],rfl⟩
  by_cases h3:bl P8=[41]
  ·have E1:P8.toList=[41]:=by rw[bl_toList];exact h3
   have E2:Hid (bb=true):=by show _=_;rw[←hbb];exact decide_eq_true (.inr (.inr h3))
   clear hbb h1 h2 h3
   go_wp2_with fail
   go_meet
   exact⟨by rw[E2.out],rfl⟩
  ·have E1:(P8.toList==([]:List UInt8))=false:=by rw[bl_toList,beq_eq_false_iff_ne];exact h1
   have E3:(P8.toList==([40]:List UInt8))=false:=by rw[bl_toList,beq_eq_false_iff_ne];exact h2
   have E4:(P8.toList==([41]:List UInt8))=false:=by rw[bl_toList,beq_eq_false_iff_ne];exact h3
   have E5:P8.toList.isEmpty=false:=by rw[bl_toList,List.isEmpty_eq_false_iff];exact h1
   have E2:Hid (bb=false):=by show _=_;rw[←hbb];exact decide_eq_false (by rintro(h | h | h)<;>contradiction)
   clear hbb h1 h2 h3
   go_wp2_with fail
   go_meet
   exact⟨by rw[E2.out],rfl⟩
 case rest=>
 obtain⟨rfl,rfl⟩:=hcut
 cases bb with
 | true=>
  have EN:Hid (rAtom n l=none):=by show _=_;rw[EV.out];exact atom_nover (by rw[←HP8.out];exact of_decide_eq_true hbb)
  clear hbb
  go_wp2_with fail
  refine(r15_bad 3 a s q8 (n+1) 0 w8 S8.out.rx).mono ?_;rintro e w2 ⟨rfl,hr,hg⟩
  have S2:=hid (S8.out.step hg hr)
  obtain⟨x0,x1,x2,x3,x4,g0,g1,g2,g3,g4⟩:=S2.out.c
  clear hr hg
  go_wp2_with fail
  refine bodyPost_ret (ratom_res _ S2.out.c rfl _ _ _ _ _ ⟨rfl,rfl,rfl,rfl,rfl⟩) rfl ?_
  exact RePost.no zeroR EN.out (put5_grown S2.out.gr lr _ _ _ _ _) (by decide) (put5_rx S2.out.rx (by omega) _ _ _ _ _)
 | false=>
 have HB:Hid (¬ (rLook (rNext (rNext l))=[]∨rLook (rNext (rNext l))=[40]∨rLook (rNext (rNext l))=[41])):=by rw[←HP8.out];exact of_decide_eq_false hbb
 clear hbb
 obtain⟨ve,hve⟩:∃ ve,verE 2 P8=ve:=⟨_,rfl⟩
 have HV:=hid hve
 have hVC:=r12_Check 2 P8 w8 (by omega)
 rw[hve] at hVC
 clear hve
 go_wp2_with fail
 refine hVC.mono ?_;rintro e w9 ⟨rfl,hb⟩
 have S9:=hid (S8.out.below hb)
 have A9:=hid (A8.out.below hb)
 clear hb hVC S8 A8
 by_cases hv0:ve=0
 ·have q2:(ve != 0)=false:=by simp[hv0]
  have EY:Hid (rAtom n l=some ((RchM.mk ⟨#[]⟩ P o P8 none 0 []).pl,rNext (rNext (rNext l)),n+1)):=by
   show _=_;rw[EV.out,pl_atom _ _ _ _ _ _ _ rfl,atom_ver HB.out (by rw[←HP8.out,mk_bl,HV.out,hv0]),HP8.out]
  have VZ:Hid (verE 2 P8=0):=by show _=_;rw[HV.out,hv0]
  clear hv0
  have y2:=A9.out.cell 2 _ rfl
  have z2:=A9.out.free 2 (by simp)
  go_upto_region 23 with(fail)
  clear y2 z2
  obtain⟨W10,hW10⟩:∃ W10,w9.setCell ⟨W1.heap.size,2,none⟩ (.string P8)=W10:=⟨_,rfl⟩
  have S10:Hid (RdX w W10 a s q8 (n+1) 0):=by rw[←hW10];exact S9.out.far H1.out _
  have A10:Hid (Blk W10 W1.heap.size [.string P,.int .i64 o,.string P8]):=by rw[←hW10];exact A9.out.set 2 (by simp) (.string P8)
  rw[hW10]
  clear hW10 S9 A9
  obtain⟨f,x,k⟩:=S10.out.rx.cells
  have c1:=k.c1
  have f1:=k.f1
  clear k
  have S11:Hid (RdX w (W10.setCell ⟨a,1,none⟩ (.int .i64 ((q8+P8.size:Nat):Int))) a s (q8+P8.size) (n+1) 0):=S10.out.step (kept_set _) (S10.out.rx.move hq8)
  have A11:Hid (Blk (W10.setCell ⟨a,1,none⟩ (.int .i64 ((q8+P8.size:Nat):Int))) W1.heap.size [.string P,.int .i64 o,.string P8]):=A10.out.stayX S10.out (by have:=H1.out;omega) (kept_set _)
  go_upto_region 24 with(fail)
  clear c1 f1
  obtain⟨W11,hW11⟩:∃ W11,W10.setCell ⟨a,1,none⟩ (.int .i64 ((q8:Int)+(P8.size:Int)))=W11:=⟨_,rfl⟩
  rw[show((q8+P8.size:Nat):Int)=(q8:Int)+(P8.size:Int) from by omega,hW11] at S11 A11
  rw[hW11]
  clear hW11 S10 A10
  obtain⟨x0,x1,x2,x3,x4,g0,g1,g2,g3,g4⟩:=S11.out.c
  have y0:=A11.out.cell 0 _ rfl
  have y1:=A11.out.cell 1 _ rfl
  have y2:=A11.out.cell 2 _ rfl
  go_wp2_with fail
  refine bodyPost_ret (ratom_res _ S11.out.c rfl _ _ _ _ _ ⟨rfl,rfl,rfl,rfl,rfl⟩) rfl ?_
  exact RePost.yes (T:=.mk ⟨#[]⟩ P o P8 none 0 []) EY.out (put5_grown S11.out.gr lr _ _ _ _ _) (.atom P o P8 HNM.out ho5 (fun h=>by have:=OP.out;omega) (fun _=>VZ.out)) (leaf_own _ _ _ _ _ _) (by simp[RchM.ht,htL];exact hd) (by simp[RchM.cnt]) (by have:=N64.out;omega) (put5_rx S11.out.rx (by omega) _ _ _ _ _) (by rw[HN8.out]) (by have:=QQ8.out;omega)
 ·have q2:(ve != 0)=true:=by simp[hv0]
  have EN:Hid (rAtom n l=none):=by show _=_;rw[EV.out];exact atom_badver (by rw[←HP8.out,mk_bl,HV.out];exact hv0)
  have HVN:=HidN.mk hv0
  clear hv0
  go_wp2_with fail
  refine(r15_bad ve a s q8 (n+1) 0 w9 S9.out.rx).mono ?_;rintro e w2 ⟨rfl,hr,hg⟩
  have S2:=hid (S9.out.step hg hr)
  obtain⟨x0,x1,x2,x3,x4,g0,g1,g2,g3,g4⟩:=S2.out.c
  clear hr hg
  go_wp2_with fail
  refine bodyPost_ret (ratom_res _ S2.out.c rfl _ _ _ _ _ ⟨rfl,rfl,rfl,rfl,rfl⟩) rfl ?_
  exact RePost.no zeroR EN.out (put5_grown S2.out.gr lr _ _ _ _ _) HVN.out (put5_rx S2.out.rx (by omega) _ _ _ _ _)
end
end Go.Proofs.YtdfdllbebfoggaaGreatDoor
