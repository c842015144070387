/- A part of the proof that ModelChecks holds. No condition. -/
import Derived.Deep.RegionHeld3
import Derived.Test.YtdfdllbebfoggaaGreatDoorD31
import Derived.Test.YtdfdllbebfoggaaGreatDoorD36
set_option maxRecDepth 100000
set_option maxHeartbeats 20000000
set_option linter.unusedVariables false
set_option linter.unusedSimpArgs false
namespace Go.Proofs.YtdfdllbebfoggaaGreatDoor
section
open Go.RowKit Go.Deep
theorem r15_sign (o:Nat)(ho:o<6)(w:World):
  Calls Tryz.prog 261 #[.int .i64 o] w fun e w'=>e=.returned (.string (rSign o))∧Below w.heap.size w w':=by
 rcases(by omega:o=0∨o=1∨o=2∨o=3∨o=4∨o=5) with rfl | rfl | rfl | rfl | rfl | rfl
 all_goals
  go_enter Tryz.func261,Tryz.ntmps261
  go_wp2_with fail
  go_ret
  exact⟨rfl,bR.alloc lr _⟩
def sgOn (l:LU)(k:Nat):Prop:=∀ j,1≤j→j<k→bl (rSign j)≠l
theorem rOp_on {l:LU}(h:sgOn l 6):rOp l=0:=by
 have h1:=h 1 (by omega) (by omega);have h2:=h 2 (by omega) (by omega);have h3:=h 3 (by omega) (by omega);have h4:=h 4 (by omega) (by omega);have h5:=h 5 (by omega) (by omega)
 rw[rSign_at _ (by omega)] at h1 h2 h3 h4 h5
 unfold rOp
 rw[if_neg (fun e=>h1 e.symm),if_neg (fun e=>h2 e.symm),if_neg (fun e=>h3 e.symm),if_neg (fun e=>h4 e.symm),if_neg (fun e=>h5 e.symm)]
theorem r15_Op (s:BA)(w:World):
  Calls Tryz.prog 280 #[.string s] w fun e w'=>e=.returned (.int .i64 (rOp (bl s)))∧Below w.heap.size w w':=by
 go_enter Tryz.func280,Tryz.ntmps280
 go_wp2_with fail
 go_loopw [3] (fun i wr=>∃ k:Nat,1≤k∧k≤6∧i=.int .i64 k∧Hid (sgOn (bl s) k)∧Hid (Below w.heap.size w wr)) (fun i _=>6-(intOf i).toNat)
 case atStart=>exact⟨1,by omega,by omega,rfl,fun j h1 h2=>by omega,bR⟩
 case round=>
  obtain⟨k,hk1,hk,rfl,HR,HB⟩:=hrel
  by_cases hlt:k<6
  ·have hS:=r15_sign k hlt wr
   cases hq:((rSign k).toList==s.toList) with
   | true=>
    have E:Hid (rOp (bl s)=k):=rOp_found hlt (by rw[beq_bl] at hq;rw[dO hq])
    go_wp2_with fail
    refine hS.mono ?_;rintro e w2 ⟨rfl,hb⟩
    have B2:=hid (bthen HB.out hb)
    clear hb hS
    go_wp2_with fail
    go_ret
    exact⟨ret_int (by rw[E.out]),B2.out⟩
   | false=>
    have HN:Hid (sgOn (bl s) (k+1)):=by
     intro j h1 h2
     rcases(by omega:j<k∨j=k) with h3 | rfl
     ·exact HR.out j h1 h3
     ·rw[beq_bl] at hq;exact fun e=>of_decide_eq_false hq (bl_inj e)
    go_wp2_with fail
    refine hS.mono ?_;rintro e w2 ⟨rfl,hb⟩
    have B2:=hid (bthen HB.out hb)
    clear hb hS
    go_wp2_with fail
    go_roundw
    case rel=>exact⟨k+1,by omega,by omega,by go_num,HN,B2⟩
    case measure=>simp[intOf];omega
  ·have E:Hid (rOp (bl s)=0):=rOp_on (by have:=HR.out;rwa [show k=6 by omega] at this)
   go_wp2_with fail
   go_ret
   exact⟨ret_int (by rw[E.out];rfl),HB.out⟩
theorem r15_Word_And (s:BA)(w:World)(h:bl s=wAnd):
  Calls Tryz.prog 256 #[.string s] w fun e w'=>e=.returned (.bool (rWordB (bl s)))∧w=w':=by
 have E:s.toList=[97,110,100]:=by rw[bl_toList];exact h
 have R:Hid (rWordB (bl s)=true):=by show _=_;rw[h];rfl
 clear h
 go_enter Tryz.func256,Tryz.ntmps256
 go_wp2_with fail
 go_ret
 exact⟨ret_bool R.out.symm,rfl⟩
theorem r15_Word_Or (s:BA)(w:World)(h:bl s=wOr):
  Calls Tryz.prog 256 #[.string s] w fun e w'=>e=.returned (.bool (rWordB (bl s)))∧w=w':=by
 have E:s.toList=[111,114]:=by rw[bl_toList];exact h
 have R:Hid (rWordB (bl s)=true):=by show _=_;rw[h];rfl
 clear h
 go_enter Tryz.func256,Tryz.ntmps256
 go_wp2_with fail
 go_ret
 exact⟨ret_bool R.out.symm,rfl⟩
theorem r15_Word_If (s:BA)(w:World)(h:bl s=wIf):
  Calls Tryz.prog 256 #[.string s] w fun e w'=>e=.returned (.bool (rWordB (bl s)))∧w=w':=by
 have E:s.toList=[105,102]:=by rw[bl_toList];exact h
 have R:Hid (rWordB (bl s)=true):=by show _=_;rw[h];rfl
 clear h
 go_enter Tryz.func256,Tryz.ntmps256
 go_wp2_with fail
 go_ret
 exact⟨ret_bool R.out.symm,rfl⟩
theorem r15_Word_Unless (s:BA)(w:World)(h:bl s=wUnless):
  Calls Tryz.prog 256 #[.string s] w fun e w'=>e=.returned (.bool (rWordB (bl s)))∧w=w':=by
 have E:s.toList=[117,110,108,101,115,115]:=by rw[bl_toList];exact h
 have R:Hid (rWordB (bl s)=true):=by show _=_;rw[h];rfl
 clear h
 go_enter Tryz.func256,Tryz.ntmps256
 go_wp2_with fail
 go_ret
 exact⟨ret_bool R.out.symm,rfl⟩
theorem r15_Word_With (s:BA)(w:World)(h:bl s=wWith):
  Calls Tryz.prog 256 #[.string s] w fun e w'=>e=.returned (.bool (rWordB (bl s)))∧w=w':=by
 have E:s.toList=[119,105,116,104]:=by rw[bl_toList];exact h
 have R:Hid (rWordB (bl s)=true):=by show _=_;rw[h];rfl
 clear h
 go_enter Tryz.func256,Tryz.ntmps256
 go_wp2_with fail
 go_ret
 exact⟨ret_bool R.out.symm,rfl⟩
theorem r15_Word_Without (s:BA)(w:World)(h:bl s=wWithout):
  Calls Tryz.prog 256 #[.string s] w fun e w'=>e=.returned (.bool (rWordB (bl s)))∧w=w':=by
 have E:s.toList=[119,105,116,104,111,117,116]:=by rw[bl_toList];exact h
 have R:Hid (rWordB (bl s)=true):=by show _=_;rw[h];rfl
 clear h
 go_enter Tryz.func256,Tryz.ntmps256
 go_wp2_with fail
 go_ret
 exact⟨ret_bool R.out.symm,rfl⟩
theorem r15_Word (s:BA)(w:World):
  Calls Tryz.prog 256 #[.string s] w fun e w'=>e=.returned (.bool (rWordB (bl s)))∧w=w':=by
 rcases word_cases (bl s) with h | h | h | h | h | h | h
 ·exact r15_Word_And s w h
 ·exact r15_Word_Or s w h
 ·exact r15_Word_If s w h
 ·exact r15_Word_Unless s w h
 ·exact r15_Word_With s w h
 ·exact r15_Word_Without s w h
 ·obtain⟨h1,h2,h3,h4,h5,h6⟩:=not_word h
  have R:=hid h
  clear h
  go_enter Tryz.func256,Tryz.ntmps256
  go_wp2_with fail
  go_ret
  exact⟨ret_bool R.out.symm,rfl⟩
theorem r15_right_And (op:BA)(n:Nat)(w:World)(h:bl op=wAnd):
  Calls Tryz.prog 281 #[.string op,.int .i64 n] w fun e w'=>e=.returned (.bool (rCloses (bl op) n))∧w=w':=by
 have E:op.toList=[97,110,100]:=by rw[bl_toList];exact h
 have R:Hid (rCloses (bl op) n=rCloses wAnd n):=by show _=_;rw[h]
 clear h
 go_enter Tryz.func281,Tryz.ntmps281
 go_wp2_with fail
 go_ret
 exact⟨ret_bool (by rw[R.out,closes_And,bI];simp;omega),rfl⟩
theorem r15_right_Or (op:BA)(n:Nat)(w:World)(h:bl op=wOr):
  Calls Tryz.prog 281 #[.string op,.int .i64 n] w fun e w'=>e=.returned (.bool (rCloses (bl op) n))∧w=w':=by
 have E:op.toList=[111,114]:=by rw[bl_toList];exact h
 have R:Hid (rCloses (bl op) n=rCloses wOr n):=by show _=_;rw[h]
 clear h
 go_enter Tryz.func281,Tryz.ntmps281
 go_wp2_with fail
 go_ret
 exact⟨ret_bool (by rw[R.out,closes_Or,bI];simp;omega),rfl⟩
theorem r15_right_If (op:BA)(n:Nat)(w:World)(h:bl op=wIf):
  Calls Tryz.prog 281 #[.string op,.int .i64 n] w fun e w'=>e=.returned (.bool (rCloses (bl op) n))∧w=w':=by
 have E:op.toList=[105,102]:=by rw[bl_toList];exact h
 have R:Hid (rCloses (bl op) n=rCloses wIf n):=by show _=_;rw[h]
 clear h
 by_cases n2:n=2
 ·subst n2
  go_enter Tryz.func281,Tryz.ntmps281
  go_wp2_with fail
  go_ret
  exact⟨ret_bool (by rw[R.out];rfl),rfl⟩
 ·have q2:((n:Int)==2)=false:=by simp;omega
  by_cases n3:n=3
  ·subst n3
   go_enter Tryz.func281,Tryz.ntmps281
   go_wp2_with fail
   go_ret
   exact⟨ret_bool (by rw[R.out];rfl),rfl⟩
  ·have q3:((n:Int)==3)=false:=by simp;omega
   go_enter Tryz.func281,Tryz.ntmps281
   go_wp2_with fail
   go_ret
   exact⟨ret_bool (by rw[R.out,closes_If];simp[n2,n3]),rfl⟩
theorem r15_right_Unless (op:BA)(n:Nat)(w:World)(h:bl op=wUnless):
  Calls Tryz.prog 281 #[.string op,.int .i64 n] w fun e w'=>e=.returned (.bool (rCloses (bl op) n))∧w=w':=by
 have E:op.toList=[117,110,108,101,115,115]:=by rw[bl_toList];exact h
 have R:Hid (rCloses (bl op) n=rCloses wUnless n):=by show _=_;rw[h]
 clear h
 by_cases n2:n=2
 ·subst n2
  go_enter Tryz.func281,Tryz.ntmps281
  go_wp2_with fail
  go_ret
  exact⟨ret_bool (by rw[R.out];rfl),rfl⟩
 ·have q2:((n:Int)==2)=false:=by simp;omega
  by_cases n3:n=3
  ·subst n3
   go_enter Tryz.func281,Tryz.ntmps281
   go_wp2_with fail
   go_ret
   exact⟨ret_bool (by rw[R.out];rfl),rfl⟩
  ·have q3:((n:Int)==3)=false:=by simp;omega
   go_enter Tryz.func281,Tryz.ntmps281
   go_wp2_with fail
   go_ret
   exact⟨ret_bool (by rw[R.out,closes_Unless];simp[n2,n3]),rfl⟩
theorem r15_right_With (op:BA)(n:Nat)(w:World)(h:bl op=wWith):
  Calls Tryz.prog 281 #[.string op,.int .i64 n] w fun e w'=>e=.returned (.bool (rCloses (bl op) n))∧w=w':=by
 have E:op.toList=[119,105,116,104]:=by rw[bl_toList];exact h
 have R:Hid (rCloses (bl op) n=rCloses wWith n):=by show _=_;rw[h]
 clear h
 go_enter Tryz.func281,Tryz.ntmps281
 go_wp2_with fail
 go_ret
 exact⟨ret_bool (by rw[R.out,closes_With,bI];simp;omega),rfl⟩
theorem r15_right_Without (op:BA)(n:Nat)(w:World)(h:bl op=wWithout):
  Calls Tryz.prog 281 #[.string op,.int .i64 n] w fun e w'=>e=.returned (.bool (rCloses (bl op) n))∧w=w':=by
 have E:op.toList=[119,105,116,104,111,117,116]:=by rw[bl_toList];exact h
 have R:Hid (rCloses (bl op) n=rCloses wWithout n):=by show _=_;rw[h]
 clear h
 go_enter Tryz.func281,Tryz.ntmps281
 go_wp2_with fail
 go_ret
 exact⟨ret_bool (by rw[R.out,closes_Without,bI];simp;omega),rfl⟩
theorem r15_right (op:BA)(n:Nat)(w:World)(hw:rWordB (bl op)=true):
  Calls Tryz.prog 281 #[.string op,.int .i64 n] w fun e w'=>e=.returned (.bool (rCloses (bl op) n))∧w=w':=by
 rcases rWordB_iff.1 hw with h | h | h | h | h | h
 ·exact r15_right_And op n w h
 ·exact r15_right_Or op n w h
 ·exact r15_right_If op n w h
 ·exact r15_right_Unless op n w h
 ·exact r15_right_With op n w h
 ·exact r15_right_Without op n w h
theorem r15_skip (a:Nat)(s:BA)(p n:Nat)(c:Int)(w:World)(hz:s.size≤4294967280)(h:RX w a s p n c):
  Calls Tryz.prog 257 #[.pointer (some ⟨a,0,none⟩)] w fun e w'=>e=.returned (.tuple #[])∧RX w' a s (p+runN blankB ((bl s).drop p)) n c∧w.grownBy w' (some a):=by
 have HR:=hid h
 have hp:=h.le
 clear h
 go_enter Tryz.func257,Tryz.ntmps257
 go_wp2_with fail
 go_loopw [] (fun wr=>∃ k:Nat,k≤s.size∧Hid (RX wr a s k n c)∧Hid (w.grownBy wr (some a))∧Hid (p+runN blankB ((bl s).drop p)=k+runN blankB ((bl s).drop k))) (fun wr=>s.size-atOf a wr)
 case atStart=>exact⟨p,hp,HR,World.grownBy.refl _ _,rfl⟩
 case round=>
  clear HR
  obtain⟨k,hk,R0,G0,HN⟩:=hrel
  obtain⟨f,x,q⟩:=R0.out.cells
  have c0:=q.c0
  have c1:=q.c1
  have f1:=q.f1
  clear q
  by_cases hlt:k<s.size
  ·obtain⟨d,hd⟩:∃ d:UInt8,s[k]=d:=⟨_,rfl⟩
   have e1:decide (k<s.size)=true:=dT hlt
   have e2:decide ((k:Int)<(s.size:Int))=true:=dT (by omega)
   cases h32:(d==32) with
   | true=>
    have e32:((d.toNat:Int)==32)=true:=(toNat_beq d 32).trans h32
    have HN2:Hid (p+runN blankB ((bl s).drop p)=(k+1)+runN blankB ((bl s).drop (k+1))):=by
     have:=HN.out;rw[runN_step s k hlt (by rw[hd];exact h32)] at this;show _=_;omega
    clear h32
    go_wp2_with fail
    go_quiet (fail)
    go_wp2_with fail
    have R1:=hid ((R0.out.drewN nq).move (q:=k+1) (by omega))
    have G1:Hid (w.grownBy ((wr.drewN nq).setCell ⟨a,1,none⟩ (.int .i64 ((k+1:Nat):Int))) (some a)):=by
     have g0:w.grownBy (wr.drewN nq) (some a):=grown_below G0.out ⟨rfl,rfl,rfl,lr,fun _ _=>rfl⟩
     exact only_setCell (p:=⟨a,1,none⟩) g0 (.inl rfl) _
    go_roundw
    case rel=>exact⟨k+1,by omega,R1,G1,HN2⟩
    case measure=>show s.size-atOf a ((wr.drewN nq).setCell ⟨a,1,none⟩ (.int .i64 ((k+1:Nat):Int)))<_;rw[R1.out.at_,R0.out.at_];omega
   | false=>
    have e32:((d.toNat:Int)==32)=false:=(toNat_beq d 32).trans h32
    have HE:Hid (p+runN blankB ((bl s).drop p)=k):=by
     have:=HN.out;rw[runN_halt s k hlt (by rw[hd];exact h32)] at this;exact this
    clear h32
    go_wp2_with fail
    go_quiet (fail)
    go_wp2_with fail
    go_end0
    exact⟨rfl,by rw[HE.out];exact R0.out.drewN nq,grown_below G0.out ⟨rfl,rfl,rfl,lr,fun _ _=>rfl⟩⟩
  ·have e1:decide (k<s.size)=false:=dF hlt
   have e2:decide ((k:Int)<(s.size:Int))=false:=dF (by omega)
   have HE:Hid (p+runN blankB ((bl s).drop p)=k):=by
    have:=HN.out;rw[runN_end _ s k hlt] at this;exact this
   go_wp2_with fail
   go_quiet (fail)
   go_wp2_with fail
   go_end0
   exact⟨rfl,by rw[HE.out];exact R0.out.drewN nq,grown_below G0.out ⟨rfl,rfl,rfl,lr,fun _ _=>rfl⟩⟩
def LookPost (a:Nat)(s:BA)(p n:Nat)(c:Int)(w:World)(e:Ending)(w':World):Prop:=
 ∃ (P:BA) (q:Nat),e=.returned (.string P)∧RX w' a s q n c∧bl P=rLook ((bl s).drop p)∧(bl s).drop (q+P.size)=rNext ((bl s).drop p)∧q+P.size≤s.size∧p≤q∧w.grownBy w' (some a)∧(bl s).drop q=skipL ((bl s).drop p)
theorem rLen_look (s:BA)(q:Nat)(h:q<s.size)(d:UInt8)(hd:s[q]=d)(h40:(d==40)=false)(h41:(d==41)=false):rLen ((bl s).drop q)=rEnd 0 ((bl s).drop q):=by
 rw[rLen_at s q h d hd];unfold brB;rw[h40,h41];rfl
theorem LookPost.mk {a:Nat}{s P:BA}{p q n:Nat}{c:Int}{w w':World}(hr:RX w' a s q n c)(hs:skipL ((bl s).drop p)=(bl s).drop q)(hq:q≤s.size)(hP:bl P=((bl s).drop q).take (rLen ((bl s).drop q)))(hpq:p≤q)(hg:w.grownBy w' (some a)):LookPost a s p n c w (.returned (.string P)) w':=by
 have hz:P.size=rLen ((bl s).drop q):=by
  rw[←bl_length,hP,List.length_take];have:=rLen_le ((bl s).drop q);omega
 have hle:=rLen_le ((bl s).drop q)
 rw[List.length_drop,bl_length] at hle
 refine⟨P,q,rfl,hr,?_,?_,by omega,hpq,hg,hs.symm⟩
 ·unfold rLook;rw[hs,hP]
 ·unfold rNext;rw[hs,List.drop_drop,hz]
theorem skip_head_ne {l:LU}{s:BA}{q:Nat}(hs:skipL l=(bl s).drop q)(h:q<s.size)(d:UInt8)(hd:s[q]=d):(d==32)=false:=by
 rw[drop_cons s q h,hd] at hs;exact skip_head hs
theorem r15_look (a:Nat)(s:BA)(p n:Nat)(c:Int)(w:World)(hz:s.size≤4294967280)(h:RX w a s p n c):
  Calls Tryz.prog 213 #[.pointer (some ⟨a,0,none⟩)] w (LookPost a s p n c w):=by
 have hS:=r15_skip a s p n c w hz h
 obtain⟨q,hq⟩:∃ q,p+runN blankB ((bl s).drop p)=q:=⟨_,rfl⟩
 have SK:Hid (skipL ((bl s).drop p)=(bl s).drop q):=by show _=_;rw[skip_at,hq]
 have PQ:Hid (p≤q):=by show _≤_;omega
 rw[hq] at hS
 clear h hq
 go_enter Tryz.func213,Tryz.ntmps213
 go_wp2_with fail
 refine hS.mono ?_;rintro e w1 ⟨rfl,hr,hg⟩
 have R1:=hid hr
 have G1:=hid hg
 have hqs:=hr.le
 obtain⟨f,x,k⟩:=hr.cells
 have c0:=k.c0
 have c1:=k.c1
 clear hr hg hS k
 by_cases hlt:q<s.size
 ·obtain⟨d,hd⟩:∃ d:UInt8,s[q]=d:=⟨_,rfl⟩
  have h32:=hid (skip_head_ne SK.out hlt d hd)
  have e1:((q:Int)==(s.size:Int))=false:=by simp;omega
  have LA:=hid (rLen_at s q hlt d hd)
  cases h40:(d==40) with
  | true=>
   have e40:((d.toNat:Int)==40)=true:=(toNat_beq d 40).trans h40
   have E:Hid (bl (s.extract q (q+1))=((bl s).drop q).take (rLen ((bl s).drop q))):=by show _=_;rw[bl_extract,LA.out];unfold brB;rw[h40];simp
   clear h40
   go_wp2_with fail
   go_ret
   exact LookPost.mk R1.out SK.out hqs E.out PQ.out G1.out
  | false=>
  have e40:((d.toNat:Int)==40)=false:=(toNat_beq d 40).trans h40
  cases h41:(d==41) with
  | true=>
   have e41:((d.toNat:Int)==41)=true:=(toNat_beq d 41).trans h41
   have E:Hid (bl (s.extract q (q+1))=((bl s).drop q).take (rLen ((bl s).drop q))):=by show _=_;rw[bl_extract,LA.out];unfold brB;rw[h41];simp
   clear h40 h41
   go_wp2_with fail
   go_ret
   exact LookPost.mk R1.out SK.out hqs E.out PQ.out G1.out
  | false=>
  have e41:((d.toNat:Int)==41)=false:=(toNat_beq d 41).trans h41
  have LE:=hid (rLen_look s q hlt d hd h40 h41)
  obtain⟨R,hR⟩:∃ R,q+rEnd 0 ((bl s).drop q)=R:=⟨_,rfl⟩
  have FIN:Hid (∀ k,k=R→k≤s.size→q≤k∧bl (s.extract q k)=((bl s).drop q).take (rLen ((bl s).drop q))):=by
   rintro k rfl hk
   refine⟨by omega,?_⟩
   rw[bl_extract,LE.out,←hR];congr 1;omega
  have HR0:=hid hR
  clear h40 h41 hR
  go_wp2_with fail
  clear e40 e41 hd e1
  go_loop [3,4] (fun i o=>∃ k m:Nat,i=.int .i64 k∧o=.int .i64 m∧k≤s.size∧m≤k∧q≤k∧Hid (k+rEnd m ((bl s).drop k)=R)) (fun i _=>s.size-(intOf i).toNat)
  case atStart=>exact⟨q,0,rfl,rfl,hqs,z0,lr,HR0.out⟩
  case round=>
   clear HR0
   obtain⟨k,m,rfl,rfl,hk,hm,hqk,HE⟩:=hrel
   by_cases hlk:k<s.size
   ·obtain⟨d,hd⟩:∃ d:UInt8,s[k]=d:=⟨_,rfl⟩
    have ST:=hid (rEnd_at s k m hlk d hd)
    have d0:decide ((k:Int)<(s.size:Int))=true:=dT (by omega)
    have d1:decide (k<s.size)=true:=dT hlk
    cases h32:(d==32) with
    | true=>
     have e32:((d.toNat:Int) != 32)=false:=by rw[bne,show((d.toNat:Int)==32)=true from(toNat_beq d 32).trans h32];rfl
     have E:Hid (k=R):=by have h1:=HE.out;rw[ST.out,h32] at h1;exact h1
     clear h32
     go_wp2_with fail
     go_quiet (fail)
     go_wp2_with fail
     go_ret
     exact LookPost.mk (R1.out.drewN _) SK.out hqs (FIN.out k E.out hk).2 PQ.out (grown_below G1.out ⟨rfl,rfl,rfl,lr,fun _ _=>rfl⟩)
    | false=>
     have e32:((d.toNat:Int) != 32)=true:=by rw[bne,show((d.toNat:Int)==32)=false from(toNat_beq d 32).trans h32];rfl
     cases h40:(d==40) with
     | true=>
      have e40:((d.toNat:Int)==40)=true:=(toNat_beq d 40).trans h40
      have e41:((d.toNat:Int)==41)=false:=by rw[show d=40 from by simpa using h40];rfl
      have HN:Hid ((k+1)+rEnd (m+1) ((bl s).drop (k+1))=R):=by have h1:=HE.out;rw[ST.out,h32,h40] at h1;simp at h1;show _=_;omega
      clear h32 h40
      go_wp2_with fail
      go_round
      case rel=>exact⟨k+1,m+1,by go_num,by go_num,by omega,by omega,by omega,HN⟩
      case measure=>simp[intOf];omega
     | false=>
      have e40:((d.toNat:Int)==40)=false:=(toNat_beq d 40).trans h40
      cases h41:(d==41) with
      | true=>
       have e41:((d.toNat:Int)==41)=true:=(toNat_beq d 41).trans h41
       by_cases m0:m=0
       ·have E:Hid (k=R):=by have h1:=HE.out;rw[ST.out,h32,h40,h41,if_neg (by decide),if_neg (by decide),if_pos rfl,if_pos m0] at h1;exact h1
        subst m0
        clear h32 h40 h41
        go_wp2_with fail
        go_quiet (fail)
        go_wp2_with fail
        go_ret
        exact LookPost.mk (R1.out.drewN _) SK.out hqs (FIN.out k E.out hk).2 PQ.out (grown_below G1.out ⟨rfl,rfl,rfl,lr,fun _ _=>rfl⟩)
       ·have HN:Hid ((k+1)+rEnd (m-1) ((bl s).drop (k+1))=R):=by have h1:=HE.out;rw[ST.out,h32,h40,h41,if_neg (by decide),if_neg (by decide),if_pos rfl,if_neg m0] at h1;show _=_;omega
        have en:decide ((m:Int)-1<0)=false:=dF (by omega)
        have hm1:1≤m:=by omega
        clear h32 h40 h41
        go_wp2_with fail
        go_round
        case rel=>exact⟨k+1,m-1,by go_num,by congr 1;omega,by omega,by omega,by omega,HN⟩
        case measure=>simp[intOf];omega
      | false=>
       have e41:((d.toNat:Int)==41)=false:=(toNat_beq d 41).trans h41
       have HN:Hid ((k+1)+rEnd m ((bl s).drop (k+1))=R):=by have h1:=HE.out;rw[ST.out,h32,h40,h41,if_neg (by decide),if_neg (by decide),if_neg (by decide)] at h1;show _=_;omega
       clear h32 h40 h41
       go_wp2_with fail
       go_round
       case rel=>exact⟨k+1,m,by go_num,rfl,by omega,by omega,by omega,HN⟩
       case measure=>simp[intOf];omega
   ·have d0:decide ((k:Int)<(s.size:Int))=false:=dF (by omega)
    have d1:decide (k<s.size)=false:=dF hlk
    have E:Hid (k=R):=by have h1:=HE.out;rw[rEnd_none s k m hlk] at h1;exact h1
    go_wp2_with fail
    go_quiet (fail)
    go_wp2_with fail
    go_ret
    exact LookPost.mk (R1.out.drewN _) SK.out hqs (FIN.out k E.out hk).2 PQ.out (grown_below G1.out ⟨rfl,rfl,rfl,lr,fun _ _=>rfl⟩)
 ·have e1:((q:Int)==(s.size:Int))=true:=by simp;omega
  have E:Hid (bl ⟨#[]⟩=((bl s).drop q).take (rLen ((bl s).drop q))):=by show _=_;rw[drop_end s q hlt];rfl
  go_wp2_with fail
  go_ret
  exact LookPost.mk R1.out SK.out hqs E.out PQ.out G1.out
theorem r15_bad (v:Int)(a:Nat)(s:BA)(p n:Nat)(c:Int)(w:World)(h:RX w a s p n c):
  Calls Tryz.prog 214 #[.pointer (some ⟨a,0,none⟩),.int .i64 v] w fun e w'=>e=.returned (.tuple #[])∧RX w' a s p n v∧w.grownBy w' (some a):=by
 obtain⟨f,x,k⟩:=h.cells
 have HR:=hid h
 obtain⟨c0,c1,c2,c3,c4,c5,f1,f2,f3,f4,f5⟩:=k
 clear h
 go_enter Tryz.func214,Tryz.ntmps214
 go_wp2_with fail
 go_end0
 refine⟨rfl,HR.out.noted ⟨#[]⟩ p v,?_⟩
 exact only_setCell (p:=⟨a,4,none⟩) (only_setCell (p:=⟨a,3,none⟩) (only_setCell (p:=⟨a,2,none⟩) (World.grownBy.refl w (some a)) (.inl rfl) (.string ⟨#[]⟩)) (.inl rfl) (.int .i64 p)) (.inl rfl) (.int .i64 v)
def RchM.sl (t:RchM):Value:=.slice t.ka t.kids.length t.kc
inductive TShape:RchM→Prop
 | mk (t:RchM) (leaf:t.kids=[]→t.op.size=0) (node:t.kids≠[]→t.op.size≠0) (kids:∀ k∈t.kids,TShape k):TShape t
theorem TShape.leaf {t:RchM}(h:TShape t):t.kids=[]→t.op.size=0:=by cases h;assumption
theorem TShape.node {t:RchM}(h:TShape t):t.kids≠[]→t.op.size≠0:=by cases h;assumption
theorem TShape.kids {t:RchM}(h:TShape t):∀ k∈t.kids,TShape k:=by cases h;assumption
theorem TGood.shape {t:RchM}(h:TGood t):TShape t:=by
 induction h with
 | atom nm aop ver _ _ _ _=>exact .mk _ (fun _=>rfl) (fun h=>absurd rfl h) (by simp[RchM.kids])
 | node op ka kc kids ho hc hk ih=>
  refine .mk _ (fun e=>?_) (fun _ e=>?_) ih
  ·have h2:=closes_two hc
   simp only[RchM.kids] at e
   rw[e] at h2;simp at h2
  ·simp only[RchM.op] at e
   exact(word_ne ho).1 (bl_nil op e)
theorem TShape.zero:TShape zeroR:=.mk _ (fun _=>rfl) (fun h=>absurd rfl h) (by simp[zeroR,RchM.kids])
def Tame (w:World)(row:Option Nat):Prop:=∀ g cs fr,row=some g→w.heap[g]?≠some (.cells cs 121 fr)
theorem Tame.map {w:World}{b:Nat}{ms:List (RchM×Nat)}(h:KMap w b ms):Tame w (some b):=by
 intro g cs fr e h2
 injection e with e;subst e
 obtain⟨es,clock,hb,_⟩:=h.ex
 rw[hb] at h2;simp at h2
theorem Tame.row {w:World}{lo n:Nat}{v:Value}{xs:List Value}(h:w.ownsRow lo 119 1 v n xs):Tame w v.ownBlock:=by
 intro g cs fr e h2
 rcases h.2 with⟨hv,_⟩ | ⟨g',cap,cur,hv,_,hg,_⟩
 ·rw[hv] at e;simp[Value.ownBlock] at e
 ·rw[hv] at e;simp[Value.ownBlock] at e
  subst e
  rw[hg] at h2
  injection h2 with h2
  injection h2 with _ h2 _
  exact absurd h2 (by decide)
theorem TOwn.tame {w w':World}{lo:Nat}{row:Option Nat}{t:RchM}(h:TOwn w lo none t)(ht:Tame w row)(hg:w.grownBy w' row):TOwn w' lo none t:=by
 induction h with
 | mk t r ne _ ih=>
  refine .mk t (r.kept hg ?_) (fun g _=>by simp) ih
  rcases r.2 with⟨hv,_⟩ | ⟨g',cap,cur,hv,_,hg',_⟩
  ·left;rw[hv];rfl
  ·right;rw[hv];intro e
   exact ht g' _ _ e.symm hg'
theorem KMap.tame {w w':World}{b:Nat}{row:Option Nat}{ms:List (RchM×Nat)}(h:KMap w b ms)(ht:Tame w row)(hne:some b≠row)(hg:w.grownBy w' row):KMap w' b ms:=by
 obtain⟨es,clock,h1,h2⟩:=h.ex
 exact⟨⟨es,clock,(hg.block b h.lt hne).trans h1,h2⟩,fun p hp=>⟨(h.own p hp).1.tame ht hg,(h.own p hp).2⟩⟩
theorem KMap.ne_row {w:World}{b lo n size:Nat}{e:TypeId}{ms:List (RchM×Nat)}{v:Value}{xs:List Value}(h:KMap w b ms)(r:w.ownsRow lo e size v n xs):some b≠v.ownBlock:=by
 intro he
 obtain⟨es,clock,h1,h2⟩:=h.ex
 rcases r.2 with⟨hv,_⟩ | ⟨g',cap,cur,hv,_,hg,_⟩
 ·rw[hv] at he;simp[Value.ownBlock] at he
 ·rw[hv] at he;simp[Value.ownBlock] at he
  subst he;rw[h1] at hg;simp at hg
structure Lev (lo:Nat) (wr:World) (A:Option Addr) (n c:Nat) (xs:List RchM):Prop where
 len:xs.length=n
 row:wr.ownsRow lo 119 1 (.slice A n c) n (xs.map RchM.sl)
 own:∀ x∈xs,TOwn wr 0 none x
 ne:∀ x∈xs,x.kids≠[]
 shape:∀ x∈xs,∀ k∈x.kids,TShape k
theorem Lev.nil (lo:Nat)(wr:World):Lev lo wr none 0 0 []:=⟨rfl,World.ownsRow_nil _ _ _ _,by simp,by simp,by simp⟩
theorem Lev.tame {lo:Nat}{wr w':World}{A:Option Addr}{n c:Nat}{xs:List RchM}{row:Option Nat}(h:Lev lo wr A n c xs)(ht:Tame wr row)(hne:(Value.slice A n c).ownBlock=none∨(Value.slice A n c).ownBlock≠row)(hg:wr.grownBy w' row):Lev lo w' A n c xs:=
 ⟨h.len,h.row.kept hg hne,fun x hx=>(h.own x hx).tame ht hg,h.ne,h.shape⟩
theorem Lev.below {lo:Nat}{wr w':World}{A:Option Addr}{n c:Nat}{xs:List RchM}(h:Lev lo wr A n c xs)(hb:Below wr.heap.size wr w'):Lev lo w' A n c xs:=
 ⟨h.len,owns_below h.row hb,fun x hx=>(h.own x hx).low hb,h.ne,h.shape⟩
theorem Lev.map {lo:Nat}{wr w':World}{A:Option Addr}{n c b:Nat}{xs:List RchM}{ms:List (RchM×Nat)}(h:Lev lo wr A n c xs)(hm:KMap wr b ms)(hg:wr.grownBy w' (some b)):Lev lo w' A n c xs:=
 h.tame (.map hm) (.inr (hm.ne_row h.row).symm) hg
def Seen (L ys:List RchM)(ms:List (RchM×Nat)):Prop:=∀ t∈L,t.kids≠[]→(∃ y∈ys,y.kids=t.kids)∧∃ q∈ms,q.1.kids=t.kids
theorem Seen.nil (ys:List RchM)(ms:List (RchM×Nat)):Seen [] ys ms:=by intro t ht;simp at ht
theorem Seen.leaf {L ys:List RchM}{ms:List (RchM×Nat)}{t:RchM}(h:Seen L ys ms)(ht:t.kids=[]):Seen (L++[t]) ys ms:=by
 intro x hx hk
 rcases List.mem_append.1 hx with hx | hx
 ·exact h x hx hk
 ·obtain rfl:=List.mem_singleton.1 hx;exact absurd ht hk
structure DpS (s0:Nat) (wr:World) (mb hb h k:Nat) (A:Option Addr) (n c:Nat) (xs:List RchM) (B:Option Addr) (m cB:Nat) (ys:List RchM) (ms hs:List (RchM×Nat)):Prop where
 lev:Lev 0 wr A n c xs
 old:∀ g,(Value.slice A n c).ownBlock=some g→g<s0
 new:Lev s0 wr B m cB ys
 met:KMap wr mb ms
 here:KMap wr hb hs
 hne:mb≠hb
 xh:∀ x∈xs,x.ht+k≤h+1
 yh:∀ y∈ys,y.ht+k≤h
 hsy:∀ p∈hs,(∃ y∈ys,y.kids=p.1.kids)∧∃ q∈ms,q.1.kids=p.1.kids
 mok:∀ i,i<k→∃ p∈ms,p.1.ht+i=h
 top:∃ x∈xs,x.ht+k=h+1
theorem DpS.below {s0:Nat}{wr w':World}{mb hb h k:Nat}{A:Option Addr}{n c:Nat}{xs:List RchM}{B:Option Addr}{m cB:Nat}{ys:List RchM}{ms hs:List (RchM×Nat)}(d:DpS s0 wr mb hb h k A n c xs B m cB ys ms hs)(b:Below wr.heap.size wr w'):DpS s0 w' mb hb h k A n c xs B m cB ys ms hs:=
 ⟨d.lev.below b,d.old,d.new.below b,d.met.below b,d.here.below b,d.hne,d.xh,d.yh,d.hsy,d.mok,d.top⟩
theorem DpS.hit {s0:Nat}{wr:World}{mb hb h k:Nat}{A:Option Addr}{n c:Nat}{xs:List RchM}{B:Option Addr}{m cB:Nat}{ys:List RchM}{ms hs:List (RchM×Nat)}(d:DpS s0 wr mb hb h k A n c xs B m cB ys ms hs){L:List RchM}(hl:Seen L ys ms){t:RchM}{p:RchM×Nat}(hp:p∈hs)(e:p.1.kids=t.kids):Seen (L++[t]) ys ms:=by
 intro x hx hk
 rcases List.mem_append.1 hx with hx | hx
 ·exact hl x hx hk
 ·obtain rfl:=List.mem_singleton.1 hx
  rw[←e];exact d.hsy p hp
theorem DpS.grow {s0:Nat}{wr w1 w2 wb w3:World}{mb hb h k v:Nat}{A:Option Addr}{n c:Nat}{xs:List RchM}{B B1:Option Addr}{m cB c1:Nat}{ys:List RchM}{ms hs ms' hs':List (RchM×Nat)}{t:RchM}
  (d:DpS s0 wr mb hb h k A n c xs B m cB ys ms hs)(ht:TOwn wr 0 none t)(tk:t.kids≠[])(tsh:∀ x∈t.kids,TShape x)(tht:t.ht+k≤h)
  (k1:KMap w1 hb hs')(g1:wr.grownBy w1 (some hb))(f1:∀ p∈hs',(∃ q∈hs,q=p)∨p.1.kids=t.kids∧p.2=v)
  (k2:KMap w2 mb ms')(g2:w1.grownBy w2 (some mb))(f2:∀ p∈ms,∃ q∈ms',q.1=p.1)(f3:∃ q∈ms',q.1.kids=t.kids)
  (b:Below w2.heap.size w2 wb)(o:w3.ownsRow s0 119 1 (.slice B1 (m+1) c1) (m+1) (ys.map RchM.sl++[t.sl]))(g3:wb.grownBy w3 (Value.slice B m cB).ownBlock):
  DpS s0 w3 mb hb h k A n c xs B1 (m+1) c1 (ys++[t]) ms' hs':=by
 have m1:KMap w1 mb ms:=d.met.tame (.map d.here) (fun e=>d.hne (by injection e)) g1
 have t1:=ht.tame (.map d.here) g1
 have l1:=d.lev.map d.here g1
 have n1:=d.new.map d.here g1
 have t2:=t1.tame (.map m1) g2
 have l2:=l1.map m1 g2
 have n2:=n1.map m1 g2
 have h2:KMap w2 hb hs':=k1.tame (.map m1) (fun e=>d.hne (by injection e with e;exact e.symm)) g2
 have tb:=t2.low b
 have lb:=l2.below b
 have nb:=n2.below b
 have hb':=h2.below b
 have mb':=k2.below b
 have tm:Tame wb (Value.slice B m cB).ownBlock:=.row nb.row
 refine⟨lb.tame tm ?_ g3,d.old,⟨by simp[nb.len],by simpa using o,fun x hx=>?_,fun x hx=>?_,fun x hx=>?_⟩,mb'.tame tm (mb'.ne_row nb.row) g3,hb'.tame tm (hb'.ne_row nb.row) g3,d.hne,d.xh,fun y hy=>?_,fun p hp=>?_,fun i hi=>?_,d.top⟩
 ·cases e:(Value.slice A n c).ownBlock with
  | none=>exact .inl rfl
  | some g=>
   right;intro e2
   have:=d.old g e
   have:=(nb.row.lt g e2.symm).1
   omega
 ·rcases List.mem_append.1 hx with hx | hx
  ·exact(nb.own x hx).tame tm g3
  ·obtain rfl:=List.mem_singleton.1 hx;exact tb.tame tm g3
 ·rcases List.mem_append.1 hx with hx | hx
  ·exact nb.ne x hx
  ·obtain rfl:=List.mem_singleton.1 hx;exact tk
 ·rcases List.mem_append.1 hx with hx | hx
  ·exact nb.shape x hx
  ·obtain rfl:=List.mem_singleton.1 hx;exact tsh
 ·rcases List.mem_append.1 hy with hy | hy
  ·exact d.yh y hy
  ·obtain rfl:=List.mem_singleton.1 hy;exact tht
 ·rcases f1 p hp with⟨q,hq,rfl⟩ | ⟨e,_⟩
  ·obtain⟨⟨y,hy,ey⟩,q2,hq2,eq2⟩:=d.hsy q hq
   obtain⟨q3,hq3,e3⟩:=f2 q2 hq2
   exact⟨⟨y,by simp[hy],ey⟩,q3,hq3,by rw[e3,eq2]⟩
  ·obtain⟨q3,hq3,e3⟩:=f3
   exact⟨⟨t,by simp,e.symm⟩,q3,hq3,by rw[e3,e]⟩
 ·obtain⟨p,hp,e⟩:=d.mok i hi
  obtain⟨q,hq,e2⟩:=f2 p hp
  exact⟨q,hq,by rw[e2];exact e⟩
theorem Seen.grow {L ys:List RchM}{ms ms':List (RchM×Nat)}{t:RchM}(h:Seen L ys ms)(f2:∀ p∈ms,∃ q∈ms',q.1=p.1)(f3:∃ q∈ms',q.1.kids=t.kids):Seen (L++[t]) (ys++[t]) ms':=by
 intro x hx hk
 rcases List.mem_append.1 hx with hx | hx
 ·obtain⟨⟨y,hy,ey⟩,q,hq,eq⟩:=h x hx hk
  obtain⟨q3,hq3,e3⟩:=f2 q hq
  exact⟨⟨y,by simp[hy],ey⟩,q3,hq3,by rw[e3,eq]⟩
 ·obtain rfl:=List.mem_singleton.1 hx
  exact⟨⟨x,by simp,rfl⟩,f3⟩
theorem ht_of_kids {a b:RchM}(h:a.kids=b.kids):a.ht=b.ht:=by rw[ht_eq,ht_eq,h]
theorem DpS.next {s0:Nat}{wr:World}{mb hb h k:Nat}{A:Option Addr}{n c:Nat}{xs:List RchM}{B:Option Addr}{m cB:Nat}{ys:List RchM}{ms hs:List (RchM×Nat)}(d:DpS s0 wr mb hb h k A n c xs B m cB ys ms hs)(hs:Seen (xs.flatMap RchM.kids) ys ms)(hm:0<m):
  k<ms.length∧k+1≤h∧(∀ i,i<k+1→∃ p∈ms,p.1.ht+i=h)∧∃ y∈ys,y.ht+(k+1)=h+1:=by
 obtain⟨y,hy⟩:∃ y,y∈ys:=by
  have:=d.new.len
  cases ys with
  | nil=>simp at this;omega
  | cons a r=>exact⟨a,by simp⟩
 have y1:=d.yh y hy
 have y2:y.ht≠0:=fun e=>d.new.ne y hy (ht_zero.1 e)
 obtain⟨x,hx,xe⟩:=d.top
 obtain⟨t,ht,te⟩:=htL_top (d.lev.ne x hx)
 rw[←ht_eq] at te
 have tk:t.kids≠[]:=fun e=>by have:=ht_zero.2 e;omega
 obtain⟨⟨z,hz,ez⟩,q,hq,eq⟩:=hs t (List.mem_flatMap.2 ⟨x,hx,ht⟩) tk
 have ezh:=ht_of_kids ez
 have eqh:=ht_of_kids eq
 have mk:∀ i,i<k+1→∃ p∈ms,p.1.ht+i=h:=by
  intro i hi
  rcases(by omega:i<k∨i=k) with hi | rfl
  ·exact d.mok i hi
  ·exact⟨q,hq,by omega⟩
 refine⟨?_,by omega,mk,z,hz,by omega⟩
 refine heights_len (fun t=>h-t.ht) (k+1) ms (fun i hi=>?_)
 obtain⟨p,hp,e⟩:=mk i hi
 exact⟨p,hp,by show h-p.1.ht=i;omega⟩
theorem by_ht {C:RchM→Prop}(step:∀ T:RchM,(∀ t∈T.kids,C t)→C T)(T:RchM):C T:=by
 have:∀ n:Nat,∀ T:RchM,T.ht<n→C T:=by
  intro n
  induction n with
  | zero=>intro T h;omega
  | succ n ih=>intro T h;exact step T fun t ht=>ih t (by have:=ht_kid ht;omega)
 exact this (T.ht+1) T (by omega)
theorem htL_snoc (l:List RchM)(t:RchM):htL (l++[t])=max (htL l) (t.ht+1):=by
 induction l with
 | nil=>simp[htL]
 | cons a r ih=>simp only[List.cons_append,htL,ih];omega
theorem take_snoc' {ks:List RchM}{j:Nat}{t:RchM}(ht:ks[j]?=some t):ks.take (j+1)=ks.take j++[t]:=by
 obtain⟨hk,hg⟩:=gS ht
 rw[tS hk,hg]
def RDpC (T:RchM):Prop:=∀ w:World,TOwn w 0 none T→TShape T→T.cnt≤64→T.ht≤32→Calls Tryz.prog 258 #[T.val] w fun e w'=>e=.returned (.int .i64 T.ht)∧Below w.heap.size w w'
theorem r15_Depth (T:RchM):RDpC T:=by
 refine by_ht (fun T IH=>?_) T
 intro w hO hS hc hht
 have HO:=hid hO
 have HS:=hid hS
 have HIH:=hid IH
 obtain⟨tl,htl⟩:∃ tl,T.kids.length=tl:=⟨_,rfl⟩
 have HTL:=hid htl
 have HCN:Hid (∀ t∈T.kids,t.cnt≤64):=fun t ht=>by
  have h1:=cntL_mem ht
  rw[←cnt_node (fun e=>by rw[e] at ht;simp at ht)] at h1;omega
 have htl9:tl≤64:=by
  by_cases h0:T.kids=[]
  ·rw[h0] at htl;simp at htl;omega
  ·have h1:=cntL_len T.kids;rw[←cnt_node h0] at h1;omega
 obtain⟨W1,hW1⟩:∃ W1,w.alloc (.cells #[.string T.op,.string T.nm,.int .i64 T.aop,.string T.ver,.slice T.ka tl T.kc] 121)=W1:=⟨_,rfl⟩
 have B1:Hid (Below w.heap.size w W1):=by rw[←hW1];exact bR.alloc lr _
 have K1:Hid (Blk W1 w.heap.size [.string T.op,.string T.nm,.int .i64 T.aop,.string T.ver,.slice T.ka tl T.kc]):=by rw[←hW1];exact Blk.new w [.string T.op,.string T.nm,.int .i64 T.aop,.string T.ver,.slice T.ka tl T.kc] _
 have KV:Hid (T.val=.agg #[.string T.op,.string T.nm,.int .i64 T.aop,.string T.ver,.slice T.ka tl T.kc]):=by show _=_;unfold RchM.val;rw[htl]
 rw[KV.out]
 clear hO hS IH htl hc
 go_enter Tryz.func258,Tryz.ntmps258
 go_wp2_with fail
 clear hW1
 go_loopw [3,4] (fun nv iv wr=>∃ i n:Nat,nv=.int .i64 n∧iv=.int .i64 i∧i≤tl∧n≤100∧Hid (n=htL (T.kids.take i))∧Hid (Below w.heap.size w wr)∧Hid (Blk wr w.heap.size [.string T.op,.string T.nm,.int .i64 T.aop,.string T.ver,.slice T.ka tl T.kc])) (fun _ iv _=>tl-(intOf iv).toNat)
 case atStart=>exact⟨0,0,rfl,rfl,z0,by omega,by simp[Hid,htL],B1,K1⟩
 case round=>
  clear B1 K1
  obtain⟨i,n,rfl,rfl,hi,hn,HN,HB,HK⟩:=hrel
  have k0:=HK.out.cell 0 _ rfl
  have k4:=HK.out.cell 4 _ rfl
  by_cases hlt:i<tl
  ·obtain⟨t,ht⟩:∃ t,T.kids[i]?=some t:=⟨_,gG (by rw[HTL.out];exact hlt)⟩
   have htm:Hid (t∈T.kids):=gM ht
   have O2:=HO.out.low HB.out
   obtain⟨b',off,hA,he⟩:=O2.rd.cell i t ht
   have e0:=he 0 _ rfl
   have e1:=he 1 _ rfl
   have e2:=he 2 _ rfl
   have e3:=he 3 _ rfl
   have e4:=he 4 _ rfl
   simp only[Nat.add_zero] at e0
   have hix:=fun W=>idx_of (T:=119) (E:=121) (sz:=5) (n:=tl) (c:=T.kc) Tryz.underlying119 rfl Tryz.sizeOf121 hA hlt W
   have hcall:=HIH.out t htm.out wr (O2.kids t htm.out) (HS.out.kids t htm.out) (HCN.out t htm.out) (by have:=ht_kid htm.out;omega)
   have HN2:Hid (max n (t.ht+1)=htL (T.kids.take (i+1))):=by show _=_;rw[take_snoc' ht,htL_snoc,HN.out]
   obtain⟨h,hh⟩:∃ h,t.ht=h:=⟨_,rfl⟩
   have HH:=hid hh
   have hh64:h≤99:=by have:=ht_kid htm.out;omega
   rw[hh] at hcall HN2
   unfold RchM.val at hcall
   clear ht hA he O2 hh
   by_cases hm:n<h+1
   ·have q1:decide ((n:Int)<(h:Int)+1)=true:=dT (by omega)
    have q2:decide (n<h+1)=true:=dT hm
    have E:Hid (max n (h+1)=h+1):=by show _=_;omega
    clear hm
    go_wp2_with fail
    refine hcall.mono ?_;rintro e w4 ⟨rfl,hb⟩
    have B4:=hid (bthen HB.out hb)
    have K4:=hid (HK.out.below hb)
    clear hcall hb e0 e1 e2 e3 e4 hix k0 k4
    go_wp2_with fail
    go_roundw
    case rel=>exact⟨i+1,h+1,by go_num,by go_num,by omega,by omega,by rw[←E.out];exact HN2,B4,K4⟩
    case measure=>simp[intOf];omega
   ·have q1:decide ((n:Int)<(h:Int)+1)=false:=dF (by omega)
    have q2:decide (n<h+1)=false:=dF hm
    have E:Hid (max n (h+1)=n):=by show _=_;omega
    clear hm
    go_wp2_with fail
    refine hcall.mono ?_;rintro e w4 ⟨rfl,hb⟩
    have B4:=hid (bthen HB.out hb)
    have K4:=hid (HK.out.below hb)
    clear hcall hb e0 e1 e2 e3 e4 hix k0 k4
    go_wp2_with fail
    go_roundw
    case rel=>exact⟨i+1,n,rfl,by go_num,by omega,by omega,by rw[←E.out];exact HN2,B4,K4⟩
    case measure=>simp[intOf];omega
  ·have E:Hid (T.ht=n):=by show _=_;rw[HN.out,tL (by rw[HTL.out];omega),ht_eq]
   by_cases h0:T.kids=[]
   ·have o0:T.op.toList=[]:=by rw[bl_toList];exact bl_nil _ (HS.out.leaf h0)
    have o1:T.op.toList.isEmpty=true:=by rw[o0];rfl
    have n0:n=0:=by have:=ht_zero.2 h0;have:=E.out;omega
    have E0:Hid (T.ht=0):=ht_zero.2 h0
    subst n0
    clear h0
    go_wp2_with fail
    go_ret
    exact⟨ret_int (by rw[E0.out]),HB.out⟩
   ·have n0:((n:Int)==0)=false:=by
     have:T.ht≠0:=fun e=>h0 (ht_zero.1 e)
     have:=E.out;simp;omega
    clear h0
    go_wp2_with fail
    go_ret
    exact⟨ret_int (by rw[E.out]),HB.out⟩
def RAtC (T:RchM):Prop:=∀ w:World,TOwn w 0 none T→TShape T→T.cnt≤64→Calls Tryz.prog 259 #[T.val] w fun e w'=>e=.returned (.int .i64 T.cnt)∧Below w.heap.size w w'
theorem r15_Atoms (T:RchM):RAtC T:=by
 refine by_ht (fun T IH=>?_) T
 intro w hO hS hc
 have HO:=hid hO
 have HS:=hid hS
 have HIH:=hid IH
 have HC:=hid hc
 obtain⟨tl,htl⟩:∃ tl,T.kids.length=tl:=⟨_,rfl⟩
 have HTL:=hid htl
 have HCN:Hid (∀ t∈T.kids,t.cnt≤64):=fun t ht=>by
  have h1:=cntL_mem ht
  rw[←cnt_node (fun e=>by rw[e] at ht;simp at ht)] at h1;omega
 have htl9:tl≤64:=by
  by_cases h0:T.kids=[]
  ·rw[h0] at htl;simp at htl;omega
  ·have h1:=cntL_len T.kids;rw[←cnt_node h0] at h1;omega
 obtain⟨W1,hW1⟩:∃ W1,w.alloc (.cells #[.string T.op,.string T.nm,.int .i64 T.aop,.string T.ver,.slice T.ka tl T.kc] 121)=W1:=⟨_,rfl⟩
 have B1:Hid (Below w.heap.size w W1):=by rw[←hW1];exact bR.alloc lr _
 have K1:Hid (Blk W1 w.heap.size [.string T.op,.string T.nm,.int .i64 T.aop,.string T.ver,.slice T.ka tl T.kc]):=by rw[←hW1];exact Blk.new w [.string T.op,.string T.nm,.int .i64 T.aop,.string T.ver,.slice T.ka tl T.kc] _
 have KV:Hid (T.val=.agg #[.string T.op,.string T.nm,.int .i64 T.aop,.string T.ver,.slice T.ka tl T.kc]):=by show _=_;unfold RchM.val;rw[htl]
 rw[KV.out]
 have k0:=K1.out.cell 0 _ rfl
 by_cases tk:T.kids=[]
 ·have o0:T.op.toList=[]:=by rw[bl_toList];exact bl_nil _ (HS.out.leaf tk)
  have o1:T.op.toList.isEmpty=true:=by rw[o0];rfl
  have E:Hid (T.cnt=1):=cnt_leaf tk
  clear hO hS IH htl hc tk
  go_enter Tryz.func259,Tryz.ntmps259
  go_wp2_with fail
  go_ret
  exact⟨ret_int (by rw[E.out];rfl),B1.out⟩
 have o0:(T.op.toList==([]:LU))=false:=by rw[bl_toList,bF];intro e;exact HS.out.node tk (by rw[←bl_length,e];rfl)
 have o1:T.op.toList.isEmpty=false:=by rw[bl_toList,bl_isEmpty];exact dF (HS.out.node tk)
 have o2:¬ T.op.toList=[]:=by intro e;rw[e] at o1;simp at o1
 have CN:Hid (T.cnt=cntL T.kids):=cnt_node tk
 clear hO hS IH htl hc tk
 go_enter Tryz.func259,Tryz.ntmps259
 go_wp2_with fail
 clear hW1 k0
 go_loopw [3,4] (fun nv iv wr=>∃ i n:Nat,nv=.int .i64 n∧iv=.int .i64 i∧i≤tl∧n≤64∧Hid (n=cntL (T.kids.take i))∧Hid (Below w.heap.size w wr)∧Hid (Blk wr w.heap.size [.string T.op,.string T.nm,.int .i64 T.aop,.string T.ver,.slice T.ka tl T.kc])) (fun _ iv _=>tl-(intOf iv).toNat)
 case atStart=>exact⟨0,0,rfl,rfl,z0,by omega,by simp[Hid,cntL],B1,K1⟩
 case round=>
  clear B1 K1
  obtain⟨i,n,rfl,rfl,hi,hn,HN,HB,HK⟩:=hrel
  have k4:=HK.out.cell 4 _ rfl
  by_cases hlt:i<tl
  ·obtain⟨t,ht⟩:∃ t,T.kids[i]?=some t:=⟨_,gG (by rw[HTL.out];exact hlt)⟩
   have htm:Hid (t∈T.kids):=gM ht
   have O2:=HO.out.low HB.out
   obtain⟨b',off,hA,he⟩:=O2.rd.cell i t ht
   have e0:=he 0 _ rfl
   have e1:=he 1 _ rfl
   have e2:=he 2 _ rfl
   have e3:=he 3 _ rfl
   have e4:=he 4 _ rfl
   simp only[Nat.add_zero] at e0
   have hix:=fun W=>idx_of (T:=119) (E:=121) (sz:=5) (n:=tl) (c:=T.kc) Tryz.underlying119 rfl Tryz.sizeOf121 hA hlt W
   have hcall:=HIH.out t htm.out wr (O2.kids t htm.out) (HS.out.kids t htm.out) (HCN.out t htm.out)
   have HN2:Hid (n+t.cnt=cntL (T.kids.take (i+1))):=by show _=_;rw[cntL_take ht,HN.out]
   have hn2:n+t.cnt≤64:=by have h1:=HN2.out;have h2:=cntL_take_le T.kids (i+1);have:=HC.out;have:=CN.out;omega
   unfold RchM.val at hcall
   clear ht hA he O2
   go_wp2_with fail
   refine hcall.mono ?_;rintro e w4 ⟨rfl,hb⟩
   have B4:=hid (bthen HB.out hb)
   have K4:=hid (HK.out.below hb)
   clear hcall hb e0 e1 e2 e3 e4 hix k4
   go_wp2_with fail
   go_roundw
   case rel=>exact⟨i+1,n+t.cnt,by go_num,by go_num,by omega,hn2,HN2,B4,K4⟩
   case measure=>simp[intOf];omega
  ·have E:Hid (T.cnt=n):=by show _=_;rw[HN.out,tL (by rw[HTL.out];omega),CN.out]
   go_wp2_with fail
   go_ret
   exact⟨ret_int (by rw[E.out]),HB.out⟩
theorem rTail_append (op:LU):∀ (a:List Rch)(i:Nat)(b:List Rch),rTail op i (a++b)=rTail op i a++rTail op (i+a.length) b
 | [],i,b=>by simp[rTail]
 | x::r,i,b=>by
  have h:=rTail_append op r (i+1) b
  simp only[List.cons_append,rTail,h,List.length_cons]
  rw[show i+1+r.length=i+(r.length+1) by omega]
  simp[List.append_assoc]
theorem plL_append' (a b:List RchM):plL (a++b)=plL a++plL b:=by rw[plL_map,plL_map,plL_map,List.map_append]
theorem plL_length' (a:List RchM):(plL a).length=a.length:=by rw[plL_map];simp
theorem tail_one (op:LU)(k:RchM):rTail op 0 (plL [k])=rText k.pl:=by simp[plL,rTail]
theorem tail_more (op:LU)(ks:List RchM)(i:Nat)(t:RchM)(ht:ks[i+1]?=some t):rTail op 0 (plL (ks.take (i+2)))=rTail op 0 (plL (ks.take (i+1)))++([32]++rWd op (i+1)++[32]++rText t.pl):=by
 obtain⟨hk,hg⟩:=gS ht
 rw[show i+2=i+1+1 from rfl,tS hk,hg,plL_append',rTail_append,plL_length',List.length_take,Nat.min_eq_left (by omega)]
 simp[plL,rTail]
theorem rWd_succ (op:LU)(i:Nat):rWd op (i+1)=if 0<i∧(op=wIf∨op=wUnless) then wElse else op:=by
 unfold rWd;congr 1;apply propext;constructor<;>rintro⟨h1,h2⟩<;>exact⟨by omega,h2⟩
def TxC (T:RchM):Prop:=∀ w:World,Gl w→TOwn w 0 none T→T.cnt≤64→Calls Tryz.prog 131 #[T.val] w fun e w'=>e=.returned (.string (mkB (rText T.pl)))∧Below w.heap.size w w'
theorem rdep_text {T:RchM}(h:TGood T):TxC T:=by
 induction h with
 | atom nm aop ver hn ho hv0 hv=>
  intro w hG _ _
  have HG:=hid hG
  have hnz:=(rname_len hn).2
  have HV:=hid hv
  rw[pl_atom _ _ _ _ _ _ _ rfl]
  clear hn hv0 hv hG
  obtain⟨W1,hW1⟩:∃ W1,w.alloc (.cells #[.string ⟨#[]⟩,.string nm,.int .i64 aop,.string ver,.slice none 0 0] 121)=W1:=⟨_,rfl⟩
  have B1:Hid (Below w.heap.size w W1):=by rw[←hW1];exact bR.alloc lr _
  have K1:Hid (Blk W1 w.heap.size [.string ⟨#[]⟩,.string nm,.int .i64 aop,.string ver,.slice none 0 0]):=by rw[←hW1];exact Blk.new w [.string ⟨#[]⟩,.string nm,.int .i64 aop,.string ver,.slice none 0 0] _
  have k0:=K1.out.cell 0 _ rfl
  have k1:=K1.out.cell 1 _ rfl
  have k2:=K1.out.cell 2 _ rfl
  have k3:=K1.out.cell 3 _ rfl
  show Calls Tryz.prog 131 #[.agg #[.string ⟨#[]⟩,.string nm,.int .i64 aop,.string ver,.slice none 0 0]] w _
  by_cases a0:aop=0
  ·have q0:((aop:Int)==0)=true:=by simp[a0]
   have E:Hid (bl nm=rText (.atom (bl nm) aop (bl ver))):=by show _=_;simp[rText,a0]
   clear a0
   go_enter Tryz.func131,Tryz.ntmps131
   go_wp2_with fail
   go_ret
   exact⟨by rw[←eq_mk E.out];rfl,B1.out⟩
  ·have q0:((aop:Int)==0)=false:=by simp;omega
   have hvz:=ver_size (HV.out (by omega))
   have hsg:=(HG.out.below B1.out).rsg aop (by omega)
   have hsz:(rSign aop).size≤2:=by rw[←bl_length,rSign_at aop (by omega)];exact sgR_len _
   have E:Hid (bl (nm++⟨#[32]⟩++rSign aop++⟨#[32]⟩++ver)=rText (.atom (bl nm) aop (bl ver))):=by
    show _=_;simp only[bl_append];unfold rText;rw[if_neg a0,rSign_at aop (by omega)];rfl
   have o2:(aop:Int)<6:=by omega
   have o3:(0:Int)≤(aop:Int):=by omega
   clear a0
   go_enter Tryz.func131,Tryz.ntmps131
   go_wp2_with fail
   go_quiet (fail)
   go_wp2_with fail
   go_ret
   exact⟨by rw[←eq_mk E.out];rfl,below_drewN B1.out _⟩
 | node op ka kc kids ho hc hk ih=>
  intro w hG hO hcn
  have HG:=hid hG
  have HO:=hid hO
  have HIH:=hid ih
  have HGD:=hid hk
  obtain⟨hw,hw7⟩:=word_ne ho
  have HW7:=hid hw7
  have hop7:op.size≤7:=by rw[←bl_length];exact hw7
  have o0:(op.toList==([]:LU))=false:=by rw[bl_toList,bF];exact hw
  have o2:¬ op.toList=[]:=by rw[bl_toList];exact hw
  have o1:op.toList.isEmpty=false:=by rw[List.isEmpty_eq_false_iff];exact o2
  obtain⟨tl,htl⟩:∃ tl,kids.length=tl:=⟨_,rfl⟩
  have HTL:=hid htl
  have ht2:2≤tl:=by have:=closes_two hc;omega
  have CNE:=hid (cnt_node (t:=.mk op ⟨#[]⟩ 0 ⟨#[]⟩ ka kc kids) (by intro e;simp only[RchM.kids] at e;rw[e] at htl;simp at htl;omega))
  have HCN:Hid (cntL kids≤64):=by have h1:=CNE.out;simp only[RchM.kids] at h1;show _≤_;omega
  have htl9:tl≤64:=by have h1:=cntL_len kids;have:=HCN.out;omega
  have hkc:tl≤kc:=by have:=owns_cap hO.row;simp only[RchM.kids,RchM.kc] at this;omega
  have hkm:kc≤9223372036854775807:=by
   rcases hO.row.2 with⟨hv,_⟩ | ⟨g,cap,cur,hv,_,_,_,h5,_⟩
   ·injection hv with _ _ h3;simp only[RchM.kc] at h3;omega
   ·injection hv with _ _ h3;simp only[RchM.kc] at h3;simp only[maxLen] at h5;omega
  obtain⟨g,cur,hA,hg,-⟩:=own_addr hO (by intro e;simp only[RchM.kids] at e;rw[e] at htl;simp at htl;omega)
  simp only[RchM.ka] at hA
  subst hA
  obtain⟨W1,hW1⟩:∃ W1,w.alloc (.cells #[.string op,.string ⟨#[]⟩,.int .i64 0,.string ⟨#[]⟩,.slice (some ⟨g,0,none⟩) tl kc] 121)=W1:=⟨_,rfl⟩
  have B1:Hid (Below w.heap.size w W1):=by rw[←hW1];exact bR.alloc lr _
  have K1:Hid (Blk W1 w.heap.size [.string op,.string ⟨#[]⟩,.int .i64 0,.string ⟨#[]⟩,.slice (some ⟨g,0,none⟩) tl kc]):=by rw[←hW1];exact Blk.new w [.string op,.string ⟨#[]⟩,.int .i64 0,.string ⟨#[]⟩,.slice (some ⟨g,0,none⟩) tl kc] _
  have k0:=K1.out.cell 0 _ rfl
  have k4:=K1.out.cell 4 _ rfl
  have O1:Hid (TOwn W1 0 none (.mk op ⟨#[]⟩ 0 ⟨#[]⟩ (some ⟨g,0,none⟩) kc kids)):=HO.out.low B1.out
  -- the texts are short
  have TS:Hid (∀ t∈kids,(mkB (rText t.pl)).size≤12800):=fun t ht=>by
   have h1:=(HGD.out t ht).text;have h2:=cntL_mem ht;have:=HCN.out;rw[mk_size];omega
  have PS:Hid (∀ i,(rTail (bl op) 0 (plL (kids.take i))).length≤12800):=fun i=>by
   have h1:=rTail_len (bl op) HW7.out (kids.take i) 0 (fun k hk=>(HGD.out k (List.mem_of_mem_take hk)).text)
   have h2:=cntL_take_le kids i;have:=HCN.out;omega
  obtain⟨t0,ht0⟩:∃ t,kids[0]?=some t:=⟨_,gG (by omega)⟩
  have HT0:=hid ht0
  have hm0:Hid (t0∈kids):=gM ht0
  obtain⟨b',off,hA,he⟩:=O1.out.rd.cell 0 t0 ht0
  simp only[RchM.ka] at hA
  injection hA with hA;injection hA with hb ho' _
  subst hb ho'
  have e0:=he 0 _ rfl
  have e1:=he 1 _ rfl
  have e2:=he 2 _ rfl
  have e3:=he 3 _ rfl
  have e4:=he 4 _ rfl
  simp only[Nat.zero_mul,Nat.add_zero,Nat.zero_add] at e0 e1 e2 e3 e4
  have hcall:=HIH.out t0 hm0.out W1 (HG.out.below B1.out) (O1.out.kids t0 hm0.out) (by have h1:=cntL_mem hm0.out;have:=HCN.out;omega)
  have hz0:=TS.out t0 hm0.out
  obtain⟨X0,hX0⟩:∃ X0,mkB (rText t0.pl)=X0:=⟨_,rfl⟩
  rw[hX0] at hcall hz0
  have HX0:Hid (bl X0=rText t0.pl):=by show _=_;rw[←hX0,bl_of]
  unfold RchM.val at hcall
  rw[pl_node _ _ _ _ _ _ _ hw]
  have hix:=fun W=>idx_of (T:=119) (E:=121) (sz:=5) (n:=tl) (c:=kc) (k:=0) (A:=some ⟨g,0,none⟩) Tryz.underlying119 rfl Tryz.sizeOf121 rfl (by omega) W
  simp only[Nat.zero_mul,Nat.add_zero] at hix
  clear ho hc hk ih hG hO hw hw7 htl hcn CNE hg he ht0 hX0
  show Calls Tryz.prog 131 #[.agg #[.string op,.string ⟨#[]⟩,.int .i64 0,.string ⟨#[]⟩,.slice (some ⟨g,0,none⟩) kids.length kc]] w _
  rw[HTL.out]
  go_enter Tryz.func131,Tryz.ntmps131
  go_wp2_with fail
  refine hcall.mono ?_;rintro e w2 ⟨rfl,hb⟩
  have B2:=hid (bthen B1.out hb)
  have K2:=hid (K1.out.below hb)
  have O2:=hid (O1.out.low hb)
  clear hcall hb e0 e1 e2 e3 e4 k0 k4 hix hW1
  have k0:=K2.out.cell 0 _ rfl
  have k4:=K2.out.cell 4 _ rfl
  have S0:Hid (bl (⟨#[40]⟩++X0)=[40]++rTail (bl op) 0 (plL (kids.take 1))):=by
   show _=_
   obtain⟨hk',hg'⟩:=gS HT0.out
   rw[tS hk',hg']
   simp only[List.take_zero,List.nil_append]
   rw[tail_one,bl_append,HX0.out];rfl
  go_wp2_with fail
  obtain⟨rl,hrl⟩:∃ rl,tl-1=rl:=⟨_,rfl⟩
  have RL:Hid (kids.length=rl+1):=by have:=HTL.out;show _=_;omega
  rw[hrl]
  have hrl64:rl≤64:=by omega
  have HSZ:Hid (w.heap.size<w2.heap.size):=K2.out.sz
  have hs0:(⟨#[40]⟩++X0:BA).size≤12900:=by rw[←bl_length,S0.out,List.length_append];have:=PS.out 1;simp;omega
  clear hrl k0 k4 hkc hkm ht2 htl9 hz0
  go_loopw [3,42] (fun sv iv wr=>∃ (i:Nat) (S:BA),sv=.string S∧iv=.int .i64 i∧i≤rl∧S.size≤12900∧Hid (bl S=[40]++rTail (bl op) 0 (plL (kids.take (i+1))))∧Hid (Below w.heap.size w wr)∧Hid (Blk wr w.heap.size [.string op,.string ⟨#[]⟩,.int .i64 0,.string ⟨#[]⟩,.slice (some ⟨g,0,none⟩) tl kc])) (fun _ iv _=>rl-(intOf iv).toNat)
  case atStart=>exact⟨0,_,rfl,rfl,z0,hs0,S0,B2,K2⟩
  case round=>
   clear hs0 S0 K2
   obtain⟨i,S,rfl,rfl,hi,hS,HS,HB,HK⟩:=hrel
   by_cases hlt:i<rl
   ·obtain⟨t,ht⟩:∃ t,kids[i+1]?=some t:=⟨_,gG (by rw[RL.out];omega)⟩
    have HT:=hid ht
    have htm:Hid (t∈kids):=gM ht
    have O3:=HO.out.low HB.out
    obtain⟨b',off,hA,he⟩:=O3.rd.cell (i+1) t ht
    simp only[RchM.ka] at hA
    injection hA with hA;injection hA with hb ho' _
    subst hb ho'
    have e0:=he 0 _ rfl
    have e1:=he 1 _ rfl
    have e2:=he 2 _ rfl
    have e3:=he 3 _ rfl
    have e4:=he 4 _ rfl
    have hoff:0+(i+1)*5=5+i*5:=by omega
    rw[hoff] at e0 e1 e2 e3 e4
    simp only[Nat.add_zero] at e0
    have hix:=fun W=>idx_of (T:=119) (E:=121) (sz:=5) (n:=rl) (c:=kc-1) (k:=i) (A:=some ⟨g,5,none⟩) Tryz.underlying119 rfl Tryz.sizeOf121 rfl hlt W
    obtain⟨W3,hW3⟩:∃ W3,wr.alloc (.cells #[.string t.op,.string t.nm,.int .i64 t.aop,.string t.ver,.slice t.ka t.kids.length t.kc] 121)=W3:=⟨_,rfl⟩
    have B3:Hid (Below wr.heap.size wr W3):=by rw[←hW3];exact bR.alloc lr _
    have K3:Hid (Blk W3 wr.heap.size t.cells):=by rw[←hW3];exact Blk.new wr t.cells _
    have B4:=hid (bthen HB.out B3.out)
    have HK3:=hid (HK.out.below B3.out)
    have hcall:=HIH.out t htm.out W3 (HG.out.below B4.out) ((O3.low B3.out).kids t htm.out) (by have h1:=cntL_mem htm.out;have:=HCN.out;omega)
    have hz:=TS.out t htm.out
    obtain⟨X,hX⟩:∃ X,mkB (rText t.pl)=X:=⟨_,rfl⟩
    rw[hX] at hcall hz
    have HX:Hid (bl X=rText t.pl):=by show _=_;rw[←hX,bl_of]
    unfold RchM.val at hcall
    have a0:=K3.out.cell 0 _ rfl
    have a1:=K3.out.cell 1 _ rfl
    have a2:=K3.out.cell 2 _ rfl
    have a3:=K3.out.cell 3 _ rfl
    have a4:=K3.out.cell 4 _ rfl
    have b0:=HK3.out.cell 0 _ rfl
    clear ht he O3 hX hoff
    go_upto_region 10 with(fail)
    clear hW3 e0 e1 e2 e3 e4 hix
    obtain⟨bb,hbb⟩:∃ bb:Bool,decide (0<i∧(bl op=wIf∨bl op=wUnless))=bb:=⟨_,rfl⟩
    have HBB:=hid hbb
    clear hbb
    go_cut [58] (fun v wx=>v=.bool bb∧W3=wx)
    case first=>
     clear hcall
     by_cases i0:0<i
     ·have q1:decide ((0:Int)<(i:Int))=true:=dT (by omega)
      have q2:decide (0<i)=true:=dT i0
      by_cases w1:bl op=wIf
      ·have F1:op.toList=[105,102]:=by rw[bl_toList];exact w1
       have E2:Hid (bb=true):=by show _=_;rw[←HBB.out];exact dT ⟨i0,.inl w1⟩
       clear w1 o0 o1 o2
       go_wp2_with fail
       go_meet
       exact⟨by rw[E2.out],rfl⟩
      ·have F1:(op.toList==([105,102]:LU))=false:=by rw[bl_toList,bF];exact w1
       by_cases w2:bl op=wUnless
       ·have F2:op.toList=[117,110,108,101,115,115]:=by rw[bl_toList];exact w2
        have E2:Hid (bb=true):=by show _=_;rw[←HBB.out];exact dT ⟨i0,.inr w2⟩
        clear w1 w2 o0 o1 o2 F1
        go_wp2_with fail
        go_meet
        exact⟨by rw[E2.out],rfl⟩
       ·have F2:(op.toList==([117,110,108,101,115,115]:LU))=false:=by rw[bl_toList,bF];exact w2
        have E2:Hid (bb=false):=by show _=_;rw[←HBB.out];exact dF (by rintro⟨_,h | h⟩<;>contradiction)
        clear w1 w2 o0 o1 o2
        go_wp2_with fail
        go_meet
        exact⟨by rw[E2.out],rfl⟩
     ·have q1:decide ((0:Int)<(i:Int))=false:=dF (by omega)
      have q2:decide (0<i)=false:=dF i0
      have E2:Hid (bb=false):=by show _=_;rw[←HBB.out];exact dF (fun h=>i0 h.1)
      go_wp2_with fail
      go_meet
      exact⟨by rw[E2.out],rfl⟩
    case rest=>
    obtain⟨rfl,rfl⟩:=hcut
    go_upto_if 58 with(fail)
    go_cut [6] (fun v wx=>∃ Wd:BA,v=.string Wd∧Wd.size≤7∧Hid (bl Wd=rWd (bl op) (i+1))∧W3=wx)
    case first=>
     cases bb with
     | true=>
      have E:Hid (bl ⟨#[101,108,115,101]⟩=rWd (bl op) (i+1)):=by show _=_;rw[rWd_succ,if_pos (dO HBB.out)];rfl
      go_wp2_with fail
      go_meet
      exact⟨_,rfl,by decide,E,rfl⟩
     | false=>
      have E:Hid (bl op=rWd (bl op) (i+1)):=by show _=_;rw[rWd_succ,if_neg (of_decide_eq_false HBB.out)]
      go_wp2_with fail
      go_meet
      exact⟨_,rfl,hop7,E,rfl⟩
    case rest=>
    obtain⟨Wd,rfl,hWd,EW,rfl⟩:=hcut
    have SN:Hid (bl (S++(⟨#[32]⟩++Wd++⟨#[32]⟩++X))=[40]++rTail (bl op) 0 (plL (kids.take (i+2)))):=by
     show _=_
     rw[tail_more _ _ _ _ HT.out];simp only[bl_append];rw[HS.out,EW.out,HX.out]
     simp[List.append_assoc];rfl
    have hsn:(S++(⟨#[32]⟩++Wd++⟨#[32]⟩++X):BA).size≤12900:=by rw[←bl_length,SN.out,List.length_append];have:=PS.out (i+2);simp;omega
    have HSN:Hid ((S++(⟨#[32]⟩++Wd++⟨#[32]⟩++X):BA).size≤12900):=hsn
    clear hsn
    have a0:=K3.out.cell 0 _ rfl
    have a1:=K3.out.cell 1 _ rfl
    have a2:=K3.out.cell 2 _ rfl
    have a3:=K3.out.cell 3 _ rfl
    have a4:=K3.out.cell 4 _ rfl
    go_wp2_with fail
    refine hcall.mono ?_;rintro e w4 ⟨rfl,hb⟩
    have B5:=hid (bthen B4.out hb)
    have HK5:=hid (HK3.out.below hb)
    clear hcall hb a0 a1 a2 a3 a4 b0
    go_wp2_with fail
    go_roundw
    case rel=>exact⟨i+1,_,rfl,by go_num,by omega,HSN.out,SN,B5,HK5⟩
    case measure=>simp[intOf];omega
   ·have E:Hid (bl (S++⟨#[41]⟩)=rText (.node (bl op) (plL kids))):=by
     have h1:=HS.out
     rw[tL (by rw[RL.out];omega)] at h1
     show _=_;rw[bl_append,h1];rfl
    go_wp2_with fail
    go_ret
    exact⟨by rw[←eq_mk E.out];rfl,HB.out⟩
theorem rDep_lt:∀ f:Nat,(∀ deep n l t l' n',rDep f deep n l=some (t,l',n')→l'.length<l.length)∧(∀ deep n acc op l t l' n',rGrp f deep n acc op l=some (t,l',n')→l'.length<l.length)
 | 0=>⟨fun _ _ _ _ _ _ h=>by simp[rDep] at h,fun _ _ _ _ _ _ _ _ h=>by simp[rGrp] at h⟩
 | f+1=>by
  obtain⟨ih1,ih2⟩:=rDep_lt f
  have skip:∀ l:LU,(rNext l).length≤l.length:=rNext_le
  constructor
  ·intro deep n l t l' n' h
   unfold rDep at h
   split at h
   ·simp at h
   ·rename_i h0
    have hl:rLook l≠[]:=fun e=>h0 (.inl e)
    have hlt:=rLook_next hl
    split at h
    ·split at h
     ·simp at h
     ·have:=ih2 _ _ _ _ _ _ _ _ h;omega
    ·unfold rAtom at h
     split at h
     ·simp at h
     ·split at h
      ·unfold rAtomR at h
       split at h
       ·simp only[Option.some.injEq,Prod.mk.injEq] at h
        obtain⟨_,rfl,_⟩:=h;exact hlt
       ·unfold rAtomV at h
        split at h
        ·simp at h
        ·split at h
         ·simp only[Option.some.injEq,Prod.mk.injEq] at h
          obtain⟨_,rfl,_⟩:=h
          have a1:=skip (rNext l)
          have a2:=skip (rNext (rNext l))
          omega
         ·simp at h
      ·simp at h
  ·intro deep n acc op l t l' n' h
   unfold rGrp at h
   split at h
   ·simp at h
   ·rename_i k l1 n1 hd
    have h1:=ih1 _ _ _ _ _ _ hd
    split at h
    ·simp only[Option.some.injEq,Prod.mk.injEq] at h
     obtain⟨_,rfl,_⟩:=h
     have:=skip l1;omega
    ·split at h
     ·have h2:=ih2 _ _ _ _ _ _ _ _ h
      have:=skip l1;omega
     ·simp at h
theorem TOwn.grown2 {wb w2:World}{lo:Nat}{old new:Option Nat}{t:RchM}(h:TOwn wb lo old t)(hg:wb.grownBy w2 old)(hn:new=old∨new=some wb.heap.size):TOwn w2 lo new t:=by
 induction h with
 | mk t row ne _ ih=>
  have hr:(Value.slice t.ka t.kids.length t.kc).ownBlock=none∨(Value.slice t.ka t.kids.length t.kc).ownBlock≠old:=by
   cases hb:(Value.slice t.ka t.kids.length t.kc).ownBlock with
   | none=>exact .inl rfl
   | some g=>exact .inr (ne g hb)
  refine .mk t (row.kept hg hr) (fun g hb e=>?_) ih
  rcases hn with rfl | rfl
  ·exact ne g hb e
  ·injection e with e;have:=(row.lt g hb).2;omega
structure GrS (w wr:World) (a hi:Nat) (l:LU) (n r:Nat) (OP:BA) (ks:List RchM) (A:Option Addr) (m cc:Nat):Prop where
 len:ks.length=m
 box:Blk wr w.heap.size [.string OP,.string ⟨#[]⟩,.int .i64 0,.string ⟨#[]⟩,.slice A m cc]
 row:wr.ownsRow (w.heap.size+1) 121 5 (.slice A m cc) m (ks.flatMap RchM.cells)
 kids:∀ k∈ks,TOwn wr (w.heap.size+1) (Value.slice A m cc).ownBlock k
 good:∀ k∈ks,TGood k
 pr:PR wr a hi l n r
 gr:w.grownBy wr (some a)
 lt:hi≤w.heap.size
theorem GrS.start {w:World}{a hi n r:Nat}{l:LU}(h:PR w a hi l n r)(t:TypeId):GrS w (w.alloc (.cells #[.string ⟨#[]⟩,.string ⟨#[]⟩,.int .i64 0,.string ⟨#[]⟩,.slice none 0 0] t)) a hi l n r ⟨#[]⟩ [] none 0 0:=
 ⟨rfl,Blk.new w _ t,World.ownsRow_nil _ _ _ _,by simp,by simp,h.alloc _,below_grows (bR.alloc lr _) _,h.hz⟩
theorem GrS.alt {w wr:World}{a hi n r:Nat}{l:LU}{OP:BA}{ks:List RchM}{A:Option Addr}{m cc:Nat}(h:GrS w wr a hi l n r OP ks A m cc):a<w.heap.size:=by have:=h.pr.lt;have:=h.lt;omega
theorem GrS.step {w wr w':World}{a hi n r n' r':Nat}{l l':LU}{OP:BA}{ks:List RchM}{A:Option Addr}{m cc:Nat}(h:GrS w wr a hi l n r OP ks A m cc)(hg:wr.grownBy w' (some a))(hd:PR w' a hi l' n' r'):GrS w w' a hi l' n' r' OP ks A m cc:=by
 have hlt:=h.alt
 exact⟨h.len,h.box.grownBy hg (by simp;omega),owns_kept h.row (by omega) hg,fun k hk=>(h.kids k hk).kept (by omega) hg,h.good,hd,grown_thru h.gr hg,h.lt⟩
theorem GrS.below {w wr w':World}{a hi n r:Nat}{l:LU}{OP:BA}{ks:List RchM}{A:Option Addr}{m cc:Nat}(h:GrS w wr a hi l n r OP ks A m cc)(hb:Below wr.heap.size wr w'):GrS w w' a hi l n r OP ks A m cc:=
 h.step (below_grows hb _) (h.pr.below hb)
theorem GrS.put {w wr:World}{a hi n r:Nat}{l:LU}{OP:BA}{ks:List RchM}{A:Option Addr}{m cc:Nat}(h:GrS w wr a hi l n r OP ks A m cc)(P:BA):GrS w (wr.setCell ⟨w.heap.size,0,none⟩ (.string P)) a hi l n r P ks A m cc:=
 ⟨h.len,h.box.set 0 (by simp) _,owns_kept h.row (by omega) (kept_set _),fun k hk=>(h.kids k hk).kept (by omega) (kept_set _),h.good,h.pr.far h.lt _,grown_new h.gr (kept_set _) (fun j e=>by injection e with e;omega),h.lt⟩
theorem GrS.grow {w wb w2:World}{a hi n r:Nat}{l:LU}{OP:BA}{ks:List RchM}{A A1:Option Addr}{m cc c1:Nat}{T:RchM}(h:GrS w wb a hi l n r OP ks A m cc)(hT:TOwn wb (w.heap.size+1) (Value.slice A m cc).ownBlock T)(hgd:TGood T)
  (hr:w2.ownsRow (w.heap.size+1) 121 5 (.slice A1 (m+1) c1) (m+1) (ks.flatMap RchM.cells++T.cells))
  (hg:wb.grownBy w2 (Value.slice A m cc).ownBlock)(ha:(Value.slice A1 (m+1) c1).ownBlock=(Value.slice A m cc).ownBlock∨(Value.slice A1 (m+1) c1).ownBlock=some wb.heap.size):
  GrS w (w2.setCell ⟨w.heap.size,4,none⟩ (.slice A1 (m+1) c1)) a hi l n r OP (ks++[T]) A1 (m+1) c1:=by
 have far:∀ j,(Value.slice A m cc).ownBlock=some j→w.heap.size+1≤j:=fun j hj=>(h.row.lt j hj).1
 have hz:=h.lt
 have bx:Blk w2 w.heap.size [.string OP,.string ⟨#[]⟩,.int .i64 0,.string ⟨#[]⟩,.slice A m cc]:=h.box.grownBy hg (fun e=>by have:=far _ e.symm;omega)
 refine⟨by simp[h.len],bx.set 4 (by simp) _,?_,fun k hk=>?_,fun k hk=>?_,?_,?_,h.lt⟩
 ·rw[List.flatMap_append]
  exact owns_kept (by simpa using hr) (by omega) (kept_set _)
 ·refine TOwn.kept ?_ (by omega) (kept_set _)
  rcases List.mem_append.1 hk with hk | hk
  ·exact(h.kids k hk).grown2 hg ha
  ·obtain rfl:=List.mem_singleton.1 hk
   exact hT.grown2 hg ha
 ·rcases List.mem_append.1 hk with hk | hk
  ·exact h.good k hk
  ·obtain rfl:=List.mem_singleton.1 hk;exact hgd
 ·exact(h.pr.grown hg (fun j e=>by have:=far j e;omega)).far hz _
 ·exact grown_new (grown_new h.gr hg (fun j e=>by have:=far j e;omega)) (kept_set _) (fun j e=>by injection e with e;omega)
def DepPost (r:Option (Rch×LU×Nat))(a hi m deep n:Nat)(w:World)(e:Ending)(w':World):Prop:=
 w.grownBy w' (some a)∧match r with
  | none=>∃ (f:BA) (x c:Int),e=.returned (.tuple #[zeroR.val,fltV f x c])∧c≠0
  | some (t,l',n')=>∃ (T:RchM) (m':Nat),e=.returned (.tuple #[T.val,fltV ⟨#[]⟩ 0 0])∧T.pl=t∧TGood T∧TOwn w' w.heap.size none T∧T.ht+deep≤32∧n'=n+T.cnt∧n'≤64∧PR w' a hi l' n' m'∧m'<m
theorem DepPost.no {r:Option (Rch×LU×Nat)}{a hi m deep n:Nat}{w w':World}{f:BA}{x c:Int}(hr:r=none)(hg:w.grownBy w' (some a))(hc:c≠0):DepPost r a hi m deep n w (.returned (.tuple #[zeroR.val,fltV f x c])) w':=by
 subst hr;exact⟨hg,f,x,c,rfl,hc⟩
theorem DepPost.yes {r:Option (Rch×LU×Nat)}{a hi m m' deep n n':Nat}{l':LU}{w w':World}{T:RchM}(hr:r=some (T.pl,l',n'))(hg:w.grownBy w' (some a))(h1:TGood T)(h2:TOwn w' w.heap.size none T)(h3:T.ht+deep≤32)(h4:n'=n+T.cnt)(h5:n'≤64)(h6:PR w' a hi l' n' m')(h7:m'<m):DepPost r a hi m deep n w (.returned (.tuple #[T.val,fltV ⟨#[]⟩ 0 0])) w':=by
 subst hr;exact⟨hg,T,m',rfl,rfl,h1,h2,h3,h4,h5,h6,h7⟩
theorem rGrp_none {f deep n:Nat}{acc:List Rch}{op l:LU}(h:rDep f deep n l=none):rGrp (f+1) deep n acc op l=none:=by unfold rGrp;rw[h]
theorem rGrp_end {f deep n n1:Nat}{acc:List Rch}{op l l1:LU}{k:Rch}(h:rDep f deep n l=some (k,l1,n1))(h1:rLook l1=[41])(h2:acc≠[]):rGrp (f+1) deep n acc op l=some (.node op (acc++[k]),rNext l1,n1):=by
 unfold rGrp;rw[h];simp only;rw[if_pos ⟨h1,h2⟩]
theorem rGrp_more {f deep n n1:Nat}{acc:List Rch}{op l l1:LU}{k:Rch}(h:rDep f deep n l=some (k,l1,n1))(h1:¬ (rLook l1=[41]∧acc≠[]))(h2:rFollows op (acc.length+1) (rLook l1)=true):rGrp (f+1) deep n acc op l=rGrp f deep n1 (acc++[k]) (if acc=[] then rLook l1 else op) (rNext l1):=by
 rw[rGrp,h];simp only;rw[if_neg h1,if_pos h2]
theorem rGrp_bad {f deep n n1:Nat}{acc:List Rch}{op l l1:LU}{k:Rch}(h:rDep f deep n l=some (k,l1,n1))(h1:¬ (rLook l1=[41]∧acc≠[]))(h2:rFollows op (acc.length+1) (rLook l1)=false):rGrp (f+1) deep n acc op l=none:=by
 rw[rGrp,h];simp only;rw[if_neg h1,if_neg (by simp[h2])]
theorem rdep_fault (t:BA)(q c:Int)(w:World):
  Calls Tryz.prog 129 #[.agg #[.string t,.int .i64 q],.int .i64 c] w fun e w'=>e=.returned (fltV ⟨#[]⟩ q c)∧Below w.heap.size w w':=by
 go_enter Tryz.func129,Tryz.ntmps129
 go_wp2_with fail
 refine bodyPost_ret (v:=fltV ⟨#[]⟩ q c) (by simp[results,Tryz.results129,go_sem,fltV]) rfl ?_
 refine⟨rfl,?_⟩
 repeat' refine below_set ?_ (by omega) _
 exact(bR.alloc lr _).alloc (by simp) _
theorem rdep_next (a hi n m:Nat)(l:LU)(w:World)(h:PR w a hi l n m)(hl:rLook l≠[]):
  Calls Tryz.prog 181 #[.pointer (some ⟨a,0,none⟩)] w fun e w'=>e=.returned (.tuple #[])∧PR w' a hi (rNext l) n (m-1)∧w.grownBy w' (some a)∧2≤m:=by
 obtain⟨b,off,c,T,p,k,hT,h2⟩:=h.cells
 obtain⟨h2,h3⟩:=h2 hl
 have HR:=hid h3
 obtain⟨c0,c1,f0,f1,t0,t1,ne,m1,mc,cz,tz⟩:=k
 simp only[maxLen] at cz
 clear h3 h hl hT
 go_enter Tryz.func181,Tryz.ntmps181
 go_wp2_with fail
 go_end0
 exact⟨rfl,HR.out,kept_set _,h2⟩
abbrev put8 (W:World) (s:Nat) (v0 v1 v2 v3 v4 u0 u1 u2:Value):World:=
 (((((((W.setCell ⟨s,0,none⟩ v0).setCell ⟨s,1,none⟩ v1).setCell ⟨s,2,none⟩ v2).setCell ⟨s,3,none⟩ v3).setCell ⟨s,4,none⟩ v4).setCell ⟨s+1,0,none⟩ u0).setCell ⟨s+1,1,none⟩ u1).setCell ⟨s+1,2,none⟩ u2
theorem put8_grown {w W:World}{a s:Nat}(h:w.grownBy W (some a))(hs:w.heap.size≤s)(v0 v1 v2 v3 v4 u0 u1 u2:Value):w.grownBy (put8 W s v0 v1 v2 v3 v4 u0 u1 u2) (some a):=by
 unfold put8
 repeat' refine only_setCell ?_ (.inr (by simp only;omega)) _
 exact h
theorem put8_pr {W:World}{a hi n m s:Nat}{l:LU}(h:PR W a hi l n m)(hs:hi≤s)(v0 v1 v2 v3 v4 u0 u1 u2:Value):PR (put8 W s v0 v1 v2 v3 v4 u0 u1 u2) a hi l n m:=by
 unfold put8
 repeat' refine PR.far ?_ (by omega) _
 exact h
theorem put8_own {W:World}{lo s:Nat}{bad:Option Nat}{T:RchM}(h:TOwn W lo bad T)(hs:s+1<lo)(v0 v1 v2 v3 v4 u0 u1 u2:Value):TOwn (put8 W s v0 v1 v2 v3 v4 u0 u1 u2) lo bad T:=by
 unfold put8
 repeat' refine TOwn.kept ?_ (by omega) (kept_set _)
 exact h
structure Two (W:World) (s:Nat):Prop where
 b0:Blk W s [.string ⟨#[]⟩,.string ⟨#[]⟩,.int .i64 0,.string ⟨#[]⟩,.slice none 0 0]
 b1:Blk W (s+1) [.string ⟨#[]⟩,.int .i64 0,.int .i64 0]
structure TwoC (W:World) (s:Nat):Prop where
 x0:W.cell? ⟨s,0,none⟩=some (.string ⟨#[]⟩)
 x1:W.cell? ⟨s,1,none⟩=some (.string ⟨#[]⟩)
 x2:W.cell? ⟨s,2,none⟩=some (.int .i64 0)
 x3:W.cell? ⟨s,3,none⟩=some (.string ⟨#[]⟩)
 x4:W.cell? ⟨s,4,none⟩=some (.slice none 0 0)
 y0:W.cell? ⟨s+1,0,none⟩=some (.string ⟨#[]⟩)
 y1:W.cell? ⟨s+1,1,none⟩=some (.int .i64 0)
 y2:W.cell? ⟨s+1,2,none⟩=some (.int .i64 0)
 f0:W.frozen? ⟨s,0,none⟩=false
 f1:W.frozen? ⟨s,1,none⟩=false
 f2:W.frozen? ⟨s,2,none⟩=false
 f3:W.frozen? ⟨s,3,none⟩=false
 f4:W.frozen? ⟨s,4,none⟩=false
 g0:W.frozen? ⟨s+1,0,none⟩=false
 g1:W.frozen? ⟨s+1,1,none⟩=false
 g2:W.frozen? ⟨s+1,2,none⟩=false
theorem Two.c {W:World}{s:Nat}(h:Two W s):TwoC W s:=
 ⟨h.b0.cell 0 _ rfl,h.b0.cell 1 _ rfl,h.b0.cell 2 _ rfl,h.b0.cell 3 _ rfl,h.b0.cell 4 _ rfl,h.b1.cell 0 _ rfl,h.b1.cell 1 _ rfl,h.b1.cell 2 _ rfl,h.b0.free 0 (by simp),h.b0.free 1 (by simp),h.b0.free 2 (by simp),h.b0.free 3 (by simp),h.b0.free 4 (by simp),h.b1.free 0 (by simp),h.b1.free 1 (by simp),h.b1.free 2 (by simp)⟩
theorem Two.step {W W':World}{s a:Nat}(h:Two W s)(hg:W.grownBy W' (some a))(hs:a<s):Two W' s:=
 ⟨h.b0.grownBy hg (by simp;omega),h.b1.grownBy hg (by simp;omega)⟩
theorem Two.below {W W':World}{s:Nat}(h:Two W s)(hb:Below W.heap.size W W'):Two W' s:=⟨h.b0.below hb,h.b1.below hb⟩
theorem Two.new (w:World)(t t':TypeId):Two ((w.alloc (.cells #[.string ⟨#[]⟩,.string ⟨#[]⟩,.int .i64 0,.string ⟨#[]⟩,.slice none 0 0] t)).alloc (.cells #[.string ⟨#[]⟩,.int .i64 0,.int .i64 0] t')) w.heap.size:=by
 refine⟨(Blk.new w _ t).alloc _,?_⟩
 have:=Blk.new (w.alloc (.cells #[.string ⟨#[]⟩,.string ⟨#[]⟩,.int .i64 0,.string ⟨#[]⟩,.slice none 0 0] t)) [.string ⟨#[]⟩,.int .i64 0,.int .i64 0] t'
 simpa using this
theorem atom_res (tmps:Array Value){W:World}{s:Nat}(h:TwoC W s)(h2:tmps[2]?=some (.pointer (some ⟨s,0,none⟩)))(h3:tmps[3]?=some (.pointer (some ⟨s+1,0,none⟩)))(v0 v1 v2 v3 v4 u0 u1 u2:Value)
  (hv:v0.oneCell'=true∧v1.oneCell'=true∧v2.oneCell'=true∧v3.oneCell'=true∧v4.oneCell'=true∧u0.oneCell'=true∧u1.oneCell'=true∧u2.oneCell'=true):
  (results Tryz.f183 tmps).run Tryz.prog (put8 W s v0 v1 v2 v3 v4 u0 u1 u2)=.ok (.tuple #[.agg #[v0,v1,v2,v3,v4],.agg #[u0,u1,u2]]) (put8 W s v0 v1 v2 v3 v4 u0 u1 u2):=by
 obtain⟨x0,x1,x2,x3,x4,y0,y1,y2,_,_,_,_,_,_,_,_⟩:=h
 simp(maxDischargeDepth:=10) [results,Tryz.results183,h2,h3,go_sem,x0,x1,x2,x3,x4,y0,y1,y2]
end
end Go.Proofs.YtdfdllbebfoggaaGreatDoor
