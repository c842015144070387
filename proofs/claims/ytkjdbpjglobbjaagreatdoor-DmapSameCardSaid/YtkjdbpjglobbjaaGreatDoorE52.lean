/- A part of the proof of a law on dependencies in three formats. No condition. -/
import Derived.Test.YtkjdbpjglobbjaaGreatDoorE16
import Derived.Test.YtkjdbpjglobbjaaGreatDoorE31
import Derived.Test.YtkjdbpjglobbjaaGreatDoorE32
import Derived.Test.YtkjdbpjglobbjaaGreatDoorE36
set_option maxRecDepth 100000
set_option maxHeartbeats 20000000
set_option linter.unusedVariables false
set_option linter.unusedSimpArgs false
namespace Go.Proofs.YtkjdbpjglobbjaaGreatDoor
section
open Go.RowKit
theorem yJ (f:FuncId)(x0:Value)(p:aj→Bool)(A:Option Addr)(c:Nat)(l:List aj)(w:World)(hr:Rd w 5 A l.length (l.flatMap aj.cells))(hl:l.length≤1000000)
  (hcall:∀ (args:Array Value)(w:World),(callFunc f args).run Tryz.prog w=.ok (.enter f args) w)
  (hf:Hid (∀ g∈l,∀ W,Below w.heap.size w W→Calls Tryz.prog f #[g.val,x0] W fun e w'=>e=.returned (.bool (p g))∧Below W.heap.size W w')):
  Calls Tryz.prog 137 #[.slice A l.length c,.func (.func f) #[] #[x0]] w fun e w'=>e=.returned (.int .i64 (qy p l 0))∧Below w.heap.size w w':=by
 have HR:=ae hr
 clear hr
 go_enter Tryz.func137,Tryz.ntmps137
 go_wp2_with fail
 go_loopw [8] (fun i wr=>∃ k:Nat,k≤l.length∧i=.int .i64 k∧Hid (∀ y∈l.take k,p y=false)∧Hid (Below w.heap.size w wr)) (fun i _=>l.length-(intOf i).toNat)
 case atStart=>exact⟨0,z0,rfl,by simp[Hid],bR⟩
 case round=>
  obtain⟨k,hk,rfl,HN,HB⟩:=hrel
  by_cases hlt:k<l.length
  ·obtain⟨x,hx⟩:∃ x,l[k]?=some x:=⟨_,gG hlt⟩
   obtain⟨b,off,hA,he⟩:=(HR.out.below HB.out).elem mL k x hx
   have e0:=he 0 _ rfl
   have e1:=he 1 _ rfl
   have e2:=he 2 _ rfl
   have e3:=he 3 _ rfl
   have e4:=he 4 _ rfl
   simp only[Nat.add_zero] at e0
   have hix:=fun W=>aH (T:=68) (E:=70) (sz:=5) (c:=c) Tryz.underlying68 rfl Tryz.sizeOf70 hA hlt W
   have HX:=ae hx
   have HF:=ae (fun W hb=>hf.out x (gM hx) W hb)
   unfold aj.val at HF
   clear hx hA he
   go_wp2_with fail
   refine(HF.out _ HB.out).mono ?_;rintro e w1 ⟨rfl,hb1⟩
   have B1:=ae (ah HB.out hb1)
   clear hb1 e0 e1 e2 e3 e4 hix HF
   cases hp:p x
   ·have HP:=ae hp
    clear hp
    go_wp2_with fail
    go_roundw
    case rel=>exact⟨k+1,by omega,by go_num,ae (fun y hy=>by
     rw[aS HX.out] at hy
     rcases List.mem_append.1 hy with hy | hy
     ·exact HN.out y hy
     ·rw[List.mem_singleton.1 hy];exact HP.out),B1⟩
    case measure=>simp[intOf];omega
   ·have E:Hid (qy p l 0=k):=by show _=_;rw[oD HX.out HN.out hp];omega
    clear hp
    go_wp2_with fail
    go_ret
    exact⟨az E.out.symm,B1.out⟩
  ·have E:Hid (qy p l 0=-1):=kM 0 (fun y hy=>HN.out y (by rw[tL (by omega)];exact hy))
   go_wp2_with fail
   go_ret
   exact⟨az E.out.symm,HB.out⟩
theorem lm (f:FuncId)(x0:Value)(p:aj→Bool)(A:Option Addr)(c:Nat)(l:List aj)(w:World)(hr:Rd w 5 A l.length (l.flatMap aj.cells))(hl:l.length≤1000000)
  (hcall:∀ (args:Array Value)(w:World),(callFunc f args).run Tryz.prog w=.ok (.enter f args) w)
  (hf:Hid (∀ g∈l,∀ W,Below w.heap.size w W→Calls Tryz.prog f #[g.val,x0] W fun e w'=>e=.returned (.bool (p g))∧Below W.heap.size W w')):
  Calls Tryz.prog 95 #[.slice A l.length c,.func (.func f) #[] #[x0]] w fun e w'=>e=.returned (.bool (l.any p))∧Below w.heap.size w w':=by
 have HI:=ae (yJ f x0 p A c l w hr hl hcall hf)
 have HE:=ae (mJ p l 0 (by omega))
 generalize qy p l 0=ix at *
 clear hr hf
 go_enter Tryz.func95,Tryz.ntmps95
 go_wp2_with fail
 refine HI.out.mono ?_;rintro e w1 ⟨rfl,hb1⟩
 have B1:=ae hb1
 clear hb1
 go_wp2_with fail
 go_ret
 exact⟨am HE.out,B1.out⟩
def cI (a b:Nat):Int:=if a<b then -1 else if b<a then 1 else 0
theorem tN (a b : Nat) : Lib.compareInt (a : Int) (b : Int) = cI a b := by
  unfold Lib.compareInt cI
  rcases Nat.lt_trichotomy a b with h | h | h
  · rw [if_pos (by omega), if_pos h]
  · subst h; simp
  · rw [if_neg (by omega), if_pos (by omega), if_neg (by omega), if_pos h]
theorem Su {a b:Nat}:cI a b=0↔a=b:=by
 unfold cI
 rcases Nat.lt_trichotomy a b with h | h | h
 ·rw[if_pos h];constructor
  ·intro e;cases e
  ·intro e;omega
 ·subst h;simp
 ·rw[if_neg (by omega),if_pos h];constructor
  ·intro e;cases e
  ·intro e;omega
theorem su (a:Nat):cI a a=0:=Su.2 rfl
theorem BV:∀ x y:LU,Lib.compareBytes y x=- Lib.compareBytes x y
 | [],[]=>rfl
 | [],_::_=>rfl
 | _::_,[]=>rfl
 | a::r,b::s=>by
  unfold Lib.compareBytes
  by_cases h1:a<b
  ·have h2:¬ b<a:=fun h=>UInt8.lt_irrefl a (UInt8.lt_trans h1 h)
   rw[if_neg h2,if_pos h1,if_pos h1];rfl
  ·by_cases h2:b<a
   ·rw[if_pos h2,if_neg h1,if_pos h2]
   ·rw[if_neg h2,if_neg h1,if_neg h1,if_neg h2];exact BV r s
theorem tO:∀ x:LU,Lib.compareBytes x x=0
 | []=>rfl
 | a::r=>by
  unfold Lib.compareBytes
  rw[if_neg (UInt8.lt_irrefl a),if_neg (UInt8.lt_irrefl a)];exact tO r
theorem BZ:∀ {x y:LU}(u v:LU),x.length=y.length→Lib.compareBytes x y=-1→Lib.compareBytes (x++u) (y++v)=-1
 | [],[],u,v,_,h=>by cases h
 | [],_::_,u,v,hl,_=>by cases hl
 | _::_,[],u,v,hl,_=>by cases hl
 | a::r,b::s,u,v,hl,h=>by
  unfold Lib.compareBytes at h
  show Lib.compareBytes (a::(r++u)) (b::(s++v))=-1
  unfold Lib.compareBytes
  by_cases h1:a<b
  ·rw[if_pos h1]
  ·rw[if_neg h1] at h ⊢
   by_cases h2:b<a
   ·rw[if_pos h2] at h;cases h
   ·rw[if_neg h2] at h ⊢
    exact BZ u v (by simpa using hl) h
theorem G8:∀ (x u v:LU),Lib.compareBytes (x++u) (x++v)=Lib.compareBytes u v
 | [],u,v=>rfl
 | a::r,u,v=>by
  show Lib.compareBytes (a::(r++u)) (a::(r++v))=_
  rw[Lib.compareBytes,if_neg (UInt8.lt_irrefl a),if_neg (UInt8.lt_irrefl a)];exact G8 r u v
theorem QD {a b:Nat}(ha:a<10)(hb:b<10)(h:a<b):(UInt8.ofNat (48+a))<UInt8.ofNat (48+b):=by
 rw[UInt8.lt_iff_toNat_lt,jZ ha,jZ hb];omega
theorem Sv:∀ (b a:Nat),a<b→(aC a).length<(aC b).length∨((aC a).length=(aC b).length∧Lib.compareBytes (aC a) (aC b)=-1):=by
 intro b
 induction b using Nat.strongRecOn with
 | ind b ih=>
  intro a hab
  by_cases hb:b<10
  ·rw[cK hb,cK (by omega)]
   refine .inr ⟨rfl,?_⟩
   unfold Lib.compareBytes
   rw[if_pos (QD (by omega) hb hab)]
  ·by_cases ha:a<10
   ·rw[gX hb,cK ha]
    have:=gY (b / 10)
    left;simp;omega
   ·rw[gX hb,gX ha]
    by_cases hq:a / 10<b / 10
    ·rcases ih (b / 10) (by omega) (a / 10) hq with h | ⟨h1,h2⟩
     ·left;simp;omega
     ·exact .inr ⟨by simp[h1],BZ _ _ h1 h2⟩
    ·have e:a / 10=b / 10:=by omega
     rw[e]
     refine .inr ⟨by simp,?_⟩
     rw[G8]
     unfold Lib.compareBytes
     rw[if_pos (QD (by omega) (by omega) (by omega))]
theorem yW (n:Nat):Lib.trimLeftB (aC n) 48=if n=0 then [] else aC n:=by
 by_cases h:n=0
 ·subst h;rw[if_pos rfl,cK (by omega)];rfl
 ·rw[if_neg h]
  have hh:(aC n).head?≠some 48:=by
   by_cases h10:n<10
   ·rw[cK h10]
    simp only[List.head?_cons,ne_eq,Option.some.injEq]
    intro e
    have:=congrArg UInt8.toNat e
    rw[jZ h10] at this
    have h3:(48:UInt8).toNat=48:=rfl
    omega
   ·exact sL n (by omega)
  cases e:aC n with
  | nil=>exact absurd e (iI n)
  | cons d r=>
   rw[e] at hh
   have:(d==48)=false:=by
    rw[bF];intro h;rw[h] at hh;exact hh rfl
   unfold Lib.trimLeftB
   rw[List.dropWhile_cons,this];rfl
theorem tP {a b:Nat}(h:a<b):cI a b=-1:=by unfold cI;rw[if_pos h]
theorem Ec {a b:Nat}(h:b<a):cI a b=1:=by unfold cI;rw[if_neg (by omega),if_pos h]
theorem kU (x y:Int):bT id [x,y]=if x≠0 then x else y:=by
 unfold bT bT bT
 by_cases h:x=0
 ·subst h;simp
  by_cases h2:y=0
  ·subst h2;simp
  ·simp[h2]
 ·simp[h]
theorem KH {a b:Nat}(h:a<b):iG (aC a) (aC b)=-1:=by
 unfold iG
 rw[yW,yW,if_neg (by omega:¬ b=0),kU,tN]
 by_cases ha:a=0
 ·rw[if_pos ha]
  have:=gY b
  rw[tP (by simpa using this),if_pos (by decide)]
 ·rw[if_neg ha]
  rcases Sv b a h with h1 | ⟨h1,h2⟩
  ·rw[tP h1,if_pos (by decide)]
  ·rw[h1,su,if_neg (by simp),h2]
theorem Nv (x y:LU):iG y x=- iG x y:=by
 unfold iG
 rw[kU,kU,tN,tN,BV]
 generalize (Lib.trimLeftB x 48).length=p
 generalize (Lib.trimLeftB y 48).length=q
 rcases Nat.lt_trichotomy p q with h | h | h
 ·rw[tP h,Ec h];rfl
 ·subst h;rw[su];rfl
 ·rw[Ec h,tP h];rfl
theorem sw (a b:Nat):iG (aC a) (aC b)=cI a b:=by
 rcases Nat.lt_trichotomy a b with h | h | h
 ·rw[KH h,tP h]
 ·subst h
  rw[su]
  unfold iG
  rw[kU,tN,su,tO];rfl
 ·rw[Nv,KH h,Ec h];rfl
theorem KJ (fmt:Int)(c d:aT)(h3:fmt=3→c.ep=0∧d.ep=0):iG (vp fmt c) (vp fmt d)=cI c.ep d.ep:=by
 have key:∀ x:aT,(fmt=3→x.ep=0)→Lib.trimLeftB (vp fmt x) 48=Lib.trimLeftB (aC x.ep) 48:=by
  intro x hx
  unfold vp
  by_cases h:fmt=3∨x.ep=0
  ·rw[if_pos h]
   have h0:x.ep=0:=h.elim hx id
   rw[h0,yW,if_pos rfl];rfl
  ·rw[if_neg h]
 have:iG (vp fmt c) (vp fmt d)=iG (aC c.ep) (aC d.ep):=by
  unfold iG
  rw[key c (fun h=>(h3 h).1),key d (fun h=>(h3 h).2)]
 rw[this,sw]
def mO (w:LU)(n:Nat)(v:LU)(m:Nat):Int:=
 if w=[] then (if v=[] then 0 else 1) else if v=[] then -1 else if Lib.compareBytes w v≠0 then Lib.compareBytes w v else cI n m
def jz (c d:aT):Int:=match c.lt,d.lt with
 | [],[]=>mO c.pre c.pnum d.pre d.pnum
 | [],_::_=>-1
 | _::_,[]=>1
 | a::_,b::_=>if a<b then -1 else if b<a then 1 else mO c.pre c.pnum d.pre d.pnum
def iW:List Nat→List Nat→Int→Int
 | n::ns,m::ms,t=>if cI n m≠0 then cI n m else match ns,ms with
  | [],[]=>t
  | [],_::_=>-1
  | _::_,[]=>1
  | n'::ns,m'::ms=>iW (n'::ns) (m'::ms) t
 | _,_,_=>0
def mP (c d:aT):Int:=bT id [cI c.ep d.ep,iW c.nums d.nums (jz c d),cI c.rev d.rev]
theorem vh (f:FuncId)(x0:Value)(p:aA→Bool)(A:Option Addr)(c:Nat)(l:List aA)(w:World)(hr:Rd w 3 A l.length (l.flatMap aA.cells))(hl:l.length≤1000000)
  (hcall:∀ (args:Array Value)(w:World),(callFunc f args).run Tryz.prog w=.ok (.enter f args) w)
  (hf:Hid (∀ g∈l,∀ W,Below w.heap.size w W→Calls Tryz.prog f #[g.val,x0] W fun e w'=>e=.returned (.bool (p g))∧Below W.heap.size W w')):
  Calls Tryz.prog 46 #[.slice A l.length c,.func (.func f) #[] #[x0]] w fun e w'=>e=.returned (.int .i64 (qy p l 0))∧Below w.heap.size w w':=by
 have HR:=ae hr
 clear hr
 go_enter Tryz.func46,Tryz.ntmps46
 go_wp2_with fail
 go_loopw [8] (fun i wr=>∃ k:Nat,k≤l.length∧i=.int .i64 k∧Hid (∀ y∈l.take k,p y=false)∧Hid (Below w.heap.size w wr)) (fun i _=>l.length-(intOf i).toNat)
 case atStart=>exact⟨0,z0,rfl,by simp[Hid],bR⟩
 case round=>
  obtain⟨k,hk,rfl,HN,HB⟩:=hrel
  by_cases hlt:k<l.length
  ·obtain⟨x,hx⟩:∃ x,l[k]?=some x:=⟨_,gG hlt⟩
   obtain⟨b,off,hA,he⟩:=(HR.out.below HB.out).elem dw k x hx
   have e0:=he 0 _ rfl
   have e1:=he 1 _ rfl
   have e2:=he 2 _ rfl
   simp only[Nat.add_zero] at e0
   have hix:=fun W=>aH (T:=31) (E:=53) (sz:=3) (c:=c) Tryz.underlying31 rfl Tryz.sizeOf53 hA hlt W
   have HX:=ae hx
   have HF:=ae (fun W hb=>hf.out x (gM hx) W hb)
   unfold aA.val at HF
   clear hx hA he
   go_wp2_with fail
   refine(HF.out _ HB.out).mono ?_;rintro e w1 ⟨rfl,hb1⟩
   have B1:=ae (ah HB.out hb1)
   clear hb1 e0 e1 e2 hix HF
   cases hp:p x
   ·have HP:=ae hp
    clear hp
    go_wp2_with fail
    go_roundw
    case rel=>exact⟨k+1,by omega,by go_num,ae (fun y hy=>by
     rw[aS HX.out] at hy
     rcases List.mem_append.1 hy with hy | hy
     ·exact HN.out y hy
     ·rw[List.mem_singleton.1 hy];exact HP.out),B1⟩
    case measure=>simp[intOf];omega
   ·have E:Hid (qy p l 0=k):=by show _=_;rw[oD HX.out HN.out hp];omega
    clear hp
    go_wp2_with fail
    go_ret
    exact⟨az E.out.symm,B1.out⟩
  ·have E:Hid (qy p l 0=-1):=kM 0 (fun y hy=>HN.out y (by rw[tL (by omega)];exact hy))
   go_wp2_with fail
   go_ret
   exact⟨az E.out.symm,HB.out⟩
theorem qN (f:FuncId)(x0:Value)(p:aA→Bool)(A:Option Addr)(c:Nat)(l:List aA)(w:World)(hr:Rd w 3 A l.length (l.flatMap aA.cells))(hl:l.length≤1000000)
  (hcall:∀ (args:Array Value)(w:World),(callFunc f args).run Tryz.prog w=.ok (.enter f args) w)
  (hf:Hid (∀ g∈l,∀ W,Below w.heap.size w W→Calls Tryz.prog f #[g.val,x0] W fun e w'=>e=.returned (.bool (p g))∧Below W.heap.size W w')):
  Calls Tryz.prog 29 #[.slice A l.length c,.func (.func f) #[] #[x0]] w fun e w'=>e=.returned (.bool (l.any p))∧Below w.heap.size w w':=by
 have HI:=ae (vh f x0 p A c l w hr hl hcall hf)
 have HE:=ae (mJ p l 0 (by omega))
 generalize qy p l 0=ix at *
 clear hr hf
 go_enter Tryz.func29,Tryz.ntmps29
 go_wp2_with fail
 refine HI.out.mono ?_;rintro e w1 ⟨rfl,hb1⟩
 have B1:=ae hb1
 clear hb1
 go_wp2_with fail
 go_ret
 exact⟨am HE.out,B1.out⟩
theorem vi (f:FuncId)(x0 x1:Value)(p:aA→Bool)(A:Option Addr)(c:Nat)(l:List aA)(w:World)(hr:Rd w 3 A l.length (l.flatMap aA.cells))(hl:l.length≤1000000)
  (hcall:∀ (args:Array Value)(w:World),(callFunc f args).run Tryz.prog w=.ok (.enter f args) w)
  (hf:Hid (∀ g∈l,∀ W,Below w.heap.size w W→Calls Tryz.prog f #[g.val,x0,x1] W fun e w'=>e=.returned (.bool (p g))∧Below W.heap.size W w')):
  Calls Tryz.prog 46 #[.slice A l.length c,.func (.func f) #[] #[x0,x1]] w fun e w'=>e=.returned (.int .i64 (qy p l 0))∧Below w.heap.size w w':=by
 have HR:=ae hr
 clear hr
 go_enter Tryz.func46,Tryz.ntmps46
 go_wp2_with fail
 go_loopw [8] (fun i wr=>∃ k:Nat,k≤l.length∧i=.int .i64 k∧Hid (∀ y∈l.take k,p y=false)∧Hid (Below w.heap.size w wr)) (fun i _=>l.length-(intOf i).toNat)
 case atStart=>exact⟨0,z0,rfl,by simp[Hid],bR⟩
 case round=>
  obtain⟨k,hk,rfl,HN,HB⟩:=hrel
  by_cases hlt:k<l.length
  ·obtain⟨x,hx⟩:∃ x,l[k]?=some x:=⟨_,gG hlt⟩
   obtain⟨b,off,hA,he⟩:=(HR.out.below HB.out).elem dw k x hx
   have e0:=he 0 _ rfl
   have e1:=he 1 _ rfl
   have e2:=he 2 _ rfl
   simp only[Nat.add_zero] at e0
   have hix:=fun W=>aH (T:=31) (E:=53) (sz:=3) (c:=c) Tryz.underlying31 rfl Tryz.sizeOf53 hA hlt W
   have HX:=ae hx
   have HF:=ae (fun W hb=>hf.out x (gM hx) W hb)
   unfold aA.val at HF
   clear hx hA he
   go_wp2_with fail
   refine(HF.out _ HB.out).mono ?_;rintro e w1 ⟨rfl,hb1⟩
   have B1:=ae (ah HB.out hb1)
   clear hb1 e0 e1 e2 hix HF
   cases hp:p x
   ·have HP:=ae hp
    clear hp
    go_wp2_with fail
    go_roundw
    case rel=>exact⟨k+1,by omega,by go_num,ae (fun y hy=>by
     rw[aS HX.out] at hy
     rcases List.mem_append.1 hy with hy | hy
     ·exact HN.out y hy
     ·rw[List.mem_singleton.1 hy];exact HP.out),B1⟩
    case measure=>simp[intOf];omega
   ·have E:Hid (qy p l 0=k):=by show _=_;rw[oD HX.out HN.out hp];omega
    clear hp
    go_wp2_with fail
    go_ret
    exact⟨az E.out.symm,B1.out⟩
  ·have E:Hid (qy p l 0=-1):=kM 0 (fun y hy=>HN.out y (by rw[tL (by omega)];exact hy))
   go_wp2_with fail
   go_ret
   exact⟨az E.out.symm,HB.out⟩
theorem qO (f:FuncId)(x0 x1:Value)(p:aA→Bool)(A:Option Addr)(c:Nat)(l:List aA)(w:World)(hr:Rd w 3 A l.length (l.flatMap aA.cells))(hl:l.length≤1000000)
  (hcall:∀ (args:Array Value)(w:World),(callFunc f args).run Tryz.prog w=.ok (.enter f args) w)
  (hf:Hid (∀ g∈l,∀ W,Below w.heap.size w W→Calls Tryz.prog f #[g.val,x0,x1] W fun e w'=>e=.returned (.bool (p g))∧Below W.heap.size W w')):
  Calls Tryz.prog 29 #[.slice A l.length c,.func (.func f) #[] #[x0,x1]] w fun e w'=>e=.returned (.bool (l.any p))∧Below w.heap.size w w':=by
 have HI:=ae (vi f x0 x1 p A c l w hr hl hcall hf)
 have HE:=ae (mJ p l 0 (by omega))
 generalize qy p l 0=ix at *
 clear hr hf
 go_enter Tryz.func29,Tryz.ntmps29
 go_wp2_with fail
 refine HI.out.mono ?_;rintro e w1 ⟨rfl,hb1⟩
 have B1:=ae hb1
 clear hb1
 go_wp2_with fail
 go_ret
 exact⟨am HE.out,B1.out⟩
theorem ze (f:FuncId)(x0:Value)(p:cA→Bool)(A:Option Addr)(c:Nat)(l:List cA)(w:World)(hr:Rd w 5 A l.length (l.flatMap cA.cells))(hl:l.length≤1000000)
  (hcall:∀ (args:Array Value)(w:World),(callFunc f args).run Tryz.prog w=.ok (.enter f args) w)
  (hf:Hid (∀ g∈l,∀ W,Below w.heap.size w W→Calls Tryz.prog f #[g.val,x0] W fun e w'=>e=.returned (.bool (p g))∧Below W.heap.size W w')):
  Calls Tryz.prog 136 #[.slice A l.length c,.func (.func f) #[] #[x0]] w fun e w'=>e=.returned (.int .i64 (qy p l 0))∧Below w.heap.size w w':=by
 have HR:=ae hr
 clear hr
 go_enter Tryz.func136,Tryz.ntmps136
 go_wp2_with fail
 go_loopw [8] (fun i wr=>∃ k:Nat,k≤l.length∧i=.int .i64 k∧Hid (∀ y∈l.take k,p y=false)∧Hid (Below w.heap.size w wr)) (fun i _=>l.length-(intOf i).toNat)
 case atStart=>exact⟨0,z0,rfl,by simp[Hid],bR⟩
 case round=>
  obtain⟨k,hk,rfl,HN,HB⟩:=hrel
  by_cases hlt:k<l.length
  ·obtain⟨x,hx⟩:∃ x,l[k]?=some x:=⟨_,gG hlt⟩
   obtain⟨b,off,hA,he⟩:=(HR.out.below HB.out).elem vu k x hx
   have e0:=he 0 _ rfl
   have e1:=he 1 _ rfl
   have e2:=he 2 _ rfl
   have e3:=he 3 _ rfl
   have e4:=he 4 _ rfl
   simp only[Nat.add_zero] at e0
   have hix:=fun W=>aH (T:=79) (E:=81) (sz:=5) (c:=c) Tryz.underlying79 rfl Tryz.sizeOf81 hA hlt W
   have HX:=ae hx
   have HF:=ae (fun W hb=>hf.out x (gM hx) W hb)
   unfold cA.val at HF
   clear hx hA he
   go_wp2_with fail
   refine(HF.out _ HB.out).mono ?_;rintro e w1 ⟨rfl,hb1⟩
   have B1:=ae (ah HB.out hb1)
   clear hb1 e0 e1 e2 e3 e4 hix HF
   cases hp:p x
   ·have HP:=ae hp
    clear hp
    go_wp2_with fail
    go_roundw
    case rel=>exact⟨k+1,by omega,by go_num,ae (fun y hy=>by
     rw[aS HX.out] at hy
     rcases List.mem_append.1 hy with hy | hy
     ·exact HN.out y hy
     ·rw[List.mem_singleton.1 hy];exact HP.out),B1⟩
    case measure=>simp[intOf];omega
   ·have E:Hid (qy p l 0=k):=by show _=_;rw[oD HX.out HN.out hp];omega
    clear hp
    go_wp2_with fail
    go_ret
    exact⟨az E.out.symm,B1.out⟩
  ·have E:Hid (qy p l 0=-1):=kM 0 (fun y hy=>HN.out y (by rw[tL (by omega)];exact hy))
   go_wp2_with fail
   go_ret
   exact⟨az E.out.symm,HB.out⟩
theorem sH (f:FuncId)(x0:Value)(p:cA→Bool)(A:Option Addr)(c:Nat)(l:List cA)(w:World)(hr:Rd w 5 A l.length (l.flatMap cA.cells))(hl:l.length≤1000000)
  (hcall:∀ (args:Array Value)(w:World),(callFunc f args).run Tryz.prog w=.ok (.enter f args) w)
  (hf:Hid (∀ g∈l,∀ W,Below w.heap.size w W→Calls Tryz.prog f #[g.val,x0] W fun e w'=>e=.returned (.bool (p g))∧Below W.heap.size W w')):
  Calls Tryz.prog 92 #[.slice A l.length c,.func (.func f) #[] #[x0]] w fun e w'=>e=.returned (.bool (l.any p))∧Below w.heap.size w w':=by
 have HI:=ae (ze f x0 p A c l w hr hl hcall hf)
 have HE:=ae (mJ p l 0 (by omega))
 generalize qy p l 0=ix at *
 clear hr hf
 go_enter Tryz.func92,Tryz.ntmps92
 go_wp2_with fail
 refine HI.out.mono ?_;rintro e w1 ⟨rfl,hb1⟩
 have B1:=ae hb1
 clear hb1
 go_wp2_with fail
 go_ret
 exact⟨am HE.out,B1.out⟩
end
end Go.Proofs.YtkjdbpjglobbjaaGreatDoor
