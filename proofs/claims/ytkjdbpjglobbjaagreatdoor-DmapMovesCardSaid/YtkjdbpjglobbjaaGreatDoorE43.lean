/- A part of the proof of a law on dependencies in three formats. No condition. -/
import Derived.Test.YtkjdbpjglobbjaaGreatDoorE21
set_option maxRecDepth 100000
set_option maxHeartbeats 20000000
set_option linter.unusedVariables false
set_option linter.unusedSimpArgs false
namespace Go.Proofs.YtkjdbpjglobbjaaGreatDoor
section
open Go.RowKit Go.Deep
theorem Jf (n:Nat):bL eU n=decide (2≤n):=by simp[bL,eU,eE,oZ,bS,fA,bY]
theorem MC (n:Nat):bL eE n=decide (2≤n):=by simp[bL,eU,eE,oZ,bS,fA,bY]
theorem ME (n:Nat):bL oZ n=(decide (n=2)||decide (n=3)):=by simp[bL,eU,eE,oZ,bS,fA,bY]
theorem zS (n:Nat):bL bS n=(decide (n=2)||decide (n=3)):=by simp[bL,eU,eE,oZ,bS,fA,bY]
theorem Gn (n:Nat):bL fA n=decide (n=2):=by simp[bL,eU,eE,oZ,bS,fA,bY]
theorem xX (n:Nat):bL bY n=decide (n=2):=by simp[bL,eU,eE,oZ,bS,fA,bY]
theorem Gp {op:LU}(h:gi op=false)(n:Nat):bL op n=false:=by
 unfold bL;apply dF
 have h1:=of_decide_eq_false h
 rintro(⟨h2 | h2,_⟩ | ⟨h2 | h2,_⟩ | ⟨h2 | h2,_⟩)<;>exact h1 (by simp[h2])
theorem xY (op:LU):op=eU∨op=eE∨op=oZ∨op=bS∨op=fA∨op=bY∨gi op=false:=by
 cases h:gi op with
 | false=>simp
 | true=>rcases kO.1 h with h | h | h | h | h | h<;>simp[h]
theorem Gq {s:BA}(h:gi (bl s)=false):(s.toList == [97,110,100])=false∧(s.toList == [111,114])=false∧(s.toList == [105,102])=false∧(s.toList == [117,110,108,101,115,115])=false∧(s.toList == [119,105,116,104])=false∧(s.toList == [119,105,116,104,111,117,116])=false:=by
 rw[ai]
 have h1:=of_decide_eq_false h
 refine⟨?_,?_,?_,?_,?_,?_⟩<;>rw[bF]<;>intro e<;>apply h1<;>rw[e]<;>simp[eU,eE,oZ,bS,fA,bY]
theorem uZ (op:BA)(n:Nat)(w:World)(h:bl op=eU):
  Calls Tryz.prog 146 #[.string op,.int .i64 n] w fun e w'=>e=.returned (.bool (bL (bl op) n))∧w=w':=by
 have E:op.toList=[97,110,100]:=by rw[ai];exact h
 have R:Hid (bL (bl op) n=decide (2≤n)):=by show _=_;rw[h];exact Jf n
 clear h
 go_enter Tryz.func146,Tryz.ntmps146
 go_wp2_with fail
 go_ret
 exact⟨am (by rw[R.out,bI];simp;omega),rfl⟩
theorem xZ (op:BA)(n:Nat)(w:World)(h:bl op=eE):
  Calls Tryz.prog 146 #[.string op,.int .i64 n] w fun e w'=>e=.returned (.bool (bL (bl op) n))∧w=w':=by
 have E:op.toList=[111,114]:=by rw[ai];exact h
 have R:Hid (bL (bl op) n=decide (2≤n)):=by show _=_;rw[h];exact MC n
 clear h
 go_enter Tryz.func146,Tryz.ntmps146
 go_wp2_with fail
 go_ret
 exact⟨am (by rw[R.out,bI];simp;omega),rfl⟩
theorem ya (op:BA)(n:Nat)(w:World)(h:bl op=oZ):
  Calls Tryz.prog 146 #[.string op,.int .i64 n] w fun e w'=>e=.returned (.bool (bL (bl op) n))∧w=w':=by
 have E:op.toList=[105,102]:=by rw[ai];exact h
 have R:Hid (bL (bl op) n=(decide (n=2)||decide (n=3))):=by show _=_;rw[h];exact ME n
 clear h
 by_cases n2:n=2
 ·subst n2
  go_enter Tryz.func146,Tryz.ntmps146
  go_wp2_with fail
  go_ret
  exact⟨am (by rw[R.out];rfl),rfl⟩
 ·have q2:((n:Int)==2)=false:=by simp;omega
  by_cases n3:n=3
  ·subst n3
   go_enter Tryz.func146,Tryz.ntmps146
   go_wp2_with fail
   go_ret
   exact⟨am (by rw[R.out];rfl),rfl⟩
  ·have q3:((n:Int)==3)=false:=by simp;omega
   go_enter Tryz.func146,Tryz.ntmps146
   go_wp2_with fail
   go_ret
   exact⟨am (by rw[R.out];simp[n2,n3]),rfl⟩
theorem qD (op:BA)(n:Nat)(w:World)(h:bl op=bS):
  Calls Tryz.prog 146 #[.string op,.int .i64 n] w fun e w'=>e=.returned (.bool (bL (bl op) n))∧w=w':=by
 have E:op.toList=[117,110,108,101,115,115]:=by rw[ai];exact h
 have R:Hid (bL (bl op) n=(decide (n=2)||decide (n=3))):=by show _=_;rw[h];exact zS n
 clear h
 by_cases n2:n=2
 ·subst n2
  go_enter Tryz.func146,Tryz.ntmps146
  go_wp2_with fail
  go_ret
  exact⟨am (by rw[R.out];rfl),rfl⟩
 ·have q2:((n:Int)==2)=false:=by simp;omega
  by_cases n3:n=3
  ·subst n3
   go_enter Tryz.func146,Tryz.ntmps146
   go_wp2_with fail
   go_ret
   exact⟨am (by rw[R.out];rfl),rfl⟩
  ·have q3:((n:Int)==3)=false:=by simp;omega
   go_enter Tryz.func146,Tryz.ntmps146
   go_wp2_with fail
   go_ret
   exact⟨am (by rw[R.out];simp[n2,n3]),rfl⟩
theorem tE (op:BA)(n:Nat)(w:World)(h:bl op=fA):
  Calls Tryz.prog 146 #[.string op,.int .i64 n] w fun e w'=>e=.returned (.bool (bL (bl op) n))∧w=w':=by
 have E:op.toList=[119,105,116,104]:=by rw[ai];exact h
 have R:Hid (bL (bl op) n=decide (n=2)):=by show _=_;rw[h];exact Gn n
 clear h
 go_enter Tryz.func146,Tryz.ntmps146
 go_wp2_with fail
 go_ret
 exact⟨am (by rw[R.out];rw[bI];simp;omega),rfl⟩
theorem pg (op:BA)(n:Nat)(w:World)(h:bl op=bY):
  Calls Tryz.prog 146 #[.string op,.int .i64 n] w fun e w'=>e=.returned (.bool (bL (bl op) n))∧w=w':=by
 have E:op.toList=[119,105,116,104,111,117,116]:=by rw[ai];exact h
 have R:Hid (bL (bl op) n=decide (n=2)):=by show _=_;rw[h];exact xX n
 clear h
 go_enter Tryz.func146,Tryz.ntmps146
 go_wp2_with fail
 go_ret
 exact⟨am (by rw[R.out];rw[bI];simp;omega),rfl⟩
theorem uu (op:BA)(n:Nat)(w:World):
  Calls Tryz.prog 146 #[.string op,.int .i64 n] w fun e w'=>e=.returned (.bool (bL (bl op) n))∧w=w':=by
 rcases xY (bl op) with h | h | h | h | h | h | h
 ·exact uZ op n w h
 ·exact xZ op n w h
 ·exact ya op n w h
 ·exact qD op n w h
 ·exact tE op n w h
 ·exact pg op n w h
 ·obtain⟨h1,h2,h3,h4,h5,h6⟩:=Gq h
  have R:Hid (bL (bl op) n=false):=Gp h n
  clear h
  go_enter Tryz.func146,Tryz.ntmps146
  go_wp2_with fail
  go_ret
  exact⟨am R.out.symm,rfl⟩
theorem Gr {n:Nat}(hn:n≠1)(p:LU):aP eU n p=decide (p=eU):=by
 unfold aP;rw[if_neg hn]
 by_cases hp:p=eU
 ·subst hp;simp[eU,eE,oZ,bS,fA,bY]
 ·rw[dF hp];apply dF;rintro(⟨_,h⟩ | ⟨h,_⟩)
  ·exact hp h
  ·revert h;simp[eU,eE,oZ,bS]
theorem Jg {n:Nat}(hn:n≠1)(p:LU):aP eE n p=decide (p=eE):=by
 unfold aP;rw[if_neg hn]
 by_cases hp:p=eE
 ·subst hp;simp[eU,eE,oZ,bS,fA,bY]
 ·rw[dF hp];apply dF;rintro(⟨_,h⟩ | ⟨h,_⟩)
  ·exact hp h
  ·revert h;simp[eU,eE,oZ,bS]
theorem Jh {n:Nat}(hn:n≠1)(p:LU):aP oZ n p=(decide (n=2)&&decide (p=uq)):=by
 unfold aP;rw[if_neg hn]
 simp[eU,eE,oZ,bS,fA,bY]
theorem yb {n:Nat}(hn:n≠1)(p:LU):aP bS n p=(decide (n=2)&&decide (p=uq)):=by
 unfold aP;rw[if_neg hn]
 simp[eU,eE,oZ,bS,fA,bY]
theorem Du {n:Nat}(hn:n≠1)(p:LU):aP fA n p=false:=by
 unfold aP;rw[if_neg hn]
 simp[eU,eE,oZ,bS,fA,bY]
theorem va {n:Nat}(hn:n≠1)(p:LU):aP bY n p=false:=by
 unfold aP;rw[if_neg hn]
 simp[eU,eE,oZ,bS,fA,bY]
theorem Dv {op:LU}(h:gi op=false){n:Nat}(hn:n≠1)(p:LU):aP op n p=false:=by
 unfold aP;rw[if_neg hn];apply dF
 have h1:=of_decide_eq_false h
 rintro(⟨h2 | h2,_⟩ | ⟨h2 | h2,_⟩)<;>exact h1 (by simp[h2])
theorem tF (op:BA)(n:Nat)(p:BA)(w:World)(h:bl op=eU)(hn:n≠1):
  Calls Tryz.prog 170 #[.string op,.int .i64 n,.string p] w fun e w'=>e=.returned (.bool (aP (bl op) n (bl p)))∧w=w':=by
 have E:op.toList=[97,110,100]:=by rw[ai];exact h
 have R:Hid (aP (bl op) n (bl p)=decide (bl p=eU)):=by show _=_;rw[h];exact Gr hn _
 have q1:((n:Int)==1)=false:=by simp;omega
 clear h
 cases hp:(p.toList==([97,110,100]:LU)) with
 | true=>
  have F:p.toList=[97,110,100]:=by simpa using hp
  have R2:Hid (aP (bl op) n (bl p)=true):=by show _=_;rw[R.out,←ai,F];rfl
  clear hp
  go_enter Tryz.func170,Tryz.ntmps170
  go_wp2_with fail
  go_ret
  exact⟨am R2.out.symm,rfl⟩
 | false=>
  have R2:Hid (aP (bl op) n (bl p)=false):=by show _=_;rw[R.out,←ai];exact dF (by rw[bF] at hp;exact hp)
  go_enter Tryz.func170,Tryz.ntmps170
  go_wp2_with fail
  go_ret
  exact⟨am R2.out.symm,rfl⟩
theorem vb (op:BA)(n:Nat)(p:BA)(w:World)(h:bl op=eE)(hn:n≠1):
  Calls Tryz.prog 170 #[.string op,.int .i64 n,.string p] w fun e w'=>e=.returned (.bool (aP (bl op) n (bl p)))∧w=w':=by
 have E:op.toList=[111,114]:=by rw[ai];exact h
 have R:Hid (aP (bl op) n (bl p)=decide (bl p=eE)):=by show _=_;rw[h];exact Jg hn _
 have q1:((n:Int)==1)=false:=by simp;omega
 clear h
 cases hp:(p.toList==([111,114]:LU)) with
 | true=>
  have F:p.toList=[111,114]:=by simpa using hp
  have R2:Hid (aP (bl op) n (bl p)=true):=by show _=_;rw[R.out,←ai,F];rfl
  clear hp
  go_enter Tryz.func170,Tryz.ntmps170
  go_wp2_with fail
  go_ret
  exact⟨am R2.out.symm,rfl⟩
 | false=>
  have R2:Hid (aP (bl op) n (bl p)=false):=by show _=_;rw[R.out,←ai];exact dF (by rw[bF] at hp;exact hp)
  go_enter Tryz.func170,Tryz.ntmps170
  go_wp2_with fail
  go_ret
  exact⟨am R2.out.symm,rfl⟩
theorem vc (op:BA)(n:Nat)(p:BA)(w:World)(h:bl op=oZ)(hn:n≠1):
  Calls Tryz.prog 170 #[.string op,.int .i64 n,.string p] w fun e w'=>e=.returned (.bool (aP (bl op) n (bl p)))∧w=w':=by
 have E:op.toList=[105,102]:=by rw[ai];exact h
 have R:Hid (aP (bl op) n (bl p)=(decide (n=2)&&decide (bl p=uq))):=by show _=_;rw[h];exact Jh hn _
 have q1:((n:Int)==1)=false:=by simp;omega
 clear h
 by_cases n2:n=2
 ·subst n2
  cases hp:(p.toList==([101,108,115,101]:LU)) with
  | true=>
   have F:p.toList=[101,108,115,101]:=by simpa using hp
   have R2:Hid (aP (bl op) 2 (bl p)=true):=by show _=_;rw[R.out,←ai,F];rfl
   clear hp
   go_enter Tryz.func170,Tryz.ntmps170
   go_wp2_with fail
   go_ret
   exact⟨am R2.out.symm,rfl⟩
  | false=>
   have R2:Hid (aP (bl op) 2 (bl p)=false):=by show _=_;rw[R.out,←ai];simp only[decide_true,Bool.true_and];exact dF (by rw[bF] at hp;exact hp)
   go_enter Tryz.func170,Tryz.ntmps170
   go_wp2_with fail
   go_ret
   exact⟨am R2.out.symm,rfl⟩
 ·have q2:((n:Int)==2)=false:=by simp;omega
  have R2:Hid (aP (bl op) n (bl p)=false):=by show _=_;rw[R.out,dF n2];rfl
  go_enter Tryz.func170,Tryz.ntmps170
  go_wp2_with fail
  go_ret
  exact⟨am R2.out.symm,rfl⟩
theorem ph (op:BA)(n:Nat)(p:BA)(w:World)(h:bl op=bS)(hn:n≠1):
  Calls Tryz.prog 170 #[.string op,.int .i64 n,.string p] w fun e w'=>e=.returned (.bool (aP (bl op) n (bl p)))∧w=w':=by
 have E:op.toList=[117,110,108,101,115,115]:=by rw[ai];exact h
 have R:Hid (aP (bl op) n (bl p)=(decide (n=2)&&decide (bl p=uq))):=by show _=_;rw[h];exact yb hn _
 have q1:((n:Int)==1)=false:=by simp;omega
 clear h
 by_cases n2:n=2
 ·subst n2
  cases hp:(p.toList==([101,108,115,101]:LU)) with
  | true=>
   have F:p.toList=[101,108,115,101]:=by simpa using hp
   have R2:Hid (aP (bl op) 2 (bl p)=true):=by show _=_;rw[R.out,←ai,F];rfl
   clear hp
   go_enter Tryz.func170,Tryz.ntmps170
   go_wp2_with fail
   go_ret
   exact⟨am R2.out.symm,rfl⟩
  | false=>
   have R2:Hid (aP (bl op) 2 (bl p)=false):=by show _=_;rw[R.out,←ai];simp only[decide_true,Bool.true_and];exact dF (by rw[bF] at hp;exact hp)
   go_enter Tryz.func170,Tryz.ntmps170
   go_wp2_with fail
   go_ret
   exact⟨am R2.out.symm,rfl⟩
 ·have q2:((n:Int)==2)=false:=by simp;omega
  have R2:Hid (aP (bl op) n (bl p)=false):=by show _=_;rw[R.out,dF n2];rfl
  go_enter Tryz.func170,Tryz.ntmps170
  go_wp2_with fail
  go_ret
  exact⟨am R2.out.symm,rfl⟩
theorem sa (op:BA)(n:Nat)(p:BA)(w:World)(h:bl op=fA)(hn:n≠1):
  Calls Tryz.prog 170 #[.string op,.int .i64 n,.string p] w fun e w'=>e=.returned (.bool (aP (bl op) n (bl p)))∧w=w':=by
 have E:op.toList=[119,105,116,104]:=by rw[ai];exact h
 have R:Hid (aP (bl op) n (bl p)=false):=by show _=_;rw[h];exact Du hn _
 have q1:((n:Int)==1)=false:=by simp;omega
 clear h
 go_enter Tryz.func170,Tryz.ntmps170
 go_wp2_with fail
 go_ret
 exact⟨am R.out.symm,rfl⟩
theorem nN (op:BA)(n:Nat)(p:BA)(w:World)(h:bl op=bY)(hn:n≠1):
  Calls Tryz.prog 170 #[.string op,.int .i64 n,.string p] w fun e w'=>e=.returned (.bool (aP (bl op) n (bl p)))∧w=w':=by
 have E:op.toList=[119,105,116,104,111,117,116]:=by rw[ai];exact h
 have R:Hid (aP (bl op) n (bl p)=false):=by show _=_;rw[h];exact va hn _
 have q1:((n:Int)==1)=false:=by simp;omega
 clear h
 go_enter Tryz.func170,Tryz.ntmps170
 go_wp2_with fail
 go_ret
 exact⟨am R.out.symm,rfl⟩
theorem Dw (op:BA)(n:Nat)(p:BA)(w:World)(hG:Gl w):
  Calls Tryz.prog 170 #[.string op,.int .i64 n,.string p] w fun e w'=>e=.returned (.bool (aP (bl op) n (bl p)))∧w=w':=by
 by_cases n1:n=1
 ·subst n1
  have R:Hid (aP (bl op) 1 (bl p)=gi (bl p)):=rfl
  have hK:=xW p w hG
  clear hG
  go_enter Tryz.func170,Tryz.ntmps170
  go_wp2_with fail
  refine hK.mono ?_;rintro e w' ⟨rfl,rfl⟩
  go_wp2_with fail
  go_ret
  exact⟨am R.out.symm,rfl⟩
 rcases xY (bl op) with h | h | h | h | h | h | h
 ·exact tF op n p w h n1
 ·exact vb op n p w h n1
 ·exact vc op n p w h n1
 ·exact ph op n p w h n1
 ·exact sa op n p w h n1
 ·exact nN op n p w h n1
 ·obtain⟨h1,h2,h3,h4,h5,h6⟩:=Gq h
  have R:Hid (aP (bl op) n (bl p)=false):=Dv h n1 _
  have q1:((n:Int)==1)=false:=by simp;omega
  clear h hG n1
  go_enter Tryz.func170,Tryz.ntmps170
  go_wp2_with fail
  go_ret
  exact⟨am R.out.symm,rfl⟩
theorem sh (op:LU):∀ (a:List gQ)(i:Nat)(b:List gQ),dJ op i (a++b)=dJ op i a++dJ op (i+a.length) b
 | [],i,b=>by simp[dJ]
 | x::r,i,b=>by
  have h:=sh op r (i+1) b
  simp only[List.cons_append,dJ,h,List.length_cons]
  rw[show i+1+r.length=i+(r.length+1) by omega]
  simp[List.append_assoc]
theorem GJ (a b:List aj):nh (a++b)=nh a++nh b:=by rw[ik,ik,ik,List.map_append]
theorem GK (a:List aj):(nh a).length=a.length:=by rw[ik];simp
theorem PV (op:LU)(k:aj):dJ op 0 (nh [k])=bP k.pl:=by simp[nh,dJ]
theorem M8 (op:LU)(ks:List aj)(i:Nat)(t:aj)(ht:ks[i+1]?=some t):dJ op 0 (nh (ks.take (i+2)))=dJ op 0 (nh (ks.take (i+1)))++([32]++OA op (i+1)++[32]++bP t.pl):=by
 obtain⟨hk,hg⟩:=gS ht
 rw[show i+2=i+1+1 from rfl,tS hk,hg,GJ,sh,GK,List.length_take,Nat.min_eq_left (by omega)]
 simp[nh,dJ]
theorem GM (op:LU)(i:Nat):OA op (i+1)=if 0<i∧(op=oZ∨op=bS) then uq else op:=by
 unfold OA;congr 1;apply propext;constructor<;>rintro⟨h1,h2⟩<;>exact⟨by omega,h2⟩
def UZ (T:aj):Prop:=∀ w:World,Gl w→ce w 0 none T→T.cnt≤64→Calls Tryz.prog 65 #[T.val] w fun e w'=>e=.returned (.string (bz (bP T.pl)))∧Below w.heap.size w w'
theorem M9 {T:aj}(h:dH T):UZ T:=by
 induction h with
 | atom nm aop ver hn ho hv0 hv=>
  intro w hG _ _
  have HG:=ae hG
  have hnz:=(mi hn).2
  have HV:=ae hv
  rw[oJ _ _ _ _ _ _ _ rfl]
  clear hn hv0 hv hG
  obtain⟨W1,hW1⟩:∃ W1,w.alloc (.cells #[.string ⟨#[]⟩,.string nm,.int .i64 aop,.string ver,.slice none 0 0] 70)=W1:=⟨_,rfl⟩
  have B1:Hid (Below w.heap.size w W1):=by rw[←hW1];exact bR.alloc lr _
  have K1:Hid (aF W1 w.heap.size [.string ⟨#[]⟩,.string nm,.int .i64 aop,.string ver,.slice none 0 0]):=by rw[←hW1];exact aF.new w [.string ⟨#[]⟩,.string nm,.int .i64 aop,.string ver,.slice none 0 0] _
  have k0:=K1.out.cell 0 _ rfl
  have k1:=K1.out.cell 1 _ rfl
  have k2:=K1.out.cell 2 _ rfl
  have k3:=K1.out.cell 3 _ rfl
  show Calls Tryz.prog 65 #[.agg #[.string ⟨#[]⟩,.string nm,.int .i64 aop,.string ver,.slice none 0 0]] w _
  by_cases a0:aop=0
  ·have q0:((aop:Int)==0)=true:=by simp[a0]
   have E:Hid (bl nm=bP (.atom (bl nm) aop (bl ver))):=by show _=_;simp[bP,a0]
   clear a0
   go_enter Tryz.func65,Tryz.ntmps65
   go_wp2_with fail
   go_ret
   exact⟨by rw[←Az E.out];rfl,B1.out⟩
  ·have q0:((aop:Int)==0)=false:=by simp;omega
   have hvz:=xU (HV.out (by omega))
   have hsg:=(HG.out.below B1.out).rsg aop (by omega)
   have hsz:(qS aop).size≤2:=by rw[←af,xV aop (by omega)];exact Kp _
   have E:Hid (bl (nm++⟨#[32]⟩++qS aop++⟨#[32]⟩++ver)=bP (.atom (bl nm) aop (bl ver))):=by
    show _=_;simp only[bg];unfold bP;rw[if_neg a0,xV aop (by omega)];rfl
   have o2:(aop:Int)<6:=by omega
   have o3:(0:Int)≤(aop:Int):=by omega
   clear a0
   go_enter Tryz.func65,Tryz.ntmps65
   go_wp2_with fail
   go_quiet (fail)
   go_wp2_with fail
   go_ret
   exact⟨by rw[←Az E.out];rfl,bJ B1.out _⟩
 | node op ka kc kids ho hc hk ih=>
  intro w hG hO hcn
  have HG:=ae hG
  have HO:=ae hO
  have HIH:=ae ih
  have HGD:=ae hk
  obtain⟨hw,hw7⟩:=kg ho
  have HW7:=ae hw7
  have hop7:op.size≤7:=by rw[←af];exact hw7
  have o0:(op.toList==([]:LU))=false:=by rw[ai,bF];exact hw
  have o2:¬ op.toList=[]:=by rw[ai];exact hw
  have o1:op.toList.isEmpty=false:=by rw[List.isEmpty_eq_false_iff];exact o2
  obtain⟨tl,htl⟩:∃ tl,kids.length=tl:=⟨_,rfl⟩
  have HTL:=ae htl
  have ht2:2≤tl:=by have:=mM hc;omega
  have CNE:=ae (fM (t:=.mk op ⟨#[]⟩ 0 ⟨#[]⟩ ka kc kids) (by intro e;simp only[aj.kids] at e;rw[e] at htl;simp at htl;omega))
  have HCN:Hid (dE kids≤64):=by have h1:=CNE.out;simp only[aj.kids] at h1;show _≤_;omega
  have htl9:tl≤64:=by have h1:=hZ kids;have:=HCN.out;omega
  have hkc:tl≤kc:=by have:=nE hO.row;simp only[aj.kids,aj.kc] at this;omega
  have hkm:kc≤9223372036854775807:=by
   rcases hO.row.2 with⟨hv,_⟩ | ⟨g,cap,cur,hv,_,_,_,h5,_⟩
   ·injection hv with _ _ h3;simp only[aj.kc] at h3;omega
   ·injection hv with _ _ h3;simp only[aj.kc] at h3;simp only[maxLen] at h5;omega
  obtain⟨g,cur,hA,hg,-⟩:=nO hO (by intro e;simp only[aj.kids] at e;rw[e] at htl;simp at htl;omega)
  simp only[aj.ka] at hA
  subst hA
  obtain⟨W1,hW1⟩:∃ W1,w.alloc (.cells #[.string op,.string ⟨#[]⟩,.int .i64 0,.string ⟨#[]⟩,.slice (some ⟨g,0,none⟩) tl kc] 70)=W1:=⟨_,rfl⟩
  have B1:Hid (Below w.heap.size w W1):=by rw[←hW1];exact bR.alloc lr _
  have K1:Hid (aF W1 w.heap.size [.string op,.string ⟨#[]⟩,.int .i64 0,.string ⟨#[]⟩,.slice (some ⟨g,0,none⟩) tl kc]):=by rw[←hW1];exact aF.new w [.string op,.string ⟨#[]⟩,.int .i64 0,.string ⟨#[]⟩,.slice (some ⟨g,0,none⟩) tl kc] _
  have k0:=K1.out.cell 0 _ rfl
  have k4:=K1.out.cell 4 _ rfl
  have O1:Hid (ce W1 0 none (.mk op ⟨#[]⟩ 0 ⟨#[]⟩ (some ⟨g,0,none⟩) kc kids)):=HO.out.low B1.out
  -- the texts are short
  have TS:Hid (∀ t∈kids,(bz (bP t.pl)).size≤12800):=fun t ht=>by
   have h1:=(HGD.out t ht).text;have h2:=jE ht;have:=HCN.out;rw[bQ];omega
  have PS:Hid (∀ i,(dJ (bl op) 0 (nh (kids.take i))).length≤12800):=fun i=>by
   have h1:=tD (bl op) HW7.out (kids.take i) 0 (fun k hk=>(HGD.out k (List.mem_of_mem_take hk)).text)
   have h2:=kf kids i;have:=HCN.out;omega
  obtain⟨t0,ht0⟩:∃ t,kids[0]?=some t:=⟨_,gG (by omega)⟩
  have HT0:=ae ht0
  have hm0:Hid (t0∈kids):=gM ht0
  obtain⟨b',off,hA,he⟩:=O1.out.rd.cell 0 t0 ht0
  simp only[aj.ka] at hA
  injection hA with hA;injection hA with hb ho' _
  subst hb ho'
  have e0:=he 0 _ rfl
  have e1:=he 1 _ rfl
  have e2:=he 2 _ rfl
  have e3:=he 3 _ rfl
  have e4:=he 4 _ rfl
  simp only[Nat.zero_mul,Nat.add_zero,Nat.zero_add] at e0 e1 e2 e3 e4
  have hcall:=HIH.out t0 hm0.out W1 (HG.out.below B1.out) (O1.out.kids t0 hm0.out) (by have h1:=jE hm0.out;have:=HCN.out;omega)
  have hz0:=TS.out t0 hm0.out
  obtain⟨X0,hX0⟩:∃ X0,bz (bP t0.pl)=X0:=⟨_,rfl⟩
  rw[hX0] at hcall hz0
  have HX0:Hid (bl X0=bP t0.pl):=by show _=_;rw[←hX0,cH]
  unfold aj.val at hcall
  rw[oK _ _ _ _ _ _ _ hw]
  have hix:=fun W=>aH (T:=68) (E:=70) (sz:=5) (n:=tl) (c:=kc) (k:=0) (A:=some ⟨g,0,none⟩) Tryz.underlying68 rfl Tryz.sizeOf70 rfl (by omega) W
  simp only[Nat.zero_mul,Nat.add_zero] at hix
  clear ho hc hk ih hG hO hw hw7 htl hcn CNE hg he ht0 hX0
  show Calls Tryz.prog 65 #[.agg #[.string op,.string ⟨#[]⟩,.int .i64 0,.string ⟨#[]⟩,.slice (some ⟨g,0,none⟩) kids.length kc]] w _
  rw[HTL.out]
  go_enter Tryz.func65,Tryz.ntmps65
  go_wp2_with fail
  refine hcall.mono ?_;rintro e w2 ⟨rfl,hb⟩
  have B2:=ae (ah B1.out hb)
  have K2:=ae (K1.out.below hb)
  have O2:=ae (O1.out.low hb)
  clear hcall hb e0 e1 e2 e3 e4 k0 k4 hix hW1
  have k0:=K2.out.cell 0 _ rfl
  have k4:=K2.out.cell 4 _ rfl
  have S0:Hid (bl (⟨#[40]⟩++X0)=[40]++dJ (bl op) 0 (nh (kids.take 1))):=by
   show _=_
   obtain⟨hk',hg'⟩:=gS HT0.out
   rw[tS hk',hg']
   simp only[List.take_zero,List.nil_append]
   rw[PV,bg,HX0.out];rfl
  go_wp2_with fail
  obtain⟨rl,hrl⟩:∃ rl,tl-1=rl:=⟨_,rfl⟩
  have RL:Hid (kids.length=rl+1):=by have:=HTL.out;show _=_;omega
  rw[hrl]
  have hrl64:rl≤64:=by omega
  have HSZ:Hid (w.heap.size<w2.heap.size):=K2.out.sz
  have hs0:(⟨#[40]⟩++X0:BA).size≤12900:=by rw[←af,S0.out,List.length_append];have:=PS.out 1;simp;omega
  clear hrl k0 k4 hkc hkm ht2 htl9 hz0
  go_loopw [3,42] (fun sv iv wr=>∃ (i:Nat) (S:BA),sv=.string S∧iv=.int .i64 i∧i≤rl∧S.size≤12900∧Hid (bl S=[40]++dJ (bl op) 0 (nh (kids.take (i+1))))∧Hid (Below w.heap.size w wr)∧Hid (aF wr w.heap.size [.string op,.string ⟨#[]⟩,.int .i64 0,.string ⟨#[]⟩,.slice (some ⟨g,0,none⟩) tl kc])) (fun _ iv _=>rl-(intOf iv).toNat)
  case atStart=>exact⟨0,_,rfl,rfl,z0,hs0,S0,B2,K2⟩
  case round=>
   clear hs0 S0 K2
   obtain⟨i,S,rfl,rfl,hi,hS,HS,HB,HK⟩:=hrel
   by_cases hlt:i<rl
   ·obtain⟨t,ht⟩:∃ t,kids[i+1]?=some t:=⟨_,gG (by rw[RL.out];omega)⟩
    have HT:=ae ht
    have htm:Hid (t∈kids):=gM ht
    have O3:=HO.out.low HB.out
    obtain⟨b',off,hA,he⟩:=O3.rd.cell (i+1) t ht
    simp only[aj.ka] at hA
    injection hA with hA;injection hA with hb ho' _
    subst hb ho'
    have e0:=he 0 _ rfl
    have e1:=he 1 _ rfl
    have e2:=he 2 _ rfl
    have e3:=he 3 _ rfl
    have e4:=he 4 _ rfl
    have hoff:0+(i+1)*5=5+i*5:=by omega
    rw[hoff] at e0 e1 e2 e3 e4
    simp only[Nat.add_zero] at e0
    have hix:=fun W=>aH (T:=68) (E:=70) (sz:=5) (n:=rl) (c:=kc-1) (k:=i) (A:=some ⟨g,5,none⟩) Tryz.underlying68 rfl Tryz.sizeOf70 rfl hlt W
    obtain⟨W3,hW3⟩:∃ W3,wr.alloc (.cells #[.string t.op,.string t.nm,.int .i64 t.aop,.string t.ver,.slice t.ka t.kids.length t.kc] 70)=W3:=⟨_,rfl⟩
    have B3:Hid (Below wr.heap.size wr W3):=by rw[←hW3];exact bR.alloc lr _
    have K3:Hid (aF W3 wr.heap.size t.cells):=by rw[←hW3];exact aF.new wr t.cells _
    have B4:=ae (ah HB.out B3.out)
    have HK3:=ae (HK.out.below B3.out)
    have hcall:=HIH.out t htm.out W3 (HG.out.below B4.out) ((O3.low B3.out).kids t htm.out) (by have h1:=jE htm.out;have:=HCN.out;omega)
    have hz:=TS.out t htm.out
    obtain⟨X,hX⟩:∃ X,bz (bP t.pl)=X:=⟨_,rfl⟩
    rw[hX] at hcall hz
    have HX:Hid (bl X=bP t.pl):=by show _=_;rw[←hX,cH]
    unfold aj.val at hcall
    have a0:=K3.out.cell 0 _ rfl
    have a1:=K3.out.cell 1 _ rfl
    have a2:=K3.out.cell 2 _ rfl
    have a3:=K3.out.cell 3 _ rfl
    have a4:=K3.out.cell 4 _ rfl
    have b0:=HK3.out.cell 0 _ rfl
    clear ht he O3 hX hoff
    go_upto_region 10 with(fail)
    clear hW3 e0 e1 e2 e3 e4 hix
    obtain⟨bb,hbb⟩:∃ bb:Bool,decide (0<i∧(bl op=oZ∨bl op=bS))=bb:=⟨_,rfl⟩
    have HBB:=ae hbb
    clear hbb
    go_cut [58] (fun v wx=>v=.bool bb∧W3=wx)
    case first=>
     clear hcall
     by_cases i0:0<i
     ·have q1:decide ((0:Int)<(i:Int))=true:=dT (by omega)
      have q2:decide (0<i)=true:=dT i0
      by_cases w1:bl op=oZ
      ·have F1:op.toList=[105,102]:=by rw[ai];exact w1
       have E2:Hid (bb=true):=by show _=_;rw[←HBB.out];exact dT ⟨i0,.inl w1⟩
       clear w1 o0 o1 o2
       go_wp2_with fail
       go_meet
       exact⟨by rw[E2.out],rfl⟩
      ·have F1:(op.toList==([105,102]:LU))=false:=by rw[ai,bF];exact w1
       by_cases w2:bl op=bS
       ·have F2:op.toList=[117,110,108,101,115,115]:=by rw[ai];exact w2
        have E2:Hid (bb=true):=by show _=_;rw[←HBB.out];exact dT ⟨i0,.inr w2⟩
        clear w1 w2 o0 o1 o2 F1
        go_wp2_with fail
        go_meet
        exact⟨by rw[E2.out],rfl⟩
       ·have F2:(op.toList==([117,110,108,101,115,115]:LU))=false:=by rw[ai,bF];exact w2
        have E2:Hid (bb=false):=by show _=_;rw[←HBB.out];exact dF (by rintro⟨_,h | h⟩<;>contradiction)
        clear w1 w2 o0 o1 o2
        go_wp2_with fail
        go_meet
        exact⟨by rw[E2.out],rfl⟩
     ·have q1:decide ((0:Int)<(i:Int))=false:=dF (by omega)
      have q2:decide (0<i)=false:=dF i0
      have E2:Hid (bb=false):=by show _=_;rw[←HBB.out];exact dF (fun h=>i0 h.1)
      go_wp2_with fail
      go_meet
      exact⟨by rw[E2.out],rfl⟩
    case rest=>
    obtain⟨rfl,rfl⟩:=hcut
    go_upto_if 58 with(fail)
    go_cut [6] (fun v wx=>∃ Wd:BA,v=.string Wd∧Wd.size≤7∧Hid (bl Wd=OA (bl op) (i+1))∧W3=wx)
    case first=>
     cases bb with
     | true=>
      have E:Hid (bl ⟨#[101,108,115,101]⟩=OA (bl op) (i+1)):=by show _=_;rw[GM,if_pos (dO HBB.out)];rfl
      go_wp2_with fail
      go_meet
      exact⟨_,rfl,by decide,E,rfl⟩
     | false=>
      have E:Hid (bl op=OA (bl op) (i+1)):=by show _=_;rw[GM,if_neg (of_decide_eq_false HBB.out)]
      go_wp2_with fail
      go_meet
      exact⟨_,rfl,hop7,E,rfl⟩
    case rest=>
    obtain⟨Wd,rfl,hWd,EW,rfl⟩:=hcut
    have SN:Hid (bl (S++(⟨#[32]⟩++Wd++⟨#[32]⟩++X))=[40]++dJ (bl op) 0 (nh (kids.take (i+2)))):=by
     show _=_
     rw[M8 _ _ _ _ HT.out];simp only[bg];rw[HS.out,EW.out,HX.out]
     simp[List.append_assoc];rfl
    have hsn:(S++(⟨#[32]⟩++Wd++⟨#[32]⟩++X):BA).size≤12900:=by rw[←af,SN.out,List.length_append];have:=PS.out (i+2);simp;omega
    have HSN:Hid ((S++(⟨#[32]⟩++Wd++⟨#[32]⟩++X):BA).size≤12900):=hsn
    clear hsn
    have a0:=K3.out.cell 0 _ rfl
    have a1:=K3.out.cell 1 _ rfl
    have a2:=K3.out.cell 2 _ rfl
    have a3:=K3.out.cell 3 _ rfl
    have a4:=K3.out.cell 4 _ rfl
    go_wp2_with fail
    refine hcall.mono ?_;rintro e w4 ⟨rfl,hb⟩
    have B5:=ae (ah B4.out hb)
    have HK5:=ae (HK3.out.below hb)
    clear hcall hb a0 a1 a2 a3 a4 b0
    go_wp2_with fail
    go_roundw
    case rel=>exact⟨i+1,_,rfl,by go_num,by omega,HSN.out,SN,B5,HK5⟩
    case measure=>simp[intOf];omega
   ·have E:Hid (bl (S++⟨#[41]⟩)=bP (.node (bl op) (nh kids))):=by
     have h1:=HS.out
     rw[tL (by rw[RL.out];omega)] at h1
     show _=_;rw[bg,h1];rfl
    go_wp2_with fail
    go_ret
    exact⟨by rw[←Az E.out];rfl,HB.out⟩
end
end Go.Proofs.YtkjdbpjglobbjaaGreatDoor
