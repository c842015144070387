/- A part of the proof. -/
import Derived.Test.YtlglfpbhapmhiaaGreatDoorK27
set_option maxRecDepth 100000
set_option maxHeartbeats 20000000
set_option linter.unusedVariables false
set_option linter.unusedSimpArgs false
namespace Go.Proofs.YtlglfpbhapmhiaaGreatDoor
section
open Go.RowKit Go.Deep
theorem A7 (n:Nat):bm eV n=decide (2≤n):=by simp[bm,eV,mw,mx,bj,dQ,bC]
theorem Ev (n:Nat):bm mw n=decide (2≤n):=by simp[bm,eV,mw,mx,bj,dQ,bC]
theorem Ew (n:Nat):bm mx n=(decide (n=2)||decide (n=3)):=by simp[bm,eV,mw,mx,bj,dQ,bC]
theorem uf (n:Nat):bm bj n=(decide (n=2)||decide (n=3)):=by simp[bm,eV,mw,mx,bj,dQ,bC]
theorem yH (n:Nat):bm dQ n=decide (n=2):=by simp[bm,eV,mw,mx,bj,dQ,bC]
theorem sk (n:Nat):bm bC n=decide (n=2):=by simp[bm,eV,mw,mx,bj,dQ,bC]
theorem yI {op:LU}(h:eD op=false)(n:Nat):bm op n=false:=by
 unfold bm;apply dF
 have h1:=of_decide_eq_false h
 rintro(⟨h2 | h2,_⟩ | ⟨h2 | h2,_⟩ | ⟨h2 | h2,_⟩)<;>exact h1 (by simp[h2])
theorem sn (op:LU):op=eV∨op=mw∨op=mx∨op=bj∨op=dQ∨op=bC∨eD op=false:=by
 cases h:eD op with
 | false=>simp
 | true=>rcases iX.1 h with h | h | h | h | h | h<;>simp[h]
theorem yJ {s:BA}(h:eD (bl s)=false):(s.toList == [97,110,100])=false∧(s.toList == [111,114])=false∧(s.toList == [105,102])=false∧(s.toList == [117,110,108,101,115,115])=false∧(s.toList == [119,105,116,104])=false∧(s.toList == [119,105,116,104,111,117,116])=false:=by
 rw[ai]
 have h1:=of_decide_eq_false h
 refine⟨?_,?_,?_,?_,?_,?_⟩<;>rw[bF]<;>intro e<;>apply h1<;>rw[e]<;>simp[eV,mw,mx,bj,dQ,bC]
theorem pZ (op:BA)(n:Nat)(w:World)(h:bl op=eV):
  Calls Tryz.prog 239 #[.string op,.int .i64 n] w fun e w'=>e=.returned (.bool (bm (bl op) n))∧w=w':=by
 have E:op.toList=[97,110,100]:=by rw[ai];exact h
 have R:Hid (bm (bl op) n=decide (2≤n)):=by show _=_;rw[h];exact A7 n
 clear h
 go_enter Tryz.func239,Tryz.ntmps239
 go_wp2_with fail
 go_ret
 exact⟨af (by rw[R.out,bI];simp;omega),rfl⟩
theorem sq (op:BA)(n:Nat)(w:World)(h:bl op=mw):
  Calls Tryz.prog 239 #[.string op,.int .i64 n] w fun e w'=>e=.returned (.bool (bm (bl op) n))∧w=w':=by
 have E:op.toList=[111,114]:=by rw[ai];exact h
 have R:Hid (bm (bl op) n=decide (2≤n)):=by show _=_;rw[h];exact Ev n
 clear h
 go_enter Tryz.func239,Tryz.ntmps239
 go_wp2_with fail
 go_ret
 exact⟨af (by rw[R.out,bI];simp;omega),rfl⟩
theorem sr (op:BA)(n:Nat)(w:World)(h:bl op=mx):
  Calls Tryz.prog 239 #[.string op,.int .i64 n] w fun e w'=>e=.returned (.bool (bm (bl op) n))∧w=w':=by
 have E:op.toList=[105,102]:=by rw[ai];exact h
 have R:Hid (bm (bl op) n=(decide (n=2)||decide (n=3))):=by show _=_;rw[h];exact Ew n
 clear h
 by_cases n2:n=2
 ·subst n2
  go_enter Tryz.func239,Tryz.ntmps239
  go_wp2_with fail
  go_ret
  exact⟨af (by rw[R.out];rfl),rfl⟩
 ·have q2:((n:Int)==2)=false:=by simp;omega
  by_cases n3:n=3
  ·subst n3
   go_enter Tryz.func239,Tryz.ntmps239
   go_wp2_with fail
   go_ret
   exact⟨af (by rw[R.out];rfl),rfl⟩
  ·have q3:((n:Int)==3)=false:=by simp;omega
   go_enter Tryz.func239,Tryz.ntmps239
   go_wp2_with fail
   go_ret
   exact⟨af (by rw[R.out];simp[n2,n3]),rfl⟩
theorem mP (op:BA)(n:Nat)(w:World)(h:bl op=bj):
  Calls Tryz.prog 239 #[.string op,.int .i64 n] w fun e w'=>e=.returned (.bool (bm (bl op) n))∧w=w':=by
 have E:op.toList=[117,110,108,101,115,115]:=by rw[ai];exact h
 have R:Hid (bm (bl op) n=(decide (n=2)||decide (n=3))):=by show _=_;rw[h];exact uf n
 clear h
 by_cases n2:n=2
 ·subst n2
  go_enter Tryz.func239,Tryz.ntmps239
  go_wp2_with fail
  go_ret
  exact⟨af (by rw[R.out];rfl),rfl⟩
 ·have q2:((n:Int)==2)=false:=by simp;omega
  by_cases n3:n=3
  ·subst n3
   go_enter Tryz.func239,Tryz.ntmps239
   go_wp2_with fail
   go_ret
   exact⟨af (by rw[R.out];rfl),rfl⟩
  ·have q3:((n:Int)==3)=false:=by simp;omega
   go_enter Tryz.func239,Tryz.ntmps239
   go_wp2_with fail
   go_ret
   exact⟨af (by rw[R.out];simp[n2,n3]),rfl⟩
theorem oW (op:BA)(n:Nat)(w:World)(h:bl op=dQ):
  Calls Tryz.prog 239 #[.string op,.int .i64 n] w fun e w'=>e=.returned (.bool (bm (bl op) n))∧w=w':=by
 have E:op.toList=[119,105,116,104]:=by rw[ai];exact h
 have R:Hid (bm (bl op) n=decide (n=2)):=by show _=_;rw[h];exact yH n
 clear h
 go_enter Tryz.func239,Tryz.ntmps239
 go_wp2_with fail
 go_ret
 exact⟨af (by rw[R.out];rw[bI];simp;omega),rfl⟩
theorem lT (op:BA)(n:Nat)(w:World)(h:bl op=bC):
  Calls Tryz.prog 239 #[.string op,.int .i64 n] w fun e w'=>e=.returned (.bool (bm (bl op) n))∧w=w':=by
 have E:op.toList=[119,105,116,104,111,117,116]:=by rw[ai];exact h
 have R:Hid (bm (bl op) n=decide (n=2)):=by show _=_;rw[h];exact sk n
 clear h
 go_enter Tryz.func239,Tryz.ntmps239
 go_wp2_with fail
 go_ret
 exact⟨af (by rw[R.out];rw[bI];simp;omega),rfl⟩
theorem pF (op:BA)(n:Nat)(w:World):
  Calls Tryz.prog 239 #[.string op,.int .i64 n] w fun e w'=>e=.returned (.bool (bm (bl op) n))∧w=w':=by
 rcases sn (bl op) with h | h | h | h | h | h | h
 ·exact pZ op n w h
 ·exact sq op n w h
 ·exact sr op n w h
 ·exact mP op n w h
 ·exact oW op n w h
 ·exact lT op n w h
 ·obtain⟨h1,h2,h3,h4,h5,h6⟩:=yJ h
  have R:Hid (bm (bl op) n=false):=yI h n
  clear h
  go_enter Tryz.func239,Tryz.ntmps239
  go_wp2_with fail
  go_ret
  exact⟨af R.out.symm,rfl⟩
theorem yK {n:Nat}(hn:n≠1)(p:LU):aI eV n p=decide (p=eV):=by
 unfold aI;rw[if_neg hn]
 by_cases hp:p=eV
 ·subst hp;simp[eV,mw,mx,bj,dQ,bC]
 ·rw[dF hp];apply dF;rintro(⟨_,h⟩ | ⟨h,_⟩)
  ·exact hp h
  ·revert h;simp[eV,mw,mx,bj]
theorem A8 {n:Nat}(hn:n≠1)(p:LU):aI mw n p=decide (p=mw):=by
 unfold aI;rw[if_neg hn]
 by_cases hp:p=mw
 ·subst hp;simp[eV,mw,mx,bj,dQ,bC]
 ·rw[dF hp];apply dF;rintro(⟨_,h⟩ | ⟨h,_⟩)
  ·exact hp h
  ·revert h;simp[eV,mw,mx,bj]
theorem Ba {n:Nat}(hn:n≠1)(p:LU):aI mx n p=(decide (n=2)&&decide (p=pD)):=by
 unfold aI;rw[if_neg hn]
 simp[eV,mw,mx,bj,dQ,bC]
theorem ss {n:Nat}(hn:n≠1)(p:LU):aI bj n p=(decide (n=2)&&decide (p=pD)):=by
 unfold aI;rw[if_neg hn]
 simp[eV,mw,mx,bj,dQ,bC]
theorem wG {n:Nat}(hn:n≠1)(p:LU):aI dQ n p=false:=by
 unfold aI;rw[if_neg hn]
 simp[eV,mw,mx,bj,dQ,bC]
theorem qa {n:Nat}(hn:n≠1)(p:LU):aI bC n p=false:=by
 unfold aI;rw[if_neg hn]
 simp[eV,mw,mx,bj,dQ,bC]
theorem wH {op:LU}(h:eD op=false){n:Nat}(hn:n≠1)(p:LU):aI op n p=false:=by
 unfold aI;rw[if_neg hn];apply dF
 have h1:=of_decide_eq_false h
 rintro(⟨h2 | h2,_⟩ | ⟨h2 | h2,_⟩)<;>exact h1 (by simp[h2])
theorem oX (op:BA)(n:Nat)(p:BA)(w:World)(h:bl op=eV)(hn:n≠1):
  Calls Tryz.prog 240 #[.string op,.int .i64 n,.string p] w fun e w'=>e=.returned (.bool (aI (bl op) n (bl p)))∧w=w':=by
 have E:op.toList=[97,110,100]:=by rw[ai];exact h
 have R:Hid (aI (bl op) n (bl p)=decide (bl p=eV)):=by show _=_;rw[h];exact yK hn _
 have q1:((n:Int)==1)=false:=by simp;omega
 clear h
 cases hp:(p.toList==([97,110,100]:LU)) with
 | true=>
  have F:p.toList=[97,110,100]:=by simpa using hp
  have R2:Hid (aI (bl op) n (bl p)=true):=by show _=_;rw[R.out,←ai,F];rfl
  clear hp
  go_enter Tryz.func240,Tryz.ntmps240
  go_wp2_with fail
  go_ret
  exact⟨af R2.out.symm,rfl⟩
 | false=>
  have R2:Hid (aI (bl op) n (bl p)=false):=by show _=_;rw[R.out,←ai];exact dF (by rw[bF] at hp;exact hp)
  go_enter Tryz.func240,Tryz.ntmps240
  go_wp2_with fail
  go_ret
  exact⟨af R2.out.symm,rfl⟩
theorem qb (op:BA)(n:Nat)(p:BA)(w:World)(h:bl op=mw)(hn:n≠1):
  Calls Tryz.prog 240 #[.string op,.int .i64 n,.string p] w fun e w'=>e=.returned (.bool (aI (bl op) n (bl p)))∧w=w':=by
 have E:op.toList=[111,114]:=by rw[ai];exact h
 have R:Hid (aI (bl op) n (bl p)=decide (bl p=mw)):=by show _=_;rw[h];exact A8 hn _
 have q1:((n:Int)==1)=false:=by simp;omega
 clear h
 cases hp:(p.toList==([111,114]:LU)) with
 | true=>
  have F:p.toList=[111,114]:=by simpa using hp
  have R2:Hid (aI (bl op) n (bl p)=true):=by show _=_;rw[R.out,←ai,F];rfl
  clear hp
  go_enter Tryz.func240,Tryz.ntmps240
  go_wp2_with fail
  go_ret
  exact⟨af R2.out.symm,rfl⟩
 | false=>
  have R2:Hid (aI (bl op) n (bl p)=false):=by show _=_;rw[R.out,←ai];exact dF (by rw[bF] at hp;exact hp)
  go_enter Tryz.func240,Tryz.ntmps240
  go_wp2_with fail
  go_ret
  exact⟨af R2.out.symm,rfl⟩
theorem qc (op:BA)(n:Nat)(p:BA)(w:World)(h:bl op=mx)(hn:n≠1):
  Calls Tryz.prog 240 #[.string op,.int .i64 n,.string p] w fun e w'=>e=.returned (.bool (aI (bl op) n (bl p)))∧w=w':=by
 have E:op.toList=[105,102]:=by rw[ai];exact h
 have R:Hid (aI (bl op) n (bl p)=(decide (n=2)&&decide (bl p=pD))):=by show _=_;rw[h];exact Ba hn _
 have q1:((n:Int)==1)=false:=by simp;omega
 clear h
 by_cases n2:n=2
 ·subst n2
  cases hp:(p.toList==([101,108,115,101]:LU)) with
  | true=>
   have F:p.toList=[101,108,115,101]:=by simpa using hp
   have R2:Hid (aI (bl op) 2 (bl p)=true):=by show _=_;rw[R.out,←ai,F];rfl
   clear hp
   go_enter Tryz.func240,Tryz.ntmps240
   go_wp2_with fail
   go_ret
   exact⟨af R2.out.symm,rfl⟩
  | false=>
   have R2:Hid (aI (bl op) 2 (bl p)=false):=by show _=_;rw[R.out,←ai];simp only[decide_true,Bool.true_and];exact dF (by rw[bF] at hp;exact hp)
   go_enter Tryz.func240,Tryz.ntmps240
   go_wp2_with fail
   go_ret
   exact⟨af R2.out.symm,rfl⟩
 ·have q2:((n:Int)==2)=false:=by simp;omega
  have R2:Hid (aI (bl op) n (bl p)=false):=by show _=_;rw[R.out,dF n2];rfl
  go_enter Tryz.func240,Tryz.ntmps240
  go_wp2_with fail
  go_ret
  exact⟨af R2.out.symm,rfl⟩
theorem lU (op:BA)(n:Nat)(p:BA)(w:World)(h:bl op=bj)(hn:n≠1):
  Calls Tryz.prog 240 #[.string op,.int .i64 n,.string p] w fun e w'=>e=.returned (.bool (aI (bl op) n (bl p)))∧w=w':=by
 have E:op.toList=[117,110,108,101,115,115]:=by rw[ai];exact h
 have R:Hid (aI (bl op) n (bl p)=(decide (n=2)&&decide (bl p=pD))):=by show _=_;rw[h];exact ss hn _
 have q1:((n:Int)==1)=false:=by simp;omega
 clear h
 by_cases n2:n=2
 ·subst n2
  cases hp:(p.toList==([101,108,115,101]:LU)) with
  | true=>
   have F:p.toList=[101,108,115,101]:=by simpa using hp
   have R2:Hid (aI (bl op) 2 (bl p)=true):=by show _=_;rw[R.out,←ai,F];rfl
   clear hp
   go_enter Tryz.func240,Tryz.ntmps240
   go_wp2_with fail
   go_ret
   exact⟨af R2.out.symm,rfl⟩
  | false=>
   have R2:Hid (aI (bl op) 2 (bl p)=false):=by show _=_;rw[R.out,←ai];simp only[decide_true,Bool.true_and];exact dF (by rw[bF] at hp;exact hp)
   go_enter Tryz.func240,Tryz.ntmps240
   go_wp2_with fail
   go_ret
   exact⟨af R2.out.symm,rfl⟩
 ·have q2:((n:Int)==2)=false:=by simp;omega
  have R2:Hid (aI (bl op) n (bl p)=false):=by show _=_;rw[R.out,dF n2];rfl
  go_enter Tryz.func240,Tryz.ntmps240
  go_wp2_with fail
  go_ret
  exact⟨af R2.out.symm,rfl⟩
theorem oa (op:BA)(n:Nat)(p:BA)(w:World)(h:bl op=dQ)(hn:n≠1):
  Calls Tryz.prog 240 #[.string op,.int .i64 n,.string p] w fun e w'=>e=.returned (.bool (aI (bl op) n (bl p)))∧w=w':=by
 have E:op.toList=[119,105,116,104]:=by rw[ai];exact h
 have R:Hid (aI (bl op) n (bl p)=false):=by show _=_;rw[h];exact wG hn _
 have q1:((n:Int)==1)=false:=by simp;omega
 clear h
 go_enter Tryz.func240,Tryz.ntmps240
 go_wp2_with fail
 go_ret
 exact⟨af R.out.symm,rfl⟩
theorem li (op:BA)(n:Nat)(p:BA)(w:World)(h:bl op=bC)(hn:n≠1):
  Calls Tryz.prog 240 #[.string op,.int .i64 n,.string p] w fun e w'=>e=.returned (.bool (aI (bl op) n (bl p)))∧w=w':=by
 have E:op.toList=[119,105,116,104,111,117,116]:=by rw[ai];exact h
 have R:Hid (aI (bl op) n (bl p)=false):=by show _=_;rw[h];exact qa hn _
 have q1:((n:Int)==1)=false:=by simp;omega
 clear h
 go_enter Tryz.func240,Tryz.ntmps240
 go_wp2_with fail
 go_ret
 exact⟨af R.out.symm,rfl⟩
theorem wI (op:BA)(n:Nat)(p:BA)(w:World)(hG:Gl w):
  Calls Tryz.prog 240 #[.string op,.int .i64 n,.string p] w fun e w'=>e=.returned (.bool (aI (bl op) n (bl p)))∧w=w':=by
 by_cases n1:n=1
 ·subst n1
  have R:Hid (aI (bl op) 1 (bl p)=eD (bl p)):=rfl
  have hK:=sj p w hG
  clear hG
  go_enter Tryz.func240,Tryz.ntmps240
  go_wp2_with fail
  refine hK.mono ?_;rintro e w' ⟨rfl,rfl⟩
  go_wp2_with fail
  go_ret
  exact⟨af R.out.symm,rfl⟩
 rcases sn (bl op) with h | h | h | h | h | h | h
 ·exact oX op n p w h n1
 ·exact qb op n p w h n1
 ·exact qc op n p w h n1
 ·exact lU op n p w h n1
 ·exact oa op n p w h n1
 ·exact li op n p w h n1
 ·obtain⟨h1,h2,h3,h4,h5,h6⟩:=yJ h
  have R:Hid (aI (bl op) n (bl p)=false):=wH h n1 _
  have q1:((n:Int)==1)=false:=by simp;omega
  clear h hG n1
  go_enter Tryz.func240,Tryz.ntmps240
  go_wp2_with fail
  go_ret
  exact⟨af R.out.symm,rfl⟩
theorem ob (op:LU):∀ (a:List ow)(i:Nat)(b:List ow),fW op i (a++b)=fW op i a++fW op (i+a.length) b
 | [],i,b=>by simp[fW]
 | x::r,i,b=>by
  have h:=ob op r (i+1) b
  simp only[List.cons_append,fW,h,List.length_cons]
  rw[show i+1+r.length=i+(r.length+1) by omega]
  simp[List.append_assoc]
theorem yM (a b:List ak):kE (a++b)=kE a++kE b:=by rw[ix,ix,ix,List.map_append]
theorem yN (a:List ak):(kE a).length=a.length:=by rw[ix];simp
theorem Hq (op:LU)(k:ak):fW op 0 (kE [k])=dR k.pl:=by simp[kE,fW]
theorem Ex (op:LU)(ks:List ak)(i:Nat)(t:ak)(ht:ks[i+1]?=some t):fW op 0 (kE (ks.take (i+2)))=fW op 0 (kE (ks.take (i+1)))++([32]++JJ op (i+1)++[32]++dR t.pl):=by
 obtain⟨hk,hg⟩:=gS ht
 rw[show i+2=i+1+1 from rfl,tS hk,hg,yM,ob,yN,List.length_take,Nat.min_eq_left (by omega)]
 simp[kE,fW]
theorem yO (op:LU)(i:Nat):JJ op (i+1)=if 0<i∧(op=mx∨op=bj) then pD else op:=by
 unfold JJ;congr 1;apply propext;constructor<;>rintro⟨h1,h2⟩<;>exact⟨by omega,h2⟩
def Nc (T:ak):Prop:=∀ w:World,Gl w→bE w 0 none T→T.cnt≤64→Calls Tryz.prog 179 #[T.val] w fun e w'=>e=.returned (.string (bG (dR T.pl)))∧Below w.heap.size w w'
theorem Ey {T:ak}(h:fC T):Nc T:=by
 induction h with
 | atom nm aop ver hn ho hv0 hv=>
  intro w hG _ _
  have HG:=ae hG
  have hnz:=(lH hn).2
  have HV:=ae hv
  rw[qv _ _ _ _ _ _ _ rfl]
  clear hn hv0 hv hG
  obtain⟨W1,hW1⟩:∃ W1,w.alloc (.cells #[.string ⟨#[]⟩,.string nm,.int .i64 aop,.string ver,.slice none 0 0] 170)=W1:=⟨_,rfl⟩
  have B1:Hid (Below w.heap.size w W1):=by rw[←hW1];exact bR.alloc lr _
  have K1:Hid (av W1 w.heap.size [.string ⟨#[]⟩,.string nm,.int .i64 aop,.string ver,.slice none 0 0]):=by rw[←hW1];exact av.new w [.string ⟨#[]⟩,.string nm,.int .i64 aop,.string ver,.slice none 0 0] _
  have k0:=K1.out.cell 0 _ rfl
  have k1:=K1.out.cell 1 _ rfl
  have k2:=K1.out.cell 2 _ rfl
  have k3:=K1.out.cell 3 _ rfl
  show Calls Tryz.prog 179 #[.agg #[.string ⟨#[]⟩,.string nm,.int .i64 aop,.string ver,.slice none 0 0]] w _
  by_cases a0:aop=0
  ·have q0:((aop:Int)==0)=true:=by simp[a0]
   have E:Hid (bl nm=dR (.atom (bl nm) aop (bl ver))):=by show _=_;simp[dR,a0]
   clear a0
   go_enter Tryz.func179,Tryz.ntmps179
   go_wp2_with fail
   go_ret
   exact⟨by rw[←uF E.out];rfl,B1.out⟩
  ·have q0:((aop:Int)==0)=false:=by simp;omega
   have hvz:=sf (HV.out (by omega))
   have hsg:=(HG.out.below B1.out).rsg aop (by omega)
   have hsz:(ni aop).size≤2:=by rw[←ah,si aop (by omega)];exact Cv _
   have E:Hid (bl (nm++⟨#[32]⟩++ni aop++⟨#[32]⟩++ver)=dR (.atom (bl nm) aop (bl ver))):=by
    show _=_;simp only[cq];unfold dR;rw[if_neg a0,si aop (by omega)];rfl
   have o2:(aop:Int)<6:=by omega
   have o3:(0:Int)≤(aop:Int):=by omega
   clear a0
   go_enter Tryz.func179,Tryz.ntmps179
   go_wp2_with fail
   go_quiet (fail)
   go_wp2_with fail
   go_ret
   exact⟨by rw[←uF E.out];rfl,aq B1.out _⟩
 | node op ka kc kids ho hc hk ih=>
  intro w hG hO hcn
  have HG:=ae hG
  have HO:=ae hO
  have HIH:=ae ih
  have HGD:=ae hk
  obtain⟨hw,hw7⟩:=kr ho
  have HW7:=ae hw7
  have hop7:op.size≤7:=by rw[←ah];exact hw7
  have o0:(op.toList==([]:LU))=false:=by rw[ai,bF];exact hw
  have o2:¬ op.toList=[]:=by rw[ai];exact hw
  have o1:op.toList.isEmpty=false:=by rw[List.isEmpty_eq_false_iff];exact o2
  obtain⟨tl,htl⟩:∃ tl,kids.length=tl:=⟨_,rfl⟩
  have HTL:=ae htl
  have ht2:2≤tl:=by have:=kq hc;omega
  have CNE:=ae (eW (t:=.mk op ⟨#[]⟩ 0 ⟨#[]⟩ ka kc kids) (by intro e;simp only[ak.kids] at e;rw[e] at htl;simp at htl;omega))
  have HCN:Hid (cE kids≤64):=by have h1:=CNE.out;simp only[ak.kids] at h1;show _≤_;omega
  have htl9:tl≤64:=by have h1:=fX kids;have:=HCN.out;omega
  have hkc:tl≤kc:=by have:=kY hO.row;simp only[ak.kids,ak.kc] at this;omega
  have hkm:kc≤9223372036854775807:=by
   rcases hO.row.2 with⟨hv,_⟩ | ⟨g,cap,cur,hv,_,_,_,h5,_⟩
   ·injection hv with _ _ h3;simp only[ak.kc] at h3;omega
   ·injection hv with _ _ h3;simp only[ak.kc] at h3;simp only[maxLen] at h5;omega
  obtain⟨g,cur,hA,hg,-⟩:=lf hO (by intro e;simp only[ak.kids] at e;rw[e] at htl;simp at htl;omega)
  simp only[ak.ka] at hA
  subst hA
  obtain⟨W1,hW1⟩:∃ W1,w.alloc (.cells #[.string op,.string ⟨#[]⟩,.int .i64 0,.string ⟨#[]⟩,.slice (some ⟨g,0,none⟩) tl kc] 170)=W1:=⟨_,rfl⟩
  have B1:Hid (Below w.heap.size w W1):=by rw[←hW1];exact bR.alloc lr _
  have K1:Hid (av W1 w.heap.size [.string op,.string ⟨#[]⟩,.int .i64 0,.string ⟨#[]⟩,.slice (some ⟨g,0,none⟩) tl kc]):=by rw[←hW1];exact av.new w [.string op,.string ⟨#[]⟩,.int .i64 0,.string ⟨#[]⟩,.slice (some ⟨g,0,none⟩) tl kc] _
  have k0:=K1.out.cell 0 _ rfl
  have k4:=K1.out.cell 4 _ rfl
  have O1:Hid (bE W1 0 none (.mk op ⟨#[]⟩ 0 ⟨#[]⟩ (some ⟨g,0,none⟩) kc kids)):=HO.out.low B1.out
  -- the texts are short
  have TS:Hid (∀ t∈kids,(bG (dR t.pl)).size≤12800):=fun t ht=>by
   have h1:=(HGD.out t ht).text;have h2:=iW ht;have:=HCN.out;rw[bV];omega
  have PS:Hid (∀ i,(fW (bl op) 0 (kE (kids.take i))).length≤12800):=fun i=>by
   have h1:=oU (bl op) HW7.out (kids.take i) 0 (fun k hk=>(HGD.out k (List.mem_of_mem_take hk)).text)
   have h2:=iy kids i;have:=HCN.out;omega
  obtain⟨t0,ht0⟩:∃ t,kids[0]?=some t:=⟨_,gG (by omega)⟩
  have HT0:=ae ht0
  have hm0:Hid (t0∈kids):=gM ht0
  obtain⟨b',off,hA,he⟩:=O1.out.rd.cell 0 t0 ht0
  simp only[ak.ka] at hA
  injection hA with hA;injection hA with hb ho' _
  subst hb ho'
  have e0:=he 0 _ rfl
  have e1:=he 1 _ rfl
  have e2:=he 2 _ rfl
  have e3:=he 3 _ rfl
  have e4:=he 4 _ rfl
  simp only[Nat.zero_mul,Nat.add_zero,Nat.zero_add] at e0 e1 e2 e3 e4
  have hcall:=HIH.out t0 hm0.out W1 (HG.out.below B1.out) (O1.out.kids t0 hm0.out) (by have h1:=iW hm0.out;have:=HCN.out;omega)
  have hz0:=TS.out t0 hm0.out
  obtain⟨X0,hX0⟩:∃ X0,bG (dR t0.pl)=X0:=⟨_,rfl⟩
  rw[hX0] at hcall hz0
  have HX0:Hid (bl X0=dR t0.pl):=by show _=_;rw[←hX0,et]
  unfold ak.val at hcall
  rw[wF _ _ _ _ _ _ _ hw]
  have hix:=fun W=>aH (T:=168) (E:=170) (sz:=5) (n:=tl) (c:=kc) (k:=0) (A:=some ⟨g,0,none⟩) Tryz.underlying168 rfl Tryz.sizeOf170 rfl (by omega) W
  simp only[Nat.zero_mul,Nat.add_zero] at hix
  clear ho hc hk ih hG hO hw hw7 htl hcn CNE hg he ht0 hX0
  show Calls Tryz.prog 179 #[.agg #[.string op,.string ⟨#[]⟩,.int .i64 0,.string ⟨#[]⟩,.slice (some ⟨g,0,none⟩) kids.length kc]] w _
  rw[HTL.out]
  go_enter Tryz.func179,Tryz.ntmps179
  go_wp2_with fail
  refine hcall.mono ?_;rintro e w2 ⟨rfl,hb⟩
  have B2:=ae (ap B1.out hb)
  have K2:=ae (K1.out.below hb)
  have O2:=ae (O1.out.low hb)
  clear hcall hb e0 e1 e2 e3 e4 k0 k4 hix hW1
  have k0:=K2.out.cell 0 _ rfl
  have k4:=K2.out.cell 4 _ rfl
  have S0:Hid (bl (⟨#[40]⟩++X0)=[40]++fW (bl op) 0 (kE (kids.take 1))):=by
   show _=_
   obtain⟨hk',hg'⟩:=gS HT0.out
   rw[tS hk',hg']
   simp only[List.take_zero,List.nil_append]
   rw[Hq,cq,HX0.out];rfl
  go_wp2_with fail
  obtain⟨rl,hrl⟩:∃ rl,tl-1=rl:=⟨_,rfl⟩
  have RL:Hid (kids.length=rl+1):=by have:=HTL.out;show _=_;omega
  rw[hrl]
  have hrl64:rl≤64:=by omega
  have HSZ:Hid (w.heap.size<w2.heap.size):=K2.out.sz
  have hs0:(⟨#[40]⟩++X0:BA).size≤12900:=by rw[←ah,S0.out,List.length_append];have:=PS.out 1;simp;omega
  clear hrl k0 k4 hkc hkm ht2 htl9 hz0
  go_loopw [3,42] (fun sv iv wr=>∃ (i:Nat) (S:BA),sv=.string S∧iv=.int .i64 i∧i≤rl∧S.size≤12900∧Hid (bl S=[40]++fW (bl op) 0 (kE (kids.take (i+1))))∧Hid (Below w.heap.size w wr)∧Hid (av wr w.heap.size [.string op,.string ⟨#[]⟩,.int .i64 0,.string ⟨#[]⟩,.slice (some ⟨g,0,none⟩) tl kc])) (fun _ iv _=>rl-(intOf iv).toNat)
  case atStart=>exact⟨0,_,rfl,rfl,z0,hs0,S0,B2,K2⟩
  case round=>
   clear hs0 S0 K2
   obtain⟨i,S,rfl,rfl,hi,hS,HS,HB,HK⟩:=hrel
   by_cases hlt:i<rl
   ·obtain⟨t,ht⟩:∃ t,kids[i+1]?=some t:=⟨_,gG (by rw[RL.out];omega)⟩
    have HT:=ae ht
    have htm:Hid (t∈kids):=gM ht
    have O3:=HO.out.low HB.out
    obtain⟨b',off,hA,he⟩:=O3.rd.cell (i+1) t ht
    simp only[ak.ka] at hA
    injection hA with hA;injection hA with hb ho' _
    subst hb ho'
    have e0:=he 0 _ rfl
    have e1:=he 1 _ rfl
    have e2:=he 2 _ rfl
    have e3:=he 3 _ rfl
    have e4:=he 4 _ rfl
    have hoff:0+(i+1)*5=5+i*5:=by omega
    rw[hoff] at e0 e1 e2 e3 e4
    simp only[Nat.add_zero] at e0
    have hix:=fun W=>aH (T:=168) (E:=170) (sz:=5) (n:=rl) (c:=kc-1) (k:=i) (A:=some ⟨g,5,none⟩) Tryz.underlying168 rfl Tryz.sizeOf170 rfl hlt W
    obtain⟨W3,hW3⟩:∃ W3,wr.alloc (.cells #[.string t.op,.string t.nm,.int .i64 t.aop,.string t.ver,.slice t.ka t.kids.length t.kc] 170)=W3:=⟨_,rfl⟩
    have B3:Hid (Below wr.heap.size wr W3):=by rw[←hW3];exact bR.alloc lr _
    have K3:Hid (av W3 wr.heap.size t.cells):=by rw[←hW3];exact av.new wr t.cells _
    have B4:=ae (ap HB.out B3.out)
    have HK3:=ae (HK.out.below B3.out)
    have hcall:=HIH.out t htm.out W3 (HG.out.below B4.out) ((O3.low B3.out).kids t htm.out) (by have h1:=iW htm.out;have:=HCN.out;omega)
    have hz:=TS.out t htm.out
    obtain⟨X,hX⟩:∃ X,bG (dR t.pl)=X:=⟨_,rfl⟩
    rw[hX] at hcall hz
    have HX:Hid (bl X=dR t.pl):=by show _=_;rw[←hX,et]
    unfold ak.val at hcall
    have a0:=K3.out.cell 0 _ rfl
    have a1:=K3.out.cell 1 _ rfl
    have a2:=K3.out.cell 2 _ rfl
    have a3:=K3.out.cell 3 _ rfl
    have a4:=K3.out.cell 4 _ rfl
    have b0:=HK3.out.cell 0 _ rfl
    clear ht he O3 hX hoff
    go_upto_region 10 with(fail)
    clear hW3 e0 e1 e2 e3 e4 hix
    obtain⟨bb,hbb⟩:∃ bb:Bool,decide (0<i∧(bl op=mx∨bl op=bj))=bb:=⟨_,rfl⟩
    have HBB:=ae hbb
    clear hbb
    go_cut [58] (fun v wx=>v=.bool bb∧W3=wx)
    case first=>
     clear hcall
     by_cases i0:0<i
     ·have q1:decide ((0:Int)<(i:Int))=true:=dT (by omega)
      have q2:decide (0<i)=true:=dT i0
      by_cases w1:bl op=mx
      ·have F1:op.toList=[105,102]:=by rw[ai];exact w1
       have E2:Hid (bb=true):=by show _=_;rw[←HBB.out];exact dT ⟨i0,.inl w1⟩
       clear w1 o0 o1 o2
       go_wp2_with fail
       go_meet
       exact⟨by rw[E2.out],rfl⟩
      ·have F1:(op.toList==([105,102]:LU))=false:=by rw[ai,bF];exact w1
       by_cases w2:bl op=bj
       ·have F2:op.toList=[117,110,108,101,115,115]:=by rw[ai];exact w2
        have E2:Hid (bb=true):=by show _=_;rw[←HBB.out];exact dT ⟨i0,.inr w2⟩
        clear w1 w2 o0 o1 o2 F1
        go_wp2_with fail
        go_meet
        exact⟨by rw[E2.out],rfl⟩
       ·have F2:(op.toList==([117,110,108,101,115,115]:LU))=false:=by rw[ai,bF];exact w2
        have E2:Hid (bb=false):=by show _=_;rw[←HBB.out];exact dF (by rintro⟨_,h | h⟩<;>contradiction)
        clear w1 w2 o0 o1 o2
        go_wp2_with fail
        go_meet
        exact⟨by rw[E2.out],rfl⟩
     ·have q1:decide ((0:Int)<(i:Int))=false:=dF (by omega)
      have q2:decide (0<i)=false:=dF i0
      have E2:Hid (bb=false):=by show _=_;rw[←HBB.out];exact dF (fun h=>i0 h.1)
      go_wp2_with fail
      go_meet
      exact⟨by rw[E2.out],rfl⟩
    case rest=>
    obtain⟨rfl,rfl⟩:=hcut
    go_upto_if 58 with(fail)
    go_cut [6] (fun v wx=>∃ Wd:BA,v=.string Wd∧Wd.size≤7∧Hid (bl Wd=JJ (bl op) (i+1))∧W3=wx)
    case first=>
     cases bb with
     | true=>
      have E:Hid (bl ⟨#[101,108,115,101]⟩=JJ (bl op) (i+1)):=by show _=_;rw[yO,if_pos (dO HBB.out)];rfl
      go_wp2_with fail
      go_meet
      exact⟨_,rfl,by decide,E,rfl⟩
     | false=>
      have E:Hid (bl op=JJ (bl op) (i+1)):=by show _=_;rw[yO,if_neg (of_decide_eq_false HBB.out)]
      go_wp2_with fail
      go_meet
      exact⟨_,rfl,hop7,E,rfl⟩
    case rest=>
    obtain⟨Wd,rfl,hWd,EW,rfl⟩:=hcut
    have SN:Hid (bl (S++(⟨#[32]⟩++Wd++⟨#[32]⟩++X))=[40]++fW (bl op) 0 (kE (kids.take (i+2)))):=by
     show _=_
     rw[Ex _ _ _ _ HT.out];simp only[cq];rw[HS.out,EW.out,HX.out]
     simp[List.append_assoc];rfl
    have hsn:(S++(⟨#[32]⟩++Wd++⟨#[32]⟩++X):BA).size≤12900:=by rw[←ah,SN.out,List.length_append];have:=PS.out (i+2);simp;omega
    have HSN:Hid ((S++(⟨#[32]⟩++Wd++⟨#[32]⟩++X):BA).size≤12900):=hsn
    clear hsn
    have a0:=K3.out.cell 0 _ rfl
    have a1:=K3.out.cell 1 _ rfl
    have a2:=K3.out.cell 2 _ rfl
    have a3:=K3.out.cell 3 _ rfl
    have a4:=K3.out.cell 4 _ rfl
    go_wp2_with fail
    refine hcall.mono ?_;rintro e w4 ⟨rfl,hb⟩
    have B5:=ae (ap B4.out hb)
    have HK5:=ae (HK3.out.below hb)
    clear hcall hb a0 a1 a2 a3 a4 b0
    go_wp2_with fail
    go_roundw
    case rel=>exact⟨i+1,_,rfl,by go_num,by omega,HSN.out,SN,B5,HK5⟩
    case measure=>simp[intOf];omega
   ·have E:Hid (bl (S++⟨#[41]⟩)=dR (.node (bl op) (kE kids))):=by
     have h1:=HS.out
     rw[tL (by rw[RL.out];omega)] at h1
     show _=_;rw[cq,h1];rfl
    go_wp2_with fail
    go_ret
    exact⟨by rw[←uF E.out];rfl,HB.out⟩
end
end Go.Proofs.YtlglfpbhapmhiaaGreatDoor
