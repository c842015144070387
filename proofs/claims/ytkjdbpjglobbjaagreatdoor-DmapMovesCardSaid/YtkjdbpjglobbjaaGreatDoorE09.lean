/- A part of the proof of a law on dependencies in three formats. No condition. -/
import Derived.Test.YtkjdbpjglobbjaaGreatDoorE08
set_option maxRecDepth 100000
set_option maxHeartbeats 20000000
set_option linter.unusedVariables false
set_option linter.unusedSimpArgs false
namespace Go.Proofs.YtkjdbpjglobbjaaGreatDoor
section
open Go.RowKit
def cf (l:LU):Option (LU×LU×LU):=(kB l).map fun x=>([],x.2.1,x.2.2)
def bC (fmt:Int)(l:LU):Option (LU×LU×LU):=if fmt=1 then fg l else if fmt=2 then fh l else cf l
theorem rj (s:BA)(w:World)(hG:Gl w)(hs:s.size≤64):
  Calls Tryz.prog 69 #[.int .i64 3,.string s] w (qY (cf (bl s)) w):=by
 have HG:=ae hG;clear hG
 go_enter Tryz.func69,Tryz.ntmps69
 go_wp2_with fail
 refine(kD s _ HG.out hs).mono ?_
 rintro e w1 ⟨hb1,hm⟩
 cases ha:kB (bl s) with
 | none=>
  rw[ha] at hm
  obtain⟨A,n,c,p,q,rfl⟩:=hm
  have HR:Hid (cf (bl s)=none):=by show _=_;unfold cf;rw[ha];rfl
  clear ha
  go_wp2_with fail
  refine bodyPost_ret (aO rfl _ _ _) rfl ?_
  exact⟨⟨#[]⟩,⟨#[]⟩,⟨#[]⟩,3,rfl,by rw[HR.out];exact⟨rfl,rfl,rfl,rfl⟩,hb1⟩
 | some x=>
  obtain⟨ps,p,q⟩:=x
  rw[ha] at hm
  obtain⟨A,c,rfl,_⟩:=hm
  have HR:Hid (cf (bl s)=some ([],p,q)):=by show _=_;unfold cf;rw[ha];rfl
  clear ha
  go_wp2_with fail
  refine bodyPost_ret (aO rfl _ _ _) rfl ?_
  exact⟨⟨#[]⟩,⟨p.toArray⟩,⟨q.toArray⟩,0,rfl,by rw[HR.out];exact⟨rfl,rfl,gI p,gI q⟩,hb1⟩
theorem lf (fmt:Int)(hf:fmt=1∨fmt=2∨fmt=3)(s:BA)(w:World)(hG:Gl w)(hs:s.size≤64):
  Calls Tryz.prog 69 #[.int .i64 fmt,.string s] w (qY (bC fmt (bl s)) w):=by
 rcases hf with rfl | rfl | rfl
 ·exact pW s w hG hs
 ·exact rf s w hG hs
 ·exact rj s w hG hs
def aV (fmt:Int)(s:BA):Int:=if ¬ (fmt=1∨fmt=2∨fmt=3) then 9 else if 64<s.size then 4 else rg (bC fmt (bl s))
theorem lh (fmt:Int)(s:BA)(w:World)(hs:s.size≤9223372036854775807)(h:¬ (fmt=1∨fmt=2∨fmt=3)∨64<s.size):
  Calls Tryz.prog 69 #[.int .i64 fmt,.string s] w fun e w'=>e=.returned (.tuple #[.string ⟨#[]⟩,.string ⟨#[]⟩,.string ⟨#[]⟩,.int .i64 (aV fmt s)])∧w=w':=by
 by_cases hf:fmt=1∨fmt=2∨fmt=3
 ·have h64:64<s.size:=h.resolve_left (fun hn=>hn hf)
  have E:Hid (aV fmt s=4):=by show _=_;unfold aV;rw[if_neg (fun hn=>hn hf),if_pos h64]
  clear h
  rcases hf with rfl | rfl | rfl
  all_goals
   go_enter Tryz.func69,Tryz.ntmps69
   go_wp2_with fail
   refine bodyPost_ret (aO rfl _ _ _) rfl ?_
   exact⟨by rw[E.out];rfl,rfl⟩
 ·have E:Hid (aV fmt s=9):=by show _=_;unfold aV;rw[if_pos hf]
  have q1:(fmt != 1)=true:=by simp[bne];omega
  have q2:(fmt != 2)=true:=by simp[bne];omega
  have q3:(fmt != 3)=true:=by simp[bne];omega
  clear h hf
  go_enter Tryz.func69,Tryz.ntmps69
  go_wp2_with fail
  refine bodyPost_ret (aO rfl _ _ _) rfl ?_
  exact⟨by rw[E.out];rfl,rfl⟩
theorem bh (fmt:Int)(s:BA)(w:World)(hG:Gl w)(hs:s.size≤9223372036854775807):
  Calls Tryz.prog 134 #[.int .i64 fmt,.string s] w fun e w'=>e=.returned (.int .i64 (aV fmt s))∧Below w.heap.size w w':=by
 have HG:=ae hG;clear hG
 by_cases h:¬ (fmt=1∨fmt=2∨fmt=3)∨64<s.size
 ·have HH:=ae h;clear h
  go_enter Tryz.func134,Tryz.ntmps134
  go_wp2_with fail
  refine(lh fmt s _ hs HH.out).mono ?_
  rintro e w1 ⟨rfl,rfl⟩
  go_wp2_with fail
  go_ret
  exact⟨rfl,bR⟩
 ·have hf:fmt=1∨fmt=2∨fmt=3:=Classical.byContradiction fun hn=>h (.inl hn)
  have h64:¬ 64<s.size:=fun hn=>h (.inr hn)
  have E:Hid (aV fmt s=rg (bC fmt (bl s))):=by show _=_;unfold aV;rw[if_neg (fun hn=>hn hf),if_neg h64]
  have HF:=ae hf
  clear h hf
  go_enter Tryz.func134,Tryz.ntmps134
  go_wp2_with fail
  refine(lf fmt HF.out s _ HG.out (by omega)).mono ?_
  rintro e w1 ⟨ep,pr,rv,c,rfl,hr,hb1⟩
  have HR:=ae hr;clear hr
  go_wp2_with fail
  go_ret
  refine⟨az ?_,hb1⟩
  rw[E.out]
  have hr:=HR.out
  cases h:bC fmt (bl s) with
  | none=>rw[h] at hr;exact hr.1
  | some x=>obtain⟨a,b,d⟩:=x;rw[h] at hr;exact hr.1
theorem eh {p:UInt8→Bool}{a:UInt8}{r:LU}(h:p a=false):au p (a::r)=0:=by simp[au,h]
theorem lU {p:UInt8→Bool}:∀ (l:LU),au p l<l.length→∃ a r,l.drop (au p l)=a::r∧p a=false
 | [],h=>by simp at h
 | a::r,h=>by
  cases hp:p a with
  | false=>exact⟨a,r,by rw[eh hp];rfl,hp⟩
  | true=>
   have e:au p (a::r)=au p r+1:=by simp[au,hp]
   rw[e] at h ⊢
   simpa using lU r (by simpa using h)
theorem dI (w:World)(t:TypeId)(x y z:Value):jQ (w.alloc (.cells #[x,y,z] t)) (w.heap.size+1) 3 (some ⟨w.heap.size,0,none⟩) 1 [x,y,z]:=by
 refine⟨rfl,fun _=>⟨_,rfl,by simp,fun j u hu=>?_⟩⟩
 match j,hu with
 | 0,hu=>simp at hu;subst hu;simp[Addr.add]
 | 1,hu=>simp at hu;subst hu;simp[Addr.add]
 | 2,hu=>simp at hu;subst hu;simp[Addr.add]
 | j+3,hu=>simp at hu
def bz (l:LU):BA:=⟨l.toArray⟩
theorem cH (l:LU):bl (bz l)=l:=gI l
theorem iP (s:BA):bz (bl s)=s:=dp (gI _)
theorem bQ (l:LU):(bz l).size=l.length:=by rw[←af,cH]
theorem Az {s:BA}{l:LU}(h:bl s=l):s=bz l:=by rw[←h,iP]
structure dR where
 no:Bool
 name:LU
 op:Nat
 ver:LU
def dR.cells (x:dR):List Value:=[.bool x.no,.string (bz x.name),.int .i64 x.op,.string (bz x.ver)]
theorem vq (x:dR):x.cells.length=4:=rfl
def bf (c:UInt8):Bool:=c==32
def dW (c:UInt8):Bool:=c != 32
def zB (c:UInt8):Bool:=c==60||c==61||c==62||c==126
def jS (c:UInt8):Bool:=!zB c
def uh:LU→Nat×LU
 | []=>(0,[])
 | a::r=>if a==60 then (if aE 61 r then (2,r.drop 1) else (1,r)) else if a==61 then (3,r) else if a==62 then (if aE 61 r then (4,r.drop 1) else (5,r)) else if a==126 then (6,r) else (0,a::r)
def cS (l:LU):LU:=if aE 33 l then l.drop 1 else l
def AA (no:Bool)(name t:LU):Option dR:=
 if t.isEmpty then some ⟨no,name,0,[]⟩ else if aV 3 (bz (uh t).2)=0 then some ⟨no,name,(uh t).1,(uh t).2⟩ else none
def gJ (l:LU):Option dR:=
 if eB ((cS l).take (au jS (cS l))) then AA (aE 33 l) ((cS l).take (au jS (cS l))) ((cS l).drop (au jS (cS l))) else none
def iQ:Nat→Nat→LU→Option (List dR)
 | 0,_,_=>none
 | f+1,n,l=>
  let r:=l.drop (au bf l)
  if r.isEmpty then some [] else if n=64 then none else
  match gJ (r.take (au dW r)) with
  | none=>none
  | some x=>(iQ f (n+1) (r.drop (au dW r))).map (x :: ·)
def eR (l:LU):Option (List dR):=iQ (l.length+1) 0 l
def dR.right (x:dR):Prop:=eB x.name=true∧x.op≤6∧(x.op=0→x.ver=[])∧(0<x.op→aV 3 (bz x.ver)=0)
theorem Tv (l:LU):(uh l).1≤6:=by
 unfold uh;split
 ·simp
 ·repeat' split
  all_goals simp
def Oq:LU→Bool
 | []=>false
 | a::_=>zB a
theorem Rr (l:LU)(h:Oq l=true):0<(uh l).1:=by
 cases l with
 | nil=>simp[Oq] at h
 | cons a r=>
  unfold uh
  simp only[Oq,zB,Bool.or_eq_true] at h
  repeat' split
  all_goals first | (simp;done) | (rcases h with((h | h) | h) | h<;>simp_all)
theorem wq {p:UInt8→Bool}(l:LU)(h:(l.drop (au p l)).isEmpty=false):∃ a r,l.drop (au p l)=a::r∧p a=false:=by
 refine lU l ?_
 have h1:=cJ p l
 rcases Nat.lt_or_ge (au p l) l.length with h2 | h2
 ·exact h2
 ·rw[List.drop_eq_nil_of_le h2] at h;simp at h
theorem Fb {l:LU}{x:dR}(h:gJ l=some x):x.right:=by
 unfold gJ at h
 split at h
 ·rename_i hn
  unfold AA at h
  split at h
  ·injection h with h;subst h;exact⟨hn,by simp,by simp,by simp⟩
  ·rename_i he
   split at h
   ·rename_i hv
    injection h with h;subst h
    refine⟨hn,Tv _,fun h0=>?_,fun _=>hv⟩
    exfalso
    obtain⟨a,r,hd,ha⟩:=wq _ (Bool.eq_false_iff.2 he)
    have:=Rr _ (show Oq ((cS l).drop (au jS (cS l)))=true by rw[hd];simpa [Oq,jS] using ha)
    simp only at h0;omega
   ·cases h
 ·cases h
theorem ui:∀ (f n:Nat)(l:LU)(L:List dR),n≤64→iQ f n l=some L→(∀ x∈L,x.right)∧n+L.length≤64
 | 0,n,l,L,_,h=>by simp[iQ] at h
 | f+1,n,l,L,hn,h=>by
  unfold iQ at h
  simp only at h
  split at h
  ·injection h with h;subst h;simpa using hn
  ·split at h
   ·cases h
   ·rename_i h64
    split at h
    ·cases h
    ·rename_i x hx
     obtain⟨M,hM,rfl⟩:=Option.map_eq_some_iff.1 h
     obtain⟨a,b⟩:=ui f (n+1) _ M (by omega) hM
     refine⟨fun y hy=>?_,by simp;omega⟩
     rcases List.mem_cons.1 hy with rfl | hy
     ·exact Fb hx
     ·exact a y hy
theorem jy {p:UInt8→Bool}{a:UInt8}{r:LU}(h:p a=true):au p (a::r)=au p r+1:=by simp[au,h]
theorem uj (f n:Nat)(r:LU):iQ f n (32::r)=iQ f n r:=by
 cases f with
 | zero=>rfl
 | succ f=>unfold iQ;rw[jy (by rfl)];rfl
theorem sS (f n:Nat):iQ (f+1) n []=some []:=by simp[iQ,au]
def Fc (f n:Nat)(l:LU):Option (List dR):=
 if n=64 then none else match gJ (l.take (au dW l)) with
  | none=>none
  | some x=>(iQ f (n+1) (l.drop (au dW l))).map (x :: ·)
theorem qk (f n:Nat)(l:LU)(h:dW (l.headD 32)=true):iQ (f+1) n l=Fc f n l:=by
 cases l with
 | nil=>simp[dW] at h
 | cons a r=>
  have hb:bf a=false:=by simpa [dW,bf] using h
  unfold iQ Fc
  rw[eh hb]
  simp
theorem Fd {f:Nat}{l:LU}(h:dW (l.headD 32)=true):iQ (f+1) 64 l=none:=by rw[qk f 64 l h];simp[Fc]
theorem Ie {f n:Nat}{l:LU}(h:dW (l.headD 32)=true)(hw:gJ (l.take (au dW l))=none):iQ (f+1) n l=none:=by
 rw[qk f n l h];unfold Fc;rw[hw];simp
theorem ql {f n:Nat}{l:LU}{x:dR}(h:dW (l.headD 32)=true)(hn:n≠64)(hw:gJ (l.take (au dW l))=some x):iQ (f+1) n l=(iQ f (n+1) (l.drop (au dW l))).map (x :: ·):=by
 rw[qk f n l h];unfold Fc;rw[if_neg hn,hw]
def nz (f:Nat)(acc:List dR)(l:LU):Option (List dR):=(iQ f acc.length l).map (acc++·)
theorem If (l:LU):eR l=nz (l.length+1) [] l:=by unfold eR nz;simp
theorem Ig (f:Nat)(acc:List dR)(r:LU):nz f acc (32::r)=nz f acc r:=by unfold nz;rw[uj]
theorem Ot (f:Nat)(acc:List dR):nz (f+1) acc []=some acc:=by unfold nz;rw[sS];simp
theorem Lx {f:Nat}{acc:List dR}{l:LU}(h:dW (l.headD 32)=true)(hw:gJ (l.take (au dW l))=none):nz (f+1) acc l=none:=by unfold nz;rw[Ie h hw];rfl
theorem Ih {f:Nat}{acc:List dR}{l:LU}(h:dW (l.headD 32)=true)(hn:acc.length=64):nz (f+1) acc l=none:=by unfold nz;rw[hn,Fd h];rfl
theorem Ly {f:Nat}{acc:List dR}{l:LU}{x:dR}(h:dW (l.headD 32)=true)(hn:acc.length≠64)(hw:gJ (l.take (au dW l))=some x):nz (f+1) acc l=nz f (acc++[x]) (l.drop (au dW l)):=by
 unfold nz;rw[ql h hn hw];simp[Function.comp_def]
def iH:Nat→LU
 | 1=>[60]
 | 2=>[60,61]
 | 3=>[61]
 | 4=>[62,61]
 | 5=>[62]
 | 6=>[126]
 | _=>[]
def dR.text (x:dR):LU:=(if x.no then [33] else [])++(x.name++iH x.op++x.ver)
def fz (L:List dR):LU:=Lib.join (L.map dR.text) [32]
def dl (l:LU):Nat→Nat×LU
 | 0=>(0,l)
 | i+1=>if Lib.hasPrefix l (iH i)&&decide ((Lib.trimPrefix l (iH i)).length<(dl l i).2.length) then (i,Lib.trimPrefix l (iH i)) else dl l i
theorem mD (l:LU)(i:Nat):dl l (i+1)=if Lib.hasPrefix l (iH i)&&decide ((Lib.trimPrefix l (iH i)).length<(dl l i).2.length) then (i,Lib.trimPrefix l (iH i)) else dl l i:=rfl
theorem cV {l:LU}{i:Nat}(h:Lib.hasPrefix l (iH i)=false):dl l (i+1)=dl l i:=by rw[mD,h];rfl
theorem lW {l r b:LU}{i n:Nat}(h0:dl l i=(n,b))(h:Lib.hasPrefix l (iH i)=true)(ht:l.drop (iH i).length=r)(hl:r.length<b.length):dl l (i+1)=(i,r):=by
 have:Lib.trimPrefix l (iH i)=r:=by unfold Lib.trimPrefix;rw[if_pos h,ht]
 rw[mD,h,this,h0];simp[hl]
theorem AC (l:LU):dl l 1=(0,l):=by
 rw[mD]
 have:Lib.trimPrefix l (iH 0)=l:=by unfold Lib.trimPrefix;simp[iH]
 rw[this];simp[dl]
theorem nA (c a:UInt8)(r:LU):Lib.hasPrefix (a::r) [c]=(c==a):=by unfold Lib.hasPrefix;simp only[List.isPrefixOf,Bool.and_true]
theorem Fe (c d a:UInt8)(r:LU):Lib.hasPrefix (a::r) [c,d]=(c==a&&aE d r):=by
 cases r with
 | nil=>unfold Lib.hasPrefix;simp only[List.isPrefixOf,aE]
 | cons b r=>unfold Lib.hasPrefix;simp only[List.isPrefixOf,aE,Bool.and_true];rw[Bool.beq_comm (a:=d)]
theorem Rs {c a:UInt8}(h:a≠c):(c==a)=false:=by simpa using fun e=>h e.symm
theorem AD (l:LU):dl l 7=uh l:=by
 cases l with
 | nil=>rfl
 | cons a r=>
  by_cases h0:a=60
  ·subst h0
   have s2:dl (60::r) 2=(1,r):=lW (AC _) (by rw[show iH 1=[60] from rfl,nA];rfl) rfl (by simp)
   have s3:dl (60::r) 3=if aE 61 r then (2,r.drop 1) else (1,r):=by
    cases hb:aE 61 r with
    | false=>exact(cV (by rw[show iH 2=[60,61] from rfl,Fe,hb];rfl)).trans s2
    | true=>
     refine lW s2 (by rw[show iH 2=[60,61] from rfl,Fe,hb];rfl) rfl ?_
     rw[lT hb];simp
   rw[cV (i:=6) (by rw[show iH 6=[126] from rfl,nA];rfl),cV (i:=5) (by rw[show iH 5=[62] from rfl,nA];rfl),cV (i:=4) (by rw[show iH 4=[62,61] from rfl,Fe];rfl),cV (i:=3) (by rw[show iH 3=[61] from rfl,nA];rfl),s3]
   simp[uh]
  have n0:=Rs h0
  have s3:dl (a::r) 3=(0,a::r):=by
   rw[cV (i:=2) (by rw[show iH 2=[60,61] from rfl,Fe,n0];rfl),cV (i:=1) (by rw[show iH 1=[60] from rfl,nA,n0]),AC]
  by_cases h1:a=61
  ·subst h1
   have s4:dl (61::r) 4=(3,r):=lW s3 (by rw[show iH 3=[61] from rfl,nA];rfl) rfl (by simp)
   rw[cV (i:=6) (by rw[show iH 6=[126] from rfl,nA];rfl),cV (i:=5) (by rw[show iH 5=[62] from rfl,nA];rfl),cV (i:=4) (by rw[show iH 4=[62,61] from rfl,Fe];rfl),s4]
   simp[uh]
  have n1:=Rs h1
  have s4:dl (a::r) 4=(0,a::r):=by rw[cV (i:=3) (by rw[show iH 3=[61] from rfl,nA,n1]),s3]
  by_cases h2:a=62
  ·subst h2
   cases hb:aE 61 r with
   | false=>
    have s5:dl (62::r) 5=(0,62::r):=(cV (by rw[show iH 4=[62,61] from rfl,Fe,hb];rfl)).trans s4
    have s6:dl (62::r) 6=(5,r):=lW s5 (by rw[show iH 5=[62] from rfl,nA];rfl) rfl (by simp)
    rw[cV (i:=6) (by rw[show iH 6=[126] from rfl,nA];rfl),s6]
    simp[uh,hb]
   | true=>
    have s5:dl (62::r) 5=(4,r.drop 1):=lW s4 (by rw[show iH 4=[62,61] from rfl,Fe,hb];rfl) rfl (by simp;omega)
    have s6:dl (62::r) 6=(4,r.drop 1):=by
     rw[mD,s5]
     have:Lib.trimPrefix (62::r) (iH 5)=r:=by unfold Lib.trimPrefix;rw[if_pos (by rw[show iH 5=[62] from rfl,nA];rfl)];rfl
     rw[this,if_neg (by simp)]
    rw[cV (i:=6) (by rw[show iH 6=[126] from rfl,nA];rfl),s6]
    simp[uh,hb]
  have n2:=Rs h2
  have s6:dl (a::r) 6=(0,a::r):=by rw[cV (i:=5) (by rw[show iH 5=[62] from rfl,nA,n2]),cV (i:=4) (by rw[show iH 4=[62,61] from rfl,Fe,n2];rfl),s4]
  by_cases h3:a=126
  ·subst h3
   rw[lW (r:=r) s6 (by rw[show iH 6=[126] from rfl,nA];rfl) rfl (by simp)]
   simp[uh]
  ·rw[cV (i:=6) (by rw[show iH 6=[126] from rfl,nA,Rs h3]),s6]
   simp[uh,h0,h1,h2,h3]
structure cL where
 name:LU
 qual:LU
 op:Nat
 ver:LU
 archs:List (LU)
def Fi (c:UInt8):Bool:=c==32||c==44||c==124||c==40||c==41||c==91||c==93
def Fj (c:UInt8):Bool:=Fi c||c==58
def UP (c:UInt8):Bool:=Fj c||c==33
def nB (c:UInt8):Bool:=!Fi c
def px (c:UInt8):Bool:=!Fj c
def jT (c:UInt8):Bool:=!UP c
def aJ (l:LU):LU:=l.drop (au bf l)
def mW (p:UInt8→Bool)(l:LU):Option (LU×LU):=if au p l=0 then none else some (l.take (au p l),l.drop (au p l))
def uk (l:LU):Nat×LU:=
 if aE 61 l then (3,l.drop 1) else
 if aE 60 l then (if aE 60 (l.drop 1) then (1,(l.drop 1).drop 1) else if aE 61 (l.drop 1) then (2,(l.drop 1).drop 1) else (0,l.drop 1)) else
 if aE 62 l then (if aE 62 (l.drop 1) then (5,(l.drop 1).drop 1) else if aE 61 (l.drop 1) then (4,(l.drop 1).drop 1) else (0,l.drop 1)) else (0,l)
def li (op:Nat)(v r:LU):Option (Nat×LU×LU):=if aE 41 (aJ r) then some (op,v,aJ ((aJ r).drop 1)) else none
def cW (op:Nat)(l:LU):Option (Nat×LU×LU):=if op=0 then none else match mW nB (aJ l) with
 | none=>none
 | some (v,r)=>li op v r
def wv (l:LU):Option (Nat×LU×LU):=cW (uk (aJ l)).1 (uk (aJ l)).2
def AI (l:LU):LU:=if aE 33 l then [33] else []
def jJ (l:LU):Option (LU×LU):=(mW jT (cS l)).map (fun x=>(AI l++x.1,x.2))
def gh:Nat→LU→Option (List (LU)×LU)
 | 0,_=>none
 | f+1,l=>match jJ l with
  | none=>none
  | some (a,r)=>if aE 93 (aJ r) then some ([a],aJ ((aJ r).drop 1)) else if aE 32 r then (gh f (aJ r)).map (fun x=>(a::x.1,x.2)) else none
def jD (r:LU):Option (LU×LU):=if aE 58 r then mW jT (r.drop 1) else some ([],r)
def jd (r:LU):Option (Nat×LU×LU):=if aE 40 r then wv (r.drop 1) else some (0,[],r)
def gP (r:LU):Option (List (LU)×LU):=if aE 91 r then gh (r.length+1) (aJ (r.drop 1)) else some ([],r)
def gK (l:LU):Option (cL×LU):=match mW px l with
 | none=>none
 | some (nm,r)=>match jD r with
  | none=>none
  | some (q,r1)=>match jd (aJ r1) with
   | none=>none
   | some (op,v,r2)=>match gP r2 with
    | none=>none
    | some (ar,r3)=>some (⟨nm,q,op,v,ar⟩,r3)
def eS:Nat→LU→Option (List cL×LU)
 | 0,_=>none
 | f+1,l=>match gK l with
  | none=>none
  | some (t,r)=>if aE 124 r then (eS f (aJ (r.drop 1))).map (fun x=>(t::x.1,x.2)) else some ([t],r)
def fW:Nat→LU→Option (List (List cL))
 | 0,_=>none
 | f+1,l=>match eS (l.length+1) l with
  | none=>none
  | some (g,r)=>if r.isEmpty then some [g] else if aE 44 r then (fW f (aJ (r.drop 1))).map (g :: ·) else none
def lY (l:LU):Option (List (List cL)):=if (aJ l).isEmpty then some [] else fW (l.length+1) (aJ l)
def cL.right (t:cL):Bool:=bo t.name&&(t.qual.isEmpty||eD t.qual)&&t.archs.all (fun a=>eD (cS a))&&(decide (t.op=0)||decide (aV 1 (bz t.ver)=0))
def uJ (L:List (List cL)):Bool:=L.all (fun g=>g.all cL.right)&&decide ((L.map List.length).sum≤64)
def eT (l:LU):Option (List (List cL)):=match lY l with
 | none=>none
 | some L=>if uJ L then some L else none
theorem fk (l:LU):(aJ l).length≤l.length:=by unfold aJ;rw[List.length_drop];omega
theorem ru {p:UInt8→Bool}{l a r:LU}(h:mW p l=some (a,r)):0<au p l∧a=l.take (au p l)∧r=l.drop (au p l):=by
 unfold mW at h
 split at h
 ·cases h
 ·injection h with h;injection h with h1 h2;exact⟨by omega,h1.symm,h2.symm⟩
theorem CW {p:UInt8→Bool}{l a r:LU}(h:mW p l=some (a,r)):r.length<l.length:=by
 obtain⟨h1,_,rfl⟩:=ru h
 have:=cJ p l
 rw[List.length_drop];omega
def Fk:Nat→LU
 | 1=>[60,60]
 | 2=>[60,61]
 | 3=>[61]
 | 4=>[62,61]
 | 5=>[62,62]
 | _=>[]
def cL.text (t:cL):LU:=t.name++(if t.qual.isEmpty then [] else 58::t.qual)++(if t.op=0 then [] else [32,40]++Fk t.op++[32]++t.ver++[41])++(if t.archs.isEmpty then [] else [32,91]++Lib.join t.archs [32]++[93])
def eY (L:List (List cL)):LU:=Lib.join (L.map (fun g=>Lib.join (g.map cL.text) [32,124,32])) [44,32]
theorem Ru (s p:BA)(w:World):Calls Tryz.prog 73 #[.string s,.string p] w fun e w'=>e=.returned (.tuple #[.string (bz (Lib.trimPrefix (bl s) (bl p))),.bool (Lib.hasPrefix (bl s) (bl p))])∧w=w':=
 (Tryz.strings_CutPrefix s p w).mono fun _ _ ⟨he,hw⟩=>⟨he,hw.symm⟩
theorem UR (k:Nat)(hk:k<7)(x:Nat→BA)(w:World):(Instr.index 119 (.agg #[.string (x 0),.string (x 1),.string (x 2),.string (x 3),.string (x 4),.string (x 5),.string (x 6)]) (.int .i64 k)).run Tryz.prog w=.ok (.string (x k)) w:=by
 rcases(by omega:k=0∨k=1∨k=2∨k=3∨k=4∨k=5∨k=6) with rfl | rfl | rfl | rfl | rfl | rfl | rfl<;>kernel_rfl
theorem wI (k:Nat)(hk:k<7):bl (qT k)=iH k:=by
 rcases(by omega:k=0∨k=1∨k=2∨k=3∨k=4∨k=5∨k=6) with rfl | rfl | rfl | rfl | rfl | rfl | rfl<;>rfl
theorem LQ {l:LU}{k:Nat}(h1:Lib.hasPrefix l (iH k)=true)(h2:(bz (Lib.trimPrefix l (iH k))).size<(bz (dl l k).2).size):dl l (k+1)=(k,Lib.trimPrefix l (iH k)):=by
 rw[bQ,bQ] at h2
 simp[dl,h1,h2]
theorem Im {l:LU}{k:Nat}(h2:¬ (bz (Lib.trimPrefix l (iH k))).size<(bz (dl l k).2).size):dl l (k+1)=dl l k:=by
 rw[bQ,bQ] at h2
 simp[dl,h2]
theorem OH {l:LU}{k:Nat}(h1:Lib.hasPrefix l (iH k)=false):dl l (k+1)=dl l k:=by
 simp[dl,h1]
theorem Kc (l p:LU):(Lib.trimPrefix l p).length≤l.length:=by
 unfold Lib.trimPrefix;split<;>simp
theorem wJ (l:LU):∀ k,(dl l k).2.length≤l.length
 | 0=>Nat.le_refl _
 | k+1=>by
  unfold dl;split
  ·exact Kc _ _
  ·exact wJ l k
theorem zK (s:BA)(w:World)(hG:Gl w)(hs:s.size≤9223372036854775807):
  Calls Tryz.prog 133 #[.string s] w fun e w'=>e=.returned (.tuple #[.int .i64 (uh (bl s)).1,.string (bz (uh (bl s)).2)])∧w=w':=by
 have g0:=hG.asg 0 (by omega)
 have g1:=hG.asg 1 (by omega)
 have g2:=hG.asg 2 (by omega)
 have g3:=hG.asg 3 (by omega)
 have g4:=hG.asg 4 (by omega)
 have g5:=hG.asg 5 (by omega)
 have g6:=hG.asg 6 (by omega)
 clear hG
 go_enter Tryz.func133,Tryz.ntmps133
 go_wp2_with fail
 clear g0 g1 g2 g3 g4 g5 g6
 go_loop [4,5,12] (fun o b i=>∃ k:Nat,k≤7∧∃ (n:Nat) (B:BA),o=.int .i64 n∧b=.string B∧i=.int .i64 k∧Hid (dl (bl s) k=(n,bl B))) (fun _ _ i=>7-(intOf i).toNat)
 case atStart=>exact⟨0,by omega,0,s,rfl,rfl,rfl,rfl⟩
 case round=>
  obtain⟨k,hk,n,B,rfl,rfl,rfl,HR⟩:=hrel
  by_cases hlt:k<7
  ·have hix:=fun W=>UR k hlt qT W
   have hsg:=wI k hlt
   obtain⟨T,hT⟩:∃ T,bz (Lib.trimPrefix (bl s) (iH k))=T:=⟨_,rfl⟩
   have hTz:T.size≤s.size:=by rw[←hT,bQ,←af];exact Kc _ _
   have hBz:B.size≤s.size:=by rw[←af,←af,show bl B=(dl (bl s) k).2 by rw[HR.out]];exact wJ _ _
   have hbT:bl T=Lib.trimPrefix (bl s) (iH k):=by rw[←hT,cH]
   have hmB:bz (dl (bl s) k).2=B:=by rw[HR.out];exact iP B
   cases hp:Lib.hasPrefix (bl s) (iH k) with
   | false=>
    have HN:=ae ((OH hp).trans HR.out)
    clear hmB hbT
    go_wp2_with (go_at_call 73;refine(Ru _ _ _).mono ?_;rintro e w' ⟨rfl,rfl⟩;rw[hsg,hp,hT])
    go_round
    case rel=>exact⟨k+1,by omega,n,B,rfl,rfl,by go_num,HN⟩
    case measure=>simp[intOf];omega
   | true=>
    by_cases hl:T.size<B.size
    ·have HN:Hid (dl (bl s) (k+1)=(k,bl T)):=by show _=_;rw[LQ hp (by rw[hT,hmB];exact hl),hbT]
     clear hmB hbT
     go_wp2_with (go_at_call 73;refine(Ru _ _ _).mono ?_;rintro e w' ⟨rfl,rfl⟩;rw[hsg,hp,hT])
     go_round
     case rel=>exact⟨k+1,by omega,k,T,rfl,rfl,by go_num,HN⟩
     case measure=>simp[intOf];omega
    ·have HN:=ae ((Im (by rw[hT,hmB];exact hl)).trans HR.out)
     clear hmB hbT
     go_wp2_with (go_at_call 73;refine(Ru _ _ _).mono ?_;rintro e w' ⟨rfl,rfl⟩;rw[hsg,hp,hT])
     go_round
     case rel=>exact⟨k+1,by omega,n,B,rfl,rfl,by go_num,HN⟩
     case measure=>simp[intOf];omega
  ·have E:Hid (uh (bl s)=(n,bl B)):=by show _=_;rw[←AD,←HR.out];congr 1;omega
   go_wp2_with fail
   go_ret2
   exact⟨by rw[E.out,iP];rfl,rfl⟩
end
section
open Go.RowKit Go.Deep
theorem AP:(Tryz.prog.info? 86).map (fun i=>(i.zero,i.size,i.bytes))=some (some (.agg #[.bool false,.string ⟨#[]⟩,.int .i64 0,.string ⟨#[]⟩]),4,48):=by kernel_rfl
structure zL (w wr:World) (L:List dR) (A:Option Addr) (n c:Nat):Prop where
 len:L.length=n
 row:wr.ownsRow (w.heap.size+1) 86 4 (.slice A n c) n (L.flatMap dR.cells)
 ret:aF wr w.heap.size [.string ⟨#[]⟩,.int .i64 0,.int .i64 0]
 bel:Below w.heap.size w wr
theorem zL.below {w wr w':World}{L:List dR}{A:Option Addr}{n c:Nat}(h:zL w wr L A n c)(hb:Below wr.heap.size wr w'):zL w w' L A n c:=
 ⟨h.len,aR h.row hb,h.ret.below hb,ah h.bel hb⟩
theorem zL.start (w:World):zL w (w.alloc (.cells #[.string ⟨#[]⟩,.int .i64 0,.int .i64 0] 101)) [] none 0 0:=
 ⟨rfl,World.ownsRow_nil _ _ _ _,aF.new w _ _,bR.alloc lr _⟩
theorem zL.grow {w wr w2:World}{L:List dR}{A A1:Option Addr}{n c c1:Nat}{o1 o2:Obj}{x:dR}(h:zL w wr L A n c)
  (hr:w2.ownsRow (w.heap.size+1) 86 4 (.slice A1 (n+1) c1) (n+1) (L.flatMap dR.cells++x.cells))
  (hg:((wr.alloc o1).alloc o2).grownBy w2 (Value.slice A n c).ownBlock):zL w w2 (L++[x]) A1 (n+1) c1:=by
 have hb:=h.bel.size
 have hB:Below w.heap.size w ((wr.alloc o1).alloc o2):=(h.bel.alloc h.bel.size o1).alloc (by simp;omega) o2
 have hR:aF ((wr.alloc o1).alloc o2) w.heap.size [.string ⟨#[]⟩,.int .i64 0,.int .i64 0]:=(h.ret.alloc o1).alloc o2
 refine⟨by simp[h.len],by rw[List.flatMap_append];simpa using hr,?_,?_⟩
 ·have hk:w2.heap[w.heap.size]?=((wr.alloc o1).alloc o2).heap[w.heap.size]?:=hg.block _ hR.sz (by intro e;have:=(h.row.lt _ e.symm).1;omega)
  refine⟨Nat.lt_of_lt_of_le hR.sz hg.size,fun j u hu=>?_,fun j hj=>?_⟩
  ·exact(World.cell?_of_block (a:=⟨w.heap.size,j,none⟩) hk).trans (hR.cell j u hu)
  ·exact(World.frozen?_of_block (a:=⟨w.heap.size,j,none⟩) hk).trans (hR.free j hj)
 ·exact hB.grown hg hB.size (fun j hj=>by have:=(h.row.lt j hj).1;omega)
def Ix (r:Option (List dR))(w:World)(e:Ending)(w':World):Prop:=
 ∃ (A:Option Addr) (n c:Nat) (f:BA) (a code:Int),e=.returned (.tuple #[.slice A n c,gB f a code])∧Below w.heap.size w w' ∧
  (match r with
   | some L=>code=0∧n=L.length∧w'.ownsRow w.heap.size 86 4 (.slice A n c) n (L.flatMap dR.cells)
   | none=>code≠0∧A=none∧n=0)
theorem wR (w:World)(t:TypeId)(a b c d:Value):jQ (w.alloc (.cells #[a,b,c,d] t)) (w.heap.size+1) 4 (some ⟨w.heap.size,0,none⟩) 1 [a,b,c,d]:=by
 refine⟨rfl,fun _=>⟨_,rfl,by simp,fun j u hu=>?_⟩⟩
 match j,hu with
 | 0,hu=>simp at hu;subst hu;simp[Addr.add]
 | 1,hu=>simp at hu;subst hu;simp[Addr.add]
 | 2,hu=>simp at hu;subst hu;simp[Addr.add]
 | 3,hu=>simp at hu;subst hu;simp[Addr.add]
 | j+4,hu=>simp at hu
theorem Rz (l:LU):(Lib.cut l [32]).1=l.take (au dW l):=by
 by_cases h:au dW l<l.length
 ·obtain⟨a,r,hd,ha⟩:=lU l h
  have ha:a=32:=by simpa [dW] using ha
  subst ha
  have h1:l[au dW l]?=some 32:=by
   have:=congrArg (fun x=>x[0]?) hd
   simpa [List.getElem?_drop] using this
  have h0:(l.take (au dW l)).contains 32=false:=by
   cases hc:(l.take (au dW l)).contains 32 with
   | false=>rfl
   | true=>
    have hm:(32:UInt8)∈l.take (au dW l):=by simpa using hc
    have:l.take (au dW l)=l.takeWhile dW:=by unfold au;exact(List.prefix_iff_eq_take.1 (List.takeWhile_prefix _)).symm
    rw[this] at hm
    have:=List.all_eq_true.1 (List.all_takeWhile (p:=dW) (l:=l)) 32 hm
    simp[dW] at this
  rw[vS l _ h0 h1]
 ·have hl:=cJ dW l
  have he:au dW l=l.length:=by omega
  have hc:l.contains 32=false:=by
   cases hc:l.contains 32 with
   | false=>rfl
   | true=>
    have hm:(32:UInt8)∈l:=by simpa using hc
    have:l.takeWhile dW=l:=by
     have:=List.prefix_iff_eq_take.1 (List.takeWhile_prefix (p:=dW) (l:=l))
     rw[this];exact tL (by unfold au at he;omega)
    rw[←this] at hm
    have:=List.all_eq_true.1 (List.all_takeWhile (p:=dW) (l:=l)) 32 hm
    simp[dW] at this
  rw[rm l hc,he,List.take_length]
end
end Go.Proofs.YtkjdbpjglobbjaaGreatDoor
