/- A part of the proof. -/
import Derived.Test.YtaohgmcbpafdeaaGreatDoorA12
import Derived.Test.YtaohgmcbpafdeaaGreatDoorA18
import Derived.Test.YtaohgmcbpafdeaaGreatDoorA20
import Derived.Test.YtaohgmcbpafdeaaGreatDoorA23
set_option maxRecDepth 100000
set_option maxHeartbeats 20000000
set_option linter.unusedVariables false
set_option linter.unusedSimpArgs false
namespace Go.Proofs.YtaohgmcbpafdeaaGreatDoor
section
open Go.RowKit
def pf (l:LU):Option (LU×LU×LU):=(sn l).map fun x=>([],x.2.1,x.2.2)
def xi (fmt:Int)(l:LU):Option (LU×LU×LU):=if fmt=1 then gV l else if fmt=2 then gX l else pf l
theorem oj (s:BA)(w:World)(hG:Gl w)(hs:s.size≤64):
  Calls Tryz.prog 76 #[.int .i64 3,.string s] w (nN (pf (bl s)) w):=by
 have HG:=ae hG;clear hG
 go_enter Tryz.func76,Tryz.ntmps76
 go_wp2_with fail
 refine(su s _ HG.out hs).mono ?_
 rintro e w1 ⟨hb1,hm⟩
 cases ha:sn (bl s) with
 | none=>
  rw[ha] at hm
  obtain⟨A,n,c,p,q,rfl⟩:=hm
  have HR:Hid (pf (bl s)=none):=by show _=_;unfold pf;rw[ha];rfl
  clear ha
  go_wp2_with fail
  refine bodyPost_ret (aE rfl _ _ _) rfl ?_
  exact⟨⟨#[]⟩,⟨#[]⟩,⟨#[]⟩,3,rfl,by rw[HR.out];exact⟨rfl,rfl,rfl,rfl⟩,hb1⟩
 | some x=>
  obtain⟨ps,p,q⟩:=x
  rw[ha] at hm
  obtain⟨A,c,rfl,_⟩:=hm
  have HR:Hid (pf (bl s)=some ([],p,q)):=by show _=_;unfold pf;rw[ha];rfl
  clear ha
  go_wp2_with fail
  refine bodyPost_ret (aE rfl _ _ _) rfl ?_
  exact⟨⟨#[]⟩,⟨p.toArray⟩,⟨q.toArray⟩,0,rfl,by rw[HR.out];exact⟨rfl,rfl,ii p,ii q⟩,hb1⟩
theorem ol (fmt:Int)(hf:fmt=1∨fmt=2∨fmt=3)(s:BA)(w:World)(hG:Gl w)(hs:s.size≤64):
  Calls Tryz.prog 76 #[.int .i64 fmt,.string s] w (nN (xi fmt (bl s)) w):=by
 rcases hf with rfl | rfl | rfl
 ·exact mQ s w hG hs
 ·exact oc s w hG hs
 ·exact oj s w hG hs
def cG (fmt:Int)(s:BA):Int:=if ¬ (fmt=1∨fmt=2∨fmt=3) then 9 else if 64<s.size then 4 else DJ (xi fmt (bl s))
theorem om (fmt:Int)(s:BA)(w:World)(hs:s.size≤9223372036854775807)(h:¬ (fmt=1∨fmt=2∨fmt=3)∨64<s.size):
  Calls Tryz.prog 76 #[.int .i64 fmt,.string s] w fun e w'=>e=.returned (.tuple #[.string ⟨#[]⟩,.string ⟨#[]⟩,.string ⟨#[]⟩,.int .i64 (cG fmt s)])∧w=w':=by
 by_cases hf:fmt=1∨fmt=2∨fmt=3
 ·have h64:64<s.size:=h.resolve_left (fun hn=>hn hf)
  have E:Hid (cG fmt s=4):=by show _=_;unfold cG;rw[if_neg (fun hn=>hn hf),if_pos h64]
  clear h
  rcases hf with rfl | rfl | rfl
  all_goals
   go_enter Tryz.func76,Tryz.ntmps76
   go_wp2_with fail
   refine bodyPost_ret (aE rfl _ _ _) rfl ?_
   exact⟨by rw[E.out];rfl,rfl⟩
 ·have E:Hid (cG fmt s=9):=by show _=_;unfold cG;rw[if_pos hf]
  have q1:(fmt != 1)=true:=by simp[bne];omega
  have q2:(fmt != 2)=true:=by simp[bne];omega
  have q3:(fmt != 3)=true:=by simp[bne];omega
  clear h hf
  go_enter Tryz.func76,Tryz.ntmps76
  go_wp2_with fail
  refine bodyPost_ret (aE rfl _ _ _) rfl ?_
  exact⟨by rw[E.out];rfl,rfl⟩
theorem aQ (fmt:Int)(s:BA)(w:World)(hG:Gl w)(hs:s.size≤9223372036854775807):
  Calls Tryz.prog 52 #[.int .i64 fmt,.string s] w fun e w'=>e=.returned (.int .i64 (cG fmt s))∧Below w.heap.size w w':=by
 have HG:=ae hG;clear hG
 by_cases h:¬ (fmt=1∨fmt=2∨fmt=3)∨64<s.size
 ·have HH:=ae h;clear h
  go_enter Tryz.func52,Tryz.ntmps52
  go_wp2_with fail
  refine(om fmt s _ hs HH.out).mono ?_
  rintro e w1 ⟨rfl,rfl⟩
  go_wp2_with fail
  go_ret
  exact⟨rfl,bR⟩
 ·have hf:fmt=1∨fmt=2∨fmt=3:=Classical.byContradiction fun hn=>h (.inl hn)
  have h64:¬ 64<s.size:=fun hn=>h (.inr hn)
  have E:Hid (cG fmt s=DJ (xi fmt (bl s))):=by show _=_;unfold cG;rw[if_neg (fun hn=>hn hf),if_neg h64]
  have HF:=ae hf
  clear h hf
  go_enter Tryz.func52,Tryz.ntmps52
  go_wp2_with fail
  refine(ol fmt HF.out s _ HG.out (by omega)).mono ?_
  rintro e w1 ⟨ep,pr,rv,c,rfl,hr,hb1⟩
  have HR:=ae hr;clear hr
  go_wp2_with fail
  go_ret
  refine⟨ap ?_,hb1⟩
  rw[E.out]
  have hr:=HR.out
  cases h:xi fmt (bl s) with
  | none=>rw[h] at hr;exact hr.1
  | some x=>obtain⟨a,b,d⟩:=x;rw[h] at hr;exact hr.1
def bC (l:LU):BA:=⟨l.toArray⟩
theorem eh (l:LU):bl (bC l)=l:=ii l
theorem mA (s:BA):bC (bl s)=s:=dY (ii _)
theorem bS (l:LU):(bC l).size=l.length:=by rw[←ag,eh]
theorem vD {s:BA}{l:LU}(h:bl s=l):s=bC l:=by rw[←h,mA]
structure fF where
 no:Bool
 name:LU
 op:Nat
 ver:LU
def fF.cells (x:fF):LV:=[.bool x.no,.string (bC x.name),.int .i64 x.op,.string (bC x.ver)]
theorem DU (x:fF):x.cells.length=4:=rfl
def aO (c:UInt8):Bool:=c==32
def dp (c:UInt8):Bool:=c != 32
def Fr (c:UInt8):Bool:=c==60||c==61||c==62||c==126
def kB (c:UInt8):Bool:=!Fr c
def uJ:LU→Nat×LU
 | []=>(0,[])
 | a::r=>if a==60 then (if ay 61 r then (2,r.drop 1) else (1,r)) else if a==61 then (3,r) else if a==62 then (if ay 61 r then (4,r.drop 1) else (5,r)) else if a==126 then (6,r) else (0,a::r)
def bU (l:LU):LU:=if ay 33 l then l.drop 1 else l
def ze (no:Bool)(name t:LU):Option fF:=
 if t.isEmpty then some ⟨no,name,0,[]⟩ else if cG 3 (bC (uJ t).2)=0 then some ⟨no,name,(uJ t).1,(uJ t).2⟩ else none
def gg (l:LU):Option fF:=
 if cV ((bU l).take (aA kB (bU l))) then ze (ay 33 l) ((bU l).take (aA kB (bU l))) ((bU l).drop (aA kB (bU l))) else none
def gh:Nat→Nat→LU→Option (List fF)
 | 0,_,_=>none
 | f+1,n,l=>
  let r:=l.drop (aA aO l)
  if r.isEmpty then some [] else if n=64 then none else
  match gg (r.take (aA dp r)) with
  | none=>none
  | some x=>(gh f (n+1) (r.drop (aA dp r))).map (x :: ·)
def gq (l:LU):Option (List fF):=gh (l.length+1) 0 l
def fF.right (x:fF):Prop:=cV x.name=true∧x.op≤6∧(x.op=0→x.ver=[])∧(0<x.op→cG 3 (bC x.ver)=0)
theorem Nc (l:LU):(uJ l).1≤6:=by
 unfold uJ;split
 ·simp
 ·repeat' split
  all_goals simp
def IU:LU→Bool
 | []=>false
 | a::_=>Fr a
theorem Lv (l:LU)(h:IU l=true):0<(uJ l).1:=by
 cases l with
 | nil=>simp[IU] at h
 | cons a r=>
  unfold uJ
  simp only[IU,Fr,Bool.or_eq_true] at h
  repeat' split
  all_goals first | (simp;done) | (rcases h with((h | h) | h) | h<;>simp_all)
theorem sw {p:UInt8→Bool}(l:LU)(h:(l.drop (aA p l)).isEmpty=false):∃ a r,l.drop (aA p l)=a::r∧p a=false:=by
 refine lQ l ?_
 have h1:=fh p l
 rcases Nat.lt_or_ge (aA p l) l.length with h2 | h2
 ·exact h2
 ·rw[List.drop_eq_nil_of_le h2] at h;simp at h
theorem zf {l:LU}{x:fF}(h:gg l=some x):x.right:=by
 unfold gg at h
 split at h
 ·rename_i hn
  unfold ze at h
  split at h
  ·injection h with h;subst h;exact⟨hn,by simp,by simp,by simp⟩
  ·rename_i he
   split at h
   ·rename_i hv
    injection h with h;subst h
    refine⟨hn,Nc _,fun h0=>?_,fun _=>hv⟩
    exfalso
    obtain⟨a,r,hd,ha⟩:=sw _ (Bool.eq_false_iff.2 he)
    have:=Lv _ (show IU ((bU l).drop (aA kB (bU l)))=true by rw[hd];simpa [IU,kB] using ha)
    simp only at h0;omega
   ·cases h
 ·cases h
theorem pZ:∀ (f n:Nat)(l:LU)(L:List fF),n≤64→gh f n l=some L→(∀ x∈L,x.right)∧n+L.length≤64
 | 0,n,l,L,_,h=>by simp[gh] at h
 | f+1,n,l,L,hn,h=>by
  unfold gh at h
  simp only at h
  split at h
  ·injection h with h;subst h;simpa using hn
  ·split at h
   ·cases h
   ·rename_i h64
    split at h
    ·cases h
    ·rename_i x hx
     obtain⟨M,hM,rfl⟩:=Option.map_eq_some_iff.1 h
     obtain⟨a,b⟩:=pZ f (n+1) _ M (by omega) hM
     refine⟨fun y hy=>?_,by simp;omega⟩
     rcases List.mem_cons.1 hy with rfl | hy
     ·exact zf hx
     ·exact a y hy
theorem gH {p:UInt8→Bool}{a:UInt8}{r:LU}(h:p a=true):aA p (a::r)=aA p r+1:=by simp[aA,h]
theorem zg (f n:Nat)(r:LU):gh f n (32::r)=gh f n r:=by
 cases f with
 | zero=>rfl
 | succ f=>unfold gh;rw[gH (by rfl)];rfl
theorem Fs (f n:Nat):gh (f+1) n []=some []:=by simp[gh,aA]
def zh (f n:Nat)(l:LU):Option (List fF):=
 if n=64 then none else match gg (l.take (aA dp l)) with
  | none=>none
  | some x=>(gh f (n+1) (l.drop (aA dp l))).map (x :: ·)
theorem mV (f n:Nat)(l:LU)(h:dp (l.headD 32)=true):gh (f+1) n l=zh f n l:=by
 cases l with
 | nil=>simp[dp] at h
 | cons a r=>
  have hb:aO a=false:=by simpa [dp,aO] using h
  unfold gh zh
  rw[eP hb]
  simp
theorem zi {f:Nat}{l:LU}(h:dp (l.headD 32)=true):gh (f+1) 64 l=none:=by rw[mV f 64 l h];simp[zh]
theorem BG {f n:Nat}{l:LU}(h:dp (l.headD 32)=true)(hw:gg (l.take (aA dp l))=none):gh (f+1) n l=none:=by
 rw[mV f n l h];unfold zh;rw[hw];simp
theorem BH {f n:Nat}{l:LU}{x:fF}(h:dp (l.headD 32)=true)(hn:n≠64)(hw:gg (l.take (aA dp l))=some x):gh (f+1) n l=(gh f (n+1) (l.drop (aA dp l))).map (x :: ·):=by
 rw[mV f n l h];unfold zh;rw[if_neg hn,hw]
def la (f:Nat)(acc:List fF)(l:LU):Option (List fF):=(gh f acc.length l).map (acc++·)
theorem BI (l:LU):gq l=la (l.length+1) [] l:=by unfold gq la;simp
theorem BJ (f:Nat)(acc:List fF)(r:LU):la f acc (32::r)=la f acc r:=by unfold la;rw[zg]
theorem IV (f:Nat)(acc:List fF):la (f+1) acc []=some acc:=by unfold la;rw[Fs];simp
theorem Fu {f:Nat}{acc:List fF}{l:LU}(h:dp (l.headD 32)=true)(hw:gg (l.take (aA dp l))=none):la (f+1) acc l=none:=by unfold la;rw[BG h hw];rfl
theorem BK {f:Nat}{acc:List fF}{l:LU}(h:dp (l.headD 32)=true)(hn:acc.length=64):la (f+1) acc l=none:=by unfold la;rw[hn,zi h];rfl
theorem Fv {f:Nat}{acc:List fF}{l:LU}{x:fF}(h:dp (l.headD 32)=true)(hn:acc.length≠64)(hw:gg (l.take (aA dp l))=some x):la (f+1) acc l=la f (acc++[x]) (l.drop (aA dp l)):=by
 unfold la;rw[BH h hn hw];simp[Function.comp_def]
def ir:Nat→LU
 | 1=>[60]
 | 2=>[60,61]
 | 3=>[61]
 | 4=>[62,61]
 | 5=>[62]
 | 6=>[126]
 | _=>[]
def fF.text (x:fF):LU:=(if x.no then [33] else [])++(x.name++ir x.op++x.ver)
def vE (L:List fF):LU:=Lib.join (L.map fF.text) [32]
def iT (l:LU):Bool:=!l.isEmpty&&(match gq l with | some L=>decide (vE L=l) | none=>false)
def cq (l:LU):Nat→Nat×LU
 | 0=>(0,l)
 | i+1=>if Lib.hasPrefix l (ir i)&&decide ((Lib.trimPrefix l (ir i)).length<(cq l i).2.length) then (i,Lib.trimPrefix l (ir i)) else cq l i
theorem km (l:LU)(i:Nat):cq l (i+1)=if Lib.hasPrefix l (ir i)&&decide ((Lib.trimPrefix l (ir i)).length<(cq l i).2.length) then (i,Lib.trimPrefix l (ir i)) else cq l i:=rfl
theorem bQ {l:LU}{i:Nat}(h:Lib.hasPrefix l (ir i)=false):cq l (i+1)=cq l i:=by rw[km,h];rfl
theorem jL {l r b:LU}{i n:Nat}(h0:cq l i=(n,b))(h:Lib.hasPrefix l (ir i)=true)(ht:l.drop (ir i).length=r)(hl:r.length<b.length):cq l (i+1)=(i,r):=by
 have:Lib.trimPrefix l (ir i)=r:=by unfold Lib.trimPrefix;rw[if_pos h,ht]
 rw[km,h,this,h0];simp[hl]
theorem vF (l:LU):cq l 1=(0,l):=by
 rw[km]
 have:Lib.trimPrefix l (ir 0)=l:=by unfold Lib.trimPrefix;simp[ir]
 rw[this];simp[cq]
theorem ld (c a:UInt8)(r:LU):Lib.hasPrefix (a::r) [c]=(c==a):=by unfold Lib.hasPrefix;simp only[List.isPrefixOf,Bool.and_true]
theorem zj (c d a:UInt8)(r:LU):Lib.hasPrefix (a::r) [c,d]=(c==a&&ay d r):=by
 cases r with
 | nil=>unfold Lib.hasPrefix;simp only[List.isPrefixOf,ay]
 | cons b r=>unfold Lib.hasPrefix;simp only[List.isPrefixOf,ay,Bool.and_true];rw[Bool.beq_comm (a:=d)]
theorem Lw {c a:UInt8}(h:a≠c):(c==a)=false:=by simpa using fun e=>h e.symm
theorem vG (l:LU):cq l 7=uJ l:=by
 cases l with
 | nil=>rfl
 | cons a r=>
  by_cases h0:a=60
  ·subst h0
   have s2:cq (60::r) 2=(1,r):=jL (vF _) (by rw[show ir 1=[60] from rfl,ld];rfl) rfl (by simp)
   have s3:cq (60::r) 3=if ay 61 r then (2,r.drop 1) else (1,r):=by
    cases hb:ay 61 r with
    | false=>exact(bQ (by rw[show ir 2=[60,61] from rfl,zj,hb];rfl)).trans s2
    | true=>
     refine jL s2 (by rw[show ir 2=[60,61] from rfl,zj,hb];rfl) rfl ?_
     rw[vC hb];simp
   rw[bQ (i:=6) (by rw[show ir 6=[126] from rfl,ld];rfl),bQ (i:=5) (by rw[show ir 5=[62] from rfl,ld];rfl),bQ (i:=4) (by rw[show ir 4=[62,61] from rfl,zj];rfl),bQ (i:=3) (by rw[show ir 3=[61] from rfl,ld];rfl),s3]
   simp[uJ]
  have n0:=Lw h0
  have s3:cq (a::r) 3=(0,a::r):=by
   rw[bQ (i:=2) (by rw[show ir 2=[60,61] from rfl,zj,n0];rfl),bQ (i:=1) (by rw[show ir 1=[60] from rfl,ld,n0]),vF]
  by_cases h1:a=61
  ·subst h1
   have s4:cq (61::r) 4=(3,r):=jL s3 (by rw[show ir 3=[61] from rfl,ld];rfl) rfl (by simp)
   rw[bQ (i:=6) (by rw[show ir 6=[126] from rfl,ld];rfl),bQ (i:=5) (by rw[show ir 5=[62] from rfl,ld];rfl),bQ (i:=4) (by rw[show ir 4=[62,61] from rfl,zj];rfl),s4]
   simp[uJ]
  have n1:=Lw h1
  have s4:cq (a::r) 4=(0,a::r):=by rw[bQ (i:=3) (by rw[show ir 3=[61] from rfl,ld,n1]),s3]
  by_cases h2:a=62
  ·subst h2
   cases hb:ay 61 r with
   | false=>
    have s5:cq (62::r) 5=(0,62::r):=(bQ (by rw[show ir 4=[62,61] from rfl,zj,hb];rfl)).trans s4
    have s6:cq (62::r) 6=(5,r):=jL s5 (by rw[show ir 5=[62] from rfl,ld];rfl) rfl (by simp)
    rw[bQ (i:=6) (by rw[show ir 6=[126] from rfl,ld];rfl),s6]
    simp[uJ,hb]
   | true=>
    have s5:cq (62::r) 5=(4,r.drop 1):=jL s4 (by rw[show ir 4=[62,61] from rfl,zj,hb];rfl) rfl (by simp;omega)
    have s6:cq (62::r) 6=(4,r.drop 1):=by
     rw[km,s5]
     have:Lib.trimPrefix (62::r) (ir 5)=r:=by unfold Lib.trimPrefix;rw[if_pos (by rw[show ir 5=[62] from rfl,ld];rfl)];rfl
     rw[this,if_neg (by simp)]
    rw[bQ (i:=6) (by rw[show ir 6=[126] from rfl,ld];rfl),s6]
    simp[uJ,hb]
  have n2:=Lw h2
  have s6:cq (a::r) 6=(0,a::r):=by rw[bQ (i:=5) (by rw[show ir 5=[62] from rfl,ld,n2]),bQ (i:=4) (by rw[show ir 4=[62,61] from rfl,zj,n2];rfl),s4]
  by_cases h3:a=126
  ·subst h3
   rw[jL (r:=r) s6 (by rw[show ir 6=[126] from rfl,ld];rfl) rfl (by simp)]
   simp[uJ]
  ·rw[bQ (i:=6) (by rw[show ir 6=[126] from rfl,ld,Lw h3]),s6]
   simp[uJ,h0,h1,h2,h3]
end
end Go.Proofs.YtaohgmcbpafdeaaGreatDoor
