/- A part of the proof. -/
import Derived.Test.YtlglfpbhapmhiaaGreatDoorK14
set_option maxRecDepth 100000
set_option maxHeartbeats 20000000
set_option linter.unusedVariables false
set_option linter.unusedSimpArgs false
namespace Go.Proofs.YtlglfpbhapmhiaaGreatDoor
section
open Go.RowKit
def bG (l:LU):BA:=⟨l.toArray⟩
theorem et (l:LU):bl (bG l)=l:=io l
theorem mo (s:BA):bG (bl s)=s:=eM (io _)
theorem bV (l:LU):(bG l).size=l.length:=by rw[←ah,et]
theorem uF {s:BA}{l:LU}(h:bl s=l):s=bG l:=by rw[←h,mo]
structure fH where
 no:Bool
 name:LU
 op:Nat
 ver:LU
def fH.cells (x:fH):LV:=[.bool x.no,.string (bG x.name),.int .i64 x.op,.string (bG x.ver)]
theorem Cl (x:fH):x.cells.length=4:=rfl
def aS (c:UInt8):Bool:=c==32
def dh (c:UInt8):Bool:=c != 32
def Dw (c:UInt8):Bool:=c==60||c==61||c==62||c==126
def kC (c:UInt8):Bool:=!Dw c
def tN:LU→Nat×LU
 | []=>(0,[])
 | a::r=>if a==60 then (if ay 61 r then (2,r.drop 1) else (1,r)) else if a==61 then (3,r) else if a==62 then (if ay 61 r then (4,r.drop 1) else (5,r)) else if a==126 then (6,r) else (0,a::r)
def bW (l:LU):LU:=if ay 33 l then l.drop 1 else l
def xU (no:Bool)(name t:LU):Option fH:=
 if t.isEmpty then some ⟨no,name,0,[]⟩ else if cJ 3 (bG (tN t).2)=0 then some ⟨no,name,(tN t).1,(tN t).2⟩ else none
def gi (l:LU):Option fH:=
 if cR ((bW l).take (aA kC (bW l))) then xU (ay 33 l) ((bW l).take (aA kC (bW l))) ((bW l).drop (aA kC (bW l))) else none
def gj:Nat→Nat→LU→Option (List fH)
 | 0,_,_=>none
 | f+1,n,l=>
  let r:=l.drop (aA aS l)
  if r.isEmpty then some [] else if n=64 then none else
  match gi (r.take (aA dh r)) with
  | none=>none
  | some x=>(gj f (n+1) (r.drop (aA dh r))).map (x :: ·)
def gu (l:LU):Option (List fH):=gj (l.length+1) 0 l
def fH.right (x:fH):Prop:=cR x.name=true∧x.op≤6∧(x.op=0→x.ver=[])∧(0<x.op→cJ 3 (bG x.ver)=0)
theorem Lm (l:LU):(tN l).1≤6:=by
 unfold tN;split
 ·simp
 ·repeat' split
  all_goals simp
def GJ:LU→Bool
 | []=>false
 | a::_=>Dw a
theorem Jx (l:LU)(h:GJ l=true):0<(tN l).1:=by
 cases l with
 | nil=>simp[GJ] at h
 | cons a r=>
  unfold tN
  simp only[GJ,Dw,Bool.or_eq_true] at h
  repeat' split
  all_goals first | (simp;done) | (rcases h with((h | h) | h) | h<;>simp_all)
theorem rq {p:UInt8→Bool}(l:LU)(h:(l.drop (aA p l)).isEmpty=false):∃ a r,l.drop (aA p l)=a::r∧p a=false:=by
 refine lE l ?_
 have h1:=eZ p l
 rcases Nat.lt_or_ge (aA p l) l.length with h2 | h2
 ·exact h2
 ·rw[List.drop_eq_nil_of_le h2] at h;simp at h
theorem xV {l:LU}{x:fH}(h:gi l=some x):x.right:=by
 unfold gi at h
 split at h
 ·rename_i hn
  unfold xU at h
  split at h
  ·injection h with h;subst h;exact⟨hn,by simp,by simp,by simp⟩
  ·rename_i he
   split at h
   ·rename_i hv
    injection h with h;subst h
    refine⟨hn,Lm _,fun h0=>?_,fun _=>hv⟩
    exfalso
    obtain⟨a,r,hd,ha⟩:=rq _ (Bool.eq_false_iff.2 he)
    have:=Jx _ (show GJ ((bW l).drop (aA kC (bW l)))=true by rw[hd];simpa [GJ,kC] using ha)
    simp only at h0;omega
   ·cases h
 ·cases h
theorem pz:∀ (f n:Nat)(l:LU)(L:List fH),n≤64→gj f n l=some L→(∀ x∈L,x.right)∧n+L.length≤64
 | 0,n,l,L,_,h=>by simp[gj] at h
 | f+1,n,l,L,hn,h=>by
  unfold gj at h
  simp only at h
  split at h
  ·injection h with h;subst h;simpa using hn
  ·split at h
   ·cases h
   ·rename_i h64
    split at h
    ·cases h
    ·rename_i x hx
     obtain⟨M,hM,rfl⟩:=Option.map_eq_some_iff.1 h
     obtain⟨a,b⟩:=pz f (n+1) _ M (by omega) hM
     refine⟨fun y hy=>?_,by simp;omega⟩
     rcases List.mem_cons.1 hy with rfl | hy
     ·exact xV hx
     ·exact a y hy
theorem gJ {p:UInt8→Bool}{a:UInt8}{r:LU}(h:p a=true):aA p (a::r)=aA p r+1:=by simp[aA,h]
theorem xW (f n:Nat)(r:LU):gj f n (32::r)=gj f n r:=by
 cases f with
 | zero=>rfl
 | succ f=>unfold gj;rw[gJ (by rfl)];rfl
theorem Dx (f n:Nat):gj (f+1) n []=some []:=by simp[gj,aA]
def xX (f n:Nat)(l:LU):Option (List fH):=
 if n=64 then none else match gi (l.take (aA dh l)) with
  | none=>none
  | some x=>(gj f (n+1) (l.drop (aA dh l))).map (x :: ·)
theorem mJ (f n:Nat)(l:LU)(h:dh (l.headD 32)=true):gj (f+1) n l=xX f n l:=by
 cases l with
 | nil=>simp[dh] at h
 | cons a r=>
  have hb:aS a=false:=by simpa [dh,aS] using h
  unfold gj xX
  rw[eK hb]
  simp
theorem xY {f:Nat}{l:LU}(h:dh (l.headD 32)=true):gj (f+1) 64 l=none:=by rw[mJ f 64 l h];simp[xX]
theorem Ad {f n:Nat}{l:LU}(h:dh (l.headD 32)=true)(hw:gi (l.take (aA dh l))=none):gj (f+1) n l=none:=by
 rw[mJ f n l h];unfold xX;rw[hw];simp
theorem Af {f n:Nat}{l:LU}{x:fH}(h:dh (l.headD 32)=true)(hn:n≠64)(hw:gi (l.take (aA dh l))=some x):gj (f+1) n l=(gj f (n+1) (l.drop (aA dh l))).map (x :: ·):=by
 rw[mJ f n l h];unfold xX;rw[if_neg hn,hw]
def kS (f:Nat)(acc:List fH)(l:LU):Option (List fH):=(gj f acc.length l).map (acc++·)
theorem Ag (l:LU):gu l=kS (l.length+1) [] l:=by unfold gu kS;simp
theorem Ah (f:Nat)(acc:List fH)(r:LU):kS f acc (32::r)=kS f acc r:=by unfold kS;rw[xW]
theorem GK (f:Nat)(acc:List fH):kS (f+1) acc []=some acc:=by unfold kS;rw[Dx];simp
theorem Dy {f:Nat}{acc:List fH}{l:LU}(h:dh (l.headD 32)=true)(hw:gi (l.take (aA dh l))=none):kS (f+1) acc l=none:=by unfold kS;rw[Ad h hw];rfl
theorem Ai {f:Nat}{acc:List fH}{l:LU}(h:dh (l.headD 32)=true)(hn:acc.length=64):kS (f+1) acc l=none:=by unfold kS;rw[hn,xY h];rfl
theorem Dz {f:Nat}{acc:List fH}{l:LU}{x:fH}(h:dh (l.headD 32)=true)(hn:acc.length≠64)(hw:gi (l.take (aA dh l))=some x):kS (f+1) acc l=kS f (acc++[x]) (l.drop (aA dh l)):=by
 unfold kS;rw[Af h hn hw];simp[Function.comp_def]
def iu:Nat→LU
 | 1=>[60]
 | 2=>[60,61]
 | 3=>[61]
 | 4=>[62,61]
 | 5=>[62]
 | 6=>[126]
 | _=>[]
def fH.text (x:fH):LU:=(if x.no then [33] else [])++(x.name++iu x.op++x.ver)
def uG (L:List fH):LU:=Lib.join (L.map fH.text) [32]
def iP (l:LU):Bool:=!l.isEmpty&&(match gu l with | some L=>decide (uG L=l) | none=>false)
def ct (l:LU):Nat→Nat×LU
 | 0=>(0,l)
 | i+1=>if Lib.hasPrefix l (iu i)&&decide ((Lib.trimPrefix l (iu i)).length<(ct l i).2.length) then (i,Lib.trimPrefix l (iu i)) else ct l i
theorem km (l:LU)(i:Nat):ct l (i+1)=if Lib.hasPrefix l (iu i)&&decide ((Lib.trimPrefix l (iu i)).length<(ct l i).2.length) then (i,Lib.trimPrefix l (iu i)) else ct l i:=rfl
theorem bU {l:LU}{i:Nat}(h:Lib.hasPrefix l (iu i)=false):ct l (i+1)=ct l i:=by rw[km,h];rfl
theorem jK {l r b:LU}{i n:Nat}(h0:ct l i=(n,b))(h:Lib.hasPrefix l (iu i)=true)(ht:l.drop (iu i).length=r)(hl:r.length<b.length):ct l (i+1)=(i,r):=by
 have:Lib.trimPrefix l (iu i)=r:=by unfold Lib.trimPrefix;rw[if_pos h,ht]
 rw[km,h,this,h0];simp[hl]
theorem uH (l:LU):ct l 1=(0,l):=by
 rw[km]
 have:Lib.trimPrefix l (iu 0)=l:=by unfold Lib.trimPrefix;simp[iu]
 rw[this];simp[ct]
theorem kT (c a:UInt8)(r:LU):Lib.hasPrefix (a::r) [c]=(c==a):=by unfold Lib.hasPrefix;simp only[List.isPrefixOf,Bool.and_true]
theorem xZ (c d a:UInt8)(r:LU):Lib.hasPrefix (a::r) [c,d]=(c==a&&ay d r):=by
 cases r with
 | nil=>unfold Lib.hasPrefix;simp only[List.isPrefixOf,ay]
 | cons b r=>unfold Lib.hasPrefix;simp only[List.isPrefixOf,ay,Bool.and_true];rw[Bool.beq_comm (a:=d)]
theorem Jy {c a:UInt8}(h:a≠c):(c==a)=false:=by simpa using fun e=>h e.symm
theorem uI (l:LU):ct l 7=tN l:=by
 cases l with
 | nil=>rfl
 | cons a r=>
  by_cases h0:a=60
  ·subst h0
   have s2:ct (60::r) 2=(1,r):=jK (uH _) (by rw[show iu 1=[60] from rfl,kT];rfl) rfl (by simp)
   have s3:ct (60::r) 3=if ay 61 r then (2,r.drop 1) else (1,r):=by
    cases hb:ay 61 r with
    | false=>exact(bU (by rw[show iu 2=[60,61] from rfl,xZ,hb];rfl)).trans s2
    | true=>
     refine jK s2 (by rw[show iu 2=[60,61] from rfl,xZ,hb];rfl) rfl ?_
     rw[uE hb];simp
   rw[bU (i:=6) (by rw[show iu 6=[126] from rfl,kT];rfl),bU (i:=5) (by rw[show iu 5=[62] from rfl,kT];rfl),bU (i:=4) (by rw[show iu 4=[62,61] from rfl,xZ];rfl),bU (i:=3) (by rw[show iu 3=[61] from rfl,kT];rfl),s3]
   simp[tN]
  have n0:=Jy h0
  have s3:ct (a::r) 3=(0,a::r):=by
   rw[bU (i:=2) (by rw[show iu 2=[60,61] from rfl,xZ,n0];rfl),bU (i:=1) (by rw[show iu 1=[60] from rfl,kT,n0]),uH]
  by_cases h1:a=61
  ·subst h1
   have s4:ct (61::r) 4=(3,r):=jK s3 (by rw[show iu 3=[61] from rfl,kT];rfl) rfl (by simp)
   rw[bU (i:=6) (by rw[show iu 6=[126] from rfl,kT];rfl),bU (i:=5) (by rw[show iu 5=[62] from rfl,kT];rfl),bU (i:=4) (by rw[show iu 4=[62,61] from rfl,xZ];rfl),s4]
   simp[tN]
  have n1:=Jy h1
  have s4:ct (a::r) 4=(0,a::r):=by rw[bU (i:=3) (by rw[show iu 3=[61] from rfl,kT,n1]),s3]
  by_cases h2:a=62
  ·subst h2
   cases hb:ay 61 r with
   | false=>
    have s5:ct (62::r) 5=(0,62::r):=(bU (by rw[show iu 4=[62,61] from rfl,xZ,hb];rfl)).trans s4
    have s6:ct (62::r) 6=(5,r):=jK s5 (by rw[show iu 5=[62] from rfl,kT];rfl) rfl (by simp)
    rw[bU (i:=6) (by rw[show iu 6=[126] from rfl,kT];rfl),s6]
    simp[tN,hb]
   | true=>
    have s5:ct (62::r) 5=(4,r.drop 1):=jK s4 (by rw[show iu 4=[62,61] from rfl,xZ,hb];rfl) rfl (by simp;omega)
    have s6:ct (62::r) 6=(4,r.drop 1):=by
     rw[km,s5]
     have:Lib.trimPrefix (62::r) (iu 5)=r:=by unfold Lib.trimPrefix;rw[if_pos (by rw[show iu 5=[62] from rfl,kT];rfl)];rfl
     rw[this,if_neg (by simp)]
    rw[bU (i:=6) (by rw[show iu 6=[126] from rfl,kT];rfl),s6]
    simp[tN,hb]
  have n2:=Jy h2
  have s6:ct (a::r) 6=(0,a::r):=by rw[bU (i:=5) (by rw[show iu 5=[62] from rfl,kT,n2]),bU (i:=4) (by rw[show iu 4=[62,61] from rfl,xZ,n2];rfl),s4]
  by_cases h3:a=126
  ·subst h3
   rw[jK (r:=r) s6 (by rw[show iu 6=[126] from rfl,kT];rfl) rfl (by simp)]
   simp[tN]
  ·rw[bU (i:=6) (by rw[show iu 6=[126] from rfl,kT,Jy h3]),s6]
   simp[tN,h0,h1,h2,h3]
end
end Go.Proofs.YtlglfpbhapmhiaaGreatDoor
