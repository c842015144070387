/- A part of the proof. -/
import Derived.Test.YtlglfpbhapmhiaaGreatDoorK16
set_option maxRecDepth 100000
set_option maxHeartbeats 20000000
set_option linter.unusedVariables false
set_option linter.unusedSimpArgs false
namespace Go.Proofs.YtlglfpbhapmhiaaGreatDoor
section
open Go.RowKit
structure dn where
 name:LU
 qual:LU
 op:Nat
 ver:LU
 archs:List (LU)
def Mu (c:UInt8):Bool:=c==32||c==44||c==124||c==40||c==41||c==91||c==93
def Mv (c:UInt8):Bool:=Mu c||c==58
def MX (c:UInt8):Bool:=Mv c||c==33
def mp (c:UInt8):Bool:=!Mu c
def nP (c:UInt8):Bool:=!Mv c
def ip (c:UInt8):Bool:=!MX c
def aK (l:LU):LU:=l.drop (aA aS l)
def kU (p:UInt8→Bool)(l:LU):Option (LU×LU):=if aA p l=0 then none else some (l.take (aA p l),l.drop (aA p l))
def qt (l:LU):Nat×LU:=
 if ay 61 l then (3,l.drop 1) else
 if ay 60 l then (if ay 60 (l.drop 1) then (1,(l.drop 1).drop 1) else if ay 61 (l.drop 1) then (2,(l.drop 1).drop 1) else (0,l.drop 1)) else
 if ay 62 l then (if ay 62 (l.drop 1) then (5,(l.drop 1).drop 1) else if ay 61 (l.drop 1) then (4,(l.drop 1).drop 1) else (0,l.drop 1)) else (0,l)
def jL (op:Nat)(v r:LU):Option (Nat×LU×LU):=if ay 41 (aK r) then some (op,v,aK ((aK r).drop 1)) else none
def bX (op:Nat)(l:LU):Option (Nat×LU×LU):=if op=0 then none else match kU mp (aK l) with
 | none=>none
 | some (v,r)=>jL op v r
def tO (l:LU):Option (Nat×LU×LU):=bX (qt (aK l)).1 (qt (aK l)).2
def uJ (l:LU):LU:=if ay 33 l then [33] else []
def hQ (l:LU):Option (LU×LU):=(kU ip (bW l)).map (fun x=>(uJ l++x.1,x.2))
def eA:Nat→LU→Option (List (LU)×LU)
 | 0,_=>none
 | f+1,l=>match hQ l with
  | none=>none
  | some (a,r)=>if ay 93 (aK r) then some ([a],aK ((aK r).drop 1)) else if ay 32 r then (eA f (aK r)).map (fun x=>(a::x.1,x.2)) else none
def jM (r:LU):Option (LU×LU):=if ay 58 r then kU ip (r.drop 1) else some ([],r)
def jn (r:LU):Option (Nat×LU×LU):=if ay 40 r then tO (r.drop 1) else some (0,[],r)
def ib (r:LU):Option (List (LU)×LU):=if ay 91 r then eA (r.length+1) (aK (r.drop 1)) else some ([],r)
def fT (l:LU):Option (dn×LU):=match kU nP l with
 | none=>none
 | some (nm,r)=>match jM r with
  | none=>none
  | some (q,r1)=>match jn (aK r1) with
   | none=>none
   | some (op,v,r2)=>match ib r2 with
    | none=>none
    | some (ar,r3)=>some (⟨nm,q,op,v,ar⟩,r3)
def dY:Nat→LU→Option (List dn×LU)
 | 0,_=>none
 | f+1,l=>match fT l with
  | none=>none
  | some (t,r)=>if ay 124 r then (dY f (aK (r.drop 1))).map (fun x=>(t::x.1,x.2)) else some ([t],r)
def fU:Nat→LU→Option (List (List dn))
 | 0,_=>none
 | f+1,l=>match dY (l.length+1) l with
  | none=>none
  | some (g,r)=>if r.isEmpty then some [g] else if ay 44 r then (fU f (aK (r.drop 1))).map (g :: ·) else none
def kV (l:LU):Option (List (List dn)):=if (aK l).isEmpty then some [] else fU (l.length+1) (aK l)
def dn.right (t:dn):Bool:=dX t.name&&(t.qual.isEmpty||cQ t.qual)&&t.archs.all (fun a=>cQ (bW a))&&(decide (t.op=0)||decide (cJ 1 (bG t.ver)=0))
def tP (L:List (List dn)):Bool:=L.all (fun g=>g.all dn.right)&&decide ((L.map List.length).sum≤64)
def gw (l:LU):Option (List (List dn)):=match kV l with
 | none=>none
 | some L=>if tP L then some L else none
theorem dy (l:LU):(aK l).length≤l.length:=by unfold aK;rw[List.length_drop];omega
theorem nQ {p:UInt8→Bool}{l a r:LU}(h:kU p l=some (a,r)):0<aA p l∧a=l.take (aA p l)∧r=l.drop (aA p l):=by
 unfold kU at h
 split at h
 ·cases h
 ·injection h with h;injection h with h1 h2;exact⟨by omega,h1.symm,h2.symm⟩
theorem we {p:UInt8→Bool}{l a r:LU}(h:kU p l=some (a,r)):r.length<l.length:=by
 obtain⟨h1,_,rfl⟩:=nQ h
 have:=eZ p l
 rw[List.length_drop];omega
def Mw:Nat→LU
 | 1=>[60,60]
 | 2=>[60,61]
 | 3=>[61]
 | 4=>[62,61]
 | 5=>[62,62]
 | _=>[]
def dn.text (t:dn):LU:=t.name++(if t.qual.isEmpty then [] else 58::t.qual)++(if t.op=0 then [] else [32,40]++Mw t.op++[32]++t.ver++[41])++(if t.archs.isEmpty then [] else [32,91]++Lib.join t.archs [32]++[93])
def uK (L:List (List dn)):LU:=Lib.join (L.map (fun g=>Lib.join (g.map dn.text) [32,124,32])) [44,32]
def iQ (l:LU):Bool:=!l.isEmpty&&(match gw l with | some L=>decide (uK L=l) | none=>false)
theorem lF (q:UInt8→Bool)(a:UInt8)(r:LU):aA q (a::r)=if q a then aA q r+1 else 0:=by
 cases h:q a with
 | true=>rw[gJ h];rfl
 | false=>rw[eK h];rfl
theorem cU (s:BA)(k:Nat)(h:k<s.size):(bl s).drop k=s[k]::(bl s).drop (k+1):=by
 rw[List.drop_eq_getElem_cons (by rw[ah];exact h),jt s k h]
theorem jN (s:BA)(k:Nat)(h:¬ k<s.size):(bl s).drop k=[]:=List.drop_of_length_le (by rw[ah];omega)
theorem uL {q:UInt8→Bool}(s:BA)(k:Nat)(h:k<s.size)(hq:q s[k]=true):aA q ((bl s).drop k)=aA q ((bl s).drop (k+1))+1:=by
 rw[cU s k h,lF,if_pos hq]
theorem uM {q:UInt8→Bool}(s:BA)(k:Nat)(h:k<s.size)(hq:q s[k]=false):aA q ((bl s).drop k)=0:=by
 rw[cU s k h,eK hq]
theorem yi (q:UInt8→Bool)(s:BA)(k:Nat)(h:¬ k<s.size):aA q ((bl s).drop k)=0:=by rw[jN s k h];rfl
theorem DA (q:UInt8→Bool)(s:BA)(k:Nat)(h:k≤s.size):k+aA q ((bl s).drop k)≤s.size:=by
 have:=eZ q ((bl s).drop k);rw[List.length_drop,ah] at this;omega
theorem Cm (s:BA)(k:Nat)(c:UInt8)(h:k<s.size):ay c ((bl s).drop k)=(s[k]==c):=by rw[cU s k h];rfl
theorem GM (s:BA)(k:Nat)(c:UInt8)(h:¬ k<s.size):ay c ((bl s).drop k)=false:=by rw[jN s k h];rfl
theorem bQ (s:BA)(k:Nat):aK ((bl s).drop k)=(bl s).drop (k+aA aS ((bl s).drop k)):=by unfold aK;rw[List.drop_drop]
theorem rt (l:LU):decide (0<aA aS l)=ay 32 l:=by
 cases l with
 | nil=>rfl
 | cons a r=>
  rw[lF]
  show _=(a==32)
  have:aS a=(a==32):=rfl
  rw[this]
  cases a==32<;>simp
theorem DC (l:LU):aA aS (aK l)=0:=by
 unfold aK
 have h1:=eZ aS l
 by_cases h:aA aS l<l.length
 ·obtain⟨a,r,hd,ha⟩:=lE l h
  rw[hd,eK ha]
 ·rw[List.drop_of_length_le (by omega)];rfl
def dH (f:Nat)(acc:List (LU))(l:LU):Option (List (LU)×LU):=(eA f l).map (fun x=>(acc++x.1,x.2))
def fg (f:Nat)(acc:List dn)(l:LU):Option (List dn×LU):=(dY f l).map (fun x=>(acc++x.1,x.2))
def db (f:Nat)(acc:List (List dn))(l:LU):Option (List (List dn)):=(fU f l).map (acc++·)
theorem tQ (f:Nat)(l:LU):eA f l=dH f [] l:=by unfold dH;simp
theorem nR {f:Nat}{acc:List (LU)}{l:LU}(h:hQ l=none):dH (f+1) acc l=none:=by unfold dH eA;rw[h];rfl
theorem pA {f:Nat}{acc:List (LU)}{l a r:LU}(h:hQ l=some (a,r))(h1:ay 93 (aK r)=true):dH (f+1) acc l=some (acc++[a],aK ((aK r).drop 1)):=by
 unfold dH eA;rw[h];simp[h1]
theorem nS {f:Nat}{acc:List (LU)}{l a r:LU}(h:hQ l=some (a,r))(h1:ay 93 (aK r)=false)(h2:ay 32 r=true):dH (f+1) acc l=dH f (acc++[a]) (aK r):=by
 unfold dH;conv=>lhs;unfold eA
 rw[h];simp[h1,h2,Function.comp_def]
theorem pB {f:Nat}{acc:List (LU)}{l a r:LU}(h:hQ l=some (a,r))(h1:ay 93 (aK r)=false)(h2:ay 32 r=false):dH (f+1) acc l=none:=by
 unfold dH eA;rw[h];simp[h1,h2]
theorem tR (f:Nat)(l:LU):dY f l=fg f [] l:=by unfold fg;simp
theorem wg {f:Nat}{acc:List dn}{l:LU}(h:fT l=none):fg (f+1) acc l=none:=by unfold fg dY;rw[h];rfl
theorem yj {f:Nat}{acc:List dn}{t:dn}{l r:LU}(h:fT l=some (t,r))(h1:ay 124 r=false):fg (f+1) acc l=some (acc++[t],r):=by
 unfold fg dY;rw[h];simp[h1]
theorem wi {f:Nat}{acc:List dn}{t:dn}{l r:LU}(h:fT l=some (t,r))(h1:ay 124 r=true):fg (f+1) acc l=fg f (acc++[t]) (aK (r.drop 1)):=by
 unfold fg;conv=>lhs;unfold dY
 rw[h];simp[h1,Function.comp_def]
theorem ru (f:Nat)(l:LU):fU f l=db f [] l:=by unfold db;simp
theorem tT {f:Nat}{acc:List (List dn)}{l:LU}(h:dY (l.length+1) l=none):db (f+1) acc l=none:=by unfold db fU;rw[h];rfl
theorem wj {f:Nat}{acc:List (List dn)}{g:List dn}{l:LU}(h:dY (l.length+1) l=some (g,[])):db (f+1) acc l=some (acc++[g]):=by
 unfold db fU;rw[h];simp
theorem tU {f:Nat}{acc:List (List dn)}{g:List dn}{l r:LU}(h:dY (l.length+1) l=some (g,r))(h1:ay 44 r=true):db (f+1) acc l=db f (acc++[g]) (aK (r.drop 1)):=by
 have h0:r.isEmpty=false:=by rw[uE h1];rfl
 unfold db;conv=>lhs;unfold fU
 rw[h];simp[h0,h1,Function.comp_def]
theorem wk {f:Nat}{acc:List (List dn)}{g:List dn}{l r:LU}(h:dY (l.length+1) l=some (g,r))(h0:r.isEmpty=false)(h1:ay 44 r=false):db (f+1) acc l=none:=by
 unfold db fU;rw[h];simp[h0,h1]
theorem DD {l x r:LU}(h:kU ip (bW l)=some (x,r)):bW (uJ l++x)=x:=by
 unfold uJ
 cases hh:ay 33 l with
 | true=>rfl
 | false=>
  have hb:bW l=l:=by unfold bW;rw[hh];rfl
  rw[hb] at h
  obtain⟨h1,h2,h3⟩:=nQ h
  cases l with
  | nil=>simp[aA] at h1
  | cons a t=>
   rw[lF] at h1 h2
   cases ha:ip a with
   | false=>rw[ha] at h1;simp at h1
   | true=>
    rw[ha] at h2
    simp only[if_true,List.take_succ_cons] at h2
    subst h2
    simp only[Bool.false_eq_true,if_false,List.nil_append,bW]
    have:ay 33 (a::List.take (aA ip t) t)=false:=hh
    rw[this];rfl
theorem pC {l a r:LU}(h:hQ l=some (a,r)):∃ x,kU ip (bW l)=some (x,r)∧a=uJ l++x∧bW a=x:=by
 unfold hQ at h
 obtain⟨⟨x,y⟩,h1,h2⟩:=Option.map_eq_some_iff.1 h
 injection h2 with h2 h3
 subst h2;subst h3
 exact⟨x,h1,rfl,DD h1⟩
end
end Go.Proofs.YtlglfpbhapmhiaaGreatDoor
