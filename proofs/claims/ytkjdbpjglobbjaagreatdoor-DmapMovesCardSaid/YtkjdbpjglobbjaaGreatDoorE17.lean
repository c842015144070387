/- A part of the proof of a law on dependencies in three formats. No condition. -/
import Derived.Test.YtkjdbpjglobbjaaGreatDoorE12
set_option maxRecDepth 100000
set_option maxHeartbeats 20000000
set_option linter.unusedVariables false
set_option linter.unusedSimpArgs false
namespace Go.Proofs.YtkjdbpjglobbjaaGreatDoor
section
open Go.RowKit
theorem eF (q:UInt8→Bool)(a:UInt8)(r:LU):au q (a::r)=if q a then au q r+1 else 0:=by
 cases h:q a with
 | true=>rw[jy h];rfl
 | false=>rw[eh h];rfl
theorem eG (s:BA)(k:Nat)(h:k<s.size):(bl s).drop k=s[k]::(bl s).drop (k+1):=by
 rw[List.drop_eq_getElem_cons (by rw[af];exact h),gL s k h]
theorem lZ (s:BA)(k:Nat)(h:¬ k<s.size):(bl s).drop k=[]:=List.drop_of_length_le (by rw[af];omega)
theorem AJ {q:UInt8→Bool}(s:BA)(k:Nat)(h:k<s.size)(hq:q s[k]=true):au q ((bl s).drop k)=au q ((bl s).drop (k+1))+1:=by
 rw[eG s k h,eF,if_pos hq]
theorem AK {q:UInt8→Bool}(s:BA)(k:Nat)(h:k<s.size)(hq:q s[k]=false):au q ((bl s).drop k)=0:=by
 rw[eG s k h,eh hq]
theorem Fl (q:UInt8→Bool)(s:BA)(k:Nat)(h:¬ k<s.size):au q ((bl s).drop k)=0:=by rw[lZ s k h];rfl
theorem LD (q:UInt8→Bool)(s:BA)(k:Nat)(h:k≤s.size):k+au q ((bl s).drop k)≤s.size:=by
 have:=cJ q ((bl s).drop k);rw[List.length_drop,af] at this;omega
theorem Ka (s:BA)(k:Nat)(c:UInt8)(h:k<s.size):aE c ((bl s).drop k)=(s[k]==c):=by rw[eG s k h];rfl
theorem Ow (s:BA)(k:Nat)(c:UInt8)(h:¬ k<s.size):aE c ((bl s).drop k)=false:=by rw[lZ s k h];rfl
theorem cR (s:BA)(k:Nat):aJ ((bl s).drop k)=(bl s).drop (k+au bf ((bl s).drop k)):=by unfold aJ;rw[List.drop_drop]
theorem ww (l:LU):decide (0<au bf l)=aE 32 l:=by
 cases l with
 | nil=>rfl
 | cons a r=>
  rw[eF]
  show _=(a==32)
  have:bf a=(a==32):=rfl
  rw[this]
  cases a==32<;>simp
theorem LE (l:LU):au bf (aJ l)=0:=by
 unfold aJ
 have h1:=cJ bf l
 by_cases h:au bf l<l.length
 ·obtain⟨a,r,hd,ha⟩:=lU l h
  rw[hd,eh ha]
 ·rw[List.drop_of_length_le (by omega)];rfl
def fF (f:Nat)(acc:List (LU))(l:LU):Option (List (LU)×LU):=(gh f l).map (fun x=>(acc++x.1,x.2))
def ij (f:Nat)(acc:List cL)(l:LU):Option (List cL×LU):=(eS f l).map (fun x=>(acc++x.1,x.2))
def eJ (f:Nat)(acc:List (List cL))(l:LU):Option (List (List cL)):=(fW f l).map (acc++·)
theorem zC (f:Nat)(l:LU):gh f l=fF f [] l:=by unfold fF;simp
theorem ry {f:Nat}{acc:List (LU)}{l:LU}(h:jJ l=none):fF (f+1) acc l=none:=by unfold fF gh;rw[h];rfl
theorem ul {f:Nat}{acc:List (LU)}{l a r:LU}(h:jJ l=some (a,r))(h1:aE 93 (aJ r)=true):fF (f+1) acc l=some (acc++[a],aJ ((aJ r).drop 1)):=by
 unfold fF gh;rw[h];simp[h1]
theorem rz {f:Nat}{acc:List (LU)}{l a r:LU}(h:jJ l=some (a,r))(h1:aE 93 (aJ r)=false)(h2:aE 32 r=true):fF (f+1) acc l=fF f (acc++[a]) (aJ r):=by
 unfold fF;conv=>lhs;unfold gh
 rw[h];simp[h1,h2,Function.comp_def]
theorem um {f:Nat}{acc:List (LU)}{l a r:LU}(h:jJ l=some (a,r))(h1:aE 93 (aJ r)=false)(h2:aE 32 r=false):fF (f+1) acc l=none:=by
 unfold fF gh;rw[h];simp[h1,h2]
theorem zD (f:Nat)(l:LU):eS f l=ij f [] l:=by unfold ij;simp
theorem CZ {f:Nat}{acc:List cL}{l:LU}(h:gK l=none):ij (f+1) acc l=none:=by unfold ij eS;rw[h];rfl
theorem Fm {f:Nat}{acc:List cL}{t:cL}{l r:LU}(h:gK l=some (t,r))(h1:aE 124 r=false):ij (f+1) acc l=some (acc++[t],r):=by
 unfold ij eS;rw[h];simp[h1]
theorem C0 {f:Nat}{acc:List cL}{t:cL}{l r:LU}(h:gK l=some (t,r))(h1:aE 124 r=true):ij (f+1) acc l=ij f (acc++[t]) (aJ (r.drop 1)):=by
 unfold ij;conv=>lhs;unfold eS
 rw[h];simp[h1,Function.comp_def]
theorem wy (f:Nat)(l:LU):fW f l=eJ f [] l:=by unfold eJ;simp
theorem zE {f:Nat}{acc:List (List cL)}{l:LU}(h:eS (l.length+1) l=none):eJ (f+1) acc l=none:=by unfold eJ fW;rw[h];rfl
theorem C4 {f:Nat}{acc:List (List cL)}{g:List cL}{l:LU}(h:eS (l.length+1) l=some (g,[])):eJ (f+1) acc l=some (acc++[g]):=by
 unfold eJ fW;rw[h];simp
theorem zF {f:Nat}{acc:List (List cL)}{g:List cL}{l r:LU}(h:eS (l.length+1) l=some (g,r))(h1:aE 44 r=true):eJ (f+1) acc l=eJ f (acc++[g]) (aJ (r.drop 1)):=by
 have h0:r.isEmpty=false:=by rw[lT h1];rfl
 unfold eJ;conv=>lhs;unfold fW
 rw[h];simp[h0,h1,Function.comp_def]
theorem C7 {f:Nat}{acc:List (List cL)}{g:List cL}{l r:LU}(h:eS (l.length+1) l=some (g,r))(h0:r.isEmpty=false)(h1:aE 44 r=false):eJ (f+1) acc l=none:=by
 unfold eJ fW;rw[h];simp[h0,h1]
theorem LG {l x r:LU}(h:mW jT (cS l)=some (x,r)):cS (AI l++x)=x:=by
 unfold AI
 cases hh:aE 33 l with
 | true=>rfl
 | false=>
  have hb:cS l=l:=by unfold cS;rw[hh];rfl
  rw[hb] at h
  obtain⟨h1,h2,h3⟩:=ru h
  cases l with
  | nil=>simp[au] at h1
  | cons a t=>
   rw[eF] at h1 h2
   cases ha:jT a with
   | false=>rw[ha] at h1;simp at h1
   | true=>
    rw[ha] at h2
    simp only[if_true,List.take_succ_cons] at h2
    subst h2
    simp only[Bool.false_eq_true,if_false,List.nil_append,cS]
    have:aE 33 (a::List.take (au jT t) t)=false:=hh
    rw[this];rfl
theorem uo {l a r:LU}(h:jJ l=some (a,r)):∃ x,mW jT (cS l)=some (x,r)∧a=AI l++x∧cS a=x:=by
 unfold jJ at h
 obtain⟨⟨x,y⟩,h1,h2⟩:=Option.map_eq_some_iff.1 h
 injection h2 with h2 h3
 subst h2;subst h3
 exact⟨x,h1,rfl,LG h1⟩
end
section
open Go.RowKit
inductive gQ where
 | atom (name:LU) (op:Nat) (ver:LU)
 | node (op:LU) (kids:List gQ)
def jb:Nat→LU→Nat
 | _,[]=>0
 | o,c::r=>if c==32 then 0 else if c==40 then jb (o+1) r+1 else if c==41 then (if o=0 then 0 else jb (o-1) r+1) else jb o r+1
def Ox (c:UInt8):Bool:=c==40||c==41
def rA:LU→Nat
 | []=>0
 | c::r=>if Ox c then 1 else jb 0 (c::r)
def aY (l:LU):LU:=(aJ l).take (rA (aJ l))
def bw (l:LU):LU:=(aJ l).drop (rA (aJ l))
theorem vt:∀ (l:LU)(o:Nat),jb o l≤l.length
 | [],_=>by simp[jb]
 | c::r,o=>by
  unfold jb
  have h1:=vt r (o+1)
  have h2:=vt r (o-1)
  have h3:=vt r o
  repeat' split
  all_goals simp
  all_goals omega
theorem C8 (l:LU):rA l≤l.length:=by
 cases l with
 | nil=>simp[rA]
 | cons c r=>
  show(if Ox c then 1 else jb 0 (c::r))≤(c::r).length
  split
  ·simp
  ·exact vt _ _
theorem LJ {l r:LU}{c:UInt8}(h:aJ l=c::r):(c==32)=false:=by
 have h1:=LE l
 rw[h,eF] at h1
 cases hc:bf c with
 | true=>rw[hc] at h1;simp at h1
 | false=>exact hc
theorem wC {l:LU}(h:aJ l≠[]):0<rA (aJ l):=by
 cases hs:aJ l with
 | nil=>exact absurd hs h
 | cons c r=>
  have h0:=LJ hs
  show 0<(if Ox c then 1 else jb 0 (c::r))
  split
  ·omega
  ·rename_i hb
   have h1:(c==40)=false:=by unfold Ox at hb;cases h:(c==40) with
    | false=>rfl
    | true=>rw[h] at hb;simp at hb
   have h2:(c==41)=false:=by unfold Ox at hb;cases h:(c==41) with
    | false=>rfl
    | true=>rw[h] at hb;simp at hb
   show 0<(if c==32 then 0 else if c==40 then jb (0+1) r+1 else if c==41 then (if 0=0 then 0 else jb (0-1) r+1) else jb 0 r+1)
   rw[h0,h1,h2];simp
theorem Oy {l:LU}(h:aJ l≠[]):(bw l).length<l.length:=by
 have h1:=wC h
 have h2:=C8 (aJ l)
 have h3:=fk l
 unfold bw;rw[List.length_drop];omega
theorem sW {l:LU}:aY l=[]↔aJ l=[]:=by
 constructor
 ·intro h
  by_cases h0:aJ l=[]
  ·exact h0
  ·have h1:=wC h0
   have h2:=C8 (aJ l)
   unfold aY at h
   have:=congrArg List.length h
   rw[List.length_take,List.length_nil] at this;omega
 ·intro h;unfold aY;rw[h];rfl
def Fn (p:LU):Nat:=if p=[60] then 1 else if p=[60,61] then 2 else if p=[61] then 3 else if p=[62,61] then 4 else if p=[62] then 5 else 0
def eU:LU:=[97,110,100]
def eE:LU:=[111,114]
def oZ:LU:=[105,102]
def bS:LU:=[117,110,108,101,115,115]
def fA:LU:=[119,105,116,104]
def bY:LU:=[119,105,116,104,111,117,116]
def uq:LU:=[101,108,115,101]
def gi (p:LU):Bool:=decide (p=eU∨p=eE∨p=oZ∨p=bS∨p=fA∨p=bY)
def aP (op:LU)(n:Nat)(p:LU):Bool:=
 if n=1 then gi p else decide ((op=eU∨op=eE)∧p=op∨(op=oZ∨op=bS)∧n=2∧p=uq)
def jK (name:LU)(op n:Nat)(l:LU):Option (gQ×LU×Nat):=
 if aY l=[]∨aY l=[40]∨aY l=[41] then none else if aV 2 (bz (aY l))=0 then some (.atom name op (aY l),bw l,n) else none
def kH (name:LU)(n:Nat)(l:LU):Option (gQ×LU×Nat):=
 if Fn (aY l)=0 then some (.atom name 0 [],l,n) else jK name (Fn (aY l)) n (bw l)
def fX (n:Nat)(l:LU):Option (gQ×LU×Nat):=
 if n=64 then none else if fm (aY l) then kH (aY l) (n+1) (bw l) else none
mutual
def fK:Nat→Nat→Nat→LU→Option (gQ×LU×Nat)
 | 0,_,_,_=>none
 | f+1,deep,n,l=>
  if aY l=[]∨aY l=[41] then none
  else if aY l=[40] then (if deep=32 then none else iF f (deep+1) n [] [] (bw l))
  else fX n l
def iF:Nat→Nat→Nat→List gQ→LU→LU→Option (gQ×LU×Nat)
 | 0,_,_,_,_,_=>none
 | f+1,deep,n,acc,op,l=>match fK f deep n l with
  | none=>none
  | some (k,l1,n1)=>
   if aY l1=[41]∧acc≠[] then some (.node op (acc++[k]),bw l1,n1)
   else if aP op (acc.length+1) (aY l1) then iF f deep n1 (acc++[k]) (if acc=[] then aY l1 else op) (bw l1)
   else none
end
def dD (l:LU):Option gQ:=match fK (2*l.length+2) 0 0 l with
 | none=>none
 | some (d,r,_)=>if aY r=[] then some d else none
def Oz:Nat→LU
 | 1=>[60]
 | 2=>[60,61]
 | 3=>[61]
 | 4=>[62,61]
 | 5=>[62]
 | _=>[]
def OA (op:LU)(i:Nat):LU:=if 2≤i∧(op=oZ∨op=bS) then uq else op
mutual
def bP:gQ→LU
 | .atom nm op v=>if op=0 then nm else nm++[32]++Oz op++[32]++v
 | .node op ks=>[40]++dJ op 0 ks++[41]
def dJ (op:LU):Nat→List gQ→LU
 | _,[]=>[]
 | i,k::r=>(if i=0 then [] else [32]++OA op i++[32])++bP k++dJ op (i+1) r
end
end
section
open Go.RowKit Go.Deep
theorem RC (s:BA)(k o:Nat)(h:k<s.size)(d:UInt8)(hd:s[k]=d):jb o ((bl s).drop k)=if d==32 then 0 else if d==40 then jb (o+1) ((bl s).drop (k+1))+1 else if d==41 then (if o=0 then 0 else jb (o-1) ((bl s).drop (k+1))+1) else jb o ((bl s).drop (k+1))+1:=by
 rw[eG s k h,hd];rfl
theorem L8 (s:BA)(k o:Nat)(h:¬ k<s.size):jb o ((bl s).drop k)=0:=by rw[lZ s k h];rfl
theorem Df (s:BA)(p:Nat)(w:World)(hp:p≤s.size)(hs:s.size≤4294967280):
  Calls Tryz.prog 127 #[.string s,.int .i64 p] w fun e w'=>e=.returned (.int .i64 ((p+jb 0 ((bl s).drop p):Nat):Int))∧w=w':=by
 obtain⟨R,hR⟩:∃ R,p+jb 0 ((bl s).drop p)=R:=⟨_,rfl⟩
 rw[hR]
 have HR0:=ae hR
 clear hR
 go_enter Tryz.func127,Tryz.ntmps127
 go_wp2_with fail
 go_loop [1,4,5] (fun i s4 o=>∃ k n:Nat,i=.int .i64 k∧s4=.int .i64 0∧o=.int .i64 n∧k≤s.size∧n≤k∧Hid (k+jb n ((bl s).drop k)=R)) (fun i _ _=>s.size-(intOf i).toNat)
 case atStart=>exact⟨p,0,rfl,rfl,rfl,hp,z0,HR0⟩
 case round=>
  clear HR0
  obtain⟨k,n,rfl,rfl,rfl,hk,hn,HE⟩:=hrel
  by_cases hlt:k<s.size
  ·obtain⟨d,hd⟩:∃ d:UInt8,s[k]=d:=⟨_,rfl⟩
   have ST:=ae (RC s k n hlt d hd)
   have d0:decide ((k:Int)<(s.size:Int))=true:=dT (by omega)
   cases h32:(d==32) with
   | true=>
    have e32:((d.toNat:Int) != 32)=false:=by rw[bne,show((d.toNat:Int)==32)=true from(dB d 32).trans h32];rfl
    have E:Hid (k=R):=by have h1:=HE.out;rw[ST.out,h32] at h1;exact h1
    clear h32
    go_wp2_with fail
    go_ret
    exact⟨az (by rw[←E.out]),rfl⟩
   | false=>
    have e32:((d.toNat:Int) != 32)=true:=by rw[bne,show((d.toNat:Int)==32)=false from(dB d 32).trans h32];rfl
    cases h40:(d==40) with
    | true=>
     have e40:((d.toNat:Int)==40)=true:=(dB d 40).trans h40
     have HN:Hid ((k+1)+jb (n+1) ((bl s).drop (k+1))=R):=by have h1:=HE.out;rw[ST.out,h32,h40] at h1;simp at h1;show _=_;omega
     clear h32 h40
     go_wp2_with fail
     go_round
     case rel=>exact⟨k+1,n+1,by go_num,rfl,by go_num,by omega,by omega,HN⟩
     case measure=>simp[intOf];omega
    | false=>
     have e40:((d.toNat:Int)==40)=false:=(dB d 40).trans h40
     cases h41:(d==41) with
     | true=>
      have e41:((d.toNat:Int)==41)=true:=(dB d 41).trans h41
      by_cases n0:n=0
      ·have E:Hid (k=R):=by have h1:=HE.out;rw[ST.out,h32,h40,h41,if_neg (by decide),if_neg (by decide),if_pos rfl,if_pos n0] at h1;exact h1
       subst n0
       clear h32 h40 h41
       go_wp2_with fail
       go_ret
       exact⟨az (by rw[←E.out]),rfl⟩
      ·have HN:Hid ((k+1)+jb (n-1) ((bl s).drop (k+1))=R):=by have h1:=HE.out;rw[ST.out,h32,h40,h41,if_neg (by decide),if_neg (by decide),if_pos rfl,if_neg n0] at h1;show _=_;omega
       have en:((n:Int)==0)=false:=by simp;omega
       clear h32 h40 h41
       go_wp2_with fail
       go_round
       case rel=>exact⟨k+1,n-1,by go_num,rfl,by congr 1;omega,by omega,by omega,HN⟩
       case measure=>simp[intOf];omega
     | false=>
      have e41:((d.toNat:Int)==41)=false:=(dB d 41).trans h41
      have HN:Hid ((k+1)+jb n ((bl s).drop (k+1))=R):=by have h1:=HE.out;rw[ST.out,h32,h40,h41,if_neg (by decide),if_neg (by decide),if_neg (by decide)] at h1;show _=_;omega
      clear h32 h40 h41
      go_wp2_with fail
      go_round
      case rel=>exact⟨k+1,n,by go_num,rfl,rfl,by omega,by omega,HN⟩
      case measure=>simp[intOf];omega
  ·have d0:decide ((k:Int)<(s.size:Int))=false:=dF (by omega)
   have E:Hid (k=R):=by have h1:=HE.out;rw[L8 s k n hlt] at h1;exact h1
   go_wp2_with fail
   go_ret
   exact⟨az (by rw[←E.out]),rfl⟩
end
section
open Go.RowKit
structure cL.good (t:cL):Prop where
 right:t.right=true
 op:t.op≤5
 ver:t.op=0→t.ver=[]
 few:t.archs.length≤1000000
structure cL.shape (t:cL) (n:Nat):Prop where
 op:t.op≤5
 ver:t.op=0→t.ver=[]
 few:t.archs.length≤n
theorem TR (l:LU):(uk l).1≤5:=by
 unfold uk;repeat' split
 all_goals simp
theorem Ps {n op:Nat}{l v r:LU}(h:cW n l=some (op,v,r)):op=n∧n≠0∧r.length≤l.length:=by
 unfold cW at h
 split at h
 ·cases h
 ·rename_i h0
  split at h
  ·cases h
  ·rename_i a b ht
   unfold li at h
   split at h
   ·injection h with h;injection h with h1 h;injection h with h2 h3
    refine⟨h1.symm,h0,?_⟩
    rw[←h3]
    have a1:=CW ht
    have a2:=fk l
    have a3:=fk b
    have a4:=fk ((aJ b).drop 1)
    rw[List.length_drop] at a4
    omega
   ·cases h
theorem RU (l:LU):(uk l).2.length≤l.length:=by
 unfold uk;repeat' split
 all_goals simp
 all_goals omega
theorem Gd {op:Nat}{l v r:LU}(h:jd l=some (op,v,r)):op≤5∧(op=0→v=[])∧r.length≤l.length:=by
 unfold jd at h
 split at h
 ·unfold wv at h
  obtain⟨h1,h2,h3⟩:=Ps h
  refine⟨by rw[h1];exact TR _,fun h0=>absurd (h1.symm.trans h0) h2,?_⟩
  have a1:=RU (aJ (l.drop 1))
  have a2:=fk (l.drop 1)
  rw[List.length_drop] at a2
  omega
 ·injection h with h;injection h with h1 h;injection h with h2 h3
  exact⟨by omega,fun _=>h2.symm,by rw[h3];exact Nat.le_refl _⟩
theorem Br (l:LU):(cS l).length≤l.length:=by unfold cS;split<;>simp
theorem xJ:∀ (f:Nat)(l r:LU)(L:List (LU)),gh f l=some (L,r)→L.length≤l.length∧r.length≤l.length
 | 0,l,r,L,h=>by simp[gh] at h
 | f+1,l,r,L,h=>by
  unfold gh at h
  split at h
  ·cases h
  ·rename_i a b ha
   obtain⟨x,h1,_,_⟩:=uo ha
   have a1:=CW h1
   have a2:=Br l
   have a3:=fk b
   split at h
   ·injection h with h;injection h with h2 h3
    have a4:=fk ((aJ b).drop 1)
    rw[List.length_drop] at a4
    subst h2;subst h3
    constructor
    ·simp;omega
    ·omega
   ·split at h
    ·obtain⟨⟨M,q⟩,h4,h5⟩:=Option.map_eq_some_iff.1 h
     injection h5 with h5 h6
     obtain⟨b1,b2⟩:=xJ f (aJ b) q M h4
     subst h5;subst h6
     constructor
     ·simp;omega
     ·show q.length≤_;omega
    ·cases h
theorem Ge {t:cL}{l r:LU}(h:gK l=some (t,r)):t.shape l.length∧r.length<l.length:=by
 unfold gK at h
 split at h
 ·cases h
 ·rename_i nm r0 h0
  have a0:=CW h0
  split at h
  ·cases h
  ·rename_i q r1 h1
   have a1:r1.length≤r0.length:=by
    unfold jD at h1
    split at h1
    ·have:=CW h1;rw[List.length_drop] at this;omega
    ·injection h1 with h1;injection h1 with _ h1;rw[h1];exact Nat.le_refl _
   have a2:=fk r1
   split at h
   ·cases h
   ·rename_i op v r2 h2
    obtain⟨b1,b2,b3⟩:=Gd h2
    split at h
    ·cases h
    ·rename_i ar r3 h3
     have a4:ar.length≤r2.length∧r3.length≤r2.length:=by
      unfold gP at h3
      split at h3
      ·obtain⟨c1,c2⟩:=xJ _ _ _ _ h3
       have:=fk (r2.drop 1);rw[List.length_drop] at this;constructor<;>omega
      ·injection h3 with h3;injection h3 with h3 h4;subst h3;subst h4;simp
     injection h with h;injection h with h5 h6
     subst h5;subst h6
     exact⟨⟨b1,b2,by show ar.length≤_;omega⟩,by omega⟩
theorem qA {t:cL}{n m:Nat}(h:t.shape n)(hn:n≤m):t.shape m:=⟨h.op,h.ver,Nat.le_trans h.few hn⟩
theorem rW:∀ (f:Nat)(l r:LU)(g:List cL),eS f l=some (g,r)→g≠[]∧(∀ t∈g,t.shape l.length)∧r.length≤l.length
 | 0,l,r,g,h=>by simp[eS] at h
 | f+1,l,r,g,h=>by
  unfold eS at h
  split at h
  ·cases h
  ·rename_i t r0 h0
   obtain⟨a1,a2⟩:=Ge h0
   split at h
   ·obtain⟨⟨M,q⟩,h4,h5⟩:=Option.map_eq_some_iff.1 h
    injection h5 with h5 h6
    obtain⟨b1,b2,b3⟩:=rW f _ q M h4
    have a3:=fk (r0.drop 1)
    rw[List.length_drop] at a3
    subst h5;subst h6
    refine⟨by simp,fun x hx=>?_,by show q.length≤_;omega⟩
    rcases List.mem_cons.1 hx with rfl | hx
    ·exact a1
    ·exact qA (b2 x hx) (by omega)
   ·injection h with h;injection h with h5 h6
    subst h5;subst h6
    refine⟨by simp,fun x hx=>?_,by omega⟩
    obtain rfl:=List.mem_singleton.1 hx
    exact a1
theorem pJ:∀ (f:Nat)(l:LU)(L:List (List cL)),fW f l=some L→∀ g∈L,g≠[]∧∀ t∈g,t.shape l.length
 | 0,l,L,h=>by simp[fW] at h
 | f+1,l,L,h=>by
  unfold fW at h
  split at h
  ·cases h
  ·rename_i g0 r0 h0
   obtain⟨a1,a2,a3⟩:=rW _ _ _ _ h0
   split at h
   ·injection h with h;subst h
    intro g hg;obtain rfl:=List.mem_singleton.1 hg;exact⟨a1,a2⟩
   ·split at h
    ·obtain⟨M,h4,rfl⟩:=Option.map_eq_some_iff.1 h
     have a4:=fk (r0.drop 1)
     rw[List.length_drop] at a4
     intro g hg
     rcases List.mem_cons.1 hg with rfl | hg
     ·exact⟨a1,a2⟩
     ·obtain⟨b1,b2⟩:=pJ f _ M h4 g hg
      exact⟨b1,fun t ht=>qA (b2 t ht) (by omega)⟩
    ·cases h
theorem Gf {l:LU}{L:List (List cL)}(h:lY l=some L):∀ g∈L,g≠[]∧∀ t∈g,t.shape l.length:=by
 unfold lY at h
 split at h
 ·injection h with h;subst h;simp
 ·intro g hg
  obtain⟨b1,b2⟩:=pJ _ _ _ h g hg
  exact⟨b1,fun t ht=>qA (b2 t ht) (fk _)⟩
structure oH (L:List (List cL)):Prop where
 ne:∀ g∈L,g≠[]
 good:∀ g∈L,∀ t∈g,t.good
 sum:(L.map List.length).sum≤64
theorem qB {l:LU}{L:List (List cL)}(h:eT l=some L)(hl:l.length≤1000000):oH L:=by
 unfold eT at h
 split at h
 ·cases h
 ·rename_i M hM
  split at h
  ·rename_i ha
   injection h with h;subst h
   have hs:=Gf hM
   unfold uJ at ha
   simp only[Bool.and_eq_true,List.all_eq_true,decide_eq_true_eq] at ha
   refine⟨fun g hg=>(hs g hg).1,fun g hg t ht=>?_,ha.2⟩
   have h1:=(hs g hg).2 t ht
   exact⟨ha.1 g hg t ht,h1.op,h1.ver,Nat.le_trans h1.few hl⟩
  ·cases h
theorem TU {L:List (List cL)}{g:List cL}(h:g∈L):g.length≤(L.map List.length).sum:=by
 induction L with
 | nil=>simp at h
 | cons a r ih=>
  rcases List.mem_cons.1 h with rfl | h
  ·simp
  ·have:=ih h;simp;omega
theorem oH.few {L:List (List cL)}(h:oH L):L.length≤64:=by
 have h1:=h.sum
 have:∀ (M:List (List cL)),(∀ g∈M,g≠[])→M.length≤(M.map List.length).sum:=by
  intro M
  induction M with
  | nil=>simp
  | cons a r ih=>
   intro hM
   have h2:=ih (fun g hg=>hM g (List.mem_cons_of_mem _ hg))
   have h3:0<a.length:=List.length_pos_iff.2 (hM a (by simp))
   simp;omega
 have:=this L h.ne
 omega
theorem Mu {l:LU}(h:bo l=true):l.length≤64:=by unfold bo at h;simp at h;omega
theorem Bs {l:LU}(h:eD l=true):l.length≤32:=by unfold eD at h;simp at h;omega
theorem Mv (l:LU):l.length≤(cS l).length+1:=by unfold cS;split<;>simp;omega
structure cL.sizes (t:cL):Prop where
 nm:t.name.length≤64
 qual:t.qual.length≤32
 ver:t.ver.length≤64
 archs:∀ x∈t.archs,x.length≤33
structure cL.parts (t:cL):Prop where
 nm:bo t.name=true
 qual:t.qual=[]∨eD t.qual=true
 archs:∀ x∈t.archs,eD (cS x)=true
 ver:0<t.op→aV 1 (bz t.ver)=0
theorem cL.good.parts {t:cL}(h:t.good):t.parts:=by
 have h1:=h.right
 unfold cL.right at h1
 simp only[Bool.and_eq_true,Bool.or_eq_true,List.all_eq_true,decide_eq_true_eq,List.isEmpty_iff] at h1
 obtain⟨⟨⟨a1,a2⟩,a3⟩,a4⟩:=h1
 exact⟨a1,a2,a3,fun h0=>by rcases a4 with a4 | a4;· omega
                           ·exact a4⟩
theorem cL.good.sizes {t:cL}(h:t.good):t.sizes:=by
 have p:=h.parts
 refine⟨Mu p.nm,?_,?_,fun x hx=>?_⟩
 ·rcases p.qual with h0 | h0
  ·rw[h0];simp
  ·exact Bs h0
 ·by_cases h0:t.op=0
  ·rw[h.ver h0];simp
  ·have:=AQ (p.ver (by omega));rw[bQ] at this;exact this
 ·have:=Bs (p.archs x hx);have:=Mv x;omega
end
section
open Go.RowKit
inductive aj where
 | mk (op nm:BA) (aop:Nat) (ver:BA) (ka:Option Addr) (kc:Nat) (kids:List aj)
def aj.op:aj→BA | .mk op _ _ _ _ _ _=>op
def aj.nm:aj→BA | .mk _ nm _ _ _ _ _=>nm
def aj.aop:aj→Nat | .mk _ _ a _ _ _ _=>a
def aj.ver:aj→BA | .mk _ _ _ v _ _ _=>v
def aj.ka:aj→Option Addr | .mk _ _ _ _ a _ _=>a
def aj.kc:aj→Nat | .mk _ _ _ _ _ c _=>c
def aj.kids:aj→List aj | .mk _ _ _ _ _ _ k=>k
def aj.cells (t:aj):List Value:=[.string t.op,.string t.nm,.int .i64 t.aop,.string t.ver,.slice t.ka t.kids.length t.kc]
def aj.val (t:aj):Value:=.agg #[.string t.op,.string t.nm,.int .i64 t.aop,.string t.ver,.slice t.ka t.kids.length t.kc]
theorem mL (t:aj):t.cells.length=5:=rfl
theorem aj.eta (t:aj):t=.mk t.op t.nm t.aop t.ver t.ka t.kc t.kids:=by cases t;rfl
mutual
def aj.pl:aj→gQ
 | .mk op nm aop ver _ _ kids=>if bl op=[] then .atom (bl nm) aop (bl ver) else .node (bl op) (nh kids)
def nh:List aj→List gQ
 | []=>[]
 | t::r=>t.pl::nh r
end
theorem ik (l:List aj):nh l=l.map aj.pl:=by
 induction l with
 | nil=>simp[nh]
 | cons a r ih=>simp[nh,ih]
mutual
def aj.ht:aj→Nat
 | .mk _ _ _ _ _ _ kids=>By kids
def By:List aj→Nat
 | []=>0
 | t::r=>max (t.ht+1) (By r)
end
mutual
def aj.cnt:aj→Nat
 | .mk _ _ _ _ _ _ []=>1
 | .mk _ _ _ _ _ _ (t::r)=>t.cnt+dE r
def dE:List aj→Nat
 | []=>0
 | t::r=>t.cnt+dE r
end
theorem xR (t:aj):t.ht=By t.kids:=by cases t;simp[aj.ht,aj.kids]
theorem xS {t:aj}(h:t.kids=[]):t.cnt=1:=by cases t;simp only[aj.kids] at h;subst h;simp[aj.cnt]
theorem fM {t:aj}(h:t.kids≠[]):t.cnt=dE t.kids:=by
 obtain⟨_,_,_,_,_,_,ks⟩:=t
 cases ks with
 | nil=>exact absurd rfl h
 | cons a r=>simp[aj.cnt,aj.kids,dE]
theorem Sa {l:List aj}{t:aj}(h:t∈l):t.ht+1≤By l:=by
 induction l with
 | nil=>simp at h
 | cons a r ih=>
  simp only[By]
  rcases List.mem_cons.1 h with rfl | h
  ·omega
  ·have:=ih h;omega
theorem Dt {l:List aj}(h:l≠[]):∃ t∈l,t.ht+1=By l:=by
 induction l with
 | nil=>exact absurd rfl h
 | cons a r ih=>
  simp only[By]
  by_cases hr:r=[]
  ·subst hr;exact⟨a,by simp,by simp[By]⟩
  ·obtain⟨t,ht,he⟩:=ih hr
   by_cases hm:By r≤a.ht+1
   ·exact⟨a,by simp,by omega⟩
   ·exact⟨t,by simp[ht],by omega⟩
theorem Pv {t k:aj}(h:k∈t.kids):k.ht+1≤t.ht:=by rw[xR t];exact Sa h
theorem vx {t:aj}:t.ht=0↔t.kids=[]:=by
 rw[xR]
 constructor
 ·intro h
  by_cases hk:t.kids=[]
  ·exact hk
  ·obtain⟨k,_,he⟩:=Dt hk;omega
 ·intro h;rw[h];rfl
theorem eL (a b:List aj):dE (a++b)=dE a+dE b:=by
 induction a with
 | nil=>simp[dE]
 | cons x r ih=>simp[dE,ih];omega
theorem Kn (t:aj):0<t.cnt:=by
 match t with
 | .mk _ _ _ _ _ _ []=>simp[aj.cnt]
 | .mk _ _ _ _ _ _ (a::r)=>have:=Kn a;simp[aj.cnt];omega
theorem hZ (l:List aj):l.length≤dE l:=by
 induction l with
 | nil=>simp
 | cons a r ih=>have:=Kn a;simp[dE];omega
theorem jE {l:List aj}{t:aj}(h:t∈l):t.cnt≤dE l:=by
 induction l with
 | nil=>simp at h
 | cons a r ih=>
  simp only[dE]
  rcases List.mem_cons.1 h with rfl | h
  ·omega
  ·have:=ih h;omega
theorem Bz {l:List aj}{k:Nat}{t:aj}(h:l[k]?=some t):dE (l.take (k+1))=dE (l.take k)+t.cnt:=by
 obtain⟨hk,hg⟩:=gS h
 rw[tS hk,hg,eL];simp[dE]
theorem kf (l:List aj)(k:Nat):dE (l.take k)≤dE l:=by
 conv=>rhs;rw[←List.take_append_drop k l,eL]
 omega
inductive ce (w:World) (lo:Nat) (bad:Option Nat):aj→Prop
 | mk (t:aj) (row:w.ownsRow lo 70 5 (.slice t.ka t.kids.length t.kc) t.kids.length (t.kids.flatMap aj.cells)) (ne:∀ g,(Value.slice t.ka t.kids.length t.kc).ownBlock=some g→some g≠bad) (kids:∀ k∈t.kids,ce w lo bad k):ce w lo bad t
theorem ce.row {w:World}{lo:Nat}{bad:Option Nat}{t:aj}(h:ce w lo bad t):w.ownsRow lo 70 5 (.slice t.ka t.kids.length t.kc) t.kids.length (t.kids.flatMap aj.cells):=by cases h;assumption
theorem ce.kids {w:World}{lo:Nat}{bad:Option Nat}{t:aj}(h:ce w lo bad t):∀ k∈t.kids,ce w lo bad k:=by cases h;assumption
theorem ce.low {w w':World}{lo:Nat}{bad:Option Nat}{t:aj}(h:ce w lo bad t)(hb:Below w.heap.size w w'):ce w' lo bad t:=by
 induction h with
 | mk t row ne _ ih=>exact .mk t (aR row hb) ne ih
theorem ce.kept {w w':World}{lo g:Nat}{bad:Option Nat}{t:aj}(h:ce w lo bad t)(hlo:g<lo)(hg:w.grownBy w' (some g)):ce w' lo bad t:=by
 induction h with
 | mk t row ne _ ih=>exact .mk t (dh row hlo hg) ne ih
theorem ce.grown {w w':World}{lo:Nat}{bad:Option Nat}{t:aj}(h:ce w lo bad t)(hg:w.grownBy w' bad):ce w' lo bad t:=by
 induction h with
 | mk t row ne _ ih=>
  refine .mk t (row.kept hg ?_) ne ih
  cases hb:(Value.slice t.ka t.kids.length t.kc).ownBlock with
  | none=>exact .inl rfl
  | some g=>exact .inr (ne g hb)
theorem ce.base {w:World}{lo lo':Nat}{bad:Option Nat}{t:aj}(h:ce w lo bad t)(hl:lo'≤lo):ce w lo' bad t:=by
 induction h with
 | mk t row ne _ ih=>exact .mk t (cN row hl) ne ih
theorem ce.any {w:World}{lo:Nat}{bad:Option Nat}{t:aj}(h:ce w lo bad t):ce w lo none t:=by
 induction h with
 | mk t row _ _ ih=>exact .mk t row (fun g _=>by simp) ih
theorem ce.old {w:World}{lo:Nat}{bad bad':Option Nat}{t:aj}(h:ce w lo bad t)(hb:∀ g,bad'=some g→g<lo∨w.heap.size≤g):ce w lo bad' t:=by
 induction h with
 | mk t row ne _ ih=>
  refine .mk t row (fun g hg e=>?_) ih
  have h1:=row.lt g hg
  rcases hb g e.symm with h2 | h2<;>omega
inductive xT (w:World):aj→Prop
 | mk (t:aj) (row:Rd w 5 t.ka t.kids.length (t.kids.flatMap aj.cells)) (kids:∀ k∈t.kids,xT w k):xT w t
theorem xT.row {w:World}{t:aj}(h:xT w t):Rd w 5 t.ka t.kids.length (t.kids.flatMap aj.cells):=by cases h;assumption
theorem xT.kids {w:World}{t:aj}(h:xT w t):∀ k∈t.kids,xT w k:=by cases h;assumption
theorem xT.low {w w':World}{t:aj}(h:xT w t)(hb:Below w.heap.size w w'):xT w' t:=by
 induction h with
 | mk t row _ ih=>exact .mk t (row.below hb) ih
theorem ce.rd {w:World}{lo:Nat}{bad:Option Nat}{t:aj}(h:ce w lo bad t):xT w t:=by
 induction h with
 | mk t row _ _ ih=>exact .mk t (bA row) ih
theorem xT.cell {w:World}{t:aj}(h:xT w t)(i:Nat)(k:aj)(hi:t.kids[i]?=some k):∃ b off,t.ka=some ⟨b,off,none⟩∧∀ (j:Nat)(u:Value),k.cells[j]?=some u→w.cell? ⟨b,off+i*5+j,none⟩=some u:=h.row.elem mL i k hi
theorem My {w:World}{t:aj}(h:xT w t):∀ u:aj,xT w u→t.ka=u.ka→t.kids.length=u.kids.length→t.kids=u.kids:=by
 induction h with
 | mk t row kids ih=>
  intro u hu ha hl
  apply List.ext_getElem hl
  intro i h1 h2
  obtain⟨x,hx⟩:∃ x,t.kids[i]?=some x:=⟨_,gG h1⟩
  obtain⟨y,hy⟩:∃ y,u.kids[i]?=some y:=⟨_,gG h2⟩
  obtain⟨b,off,e1,c1⟩:=row.elem mL i x hx
  obtain⟨b',off',e2,c2⟩:=hu.row.elem mL i y hy
  rw[ha,e2] at e1
  injection e1 with e1;injection e1 with eb eo _
  subst eb eo
  have f0:=(c1 0 _ rfl).symm.trans (c2 0 _ rfl)
  have f1:=(c1 1 _ rfl).symm.trans (c2 1 _ rfl)
  have f2:=(c1 2 _ rfl).symm.trans (c2 2 _ rfl)
  have f3:=(c1 3 _ rfl).symm.trans (c2 3 _ rfl)
  have f4:=(c1 4 _ rfl).symm.trans (c2 4 _ rfl)
  simp only[Option.some.injEq,Value.string.injEq,Value.int.injEq,Value.slice.injEq,true_and] at f0 f1 f2 f3 f4
  have hk:=ih x (gM hx) y (hu.kids y (gM hy)) f4.1 f4.2.1
  have:x=y:=by rw[aj.eta x,aj.eta y,f0,f1,f3,f4.1,f4.2.2,hk,show x.aop=y.aop by omega]
  rw[gG h1] at hx
  rw[gG h2] at hy
  injection hx with hx;injection hy with hy
  rw[hx,hy,this]
end
section
open Go.RowKit Go.Deep
theorem UE (k:Nat)(hk:k<6)(x:Nat→BA)(w:World):(Instr.index 168 (.agg #[.string (x 0),.string (x 1),.string (x 2),.string (x 3),.string (x 4),.string (x 5)]) (.int .i64 k)).run Tryz.prog w=.ok (.string (x k)) w:=by
 rcases(by omega:k=0∨k=1∨k=2∨k=3∨k=4∨k=5) with rfl | rfl | rfl | rfl | rfl | rfl<;>kernel_rfl
def Mz (x:Nat→BA)(l:LU):Nat→Prop:=fun k=>∀ j,j<k→bl (x j)≠l
theorem xV (k:Nat)(hk:k<6):bl (qS k)=Oz k:=by
 rcases(by omega:k=0∨k=1∨k=2∨k=3∨k=4∨k=5) with rfl | rfl | rfl | rfl | rfl | rfl<;>rfl
theorem MB {l:LU}{k:Nat}(hk:k<6)(h:bl (qS k)=l):Fn l=k:=by
 subst h
 rcases(by omega:k=0∨k=1∨k=2∨k=3∨k=4∨k=5) with rfl | rfl | rfl | rfl | rfl | rfl<;>rfl
theorem Px {l:LU}(h:Mz qS l 6):Fn l=0:=by
 have h1:=h 1 (by omega);have h2:=h 2 (by omega);have h3:=h 3 (by omega);have h4:=h 4 (by omega);have h5:=h 5 (by omega)
 rw[xV _ (by omega)] at h1 h2 h3 h4 h5
 unfold Fn
 rw[if_neg (fun e=>h1 e.symm),if_neg (fun e=>h2 e.symm),if_neg (fun e=>h3 e.symm),if_neg (fun e=>h4 e.symm),if_neg (fun e=>h5 e.symm)]
theorem BC {x:Nat→BA}{l:LU}{k:Nat}(h:Mz x l k)(hn:bl (x k)≠l):Mz x l (k+1):=by
 intro j hj
 rcases(by omega:j<k∨j=k) with h1 | rfl
 ·exact h j h1
 ·exact hn
theorem Gm {l:LU}{k:Nat}(hk:k<6)(h:bl (An k)=l):gi l=true:=by
 subst h
 rcases(by omega:k=0∨k=1∨k=2∨k=3∨k=4∨k=5) with rfl | rfl | rfl | rfl | rfl | rfl<;>rfl
theorem Je {l:LU}(h:Mz An l 6):gi l=false:=by
 have h0:=h 0 (by omega);have h1:=h 1 (by omega);have h2:=h 2 (by omega);have h3:=h 3 (by omega);have h4:=h 4 (by omega);have h5:=h 5 (by omega)
 apply dF
 rintro(e | e | e | e | e | e)
 ·exact h0 e.symm
 ·exact h1 e.symm
 ·exact h2 e.symm
 ·exact h3 e.symm
 ·exact h4 e.symm
 ·exact h5 e.symm
theorem zR (s:BA)(w:World)(hG:Gl w):
  Calls Tryz.prog 172 #[.string s] w fun e w'=>e=.returned (.int .i64 (Fn (bl s)))∧w=w':=by
 have g0:=hG.rsg 0 (by omega)
 have g1:=hG.rsg 1 (by omega)
 have g2:=hG.rsg 2 (by omega)
 have g3:=hG.rsg 3 (by omega)
 have g4:=hG.rsg 4 (by omega)
 have g5:=hG.rsg 5 (by omega)
 clear hG
 go_enter Tryz.func172,Tryz.ntmps172
 go_wp2_with fail
 clear g0 g1 g2 g3 g4 g5
 go_loop [6] (fun i=>∃ k:Nat,k≤6∧i=.int .i64 k∧Hid (Mz qS (bl s) k)) (fun i=>6-(intOf i).toNat)
 case atStart=>exact⟨0,by omega,rfl,fun j hj=>by omega⟩
 case round=>
  obtain⟨k,hk,rfl,HR⟩:=hrel
  by_cases hlt:k<6
  ·have hix:=fun W=>UE k hlt qS W
   cases hq:((qS k).toList==s.toList) with
   | true=>
    have E:Hid (Fn (bl s)=k):=MB hlt (by rw[fZ] at hq;rw[dO hq])
    go_wp2_with fail
    go_ret
    exact⟨az (by rw[E.out]),rfl⟩
   | false=>
    have HN:=ae (BC HR.out (k:=k) (by rw[fZ] at hq;exact fun e=>of_decide_eq_false hq (dp e)))
    go_wp2_with fail
    go_round
    case rel=>exact⟨k+1,by omega,by go_num,HN⟩
    case measure=>simp[intOf];omega
  ·have E:Hid (Fn (bl s)=0):=Px (by have:=HR.out;rwa [show k=6 by omega] at this)
   go_wp2_with fail
   go_ret
   exact⟨az (by rw[E.out];rfl),rfl⟩
theorem xW (s:BA)(w:World)(hG:Gl w):
  Calls Tryz.prog 145 #[.string s] w fun e w'=>e=.returned (.bool (gi (bl s)))∧w=w':=by
 have g0:=hG.rwd 0 (by omega)
 have g1:=hG.rwd 1 (by omega)
 have g2:=hG.rwd 2 (by omega)
 have g3:=hG.rwd 3 (by omega)
 have g4:=hG.rwd 4 (by omega)
 have g5:=hG.rwd 5 (by omega)
 clear hG
 go_enter Tryz.func145,Tryz.ntmps145
 go_wp2_with fail
 clear g0 g1 g2 g3 g4 g5
 go_loop [6] (fun i=>∃ k:Nat,k≤6∧i=.int .i64 k∧Hid (Mz An (bl s) k)) (fun i=>6-(intOf i).toNat)
 case atStart=>exact⟨0,by omega,rfl,fun j hj=>by omega⟩
 case round=>
  obtain⟨k,hk,rfl,HR⟩:=hrel
  by_cases hlt:k<6
  ·have hix:=fun W=>UE k hlt An W
   cases hq:((An k).toList==s.toList) with
   | true=>
    have E:Hid (gi (bl s)=true):=Gm hlt (by rw[fZ] at hq;rw[dO hq])
    go_wp2_with fail
    go_ret
    exact⟨am E.out.symm,rfl⟩
   | false=>
    have HN:=ae (BC HR.out (k:=k) (by rw[fZ] at hq;exact fun e=>of_decide_eq_false hq (dp e)))
    go_wp2_with fail
    go_round
    case rel=>exact⟨k+1,by omega,by go_num,HN⟩
    case measure=>simp[intOf];omega
  ·have E:Hid (gi (bl s)=false):=Je (by have:=HR.out;rwa [show k=6 by omega] at this)
   go_wp2_with fail
   go_ret
   exact⟨am E.out.symm,rfl⟩
end
end Go.Proofs.YtkjdbpjglobbjaaGreatDoor
