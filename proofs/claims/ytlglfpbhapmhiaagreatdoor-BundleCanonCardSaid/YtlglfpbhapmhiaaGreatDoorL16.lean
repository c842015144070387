/- A part of the proof. -/
import Derived.Test.YtlglfpbhapmhiaaGreatDoorL08
import Derived.Test.YtlglfpbhapmhiaaGreatDoorL15
set_option maxRecDepth 100000
set_option maxHeartbeats 20000000
set_option linter.unusedVariables false
set_option linter.unusedSimpArgs false
namespace Go.Proofs.YtlglfpbhapmhiaaGreatDoor
variable{E s:BA}{c c':Int}{l r v:LU}{acc:List (LU)}{a b f g i j lo lo' n op p p':Nat}{row:Option Nat}{q:UInt8->Bool}{w w':World}
section
open Go.RowKit
def qP (l:LU):Option (LU×LU×LU):=(un l).map fun x=>([],x.2.1,x.2.2)
def zB (fmt:Int)(l:LU):Option (LU×LU×LU):=if fmt=1 then jl l else if fmt=2 then jp l else qP l
theorem pQ (s:BA)(w:World)(hG:Gl w)(hs:s.size<=64):Calls Tryz.prog 82 #[.int .i64 3,.string s] w (pA (qP (bl s)) w):=by
 have HG:=ae hG;clear hG;go_in;go_wp2_with fail;refine(us s _ HG.out hs).mono ?_;rintro e w1 ⟨hb1,hm⟩;cases ha:un (bl s) with
 | none=>
  rw[ha] at hm;obtain⟨A,n,c,p,q,rfl⟩:=hm;have HR:Hid (qP (bl s)=none):=by show _=_;unfold qP;rw[ha];rfl
  clear ha;go_wp2_with fail;refine bodyPost_ret (aJ rfl _ _ _) rfl ?_;exact⟨⟨#[]⟩,⟨#[]⟩,⟨#[]⟩,3,rfl,by rw[HR.out];exact⟨rfl,rfl,rfl,rfl⟩,hb1⟩
 | some x=>
  obtain⟨ps,p,q⟩:=x;rw[ha] at hm;obtain⟨A,c,rfl,_⟩:=hm;have HR:Hid (qP (bl s)=some ([],p,q)):=by show _=_;unfold qP;rw[ha];rfl
  clear ha;go_wp2_with fail;refine bodyPost_ret (aJ rfl _ _ _) rfl ?_;exact⟨⟨#[]⟩,⟨p.toArray⟩,⟨q.toArray⟩,0,rfl,by rw[HR.out];exact⟨rfl,rfl,jB p,jB q⟩,hb1⟩
theorem pR (fmt:Int)(hf:fmt=1\/fmt=2\/fmt=3)(s:BA)(w:World)(hG:Gl w)(hs:s.size<=64):Calls Tryz.prog 82 #[.int .i64 fmt,.string s] w (pA (zB fmt (bl s)) w):=by
 rcases hf with rfl | rfl | rfl
 ·exact oO s w hG hs
 ·exact pM s w hG hs
 ·exact pQ s w hG hs
def dm (fmt:Int)(s:BA):Int:=if ¬ (fmt=1\/fmt=2\/fmt=3) then 9 else if 64<s.size then 4 else GU (zB fmt (bl s))
theorem pS (fmt:Int)(s:BA)(w:World)(hs:s.size<=9223372036854775807)(h:¬ (fmt=1\/fmt=2\/fmt=3)\/64<s.size):Calls Tryz.prog 82 #[.int .i64 fmt,.string s] w fun e w'=>e=.returned (.tuple #[.string ⟨#[]⟩,.string ⟨#[]⟩,.string ⟨#[]⟩,.int .i64 (dm fmt s)])/\w=w':=by
 by_cases hf:fmt=1\/fmt=2\/fmt=3
 ·have h64:64<s.size:=h.resolve_left (fun hn=>hn hf);have E:Hid (dm fmt s=4):=by show _=_;unfold dm;rw[if_neg (fun hn=>hn hf),if_pos h64]
  clear h;rcases hf with rfl | rfl | rfl
  all_goals
   go_in;go_wp2_with fail;refine bodyPost_ret (aJ rfl _ _ _) rfl ?_;exact⟨by rw[E.out];rfl,rfl⟩
 ·have E:Hid (dm fmt s=9):=by show _=_;unfold dm;rw[if_pos hf]
  have q1:(fmt != 1)=true:=by simp[bne];omega
  have q2:(fmt != 2)=true:=by simp[bne];omega
  have q3:(fmt != 3)=true:=by simp[bne];omega
  clear h hf;go_in;go_wp2_with fail;refine bodyPost_ret (aJ rfl _ _ _) rfl ?_;exact⟨by rw[E.out];rfl,rfl⟩
theorem aZ (fmt:Int)(s:BA)(w:World)(hG:Gl w)(hs:s.size<=9223372036854775807):Calls Tryz.prog 43 #[.int .i64 fmt,.string s] w fun e w'=>e=.returned (.int .i64 (dm fmt s))/\Below w.heap.size w w':=by
 have HG:=ae hG;clear hG;by_cases h:¬ (fmt=1\/fmt=2\/fmt=3)\/64<s.size
 ·have HH:=ae h;clear h;go_in;go_wp2_with fail;refine(pS fmt s _ hs HH.out).mono ?_;rintro e w1 ⟨rfl,rfl⟩;go_wp2;go_ret;exact⟨rfl,bR⟩
 ·have hf:fmt=1\/fmt=2\/fmt=3:=Classical.byContradiction fun hn=>h (.inl hn);have h64:¬ 64<s.size:=fun hn=>h (.inr hn);have E:Hid (dm fmt s=GU (zB fmt (bl s))):=by show _=_;unfold dm;rw[if_neg (fun hn=>hn hf),if_neg h64]
  have HF:=ae hf;clear h hf;go_in;go_wp2_with fail;refine(pR fmt HF.out s _ HG.out (by omega)).mono ?_;rintro e w1 ⟨ep,pr,rv,c,rfl,hr,hb1⟩;have HR:=ae hr;clear hr;go_wp2;go_ret;refine⟨aI ?_,hb1⟩;rw[E.out];have hr:=HR.out;cases h:zB fmt (bl s) with
  | none=>rw[h] at hr;exact hr.1
  | some x=>obtain⟨a,b,d⟩:=x;rw[h] at hr;exact hr.1
def bU (l:LU):BA:=⟨l.toArray⟩
theorem fA (l:LU):bl (bU l)=l:=jB l
theorem oz (s:BA):bU (bl s)=s:=dC (jB _)
theorem cA (l:LU):(bU l).size=l.length:=by rw[<-ah,fA]
theorem xS (h:bl s=l):s=bU l:=by rw[<-h,oz]
structure gT where
 no:Bool
 name:LU
 op:Nat
 ver:LU
def gT.cells (x:gT):LV:=[.bool x.no,.string (bU x.name),.int .i64 x.op,.string (bU x.ver)]
theorem GZ (x:gT):x.cells.length=4:=rfl
def aX (c:UInt8):Bool:=c==32
def dZ (c:UInt8):Bool:=c != 32
def IL (c:UInt8):Bool:=c==60||c==61||c==62||c==126
def mz (c:UInt8):Bool:=!IL c
def wW:LU->Nat×LU
 | []=>(0,[])
 | a::r=>if a==60 then (if aA 61 r then (2,r.drop 1) else (1,r)) else if a==61 then (3,r) else if a==62 then (if aA 61 r then (4,r.drop 1) else (5,r)) else if a==126 then (6,r) else (0,a::r)
def cE (l:LU):LU:=if aA 33 l then l.drop 1 else l
def Bp (no:Bool)(name t:LU):Option gT:=
 if t.isEmpty then some ⟨no,name,0,[]⟩ else if dm 3 (bU (wW t).2)=0 then some ⟨no,name,(wW t).1,(wW t).2⟩ else none
def ix (l:LU):Option gT:=
 if dJ ((cE l).take (aE mz (cE l))) then Bp (aA 33 l) ((cE l).take (aE mz (cE l))) ((cE l).drop (aE mz (cE l))) else none
def iy:Nat->Nat->LU->Option (List gT)
 | 0,_,_=>none
 | f+1,n,l=>
  let r:=l.drop (aE aX l)
  if r.isEmpty then some [] else if n=64 then none else
  match ix (r.take (aE dZ r)) with
  | none=>none
  | some x=>(iy f (n+1) (r.drop (aE dZ r))).map (x :: ·)
def iJ (l:LU):Option (List gT):=iy (l.length+1) 0 l
def gT.right (x:gT):Prop:=dJ x.name=true/\x.op<=6/\(x.op=0->x.ver=[])/\(0<x.op->dm 3 (bU x.ver)=0)
theorem QN (l:LU):(wW l).1<=6:=by
 unfold wW;split
 ·simp
 ·repeat' split
  all_goals simp
def LO:LU->Bool
 | []=>false
 | a::_=>IL a
theorem OJ (l:LU)(h:LO l=true):0<(wW l).1:=by
 cases l with
 | nil=>simp[LO] at h
 | cons a r=>
  unfold wW;simp only[LO,IL,Bool.or_eq_true] at h
  repeat' split
  all_goals first | (simp;done) | (rcases h with((h | h) | h) | h<;>simp_all)
theorem ut {p:UInt8->Bool}(l:LU)(h:(l.drop (aE p l)).isEmpty=false):∃ a r,l.drop (aE p l)=a::r/\p a=false:=by
 refine nH l ?_;have h1:=gC p l;rcases Nat.lt_or_ge (aE p l) l.length with h2 | h2
 ·exact h2
 ·rw[List.drop_eq_nil_of_le h2] at h;simp at h
theorem Bq {x:gT}(h:ix l=some x):x.right:=by
 unfold ix at h;split at h
 ·rename_i hn;unfold Bp at h;split at h
  ·injection h with h;subst h;exact⟨hn,by simp,by simp,by simp⟩
  ·rename_i he;split at h
   ·rename_i hv;injection h with h;subst h;refine⟨hn,QN _,fun h0=>?_,fun _=>hv⟩;exfalso;obtain⟨a,r,hd,ha⟩:=ut _ (Bool.eq_false_iff.2 he);have:=OJ _ (show LO ((cE l).drop (aE mz (cE l)))=true by rw[hd];simpa [LO,mz] using ha);simp only at h0;omega
   ·cases h
 ·cases h
theorem rQ:∀ (f n:Nat)(l:LU)(L:List gT),n<=64->iy f n l=some L->(∀ x∈L,x.right)/\n+L.length<=64
 | 0,n,l,L,_,h=>by simp[iy] at h
 | f+1,n,l,L,hn,h=>by
  unfold iy at h;simp only at h;split at h
  ·injection h with h;subst h;simpa using hn
  ·split at h
   ·cases h
   ·rename_i h64;split at h
    ·cases h
    ·rename_i x hx;obtain⟨M,hM,rfl⟩:=Option.map_eq_some_iff.1 h;obtain⟨a,b⟩:=rQ f (n+1) _ M (by omega) hM;refine⟨fun y hy=>?_,by simp;omega⟩;rcases List.mem_cons.1 hy with rfl | hy
     ·exact Bq hx
     ·exact a y hy
theorem iZ {p:UInt8->Bool}{a:UInt8}(h:p a=true):aE p (a::r)=aE p r+1:=by simp[aE,h]
theorem Br (f n:Nat)(r:LU):iy f n (32::r)=iy f n r:=by
 cases f with
 | zero=>rfl
 | succ f=>unfold iy;rw[iZ (by rfl)];rfl
theorem IM (f n:Nat):iy (f+1) n []=some []:=by simp[iy,aE]
def Bs (f n:Nat)(l:LU):Option (List gT):=
 if n=64 then none else match ix (l.take (aE dZ l)) with
  | none=>none
  | some x=>(iy f (n+1) (l.drop (aE dZ l))).map (x :: ·)
theorem oS (f n:Nat)(l:LU)(h:dZ (l.headD 32)=true):iy (f+1) n l=Bs f n l:=by
 cases l with
 | nil=>simp[dZ] at h
 | cons a r=>
  have hb:aX a=false:=by simpa [dZ,aX] using h
  unfold iy Bs;rw[fU hb];simp
theorem Bt (h:dZ (l.headD 32)=true):iy (f+1) 64 l=none:=by rw[oS f 64 l h];simp[Bs]
theorem El (h:dZ (l.headD 32)=true)(hw:ix (l.take (aE dZ l))=none):iy (f+1) n l=none:=by
 rw[oS f n l h];unfold Bs;rw[hw];simp
theorem Em {x:gT}(h:dZ (l.headD 32)=true)(hn:n≠64)(hw:ix (l.take (aE dZ l))=some x):iy (f+1) n l=(iy f (n+1) (l.drop (aE dZ l))).map (x :: ·):=by
 rw[oS f n l h];unfold Bs;rw[if_neg hn,hw]
def mP (f:Nat)(acc:List gT)(l:LU):Option (List gT):=(iy f acc.length l).map (acc++·)
theorem En (l:LU):iJ l=mP (l.length+1) [] l:=by unfold iJ mP;simp
theorem Eo (f:Nat)(acc:List gT)(r:LU):mP f acc (32::r)=mP f acc r:=by unfold mP;rw[Br]
theorem LP (f:Nat)(acc:List gT):mP (f+1) acc []=some acc:=by unfold mP;rw[IM];simp
theorem IN {acc:List gT}(h:dZ (l.headD 32)=true)(hw:ix (l.take (aE dZ l))=none):mP (f+1) acc l=none:=by unfold mP;rw[El h hw];rfl
theorem Ep {acc:List gT}(h:dZ (l.headD 32)=true)(hn:acc.length=64):mP (f+1) acc l=none:=by unfold mP;rw[hn,Bt h];rfl
theorem IP {acc:List gT}{x:gT}(h:dZ (l.headD 32)=true)(hn:acc.length≠64)(hw:ix (l.take (aE dZ l))=some x):mP (f+1) acc l=mP f (acc++[x]) (l.drop (aE dZ l)):=by
 unfold mP;rw[Em h hn hw];simp[Function.comp_def]
def jG:Nat->LU
 | 1=>[60]
 | 2=>[60,61]
 | 3=>[61]
 | 4=>[62,61]
 | 5=>[62]
 | 6=>[126]
 | _=>[]
def gT.text (x:gT):LU:=(if x.no then [33] else [])++(x.name++jG x.op++x.ver)
def xT (L:List gT):LU:=Lib.join (L.map gT.text) [32]
def kj (l:LU):Bool:=!l.isEmpty&&(match iJ l with | some L=>decide (xT L=l) | none=>false)
def cL (l:LU):Nat->Nat×LU
 | 0=>(0,l)
 | i+1=>if Lib.hasPrefix l (jG i)&&decide ((Lib.trimPrefix l (jG i)).length<(cL l i).2.length) then (i,Lib.trimPrefix l (jG i)) else cL l i
theorem me (l:LU)(i:Nat):cL l (i+1)=if Lib.hasPrefix l (jG i)&&decide ((Lib.trimPrefix l (jG i)).length<(cL l i).2.length) then (i,Lib.trimPrefix l (jG i)) else cL l i:=rfl
theorem ct (h:Lib.hasPrefix l (jG i)=false):cL l (i+1)=cL l i:=by rw[me,h];rfl
theorem lF {b:LU}(h0:cL l i=(n,b))(h:Lib.hasPrefix l (jG i)=true)(ht:l.drop (jG i).length=r)(hl:r.length<b.length):cL l (i+1)=(i,r):=by
 have:Lib.trimPrefix l (jG i)=r:=by unfold Lib.trimPrefix;rw[if_pos h,ht]
 rw[me,h,this,h0];simp[hl]
theorem xU (l:LU):cL l 1=(0,l):=by
 rw[me];have:Lib.trimPrefix l (jG 0)=l:=by unfold Lib.trimPrefix;simp[jG]
 rw[this];simp[cL]
theorem mQ (c a:UInt8)(r:LU):Lib.hasPrefix (a::r) [c]=(c==a):=by unfold Lib.hasPrefix;simp only[List.isPrefixOf,Bool.and_true]
theorem Bu (c d a:UInt8)(r:LU):Lib.hasPrefix (a::r) [c,d]=(c==a&&aA d r):=by
 cases r with
 | nil=>unfold Lib.hasPrefix;simp only[List.isPrefixOf,aA]
 | cons b r=>unfold Lib.hasPrefix;simp only[List.isPrefixOf,aA,Bool.and_true];rw[Bool.beq_comm (a:=d)]
theorem OM {c a:UInt8}(h:a≠c):(c==a)=false:=by simpa using fun e=>h e.symm
theorem xV (l:LU):cL l 7=wW l:=by
 cases l with
 | nil=>rfl
 | cons a r=>
  by_cases h0:a=60
  ·subst h0;have s2:cL (60::r) 2=(1,r):=lF (xU _) (by rw[show jG 1=[60] from rfl,mQ];rfl) rfl (by simp);have s3:cL (60::r) 3=if aA 61 r then (2,r.drop 1) else (1,r):=by
    cases hb:aA 61 r with
    | false=>exact(ct (by rw[show jG 2=[60,61] from rfl,Bu,hb];rfl)).trans s2
    | true=>
     refine lF s2 (by rw[show jG 2=[60,61] from rfl,Bu,hb];rfl) rfl ?_;rw[xR hb];simp
   rw[ct (i:=6) (by rw[show jG 6=[126] from rfl,mQ];rfl),ct (i:=5) (by rw[show jG 5=[62] from rfl,mQ];rfl),ct (i:=4) (by rw[show jG 4=[62,61] from rfl,Bu];rfl),ct (i:=3) (by rw[show jG 3=[61] from rfl,mQ];rfl),s3];simp[wW]
  have n0:=OM h0;have s3:cL (a::r) 3=(0,a::r):=by
   rw[ct (i:=2) (by rw[show jG 2=[60,61] from rfl,Bu,n0];rfl),ct (i:=1) (by rw[show jG 1=[60] from rfl,mQ,n0]),xU]
  by_cases h1:a=61
  ·subst h1;have s4:cL (61::r) 4=(3,r):=lF s3 (by rw[show jG 3=[61] from rfl,mQ];rfl) rfl (by simp);rw[ct (i:=6) (by rw[show jG 6=[126] from rfl,mQ];rfl),ct (i:=5) (by rw[show jG 5=[62] from rfl,mQ];rfl),ct (i:=4) (by rw[show jG 4=[62,61] from rfl,Bu];rfl),s4];simp[wW]
  have n1:=OM h1;have s4:cL (a::r) 4=(0,a::r):=by rw[ct (i:=3) (by rw[show jG 3=[61] from rfl,mQ,n1]),s3]
  by_cases h2:a=62
  ·subst h2;cases hb:aA 61 r with
   | false=>
    have s5:cL (62::r) 5=(0,62::r):=(ct (by rw[show jG 4=[62,61] from rfl,Bu,hb];rfl)).trans s4;have s6:cL (62::r) 6=(5,r):=lF s5 (by rw[show jG 5=[62] from rfl,mQ];rfl) rfl (by simp);rw[ct (i:=6) (by rw[show jG 6=[126] from rfl,mQ];rfl),s6];simp[wW,hb]
   | true=>
    have s5:cL (62::r) 5=(4,r.drop 1):=lF s4 (by rw[show jG 4=[62,61] from rfl,Bu,hb];rfl) rfl (by simp;omega);have s6:cL (62::r) 6=(4,r.drop 1):=by
     rw[me,s5];have:Lib.trimPrefix (62::r) (jG 5)=r:=by unfold Lib.trimPrefix;rw[if_pos (by rw[show jG 5=[62] from rfl,mQ];rfl)];rfl
     rw[this,if_neg (by simp)]
    rw[ct (i:=6) (by rw[show jG 6=[126] from rfl,mQ];rfl),s6];simp[wW,hb]
  have n2:=OM h2;have s6:cL (a::r) 6=(0,a::r):=by rw[ct (i:=5) (by rw[show jG 5=[62] from rfl,mQ,n2]),ct (i:=4) (by rw[show jG 4=[62,61] from rfl,Bu,n2];rfl),s4]
  by_cases h3:a=126
  ·subst h3;rw[lF (r:=r) s6 (by rw[show jG 6=[126] from rfl,mQ];rfl) rfl (by simp)];simp[wW]
  ·rw[ct (i:=6) (by rw[show jG 6=[126] from rfl,mQ,OM h3]),s6];simp[wW,h0,h1,h2,h3]
structure ee where
 name:LU
 qual:LU
 op:Nat
 ver:LU
 archs:List (LU)
def Sf (c:UInt8):Bool:=c==32||c==44||c==124||c==40||c==41||c==91||c==93
def Sg (c:UInt8):Bool:=Sf c||c==58
def Sz (c:UInt8):Bool:=Sg c||c==33
def oA (c:UInt8):Bool:=!Sf c
def pT (c:UInt8):Bool:=!Sg c
def jC (c:UInt8):Bool:=!Sz c
def aO (l:LU):LU:=l.drop (aE aX l)
def mR (p:UInt8->Bool)(l:LU):Option (LU×LU):=if aE p l=0 then none else some (l.take (aE p l),l.drop (aE p l))
def tr (l:LU):Nat×LU:=
 if aA 61 l then (3,l.drop 1) else
 if aA 60 l then (if aA 60 (l.drop 1) then (1,(l.drop 1).drop 1) else if aA 61 (l.drop 1) then (2,(l.drop 1).drop 1) else (0,l.drop 1)) else
 if aA 62 l then (if aA 62 (l.drop 1) then (5,(l.drop 1).drop 1) else if aA 61 (l.drop 1) then (4,(l.drop 1).drop 1) else (0,l.drop 1)) else (0,l)
def lG (op:Nat)(v r:LU):Option (Nat×LU×LU):=if aA 41 (aO r) then some (op,v,aO ((aO r).drop 1)) else none
def cF (op:Nat)(l:LU):Option (Nat×LU×LU):=if op=0 then none else match mR oA (aO l) with
 | none=>none
 | some (v,r)=>lG op v r
def wX (l:LU):Option (Nat×LU×LU):=cF (tr (aO l)).1 (tr (aO l)).2
def xW (l:LU):LU:=if aA 33 l then [33] else []
def jq (l:LU):Option (LU×LU):=(mR jC (cE l)).map (fun x=>(xW l++x.1,x.2))
def fF:Nat->LU->Option (List (LU)×LU)
 | 0,_=>none
 | f+1,l=>match jq l with
  | none=>none
  | some (a,r)=>if aA 93 (aO r) then some ([a],aO ((aO r).drop 1)) else if aA 32 r then (fF f (aO r)).map (fun x=>(a::x.1,x.2)) else none
def lH (r:LU):Option (LU×LU):=if aA 58 r then mR jC (r.drop 1) else some ([],r)
def kK (r:LU):Option (Nat×LU×LU):=if aA 40 r then wX (r.drop 1) else some (0,[],r)
def jr (r:LU):Option (List (LU)×LU):=if aA 91 r then fF (r.length+1) (aO (r.drop 1)) else some ([],r)
def ib (l:LU):Option (ee×LU):=match mR pT l with
 | none=>none
 | some (nm,r)=>match lH r with
  | none=>none
  | some (q,r1)=>match kK (aO r1) with
   | none=>none
   | some (op,v,r2)=>match jr r2 with
    | none=>none
    | some (ar,r3)=>some (⟨nm,q,op,v,ar⟩,r3)
def fh:Nat->LU->Option (List ee×LU)
 | 0,_=>none
 | f+1,l=>match ib l with
  | none=>none
  | some (t,r)=>if aA 124 r then (fh f (aO (r.drop 1))).map (fun x=>(t::x.1,x.2)) else some ([t],r)
def ic:Nat->LU->Option (List (List ee))
 | 0,_=>none
 | f+1,l=>match fh (l.length+1) l with
  | none=>none
  | some (g,r)=>if r.isEmpty then some [g] else if aA 44 r then (ic f (aO (r.drop 1))).map (g :: ·) else none
def mS (l:LU):Option (List (List ee)):=if (aO l).isEmpty then some [] else ic (l.length+1) (aO l)
def ee.right (t:ee):Bool:=fg t.name&&(t.qual.isEmpty||dI t.qual)&&t.archs.all (fun a=>dI (cE a))&&(decide (t.op=0)||decide (dm 1 (bU t.ver)=0))
def wY (L:List (List ee)):Bool:=L.all (fun g=>g.all ee.right)&&decide ((L.map List.length).sum<=64)
def iK (l:LU):Option (List (List ee)):=match mS l with
 | none=>none
 | some L=>if wY L then some L else none
theorem eB (l:LU):(aO l).length<=l.length:=by unfold aO;rw[List.length_drop];omega
theorem pU {p:UInt8->Bool}{a:LU}(h:mR p l=some (a,r)):0<aE p l/\a=l.take (aE p l)/\r=l.drop (aE p l):=by
 unfold mR at h;split at h
 ·cases h
 ·injection h with h;injection h with h1 h2;exact⟨by omega,h1.symm,h2.symm⟩
theorem zD {p:UInt8->Bool}{a:LU}(h:mR p l=some (a,r)):r.length<l.length:=by
 obtain⟨h1,_,rfl⟩:=pU h;have:=gC p l;rw[List.length_drop];omega
def Sh:Nat->LU
 | 1=>[60,60]
 | 2=>[60,61]
 | 3=>[61]
 | 4=>[62,61]
 | 5=>[62,62]
 | _=>[]
def ee.text (t:ee):LU:=t.name++(if t.qual.isEmpty then [] else 58::t.qual)++(if t.op=0 then [] else [32,40]++Sh t.op++[32]++t.ver++[41])++(if t.archs.isEmpty then [] else [32,91]++Lib.join t.archs [32]++[93])
def xX (L:List (List ee)):LU:=Lib.join (L.map (fun g=>Lib.join (g.map ee.text) [32,124,32])) [44,32]
def kk (l:LU):Bool:=!l.isEmpty&&(match iK l with | some L=>decide (xX L=l) | none=>false)
theorem nI (q:UInt8->Bool)(a:UInt8)(r:LU):aE q (a::r)=if q a then aE q r+1 else 0:=by
 cases h:q a with
 | true=>rw[iZ h];rfl
 | false=>rw[fU h];rfl
theorem dN (s:BA)(k:Nat)(h:k<s.size):(bl s).drop k=s[k]::(bl s).drop (k+1):=by
 rw[List.drop_eq_getElem_cons (by rw[ah];exact h),iC s k h]
theorem lI (s:BA)(k:Nat)(h:¬ k<s.size):(bl s).drop k=[]:=List.drop_of_length_le (by rw[ah];omega)
theorem xY (s:BA)(k:Nat)(h:k<s.size)(hq:q s[k]=true):aE q ((bl s).drop k)=aE q ((bl s).drop (k+1))+1:=by
 rw[dN s k h,nI,if_pos hq]
theorem xZ (s:BA)(k:Nat)(h:k<s.size)(hq:q s[k]=false):aE q ((bl s).drop k)=0:=by
 rw[dN s k h,fU hq]
theorem Bv (q:UInt8->Bool)(s:BA)(k:Nat)(h:¬ k<s.size):aE q ((bl s).drop k)=0:=by rw[lI s k h];rfl
theorem IQ (q:UInt8->Bool)(s:BA)(k:Nat)(h:k<=s.size):k+aE q ((bl s).drop k)<=s.size:=by
 have:=gC q ((bl s).drop k);rw[List.length_drop,ah] at this;omega
theorem G0 (s:BA)(k:Nat)(c:UInt8)(h:k<s.size):aA c ((bl s).drop k)=(s[k]==c):=by rw[dN s k h];rfl
theorem LQ (s:BA)(k:Nat)(c:UInt8)(h:¬ k<s.size):aA c ((bl s).drop k)=false:=by rw[lI s k h];rfl
theorem cg (s:BA)(k:Nat):aO ((bl s).drop k)=(bl s).drop (k+aE aX ((bl s).drop k)):=by unfold aO;rw[List.drop_drop]
theorem uu (l:LU):decide (0<aE aX l)=aA 32 l:=by
 cases l with
 | nil=>rfl
 | cons a r=>
  rw[nI];show _=(a==32);have:aX a=(a==32):=rfl;rw[this];cases a==32<;>simp
theorem IR (l:LU):aE aX (aO l)=0:=by
 unfold aO;have h1:=gC aX l;by_cases h:aE aX l<l.length
 ·obtain⟨a,r,hd,ha⟩:=nH l h;rw[hd,fU ha]
 ·rw[List.drop_of_length_le (by omega)];rfl
def eL (f:Nat)(acc:List (LU))(l:LU):Option (List (LU)×LU):=(fF f l).map (fun x=>(acc++x.1,x.2))
def gD (f:Nat)(acc:List ee)(l:LU):Option (List ee×LU):=(fh f l).map (fun x=>(acc++x.1,x.2))
def dV (f:Nat)(acc:List (List ee))(l:LU):Option (List (List ee)):=(ic f l).map (acc++·)
theorem wZ (f:Nat)(l:LU):fF f l=eL f [] l:=by unfold eL;simp
theorem pV (h:jq l=none):eL (f+1) acc l=none:=by unfold eL fF;rw[h];rfl
theorem rR {a:LU}(h:jq l=some (a,r))(h1:aA 93 (aO r)=true):eL (f+1) acc l=some (acc++[a],aO ((aO r).drop 1)):=by
 unfold eL fF;rw[h];simp[h1]
theorem pW {a:LU}(h:jq l=some (a,r))(h1:aA 93 (aO r)=false)(h2:aA 32 r=true):eL (f+1) acc l=eL f (acc++[a]) (aO r):=by
 unfold eL;conv=>lhs;unfold fF
 rw[h];simp[h1,h2,Function.comp_def]
theorem rS {a:LU}(h:jq l=some (a,r))(h1:aA 93 (aO r)=false)(h2:aA 32 r=false):eL (f+1) acc l=none:=by
 unfold eL fF;rw[h];simp[h1,h2]
theorem xa (f:Nat)(l:LU):fh f l=gD f [] l:=by unfold gD;simp
theorem zE {acc:List ee}(h:ib l=none):gD (f+1) acc l=none:=by unfold gD fh;rw[h];rfl
theorem By {acc:List ee}{t:ee}(h:ib l=some (t,r))(h1:aA 124 r=false):gD (f+1) acc l=some (acc++[t],r):=by
 unfold gD fh;rw[h];simp[h1]
theorem zF {acc:List ee}{t:ee}(h:ib l=some (t,r))(h1:aA 124 r=true):gD (f+1) acc l=gD f (acc++[t]) (aO (r.drop 1)):=by
 unfold gD;conv=>lhs;unfold fh
 rw[h];simp[h1,Function.comp_def]
theorem uv (f:Nat)(l:LU):ic f l=dV f [] l:=by unfold dV;simp
theorem xb {acc:List (List ee)}(h:fh (l.length+1) l=none):dV (f+1) acc l=none:=by unfold dV ic;rw[h];rfl
theorem zH {acc:List (List ee)}{g:List ee}(h:fh (l.length+1) l=some (g,[])):dV (f+1) acc l=some (acc++[g]):=by
 unfold dV ic;rw[h];simp
theorem xc {acc:List (List ee)}{g:List ee}(h:fh (l.length+1) l=some (g,r))(h1:aA 44 r=true):dV (f+1) acc l=dV f (acc++[g]) (aO (r.drop 1)):=by
 have h0:r.isEmpty=false:=by rw[xR h1];rfl
 unfold dV;conv=>lhs;unfold ic
 rw[h];simp[h0,h1,Function.comp_def]
theorem zI {acc:List (List ee)}{g:List ee}(h:fh (l.length+1) l=some (g,r))(h0:r.isEmpty=false)(h1:aA 44 r=false):dV (f+1) acc l=none:=by
 unfold dV ic;rw[h];simp[h0,h1]
theorem IS {x:LU}(h:mR jC (cE l)=some (x,r)):cE (xW l++x)=x:=by
 unfold xW;cases hh:aA 33 l with
 | true=>rfl
 | false=>
  have hb:cE l=l:=by unfold cE;rw[hh];rfl
  rw[hb] at h;obtain⟨h1,h2,h3⟩:=pU h;cases l with
  | nil=>simp[aE] at h1
  | cons a t=>
   rw[nI] at h1 h2;cases ha:jC a with
   | false=>rw[ha] at h1;simp at h1
   | true=>
    rw[ha] at h2;simp only[if_true,List.take_succ_cons] at h2;subst h2;simp only[Bool.false_eq_true,if_false,List.nil_append,cE];have:aA 33 (a::List.take (aE jC t) t)=false:=hh;rw[this];rfl
theorem rT {a:LU}(h:jq l=some (a,r)):∃ x,mR jC (cE l)=some (x,r)/\a=xW l++x/\cE a=x:=by
 unfold jq at h;obtain⟨⟨x,y⟩,h1,h2⟩:=Option.map_eq_some_iff.1 h;injection h2 with h2 h3;subst h2;subst h3;exact⟨x,h1,rfl,IS h1⟩
theorem aW (v:Value):w.grownBy (w.setCell ⟨a,j,none⟩ v) (some a):=ap (World.grownBy.refl w (some a)) (.inl rfl) _
theorem mT {w'':World}(h:w.grownBy w' (some a))(hb:Below w'.heap.size w' w''):w.grownBy w'' (some a):=bB h hb
theorem dW (hb:Below w.heap.size w w')(row:Option Nat):w.grownBy w' row:=bB (World.grownBy.refl w row) hb
theorem ax.grownBy {vs:LV}(h:ax w b vs)(hg:w.grownBy w' row)(hne:some b≠row):ax w' b vs:=by
 have hk:=hg.block b h.sz hne;exact⟨Nat.lt_of_lt_of_le h.sz hg.size,fun j u hu=>(World.cell?_of_block (a:=⟨b,j,none⟩) hk).trans (h.cell j u hu),fun j hj=>(World.frozen?_of_block (a:=⟨b,j,none⟩) hk).trans (h.free j hj)⟩
structure DR (w:World) (a:Nat) (s:BA) (p n:Nat) (c:Int):Prop where
 blk:∃ (f:BA) (x:Int),ax w a [.string s,.int .i64 p,.int .i64 n,.string f,.int .i64 x,.int .i64 c]
 le:p<=s.size
 nle:n<=p
theorem DR.below (h:DR w a s p n c)(hb:Below w.heap.size w w'):DR w' a s p n c:=by
 obtain⟨f,x,k⟩:=h.blk;exact⟨⟨f,x,k.below hb⟩,h.le,h.nle⟩
theorem DR.kept (h:DR w a s p n c)(hg:w.grownBy w' row)(hne:some a≠row):DR w' a s p n c:=by
 obtain⟨f,x,k⟩:=h.blk;exact⟨⟨f,x,k.grownBy hg hne⟩,h.le,h.nle⟩
theorem DR.alloc (h:DR w a s p n c)(o:Obj):DR (w.alloc o) a s p n c:=h.below (bR.alloc lr o)
theorem DR.drewN (h:DR w a s p n c)(k:Nat):DR (w.drewN k) a s p n c:=h.below ⟨rfl,rfl,rfl,lr,fun _ _=>rfl⟩
theorem DR.far (h:DR w a s p n c)(hne:b≠a)(v:Value):DR (w.setCell ⟨b,j,none⟩ v) a s p n c:=h.kept (aW v) (by simp;omega)
theorem DR.sz (h:DR w a s p n c):a<w.heap.size:=by obtain⟨f,x,k⟩:=h.blk;exact k.sz
theorem DR.move {q:Nat}(h:DR w a s p n c)(h1:p<=q)(h2:q<=s.size):DR (w.setCell ⟨a,1,none⟩ (.int .i64 q)) a s q n c:=by
 obtain⟨f,x,k⟩:=h.blk;exact⟨⟨f,x,k.set 1 (by simp) _⟩,h2,Nat.le_trans h.nle h1⟩
theorem DR.count (h:DR w a s p n c)(h1:n<p):DR (w.setCell ⟨a,2,none⟩ (.int .i64 ((n+1:Nat):Int))) a s p (n+1) c:=by
 obtain⟨f,x,k⟩:=h.blk;exact⟨⟨f,x,k.set 2 (by simp) _⟩,h.le,h1⟩
structure SH (w:World) (a:Nat) (s:BA) (p n:Nat) (f:BA) (x c:Int):Prop where
 c0:w.cell? ⟨a,0,none⟩=some (.string s)
 c1:w.cell? ⟨a,1,none⟩=some (.int .i64 p)
 c2:w.cell? ⟨a,2,none⟩=some (.int .i64 n)
 c3:w.cell? ⟨a,3,none⟩=some (.string f)
 c4:w.cell? ⟨a,4,none⟩=some (.int .i64 x)
 c5:w.cell? ⟨a,5,none⟩=some (.int .i64 c)
 f0:w.frozen? ⟨a,0,none⟩=false
 f1:w.frozen? ⟨a,1,none⟩=false
 f2:w.frozen? ⟨a,2,none⟩=false
 f3:w.frozen? ⟨a,3,none⟩=false
 f4:w.frozen? ⟨a,4,none⟩=false
 f5:w.frozen? ⟨a,5,none⟩=false
theorem DR.cells (h:DR w a s p n c):∃ f x,SH w a s p n f x c:=by
 obtain⟨f,x,k⟩:=h.blk;exact⟨f,x,k.cell 0 _ rfl,k.cell 1 _ rfl,k.cell 2 _ rfl,k.cell 3 _ rfl,k.cell 4 _ rfl,k.cell 5 _ rfl,k.free 0 (by simp),k.free 1 (by simp),k.free 2 (by simp),k.free 3 (by simp),k.free 4 (by simp),k.free 5 (by simp)⟩
def zJ (a:Nat)(w:World):Nat:=match w.cell? ⟨a,1,none⟩ with | some (.int _ k)=>k.toNat | _=>0
theorem DR.at_ (h:DR w a s p n c):zJ a w=p:=by
 obtain⟨f,x,k⟩:=h.cells;unfold zJ;rw[k.c1];simp
theorem DR.dec {k k' n':Nat}(h':DR w' a s k' n' c')(h:DR w a s k n c)(hk:k<k'):s.size-zJ a w'<s.size-zJ a w:=by
 rw[h'.at_,h.at_];have:=h'.le;omega
def kL (c e:Int):Int:=if c=0 then e else c
theorem fG (c e:Int):kL c e=0↔c=0/\e=0:=by unfold kL;split<;>rename_i h<;>simp[h]
theorem DR.noted (h:DR w a s p n c)(f:BA)(x e:Int):DR (((w.setCell ⟨a,3,none⟩ (.string f)).setCell ⟨a,4,none⟩ (.int .i64 x)).setCell ⟨a,5,none⟩ (.int .i64 e)) a s p n e:=by
 obtain⟨f',x',k⟩:=h.blk;exact⟨⟨f,x,((k.set 3 (by simp) _).set 4 (by simp) _).set 5 (by simp) _⟩,h.le,h.nle⟩
structure cU where
 nm:BA
 op:Nat
 ver:BA
 qual:BA
 aa:OA
 ac:Nat
 archs:List BA
def cU.cells (t:cU):LV:=[.string t.nm,.int .i64 t.op,.string t.ver,.string t.qual,.slice t.aa t.archs.length t.ac]
def cU.val (t:cU):Value:=.agg #[.string t.nm,.int .i64 t.op,.string t.ver,.string t.qual,.slice t.aa t.archs.length t.ac]
def cU.pl (t:cU):ee:=⟨bl t.nm,bl t.qual,t.op,bl t.ver,t.archs.map bl⟩
theorem G9 (t:cU):t.cells.length=5:=rfl
def cU.own (t:cU)(w:World)(lo:Nat):Prop:=w.ownsRow lo 9 1 (.slice t.aa t.archs.length t.ac) t.archs.length (ay t.archs)
structure bM where
 ga:OA
 gc:Nat
 ts:List cU
def bM.sl (g:bM):Value:=.slice g.ga g.ts.length g.gc
def bM.pl (g:bM):List ee:=g.ts.map cU.pl
structure bM.own (g:bM) (w:World) (lo:Nat):Prop where
 row:w.ownsRow lo 211 5 g.sl g.ts.length (g.ts.flatMap cU.cells)
 archs:∀ t∈g.ts,t.own w lo
theorem cU.own.kept {t:cU}(h:t.own w lo)(hlo:g<lo)(hg:w.grownBy w' (some g)):t.own w' lo:=aP h hlo hg
theorem cU.own.below {t:cU}(h:t.own w lo)(hb:Below w.heap.size w w'):t.own w' lo:=aL h hb
theorem cU.own.base {t:cU}(h:t.own w lo)(hl:lo'<=lo):t.own w lo':=aY h hl
theorem bM.own.kept {t:bM}(h:t.own w lo)(hlo:g<lo)(hg:w.grownBy w' (some g)):t.own w' lo:=⟨aP h.row hlo hg,fun x hx=>(h.archs x hx).kept hlo hg⟩
theorem bM.own.below {t:bM}(h:t.own w lo)(hb:Below w.heap.size w w'):t.own w' lo:=⟨aL h.row hb,fun x hx=>(h.archs x hx).below hb⟩
theorem bM.own.base {t:bM}(h:t.own w lo)(hl:lo'<=lo):t.own w lo':=⟨aY h.row hl,fun x hx=>(h.archs x hx).base hl⟩
structure pX (w:World) (A:OA) (l:List bM):Prop where
 row:Rd w 1 A l.length (l.map bM.sl)
 grp:∀ g∈l,Rd w 5 g.ga g.ts.length (g.ts.flatMap cU.cells)
 archs:∀ g∈l,∀ t∈g.ts,Rd w 1 t.aa t.archs.length (ay t.archs)
theorem pX.below {A:OA}{l:List bM}(h:pX w A l)(hb:Below w.heap.size w w'):pX w' A l:=
 ⟨h.1.below hb,fun g hg=>(h.2 g hg).below hb,fun g hg t ht=>(h.3 g hg t ht).below hb⟩
end
section
open Go.RowKit Go.Deep
theorem gJ (x e:Int)(a:Nat)(s:BA)(p n:Nat)(c:Int)(w:World)(h:DR w a s p n c):Calls Tryz.prog 258 #[.pointer (some ⟨a,0,none⟩),.int .i64 x,.int .i64 e] w fun en w'=>en=.returned (.tuple #[])/\DR w' a s p n (kL c e)/\w.grownBy w' (some a):=by
 obtain⟨f,y,k⟩:=h.cells;have HD:=ae h;clear h;obtain⟨c0,c1,c2,c3,c4,c5,f0,f1,f2,f3,f4,f5⟩:=k;clear c0 c1 c2 f0 f1 f2;by_cases hc:c=0
 ·subst hc;by_cases he:e=0
  ·subst he;go_in;go_wp2;go_end0;exact⟨rfl,HD.out,World.grownBy.refl _ _⟩
  ·have he1:(e != 0)=true:=by simp[he]
   have HN:Hid (kL 0 e=e):=by simp[Hid,kL]
   clear he;go_in;go_wp2;go_end0;exact⟨rfl,by rw[HN.out];exact HD.out.noted _ _ _,ak (ak (aW _) (aW _)) (aW _)⟩
 ·have hc1:(c==0)=false:=by simp[hc]
  have HN:Hid (kL c e=c):=by simp[Hid,kL,hc]
  clear hc;go_in;go_wp2;go_end0;exact⟨rfl,by rw[HN.out];exact HD.out,World.grownBy.refl _ _⟩
theorem aQ (ch:UInt8)(a:Nat)(s:BA)(p n:Nat)(c:Int)(w:World)(hs:s.size<=4294967280)(h:DR w a s p n c)(hh:Hid (aA ch ((bl s).drop p)=true)):Calls Tryz.prog 205 #[.pointer (some ⟨a,0,none⟩),.int .u8 ch.toNat] w fun e w'=>e=.returned (.bool true)/\DR w' a s (p+1) n c/\w.grownBy w' (some a):=by
 have hlt:p<s.size:=by
  rcases Nat.lt_or_ge p s.size with h1 | h1
  ·exact h1
  ·have:=hh.out;rw[LQ s p ch (by omega)] at this;cases this
 have e1:s[p]=ch:=by have:=hh.out;rw[G0 s p ch hlt] at this;simpa using this
 obtain⟨f,y,k⟩:=h.cells;have HM:=ae (h.move (q:=p+1) (by omega) (by omega));clear h hh;obtain⟨c0,c1,c2,c3,c4,c5,f0,f1,f2,f3,f4,f5⟩:=k;clear c2 c3 c4 c5 f0 f2 f3 f4 f5;go_in;go_wp2;go_quiet (fail);go_wp2;go_ret;exact⟨rfl,HM.out.drewN _,bZ (aW _) _⟩
theorem aG (ch:UInt8)(a:Nat)(s:BA)(p n:Nat)(c:Int)(w:World)(hs:s.size<=4294967280)(h:DR w a s p n c)(hh:Hid (aA ch ((bl s).drop p)=false)):Calls Tryz.prog 205 #[.pointer (some ⟨a,0,none⟩),.int .u8 ch.toNat] w fun e w'=>e=.returned (.bool false)/\DR w' a s p n c/\w.grownBy w' (some a):=by
 obtain⟨f,y,k⟩:=h.cells;have HD:=ae h;clear h;obtain⟨c0,c1,c2,c3,c4,c5,f0,f1,f2,f3,f4,f5⟩:=k;clear c2 c3 c4 c5 f0 f2 f3 f4 f5;by_cases hlt:p<s.size
 ·obtain⟨d,hd⟩:∃ d:UInt8,s[p]=d:=⟨_,rfl⟩
  have e1:((d.toNat:Int)==(ch.toNat:Int))=false:=by have:=hh.out;rw[G0 s p ch hlt,hd] at this;rw[eA];exact this
  clear hh;go_in;go_wp2;go_quiet (fail);go_wp2;go_ret;exact⟨rfl,HD.out.drewN _,bZ (World.grownBy.refl _ _) _⟩
 ·have hlt2:decide (p<s.size)=false:=dF hlt;clear hh;go_in;go_wp2;go_quiet (fail);go_wp2;go_ret;exact⟨rfl,HD.out.drewN _,bZ (World.grownBy.refl _ _) _⟩
theorem aK (a:Nat)(s:BA)(p n:Nat)(c:Int)(w:World)(hs:s.size<=4294967280)(h:DR w a s p n c):Calls Tryz.prog 203 #[.pointer (some ⟨a,0,none⟩)] w fun e w'=>e=.returned (.bool (aA 32 ((bl s).drop p)))/\DR w' a s (p+aE aX ((bl s).drop p)) n c/\w.grownBy w' (some a):=by
 obtain⟨f,y,k⟩:=h.cells;have c1:=k.c1;have hp:=h.le;have HD:=ae h;clear h k;go_in;go_wp2;go_loopw [] (fun wr=>∃ k:Nat,p<=k/\k<=s.size/\Hid (DR wr a s k n c)/\Hid (w.grownBy wr (some a))/\Hid (p+aE aX ((bl s).drop p)=k+aE aX ((bl s).drop k))) (fun wr=>s.size-zJ a wr)
 case atStart=>exact⟨p,lr,hp,HD,World.grownBy.refl _ _,rfl⟩
 case round=>
  clear c1;obtain⟨k,hk1,hk2,HR,HG,HN⟩:=hrel;obtain⟨f',y',K⟩:=HR.out.cells;obtain⟨c0,c1,c2,c3,c4,c5,f0,f1,f2,f3,f4,f5⟩:=K;clear c2 c3 c4 c5 f0 f2 f3 f4 f5;have MA:=ae HR.out.at_;by_cases hlt:k<s.size
  ·obtain⟨d,hd⟩:∃ d:UInt8,s[k]=d:=⟨_,rfl⟩
   by_cases h32:d.toNat=32
   ·have HN2:Hid (p+aE aX ((bl s).drop p)=(k+1)+aE aX ((bl s).drop (k+1))):=by
     have:=HN.out;rw[xY s k hlt (by rw[hd];simp[aX];exact UInt8.toNat_inj.1 h32)] at this;show _=_;omega
    have HM:=ae (HR.out.move (q:=k+1) (by omega) (by omega));go_wp2;go_quiet (fail);go_wp2;go_roundw
    case rel=>exact⟨k+1,by omega,by omega,HM.out.drewN _,bZ (ak HG.out (aW _)) _,HN2⟩
    case measure=>exact DR.dec (HM.out.drewN _) HR.out (Nat.lt_succ_self _)
   ·have h32':((d.toNat:Int)==32)=false:=by simp;omega
    have HE:Hid (p+aE aX ((bl s).drop p)=k):=by
     have:=HN.out;rw[xZ s k hlt (by rw[hd];simp[aX];intro e;exact h32 (by rw[e];rfl))] at this;exact this
    have HB:Hid (aA 32 ((bl s).drop p)=decide (p<k)):=by
     have:=HE.out;show _=_;rw[<-uu];congr 1;simp;omega
    clear h32;go_wp2;go_quiet (fail);go_wp2;go_ret;exact⟨af (by rw[HB.out]),by rw[HE.out];exact HR.out.drewN _,bZ HG.out _⟩
  ·have hlt2:decide (k<s.size)=false:=dF hlt;have HE:Hid (p+aE aX ((bl s).drop p)=k):=by
    have:=HN.out;rw[Bv _ s k hlt] at this;exact this
   have HB:Hid (aA 32 ((bl s).drop p)=decide (p<k)):=by
    have:=HE.out;show _=_;rw[<-uu];congr 1;simp;omega
   go_wp2;go_quiet (fail);go_wp2;go_ret;exact⟨af (by rw[HB.out]),by rw[HE.out];exact HR.out.drewN _,bZ HG.out _⟩
def IV (q:UInt8->Bool)(a:Nat)(s:BA)(p n:Nat)(c:Int)(w:World)(e:Ending)(w':World):Prop:=
 e=.returned (.tuple #[.string (bU (((bl s).drop p).take (aE q ((bl s).drop p)))),.bool (decide (0<aE q ((bl s).drop p)))])/\DR w' a s (p+aE q ((bl s).drop p)) n c/\w.grownBy w' (some a)
theorem Ha (q:UInt8->Bool)(s:BA)(p k:Nat)(h:p+aE q ((bl s).drop p)=k):s.extract p k=bU (((bl s).drop p).take (aE q ((bl s).drop p))):=by
 apply xS;rw[iD];congr 1;omega
theorem uA (E:BA)(q:UInt8->Bool)(hE:∀ d,(bl E).contains d=!q d)(a:Nat)(s:BA)(p n:Nat)(c:Int)(w:World)(hs:s.size<=4294967280)(h:DR w a s p n c):Calls Tryz.prog 257 #[.pointer (some ⟨a,0,none⟩),.string E] w (IV q a s p n c w):=by
 have HE:=ae hE;clear hE;obtain⟨f,y,k⟩:=h.cells;have c1:=k.c1;have hp:=h.le;have HD:=ae h;clear h k;go_in;go_wp2;go_loopw [] (fun wr=>∃ k:Nat,p<=k/\k<=s.size/\Hid (DR wr a s k n c)/\Hid (w.grownBy wr (some a))/\Hid (p+aE q ((bl s).drop p)=k+aE q ((bl s).drop k))) (fun wr=>s.size-zJ a wr)
 case atStart=>exact⟨p,lr,hp,HD,World.grownBy.refl _ _,rfl⟩
 case round=>
  clear c1;obtain⟨k,hk1,hk2,HR,HG,HN⟩:=hrel;obtain⟨f',y',K⟩:=HR.out.cells;obtain⟨c0,c1,c2,c3,c4,c5,f0,f1,f2,f3,f4,f5⟩:=K;clear c2 c3 c4 c5 f0 f2 f3 f4 f5;have MA:=ae HR.out.at_;have hpk:(p:Int)<=(k:Int):=by omega
  have hks:(k:Int)<=(s.size:Int):=by omega
  by_cases hlt:k<s.size
  ·obtain⟨d,hd⟩:∃ d:UInt8,s[k]=d:=⟨_,rfl⟩
   have hI:=fun W=>(aU E d W).mono (fun (_:Ending) (_:World) ⟨he,hw⟩=>(⟨he,hw.symm⟩:_/\_));cases hq:q d with
   | true=>
    have hn:wL E d<0:=gB E d (by rw[HE.out,hq];rfl);have hn2:decide (wL E d<0)=true:=dT hn;have HN2:Hid (p+aE q ((bl s).drop p)=(k+1)+aE q ((bl s).drop (k+1))):=by
     have:=HN.out;rw[xY s k hlt (by rw[hd];exact hq)] at this;show _=_;omega
    have HM:=ae (HR.out.move (q:=k+1) (by omega) (by omega));clear hq;generalize wL E d=i at hI hn hn2;go_wp2;go_quiet ((go_at_call 119;exact Calls.quiet_of_same (hI _)));go_wp2;go_roundw
    case rel=>exact⟨k+1,by omega,by omega,HM.out.drewN _,bZ (ak HG.out (aW _)) _,HN2⟩
    case measure=>exact DR.dec (HM.out.drewN _) HR.out (Nat.lt_succ_self _)
   | false=>
    have hn:0<=wL E d:=gW E d (by rw[HE.out,hq];rfl);have hn2:decide (wL E d<0)=false:=dF (by omega);have HX:Hid (p+aE q ((bl s).drop p)=k):=by
     have:=HN.out;rw[xZ s k hlt (by rw[hd];exact hq)] at this;exact this
    clear hq;generalize wL E d=i at hI hn hn2;go_wp2;go_quiet ((go_at_call 119;exact Calls.quiet_of_same (hI _)));go_wp2;go_quiet (fail);go_wp2;go_ret2;refine⟨?_,by rw[HX.out];exact(HR.out.drewN _).drewN _,bZ (bZ HG.out _) _⟩;have:=HX.out;rw[<-Ha q s p k this];congr 5;simp;omega
  ·have hlt2:decide (k<s.size)=false:=dF hlt;have HX:Hid (p+aE q ((bl s).drop p)=k):=by
    have:=HN.out;rw[Bv _ s k hlt] at this;exact this
   go_wp2;go_quiet (fail);go_wp2;go_quiet (fail);go_wp2;go_ret2;refine⟨?_,by rw[HX.out];exact(HR.out.drewN _).drewN _,bZ (bZ HG.out _) _⟩;have:=HX.out;rw[<-Ha q s p k this];congr 5;simp;omega
def Qj:BA:=⟨#[32,44,124,40,41,91,93]⟩
def Qk:BA:=⟨#[32,44,124,40,41,91,93,58]⟩
def Ql:BA:=⟨#[32,44,124,40,41,91,93,58,33]⟩
theorem gm (d:UInt8):(bl Qj).contains d=!oA d:=by
 have:=lD (fun c=>(bl Qj).contains c == !oA c) (by kernel_rfl) d;simpa using this
theorem Bz (d:UInt8):(bl Qk).contains d=!pT d:=by
 have:=lD (fun c=>(bl Qk).contains c == !pT c) (by kernel_rfl) d;simpa using this
theorem uB (d:UInt8):(bl Ql).contains d=!jC d:=by
 have:=lD (fun c=>(bl Ql).contains c == !jC c) (by kernel_rfl) d;simpa using this
theorem eC {t:LU}(hp:p<=s.size)(h:mR q ((bl s).drop p)=some (t,r)):t.length=aE q ((bl s).drop p)/\(bl s).drop (p+t.length)=r/\0<t.length/\p+t.length<=s.size:=by
 obtain⟨h1,h2,h3⟩:=pU h;have hl:t.length=aE q ((bl s).drop p):=by rw[h2,List.length_take];have:=gC q ((bl s).drop p);omega
 have:=IQ q s p hp;refine⟨hl,?_,by omega,by omega⟩;rw[hl,<-List.drop_drop,h3]
theorem LR (h:mR q l=none):aE q l=0:=by
 unfold mR at h;split at h
 ·assumption
 ·cases h
theorem di (hE:∀ d,(bl E).contains d=!q d)(a:Nat)(s:BA)(p n:Nat)(c:Int)(w:World)(hs:s.size<=4294967280)(h:DR w a s p n c)(hh:Hid (mR q ((bl s).drop p)=none)):Calls Tryz.prog 257 #[.pointer (some ⟨a,0,none⟩),.string E] w fun e w'=>e=.returned (.tuple #[.string ⟨#[]⟩,.bool false])/\DR w' a s p n c/\w.grownBy w' (some a):=by
 refine(uA E q hE a s p n c w hs h).mono fun e w' ⟨h1,h2,h3⟩=>?_;rw[LR hh.out] at h1 h2;exact⟨h1,h2,h3⟩
theorem cM (hE:∀ d,(bl E).contains d=!q d)(t r:LU)(a:Nat)(s:BA)(p n:Nat)(c:Int)(w:World)(hs:s.size<=4294967280)(h:DR w a s p n c)(hh:Hid (mR q ((bl s).drop p)=some (t,r))):Calls Tryz.prog 257 #[.pointer (some ⟨a,0,none⟩),.string E] w fun e w'=>e=.returned (.tuple #[.string (bU t),.bool true])/\DR w' a s (p+t.length) n c/\w.grownBy w' (some a):=by
 refine(uA E q hE a s p n c w hs h).mono fun e w' ⟨h1,h2,h3⟩=>?_;obtain⟨g1,g2,g3,g4⟩:=eC h.le hh.out;obtain⟨k1,k2,k3⟩:=pU hh.out;rw[<-k2,dT k1] at h1;rw[<-g1] at h2;exact⟨h1,h2,h3⟩
def LS (t:LU)(a:Nat)(s:BA)(p n:Nat)(c:Int)(w:World)(e:Ending)(w':World):Prop:=
 e=.returned (.tuple #[.string (bU t),.bool true])/\(∃ c',DR w' a s (p+t.length) n c'/\(c'=0↔c=0/\dI t=true))/\w.grownBy w' (some a)
theorem js (a:Nat)(s:BA)(p n:Nat)(c:Int)(w:World)(hs:s.size<=4294967280)(h:DR w a s p n c)(hh:Hid (mR jC ((bl s).drop p)=none)):Calls Tryz.prog 259 #[.pointer (some ⟨a,0,none⟩)] w fun e w'=>e=.returned (.tuple #[.string ⟨#[]⟩,.bool false])/\DR w' a s p n c/\w.grownBy w' (some a):=by
 obtain⟨f,y,k⟩:=h.cells;have c1:=k.c1;have HD:=ae h;clear h k;go_in;go_wp2_with fail;refine(di uB a s p n c w hs HD.out hh).mono ?_;rintro e w1 ⟨rfl,hd,hg⟩;have HD1:=ae hd;have HG1:=ae hg;clear hd hg c1;go_wp2;go_ret2;exact⟨rfl,HD1.out,HG1.out⟩
theorem jt (t r:LU)(a:Nat)(s:BA)(p n:Nat)(c:Int)(w:World)(hs:s.size<=4294967280)(h:DR w a s p n c)(hh:Hid (mR jC ((bl s).drop p)=some (t,r))):Calls Tryz.prog 259 #[.pointer (some ⟨a,0,none⟩)] w (LS t a s p n c w):=by
 obtain⟨f,y,k⟩:=h.cells;have c1:=k.c1;have hz:(bU t).size<=s.size:=by have:=(eC h.le hh.out).2.2.2;rw[cA];omega
 have HD:=ae h;clear h k;have hW:=fun W=>qT (bU t) W (by omega);rw[fA] at hW;cases hd:dI t with
 | true=>
  rw[hd] at hW;have HT:=ae hd;clear hd;go_in;go_wp2_with fail;refine(cM uB t r a s p n c w hs HD.out hh).mono ?_;rintro e w1 ⟨rfl,hd,hg⟩;have HD1:=ae hd;have HG1:=ae hg;clear hd hg c1;go_wp2_with fail;refine(hW _).mono ?_;rintro e w' ⟨rfl,rfl⟩;go_wp2;go_ret2;exact⟨rfl,⟨c,HD1.out,by simp[HT.out]⟩,HG1.out⟩
 | false=>
  rw[hd] at hW;have HT:=ae hd;clear hd;go_in;go_wp2_with fail;refine(cM uB t r a s p n c w hs HD.out hh).mono ?_;rintro e w1 ⟨rfl,hd,hg⟩;have HD1:=ae hd;have HG1:=ae hg;clear hd hg c1;go_wp2_with fail;refine(hW _).mono ?_;rintro e w' ⟨rfl,rfl⟩;go_wp2_with fail;refine(gJ _ 10 a s _ n c w1 HD1.out).mono ?_;rintro e w2 ⟨rfl,hd,hg⟩;have HD2:=ae hd;have HG2:=ae hg;clear hd hg;go_wp2;go_ret2;exact⟨rfl,⟨_,HD2.out,by rw[fG,HT.out];simp⟩,ak HG1.out HG2.out⟩
def qU (a:Nat)(w:World):Prop:=∃ w0,Gl w0/\Below w0.heap.size w0 w/\w0.heap.size<=a
theorem qU.gl (h:qU a w):Gl w:=by obtain⟨w0,h1,h2,_⟩:=h;exact h1.below h2
theorem qU.kept (h:qU a w)(hg:w.grownBy w' (some a)):qU a w':=by
 obtain⟨w0,h1,h2,h3⟩:=h;exact⟨w0,h1,dU h2 hg h3,h3⟩
theorem qU.below (h:qU a w)(hb:Below w.heap.size w w'):qU a w':=by
 obtain⟨w0,h1,h2,h3⟩:=h;exact⟨w0,h1,aq h2 hb,h3⟩
def bJ (r:Option (Nat×LU×LU))(a:Nat)(s:BA)(p n:Nat)(c:Int)(w:World)(e:Ending)(w':World):Prop:=
 w.grownBy w' (some a)/\match r with
  | none=>e=.returned (.tuple #[.int .i64 0,.string ⟨#[]⟩,.bool false])/\∃ p' c',DR w' a s p' n c'
  | some (op,v,r)=>e=.returned (.tuple #[.int .i64 op,.string (bU v),.bool true])/\∃ p' c',p<=p'/\DR w' a s p' n c'/\(bl s).drop p'=r/\(c'=0↔c=0/\dm 1 (bU v)=0)
theorem bJ.no {r:Option (Nat×LU×LU)}(hr:r=none)(hg:w.grownBy w' (some a))(h:DR w' a s p' n c'):bJ r a s p n c w (.returned (.tuple #[.int .i64 0,.string ⟨#[]⟩,.bool false])) w':=by
 subst hr;exact⟨hg,rfl,_,_,h⟩
theorem bJ.yes {r:Option (Nat×LU×LU)}{r':LU}(hr:r=some (op,v,r'))(hg:w.grownBy w' (some a))(h:DR w' a s p' n c')(hp:p<=p')(hd:(bl s).drop p'=r')(hc:c'=0↔c=0/\dm 1 (bU v)=0):bJ r a s p n c w (.returned (.tuple #[.int .i64 op,.string (bU v),.bool true])) w':=by
 subst hr;exact⟨hg,rfl,_,_,hp,h,hd,hc⟩
theorem lJ (h:mR oA (aO l)=none):cF op l=none:=by unfold cF;rw[h];split<;>rfl
theorem lK (ho:op≠0)(h:mR oA (aO l)=some (v,r)):cF op l=lG op v r:=by unfold cF;rw[if_neg ho,h]
theorem pY (h:aA 41 (aO r)=false):lG op v r=none:=by unfold lG;rw[h];rfl
theorem mU (h:aA 41 (aO r)=true):lG op v r=some (op,v,aO ((aO r).drop 1)):=by unfold lG;rw[h];rfl
theorem sF (a:Nat)(s:BA)(p n q:Nat)(c:Int)(w:World)(hs:s.size<=4294967280)(hG:qU a w)(h:DR w a s p n c)(hq:p+aE aX ((bl s).drop p)=q)
  (H0:Hid (aA 61 ((bl s).drop q)=true)):Calls Tryz.prog 260 #[.pointer (some ⟨a,0,none⟩)] w (bJ (cF 3 ((bl s).drop (q+1))) a s p n c w):=by
 have hB:=aK a s p n c w hs h;rw[hq] at hB;have HQ:Hid (p<=q):=by show _<=_;omega
 have HG:=ae hG;clear hG hq h;go_in;go_wp2_with fail;refine hB.mono ?_;rintro e w1 ⟨rfl,hd,hg⟩;have D1:=ae hd;have G1:=ae hg;clear hd hg hB;go_wp2_with fail;refine(aQ 61 a s q n c w1 hs D1.out H0).mono ?_;rintro e w2 ⟨rfl,hd,hg⟩;have D2:=ae hd;have G2:=ae (ak G1.out hg);clear hd hg D1 G1 H0;obtain⟨q2,hq2⟩:∃ q2,(q+1)=q2:=⟨_,rfl⟩
 obtain⟨q3,hq3⟩:∃ q3,q2+aE aX ((bl s).drop q2)=q3:=⟨_,rfl⟩
 rw[hq2] at D2;have HQ3:Hid (p<=q3):=by have:=HQ.out;show _<=_;omega
 have SK:Hid (aO ((bl s).drop (q+1))=(bl s).drop q3):=by show _=_;rw[hq2,cg,hq3]
 have hB3:=aK a s q2 n c w2 hs D2.out;rw[hq3] at hB3;clear hq2 hq3 HQ;go_wp2_with fail;refine hB3.mono ?_;rintro e v1 ⟨rfl,hd,hg⟩;have E1:=ae hd;have K1:=ae (ak G2.out hg);clear hd hg hB3;obtain⟨f,y,k⟩:=E1.out.cells;have c1:=k.c1;clear k;cases ht:mR oA ((bl s).drop q3) with
 | none=>
  have HT:=ae ht;have EN:Hid (cF 3 ((bl s).drop (q+1))=none):=lJ (by rw[SK.out];exact ht);clear ht;go_wp2_with fail;refine(di gm a s q3 n c v1 hs E1.out HT).mono ?_;rintro e v2 ⟨rfl,hd,hg⟩;have E2:=ae hd;have K2:=ae (ak K1.out hg);clear hd hg c1;go_wp2;go_ret3;exact bJ.no EN.out K2.out E2.out
 | some x=>
  obtain⟨v,r⟩:=x;have HT:=ae ht;obtain⟨t1,t2,t3,t4⟩:=eC E1.out.le ht;have EN:Hid (cF 3 ((bl s).drop (q+1))=lG 3 v r):=lK (by decide) (by rw[SK.out];exact ht);have hvz:(bU v).size<=4294967280:=by rw[cA];omega
  obtain⟨q4,hq4⟩:∃ q4,q3+v.length+aE aX ((bl s).drop (q3+v.length))=q4:=⟨_,rfl⟩
  have SK2:Hid (aO r=(bl s).drop q4):=by show _=_;rw[<-t2,cg,hq4]
  have HQ4:Hid (p<=q4):=by have:=HQ3.out;show _<=_;omega
  have HB4:=ae (fun (c':Int) (W:World) (hD:DR W a s (q3+v.length) n c')=>aK a s (q3+v.length) n c' W hs hD);rw[hq4] at HB4;clear ht t1 t2 t3 t4 hq4;go_wp2_with fail;refine(cM gm v r a s q3 n c v1 hs E1.out HT).mono ?_;rintro e v2 ⟨rfl,hd,hg⟩;have E2:=ae hd;have K2:=ae (ak K1.out hg);clear hd hg c1;go_wp2_with fail;refine(aZ 1 (bU v) _ (HG.out.kept K2.out).gl (by omega)).mono ?_;rintro e v3 ⟨rfl,hb⟩;have E3:=ae (E2.out.below hb);have K3:=ae (bB K2.out hb);clear hb;go_wp2_with fail;refine(gJ _ _ a s _ n c v3 E3.out).mono ?_;rintro e v4 ⟨rfl,hd,hg⟩;have E4:=ae hd;have K4:=ae (ak K3.out hg);clear hd hg;have NC:=ae (fG c (dm 1 (bU v)));generalize kL c (dm 1 (bU v))=c' at E4 NC;go_wp2_with fail;refine(HB4.out c' v4 E4.out).mono ?_;rintro e v5 ⟨rfl,hd,hg⟩;have E5:=ae hd;have K5:=ae (ak K4.out hg);clear hd hg;cases hh:aA 41 ((bl s).drop q4) with
  | false=>
   have HH:=ae hh;have EM:Hid (cF 3 ((bl s).drop (q+1))=none):=by show _=_;rw[EN.out];exact pY (by rw[SK2.out];exact hh)
   clear hh;go_wp2_with fail;refine(aG 41 a s q4 n c' v5 hs E5.out HH).mono ?_;rintro e v6 ⟨rfl,hd,hg⟩;have E6:=ae hd;have K6:=ae (ak K5.out hg);clear hd hg;go_wp2;go_ret3;exact bJ.no EM.out K6.out E6.out
  | true=>
   have HH:=ae hh;obtain⟨q5,hq5⟩:∃ q5,q4+1+aE aX ((bl s).drop (q4+1))=q5:=⟨_,rfl⟩
   have EM:Hid (cF 3 ((bl s).drop (q+1))=some (3,v,(bl s).drop q5)):=by
    show _=_;rw[EN.out,mU (by rw[SK2.out];exact hh),SK2.out,List.drop_drop,cg,hq5]
   have HB5:=ae (fun (W:World) (hD:DR W a s (q4+1) n c')=>aK a s (q4+1) n c' W hs hD);rw[hq5] at HB5;have HQ5:Hid (p<=q5):=by have:=HQ4.out;show _<=_;omega
   clear hh hq5;go_wp2_with fail;refine(aQ 41 a s q4 n c' v5 hs E5.out HH).mono ?_;rintro e v6 ⟨rfl,hd,hg⟩;have E6:=ae hd;have K6:=ae (ak K5.out hg);clear hd hg;go_wp2_with fail;refine(HB5.out v6 E6.out).mono ?_;rintro e v7 ⟨rfl,hd,hg⟩;have E7:=ae hd;have K7:=ae (ak K6.out hg);clear hd hg;go_wp2;go_ret3;exact bJ.yes EM.out K7.out E7.out HQ5.out rfl NC.out
theorem sG (a:Nat)(s:BA)(p n q:Nat)(c:Int)(w:World)(hs:s.size<=4294967280)(hG:qU a w)(h:DR w a s p n c)(hq:p+aE aX ((bl s).drop p)=q)
  (H0:Hid (aA 61 ((bl s).drop q)=false))(H1:Hid (aA 60 ((bl s).drop q)=true))(H2:Hid (aA 60 ((bl s).drop (q+1))=true)):Calls Tryz.prog 260 #[.pointer (some ⟨a,0,none⟩)] w (bJ (cF 1 ((bl s).drop (q+2))) a s p n c w):=by
 have hB:=aK a s p n c w hs h;rw[hq] at hB;have HQ:Hid (p<=q):=by show _<=_;omega
 have HG:=ae hG;clear hG hq h;go_in;go_wp2_with fail;refine hB.mono ?_;rintro e w1 ⟨rfl,hd,hg⟩;have D1:=ae hd;have G1:=ae hg;clear hd hg hB;go_wp2_with fail;refine(aG 61 a s q n c w1 hs D1.out H0).mono ?_;rintro e w2 ⟨rfl,hd,hg⟩;have D2:=ae hd;have G2:=ae (ak G1.out hg);clear hd hg D1 G1 H0;go_wp2_with fail;refine(aQ 60 a s q n c w2 hs D2.out H1).mono ?_;rintro e w3 ⟨rfl,hd,hg⟩;have D3:=ae hd;have G3:=ae (ak G2.out hg);clear hd hg D2 G2 H1;go_wp2_with fail;refine(aQ 60 a s (q+1) n c w3 hs D3.out H2).mono ?_;rintro e w4 ⟨rfl,hd,hg⟩;have D4:=ae hd;have G4:=ae (ak G3.out hg);clear hd hg D3 G3 H2;obtain⟨q2,hq2⟩:∃ q2,(q+2)=q2:=⟨_,rfl⟩
 obtain⟨q3,hq3⟩:∃ q3,q2+aE aX ((bl s).drop q2)=q3:=⟨_,rfl⟩
 rw[hq2] at D4;have HQ3:Hid (p<=q3):=by have:=HQ.out;show _<=_;omega
 have SK:Hid (aO ((bl s).drop (q+2))=(bl s).drop q3):=by show _=_;rw[hq2,cg,hq3]
 have hB3:=aK a s q2 n c w4 hs D4.out;rw[hq3] at hB3;clear hq2 hq3 HQ;go_wp2_with fail;refine hB3.mono ?_;rintro e v1 ⟨rfl,hd,hg⟩;have E1:=ae hd;have K1:=ae (ak G4.out hg);clear hd hg hB3;obtain⟨f,y,k⟩:=E1.out.cells;have c1:=k.c1;clear k;cases ht:mR oA ((bl s).drop q3) with
 | none=>
  have HT:=ae ht;have EN:Hid (cF 1 ((bl s).drop (q+2))=none):=lJ (by rw[SK.out];exact ht);clear ht;go_wp2_with fail;refine(di gm a s q3 n c v1 hs E1.out HT).mono ?_;rintro e v2 ⟨rfl,hd,hg⟩;have E2:=ae hd;have K2:=ae (ak K1.out hg);clear hd hg c1;go_wp2;go_ret3;exact bJ.no EN.out K2.out E2.out
 | some x=>
  obtain⟨v,r⟩:=x;have HT:=ae ht;obtain⟨t1,t2,t3,t4⟩:=eC E1.out.le ht;have EN:Hid (cF 1 ((bl s).drop (q+2))=lG 1 v r):=lK (by decide) (by rw[SK.out];exact ht);have hvz:(bU v).size<=4294967280:=by rw[cA];omega
  obtain⟨q4,hq4⟩:∃ q4,q3+v.length+aE aX ((bl s).drop (q3+v.length))=q4:=⟨_,rfl⟩
  have SK2:Hid (aO r=(bl s).drop q4):=by show _=_;rw[<-t2,cg,hq4]
  have HQ4:Hid (p<=q4):=by have:=HQ3.out;show _<=_;omega
  have HB4:=ae (fun (c':Int) (W:World) (hD:DR W a s (q3+v.length) n c')=>aK a s (q3+v.length) n c' W hs hD);rw[hq4] at HB4;clear ht t1 t2 t3 t4 hq4;go_wp2_with fail;refine(cM gm v r a s q3 n c v1 hs E1.out HT).mono ?_;rintro e v2 ⟨rfl,hd,hg⟩;have E2:=ae hd;have K2:=ae (ak K1.out hg);clear hd hg c1;go_wp2_with fail;refine(aZ 1 (bU v) _ (HG.out.kept K2.out).gl (by omega)).mono ?_;rintro e v3 ⟨rfl,hb⟩;have E3:=ae (E2.out.below hb);have K3:=ae (bB K2.out hb);clear hb;go_wp2_with fail;refine(gJ _ _ a s _ n c v3 E3.out).mono ?_;rintro e v4 ⟨rfl,hd,hg⟩;have E4:=ae hd;have K4:=ae (ak K3.out hg);clear hd hg;have NC:=ae (fG c (dm 1 (bU v)));generalize kL c (dm 1 (bU v))=c' at E4 NC;go_wp2_with fail;refine(HB4.out c' v4 E4.out).mono ?_;rintro e v5 ⟨rfl,hd,hg⟩;have E5:=ae hd;have K5:=ae (ak K4.out hg);clear hd hg;cases hh:aA 41 ((bl s).drop q4) with
  | false=>
   have HH:=ae hh;have EM:Hid (cF 1 ((bl s).drop (q+2))=none):=by show _=_;rw[EN.out];exact pY (by rw[SK2.out];exact hh)
   clear hh;go_wp2_with fail;refine(aG 41 a s q4 n c' v5 hs E5.out HH).mono ?_;rintro e v6 ⟨rfl,hd,hg⟩;have E6:=ae hd;have K6:=ae (ak K5.out hg);clear hd hg;go_wp2;go_ret3;exact bJ.no EM.out K6.out E6.out
  | true=>
   have HH:=ae hh;obtain⟨q5,hq5⟩:∃ q5,q4+1+aE aX ((bl s).drop (q4+1))=q5:=⟨_,rfl⟩
   have EM:Hid (cF 1 ((bl s).drop (q+2))=some (1,v,(bl s).drop q5)):=by
    show _=_;rw[EN.out,mU (by rw[SK2.out];exact hh),SK2.out,List.drop_drop,cg,hq5]
   have HB5:=ae (fun (W:World) (hD:DR W a s (q4+1) n c')=>aK a s (q4+1) n c' W hs hD);rw[hq5] at HB5;have HQ5:Hid (p<=q5):=by have:=HQ4.out;show _<=_;omega
   clear hh hq5;go_wp2_with fail;refine(aQ 41 a s q4 n c' v5 hs E5.out HH).mono ?_;rintro e v6 ⟨rfl,hd,hg⟩;have E6:=ae hd;have K6:=ae (ak K5.out hg);clear hd hg;go_wp2_with fail;refine(HB5.out v6 E6.out).mono ?_;rintro e v7 ⟨rfl,hd,hg⟩;have E7:=ae hd;have K7:=ae (ak K6.out hg);clear hd hg;go_wp2;go_ret3;exact bJ.yes EM.out K7.out E7.out HQ5.out rfl NC.out
theorem sH (a:Nat)(s:BA)(p n q:Nat)(c:Int)(w:World)(hs:s.size<=4294967280)(hG:qU a w)(h:DR w a s p n c)(hq:p+aE aX ((bl s).drop p)=q)
  (H0:Hid (aA 61 ((bl s).drop q)=false))(H1:Hid (aA 60 ((bl s).drop q)=true))(H2:Hid (aA 60 ((bl s).drop (q+1))=false))(H3:Hid (aA 61 ((bl s).drop (q+1))=true)):Calls Tryz.prog 260 #[.pointer (some ⟨a,0,none⟩)] w (bJ (cF 2 ((bl s).drop (q+2))) a s p n c w):=by
 have hB:=aK a s p n c w hs h;rw[hq] at hB;have HQ:Hid (p<=q):=by show _<=_;omega
 have HG:=ae hG;clear hG hq h;go_in;go_wp2_with fail;refine hB.mono ?_;rintro e w1 ⟨rfl,hd,hg⟩;have D1:=ae hd;have G1:=ae hg;clear hd hg hB;go_wp2_with fail;refine(aG 61 a s q n c w1 hs D1.out H0).mono ?_;rintro e w2 ⟨rfl,hd,hg⟩;have D2:=ae hd;have G2:=ae (ak G1.out hg);clear hd hg D1 G1 H0;go_wp2_with fail;refine(aQ 60 a s q n c w2 hs D2.out H1).mono ?_;rintro e w3 ⟨rfl,hd,hg⟩;have D3:=ae hd;have G3:=ae (ak G2.out hg);clear hd hg D2 G2 H1;go_wp2_with fail;refine(aG 60 a s (q+1) n c w3 hs D3.out H2).mono ?_;rintro e w4 ⟨rfl,hd,hg⟩;have D4:=ae hd;have G4:=ae (ak G3.out hg);clear hd hg D3 G3 H2;go_wp2_with fail;refine(aQ 61 a s (q+1) n c w4 hs D4.out H3).mono ?_;rintro e w5 ⟨rfl,hd,hg⟩;have D5:=ae hd;have G5:=ae (ak G4.out hg);clear hd hg D4 G4 H3;obtain⟨q2,hq2⟩:∃ q2,(q+2)=q2:=⟨_,rfl⟩
 obtain⟨q3,hq3⟩:∃ q3,q2+aE aX ((bl s).drop q2)=q3:=⟨_,rfl⟩
 rw[hq2] at D5;have HQ3:Hid (p<=q3):=by have:=HQ.out;show _<=_;omega
 have SK:Hid (aO ((bl s).drop (q+2))=(bl s).drop q3):=by show _=_;rw[hq2,cg,hq3]
 have hB3:=aK a s q2 n c w5 hs D5.out;rw[hq3] at hB3;clear hq2 hq3 HQ;go_wp2_with fail;refine hB3.mono ?_;rintro e v1 ⟨rfl,hd,hg⟩;have E1:=ae hd;have K1:=ae (ak G5.out hg);clear hd hg hB3;obtain⟨f,y,k⟩:=E1.out.cells;have c1:=k.c1;clear k;cases ht:mR oA ((bl s).drop q3) with
 | none=>
  have HT:=ae ht;have EN:Hid (cF 2 ((bl s).drop (q+2))=none):=lJ (by rw[SK.out];exact ht);clear ht;go_wp2_with fail;refine(di gm a s q3 n c v1 hs E1.out HT).mono ?_;rintro e v2 ⟨rfl,hd,hg⟩;have E2:=ae hd;have K2:=ae (ak K1.out hg);clear hd hg c1;go_wp2;go_ret3;exact bJ.no EN.out K2.out E2.out
 | some x=>
  obtain⟨v,r⟩:=x;have HT:=ae ht;obtain⟨t1,t2,t3,t4⟩:=eC E1.out.le ht;have EN:Hid (cF 2 ((bl s).drop (q+2))=lG 2 v r):=lK (by decide) (by rw[SK.out];exact ht);have hvz:(bU v).size<=4294967280:=by rw[cA];omega
  obtain⟨q4,hq4⟩:∃ q4,q3+v.length+aE aX ((bl s).drop (q3+v.length))=q4:=⟨_,rfl⟩
  have SK2:Hid (aO r=(bl s).drop q4):=by show _=_;rw[<-t2,cg,hq4]
  have HQ4:Hid (p<=q4):=by have:=HQ3.out;show _<=_;omega
  have HB4:=ae (fun (c':Int) (W:World) (hD:DR W a s (q3+v.length) n c')=>aK a s (q3+v.length) n c' W hs hD);rw[hq4] at HB4;clear ht t1 t2 t3 t4 hq4;go_wp2_with fail;refine(cM gm v r a s q3 n c v1 hs E1.out HT).mono ?_;rintro e v2 ⟨rfl,hd,hg⟩;have E2:=ae hd;have K2:=ae (ak K1.out hg);clear hd hg c1;go_wp2_with fail;refine(aZ 1 (bU v) _ (HG.out.kept K2.out).gl (by omega)).mono ?_;rintro e v3 ⟨rfl,hb⟩;have E3:=ae (E2.out.below hb);have K3:=ae (bB K2.out hb);clear hb;go_wp2_with fail;refine(gJ _ _ a s _ n c v3 E3.out).mono ?_;rintro e v4 ⟨rfl,hd,hg⟩;have E4:=ae hd;have K4:=ae (ak K3.out hg);clear hd hg;have NC:=ae (fG c (dm 1 (bU v)));generalize kL c (dm 1 (bU v))=c' at E4 NC;go_wp2_with fail;refine(HB4.out c' v4 E4.out).mono ?_;rintro e v5 ⟨rfl,hd,hg⟩;have E5:=ae hd;have K5:=ae (ak K4.out hg);clear hd hg;cases hh:aA 41 ((bl s).drop q4) with
  | false=>
   have HH:=ae hh;have EM:Hid (cF 2 ((bl s).drop (q+2))=none):=by show _=_;rw[EN.out];exact pY (by rw[SK2.out];exact hh)
   clear hh;go_wp2_with fail;refine(aG 41 a s q4 n c' v5 hs E5.out HH).mono ?_;rintro e v6 ⟨rfl,hd,hg⟩;have E6:=ae hd;have K6:=ae (ak K5.out hg);clear hd hg;go_wp2;go_ret3;exact bJ.no EM.out K6.out E6.out
  | true=>
   have HH:=ae hh;obtain⟨q5,hq5⟩:∃ q5,q4+1+aE aX ((bl s).drop (q4+1))=q5:=⟨_,rfl⟩
   have EM:Hid (cF 2 ((bl s).drop (q+2))=some (2,v,(bl s).drop q5)):=by
    show _=_;rw[EN.out,mU (by rw[SK2.out];exact hh),SK2.out,List.drop_drop,cg,hq5]
   have HB5:=ae (fun (W:World) (hD:DR W a s (q4+1) n c')=>aK a s (q4+1) n c' W hs hD);rw[hq5] at HB5;have HQ5:Hid (p<=q5):=by have:=HQ4.out;show _<=_;omega
   clear hh hq5;go_wp2_with fail;refine(aQ 41 a s q4 n c' v5 hs E5.out HH).mono ?_;rintro e v6 ⟨rfl,hd,hg⟩;have E6:=ae hd;have K6:=ae (ak K5.out hg);clear hd hg;go_wp2_with fail;refine(HB5.out v6 E6.out).mono ?_;rintro e v7 ⟨rfl,hd,hg⟩;have E7:=ae hd;have K7:=ae (ak K6.out hg);clear hd hg;go_wp2;go_ret3;exact bJ.yes EM.out K7.out E7.out HQ5.out rfl NC.out
theorem sI (a:Nat)(s:BA)(p n q:Nat)(c:Int)(w:World)(hs:s.size<=4294967280)(hG:qU a w)(h:DR w a s p n c)(hq:p+aE aX ((bl s).drop p)=q)
  (H0:Hid (aA 61 ((bl s).drop q)=false))(H1:Hid (aA 60 ((bl s).drop q)=false))(H2:Hid (aA 62 ((bl s).drop q)=true))(H3:Hid (aA 62 ((bl s).drop (q+1))=true)):Calls Tryz.prog 260 #[.pointer (some ⟨a,0,none⟩)] w (bJ (cF 5 ((bl s).drop (q+2))) a s p n c w):=by
 have hB:=aK a s p n c w hs h;rw[hq] at hB;have HQ:Hid (p<=q):=by show _<=_;omega
 have HG:=ae hG;clear hG hq h;go_in;go_wp2_with fail;refine hB.mono ?_;rintro e w1 ⟨rfl,hd,hg⟩;have D1:=ae hd;have G1:=ae hg;clear hd hg hB;go_wp2_with fail;refine(aG 61 a s q n c w1 hs D1.out H0).mono ?_;rintro e w2 ⟨rfl,hd,hg⟩;have D2:=ae hd;have G2:=ae (ak G1.out hg);clear hd hg D1 G1 H0;go_wp2_with fail;refine(aG 60 a s q n c w2 hs D2.out H1).mono ?_;rintro e w3 ⟨rfl,hd,hg⟩;have D3:=ae hd;have G3:=ae (ak G2.out hg);clear hd hg D2 G2 H1;go_wp2_with fail;refine(aQ 62 a s q n c w3 hs D3.out H2).mono ?_;rintro e w4 ⟨rfl,hd,hg⟩;have D4:=ae hd;have G4:=ae (ak G3.out hg);clear hd hg D3 G3 H2;go_wp2_with fail;refine(aQ 62 a s (q+1) n c w4 hs D4.out H3).mono ?_;rintro e w5 ⟨rfl,hd,hg⟩;have D5:=ae hd;have G5:=ae (ak G4.out hg);clear hd hg D4 G4 H3;obtain⟨q2,hq2⟩:∃ q2,(q+2)=q2:=⟨_,rfl⟩
 obtain⟨q3,hq3⟩:∃ q3,q2+aE aX ((bl s).drop q2)=q3:=⟨_,rfl⟩
 rw[hq2] at D5;have HQ3:Hid (p<=q3):=by have:=HQ.out;show _<=_;omega
 have SK:Hid (aO ((bl s).drop (q+2))=(bl s).drop q3):=by show _=_;rw[hq2,cg,hq3]
 have hB3:=aK a s q2 n c w5 hs D5.out;rw[hq3] at hB3;clear hq2 hq3 HQ;go_wp2_with fail;refine hB3.mono ?_;rintro e v1 ⟨rfl,hd,hg⟩;have E1:=ae hd;have K1:=ae (ak G5.out hg);clear hd hg hB3;obtain⟨f,y,k⟩:=E1.out.cells;have c1:=k.c1;clear k;cases ht:mR oA ((bl s).drop q3) with
 | none=>
  have HT:=ae ht;have EN:Hid (cF 5 ((bl s).drop (q+2))=none):=lJ (by rw[SK.out];exact ht);clear ht;go_wp2_with fail;refine(di gm a s q3 n c v1 hs E1.out HT).mono ?_;rintro e v2 ⟨rfl,hd,hg⟩;have E2:=ae hd;have K2:=ae (ak K1.out hg);clear hd hg c1;go_wp2;go_ret3;exact bJ.no EN.out K2.out E2.out
 | some x=>
  obtain⟨v,r⟩:=x;have HT:=ae ht;obtain⟨t1,t2,t3,t4⟩:=eC E1.out.le ht;have EN:Hid (cF 5 ((bl s).drop (q+2))=lG 5 v r):=lK (by decide) (by rw[SK.out];exact ht);have hvz:(bU v).size<=4294967280:=by rw[cA];omega
  obtain⟨q4,hq4⟩:∃ q4,q3+v.length+aE aX ((bl s).drop (q3+v.length))=q4:=⟨_,rfl⟩
  have SK2:Hid (aO r=(bl s).drop q4):=by show _=_;rw[<-t2,cg,hq4]
  have HQ4:Hid (p<=q4):=by have:=HQ3.out;show _<=_;omega
  have HB4:=ae (fun (c':Int) (W:World) (hD:DR W a s (q3+v.length) n c')=>aK a s (q3+v.length) n c' W hs hD);rw[hq4] at HB4;clear ht t1 t2 t3 t4 hq4;go_wp2_with fail;refine(cM gm v r a s q3 n c v1 hs E1.out HT).mono ?_;rintro e v2 ⟨rfl,hd,hg⟩;have E2:=ae hd;have K2:=ae (ak K1.out hg);clear hd hg c1;go_wp2_with fail;refine(aZ 1 (bU v) _ (HG.out.kept K2.out).gl (by omega)).mono ?_;rintro e v3 ⟨rfl,hb⟩;have E3:=ae (E2.out.below hb);have K3:=ae (bB K2.out hb);clear hb;go_wp2_with fail;refine(gJ _ _ a s _ n c v3 E3.out).mono ?_;rintro e v4 ⟨rfl,hd,hg⟩;have E4:=ae hd;have K4:=ae (ak K3.out hg);clear hd hg;have NC:=ae (fG c (dm 1 (bU v)));generalize kL c (dm 1 (bU v))=c' at E4 NC;go_wp2_with fail;refine(HB4.out c' v4 E4.out).mono ?_;rintro e v5 ⟨rfl,hd,hg⟩;have E5:=ae hd;have K5:=ae (ak K4.out hg);clear hd hg;cases hh:aA 41 ((bl s).drop q4) with
  | false=>
   have HH:=ae hh;have EM:Hid (cF 5 ((bl s).drop (q+2))=none):=by show _=_;rw[EN.out];exact pY (by rw[SK2.out];exact hh)
   clear hh;go_wp2_with fail;refine(aG 41 a s q4 n c' v5 hs E5.out HH).mono ?_;rintro e v6 ⟨rfl,hd,hg⟩;have E6:=ae hd;have K6:=ae (ak K5.out hg);clear hd hg;go_wp2;go_ret3;exact bJ.no EM.out K6.out E6.out
  | true=>
   have HH:=ae hh;obtain⟨q5,hq5⟩:∃ q5,q4+1+aE aX ((bl s).drop (q4+1))=q5:=⟨_,rfl⟩
   have EM:Hid (cF 5 ((bl s).drop (q+2))=some (5,v,(bl s).drop q5)):=by
    show _=_;rw[EN.out,mU (by rw[SK2.out];exact hh),SK2.out,List.drop_drop,cg,hq5]
   have HB5:=ae (fun (W:World) (hD:DR W a s (q4+1) n c')=>aK a s (q4+1) n c' W hs hD);rw[hq5] at HB5;have HQ5:Hid (p<=q5):=by have:=HQ4.out;show _<=_;omega
   clear hh hq5;go_wp2_with fail;refine(aQ 41 a s q4 n c' v5 hs E5.out HH).mono ?_;rintro e v6 ⟨rfl,hd,hg⟩;have E6:=ae hd;have K6:=ae (ak K5.out hg);clear hd hg;go_wp2_with fail;refine(HB5.out v6 E6.out).mono ?_;rintro e v7 ⟨rfl,hd,hg⟩;have E7:=ae hd;have K7:=ae (ak K6.out hg);clear hd hg;go_wp2;go_ret3;exact bJ.yes EM.out K7.out E7.out HQ5.out rfl NC.out
theorem sJ (a:Nat)(s:BA)(p n q:Nat)(c:Int)(w:World)(hs:s.size<=4294967280)(hG:qU a w)(h:DR w a s p n c)(hq:p+aE aX ((bl s).drop p)=q)
  (H0:Hid (aA 61 ((bl s).drop q)=false))(H1:Hid (aA 60 ((bl s).drop q)=false))(H2:Hid (aA 62 ((bl s).drop q)=true))(H3:Hid (aA 62 ((bl s).drop (q+1))=false))(H4:Hid (aA 61 ((bl s).drop (q+1))=true)):Calls Tryz.prog 260 #[.pointer (some ⟨a,0,none⟩)] w (bJ (cF 4 ((bl s).drop (q+2))) a s p n c w):=by
 have hB:=aK a s p n c w hs h;rw[hq] at hB;have HQ:Hid (p<=q):=by show _<=_;omega
 have HG:=ae hG;clear hG hq h;go_in;go_wp2_with fail;refine hB.mono ?_;rintro e w1 ⟨rfl,hd,hg⟩;have D1:=ae hd;have G1:=ae hg;clear hd hg hB;go_wp2_with fail;refine(aG 61 a s q n c w1 hs D1.out H0).mono ?_;rintro e w2 ⟨rfl,hd,hg⟩;have D2:=ae hd;have G2:=ae (ak G1.out hg);clear hd hg D1 G1 H0;go_wp2_with fail;refine(aG 60 a s q n c w2 hs D2.out H1).mono ?_;rintro e w3 ⟨rfl,hd,hg⟩;have D3:=ae hd;have G3:=ae (ak G2.out hg);clear hd hg D2 G2 H1;go_wp2_with fail;refine(aQ 62 a s q n c w3 hs D3.out H2).mono ?_;rintro e w4 ⟨rfl,hd,hg⟩;have D4:=ae hd;have G4:=ae (ak G3.out hg);clear hd hg D3 G3 H2;go_wp2_with fail;refine(aG 62 a s (q+1) n c w4 hs D4.out H3).mono ?_;rintro e w5 ⟨rfl,hd,hg⟩;have D5:=ae hd;have G5:=ae (ak G4.out hg);clear hd hg D4 G4 H3;go_wp2_with fail;refine(aQ 61 a s (q+1) n c w5 hs D5.out H4).mono ?_;rintro e w6 ⟨rfl,hd,hg⟩;have D6:=ae hd;have G6:=ae (ak G5.out hg);clear hd hg D5 G5 H4;obtain⟨q2,hq2⟩:∃ q2,(q+2)=q2:=⟨_,rfl⟩
 obtain⟨q3,hq3⟩:∃ q3,q2+aE aX ((bl s).drop q2)=q3:=⟨_,rfl⟩
 rw[hq2] at D6;have HQ3:Hid (p<=q3):=by have:=HQ.out;show _<=_;omega
 have SK:Hid (aO ((bl s).drop (q+2))=(bl s).drop q3):=by show _=_;rw[hq2,cg,hq3]
 have hB3:=aK a s q2 n c w6 hs D6.out;rw[hq3] at hB3;clear hq2 hq3 HQ;go_wp2_with fail;refine hB3.mono ?_;rintro e v1 ⟨rfl,hd,hg⟩;have E1:=ae hd;have K1:=ae (ak G6.out hg);clear hd hg hB3;obtain⟨f,y,k⟩:=E1.out.cells;have c1:=k.c1;clear k;cases ht:mR oA ((bl s).drop q3) with
 | none=>
  have HT:=ae ht;have EN:Hid (cF 4 ((bl s).drop (q+2))=none):=lJ (by rw[SK.out];exact ht);clear ht;go_wp2_with fail;refine(di gm a s q3 n c v1 hs E1.out HT).mono ?_;rintro e v2 ⟨rfl,hd,hg⟩;have E2:=ae hd;have K2:=ae (ak K1.out hg);clear hd hg c1;go_wp2;go_ret3;exact bJ.no EN.out K2.out E2.out
 | some x=>
  obtain⟨v,r⟩:=x;have HT:=ae ht;obtain⟨t1,t2,t3,t4⟩:=eC E1.out.le ht;have EN:Hid (cF 4 ((bl s).drop (q+2))=lG 4 v r):=lK (by decide) (by rw[SK.out];exact ht);have hvz:(bU v).size<=4294967280:=by rw[cA];omega
  obtain⟨q4,hq4⟩:∃ q4,q3+v.length+aE aX ((bl s).drop (q3+v.length))=q4:=⟨_,rfl⟩
  have SK2:Hid (aO r=(bl s).drop q4):=by show _=_;rw[<-t2,cg,hq4]
  have HQ4:Hid (p<=q4):=by have:=HQ3.out;show _<=_;omega
  have HB4:=ae (fun (c':Int) (W:World) (hD:DR W a s (q3+v.length) n c')=>aK a s (q3+v.length) n c' W hs hD);rw[hq4] at HB4;clear ht t1 t2 t3 t4 hq4;go_wp2_with fail;refine(cM gm v r a s q3 n c v1 hs E1.out HT).mono ?_;rintro e v2 ⟨rfl,hd,hg⟩;have E2:=ae hd;have K2:=ae (ak K1.out hg);clear hd hg c1;go_wp2_with fail;refine(aZ 1 (bU v) _ (HG.out.kept K2.out).gl (by omega)).mono ?_;rintro e v3 ⟨rfl,hb⟩;have E3:=ae (E2.out.below hb);have K3:=ae (bB K2.out hb);clear hb;go_wp2_with fail;refine(gJ _ _ a s _ n c v3 E3.out).mono ?_;rintro e v4 ⟨rfl,hd,hg⟩;have E4:=ae hd;have K4:=ae (ak K3.out hg);clear hd hg;have NC:=ae (fG c (dm 1 (bU v)));generalize kL c (dm 1 (bU v))=c' at E4 NC;go_wp2_with fail;refine(HB4.out c' v4 E4.out).mono ?_;rintro e v5 ⟨rfl,hd,hg⟩;have E5:=ae hd;have K5:=ae (ak K4.out hg);clear hd hg;cases hh:aA 41 ((bl s).drop q4) with
  | false=>
   have HH:=ae hh;have EM:Hid (cF 4 ((bl s).drop (q+2))=none):=by show _=_;rw[EN.out];exact pY (by rw[SK2.out];exact hh)
   clear hh;go_wp2_with fail;refine(aG 41 a s q4 n c' v5 hs E5.out HH).mono ?_;rintro e v6 ⟨rfl,hd,hg⟩;have E6:=ae hd;have K6:=ae (ak K5.out hg);clear hd hg;go_wp2;go_ret3;exact bJ.no EM.out K6.out E6.out
  | true=>
   have HH:=ae hh;obtain⟨q5,hq5⟩:∃ q5,q4+1+aE aX ((bl s).drop (q4+1))=q5:=⟨_,rfl⟩
   have EM:Hid (cF 4 ((bl s).drop (q+2))=some (4,v,(bl s).drop q5)):=by
    show _=_;rw[EN.out,mU (by rw[SK2.out];exact hh),SK2.out,List.drop_drop,cg,hq5]
   have HB5:=ae (fun (W:World) (hD:DR W a s (q4+1) n c')=>aK a s (q4+1) n c' W hs hD);rw[hq5] at HB5;have HQ5:Hid (p<=q5):=by have:=HQ4.out;show _<=_;omega
   clear hh hq5;go_wp2_with fail;refine(aQ 41 a s q4 n c' v5 hs E5.out HH).mono ?_;rintro e v6 ⟨rfl,hd,hg⟩;have E6:=ae hd;have K6:=ae (ak K5.out hg);clear hd hg;go_wp2_with fail;refine(HB5.out v6 E6.out).mono ?_;rintro e v7 ⟨rfl,hd,hg⟩;have E7:=ae hd;have K7:=ae (ak K6.out hg);clear hd hg;go_wp2;go_ret3;exact bJ.yes EM.out K7.out E7.out HQ5.out rfl NC.out
theorem sK (a:Nat)(s:BA)(p n q:Nat)(c:Int)(w:World)(hs:s.size<=4294967280)(hG:qU a w)(h:DR w a s p n c)(hq:p+aE aX ((bl s).drop p)=q)
  (H0:Hid (aA 61 ((bl s).drop q)=false))(H1:Hid (aA 60 ((bl s).drop q)=true))(H2:Hid (aA 60 ((bl s).drop (q+1))=false))(H3:Hid (aA 61 ((bl s).drop (q+1))=false)):Calls Tryz.prog 260 #[.pointer (some ⟨a,0,none⟩)] w (bJ (cF 0 ((bl s).drop (q+1))) a s p n c w):=by
 have hB:=aK a s p n c w hs h;rw[hq] at hB;have HQ:Hid (p<=q):=by show _<=_;omega
 have HG:=ae hG;clear hG hq h;go_in;go_wp2_with fail;refine hB.mono ?_;rintro e w1 ⟨rfl,hd,hg⟩;have D1:=ae hd;have G1:=ae hg;clear hd hg hB;go_wp2_with fail;refine(aG 61 a s q n c w1 hs D1.out H0).mono ?_;rintro e w2 ⟨rfl,hd,hg⟩;have D2:=ae hd;have G2:=ae (ak G1.out hg);clear hd hg D1 G1 H0;go_wp2_with fail;refine(aQ 60 a s q n c w2 hs D2.out H1).mono ?_;rintro e w3 ⟨rfl,hd,hg⟩;have D3:=ae hd;have G3:=ae (ak G2.out hg);clear hd hg D2 G2 H1;go_wp2_with fail;refine(aG 60 a s (q+1) n c w3 hs D3.out H2).mono ?_;rintro e w4 ⟨rfl,hd,hg⟩;have D4:=ae hd;have G4:=ae (ak G3.out hg);clear hd hg D3 G3 H2;go_wp2_with fail;refine(aG 61 a s (q+1) n c w4 hs D4.out H3).mono ?_;rintro e w5 ⟨rfl,hd,hg⟩;have D5:=ae hd;have G5:=ae (ak G4.out hg);clear hd hg D4 G4 H3;go_wp2;go_ret3;exact bJ.no (by unfold cF;rfl) G5.out D5.out
theorem sL (a:Nat)(s:BA)(p n q:Nat)(c:Int)(w:World)(hs:s.size<=4294967280)(hG:qU a w)(h:DR w a s p n c)(hq:p+aE aX ((bl s).drop p)=q)
  (H0:Hid (aA 61 ((bl s).drop q)=false))(H1:Hid (aA 60 ((bl s).drop q)=false))(H2:Hid (aA 62 ((bl s).drop q)=true))(H3:Hid (aA 62 ((bl s).drop (q+1))=false))(H4:Hid (aA 61 ((bl s).drop (q+1))=false)):Calls Tryz.prog 260 #[.pointer (some ⟨a,0,none⟩)] w (bJ (cF 0 ((bl s).drop (q+1))) a s p n c w):=by
 have hB:=aK a s p n c w hs h;rw[hq] at hB;have HQ:Hid (p<=q):=by show _<=_;omega
 have HG:=ae hG;clear hG hq h;go_in;go_wp2_with fail;refine hB.mono ?_;rintro e w1 ⟨rfl,hd,hg⟩;have D1:=ae hd;have G1:=ae hg;clear hd hg hB;go_wp2_with fail;refine(aG 61 a s q n c w1 hs D1.out H0).mono ?_;rintro e w2 ⟨rfl,hd,hg⟩;have D2:=ae hd;have G2:=ae (ak G1.out hg);clear hd hg D1 G1 H0;go_wp2_with fail;refine(aG 60 a s q n c w2 hs D2.out H1).mono ?_;rintro e w3 ⟨rfl,hd,hg⟩;have D3:=ae hd;have G3:=ae (ak G2.out hg);clear hd hg D2 G2 H1;go_wp2_with fail;refine(aQ 62 a s q n c w3 hs D3.out H2).mono ?_;rintro e w4 ⟨rfl,hd,hg⟩;have D4:=ae hd;have G4:=ae (ak G3.out hg);clear hd hg D3 G3 H2;go_wp2_with fail;refine(aG 62 a s (q+1) n c w4 hs D4.out H3).mono ?_;rintro e w5 ⟨rfl,hd,hg⟩;have D5:=ae hd;have G5:=ae (ak G4.out hg);clear hd hg D4 G4 H3;go_wp2_with fail;refine(aG 61 a s (q+1) n c w5 hs D5.out H4).mono ?_;rintro e w6 ⟨rfl,hd,hg⟩;have D6:=ae hd;have G6:=ae (ak G5.out hg);clear hd hg D5 G5 H4;go_wp2;go_ret3;exact bJ.no (by unfold cF;rfl) G6.out D6.out
theorem sM (a:Nat)(s:BA)(p n q:Nat)(c:Int)(w:World)(hs:s.size<=4294967280)(hG:qU a w)(h:DR w a s p n c)(hq:p+aE aX ((bl s).drop p)=q)
  (H0:Hid (aA 61 ((bl s).drop q)=false))(H1:Hid (aA 60 ((bl s).drop q)=false))(H2:Hid (aA 62 ((bl s).drop q)=false)):Calls Tryz.prog 260 #[.pointer (some ⟨a,0,none⟩)] w (bJ (cF 0 ((bl s).drop q)) a s p n c w):=by
 have hB:=aK a s p n c w hs h;rw[hq] at hB;have HQ:Hid (p<=q):=by show _<=_;omega
 have HG:=ae hG;clear hG hq h;go_in;go_wp2_with fail;refine hB.mono ?_;rintro e w1 ⟨rfl,hd,hg⟩;have D1:=ae hd;have G1:=ae hg;clear hd hg hB;go_wp2_with fail;refine(aG 61 a s q n c w1 hs D1.out H0).mono ?_;rintro e w2 ⟨rfl,hd,hg⟩;have D2:=ae hd;have G2:=ae (ak G1.out hg);clear hd hg D1 G1 H0;go_wp2_with fail;refine(aG 60 a s q n c w2 hs D2.out H1).mono ?_;rintro e w3 ⟨rfl,hd,hg⟩;have D3:=ae hd;have G3:=ae (ak G2.out hg);clear hd hg D2 G2 H1;go_wp2_with fail;refine(aG 62 a s q n c w3 hs D3.out H2).mono ?_;rintro e w4 ⟨rfl,hd,hg⟩;have D4:=ae hd;have G4:=ae (ak G3.out hg);clear hd hg D3 G3 H2;go_wp2;go_ret3;exact bJ.no (by unfold cF;rfl) G4.out D4.out
theorem xd (a:Nat)(s:BA)(p n:Nat)(c:Int)(w:World)(hs:s.size<=4294967280)(hG:qU a w)(h:DR w a s p n c):Calls Tryz.prog 260 #[.pointer (some ⟨a,0,none⟩)] w (bJ (wX ((bl s).drop p)) a s p n c w):=by
 obtain⟨q,hq⟩:∃ q,p+aE aX ((bl s).drop p)=q:=⟨_,rfl⟩
 have e0:wX ((bl s).drop p)=cF (tr ((bl s).drop q)).1 (tr ((bl s).drop q)).2:=by unfold wX;rw[cg,hq]
 rw[e0];cases h61:aA 61 ((bl s).drop q) with
 | true=>
  have e:tr ((bl s).drop q)=(3,(bl s).drop (q+1)):=by unfold tr;rw[h61,List.drop_drop];rfl
  rw[e];exact sF a s p n q c w hs hG h hq h61
 | false=>
 cases h60:aA 60 ((bl s).drop q) with
 | true=>
  cases k60:aA 60 ((bl s).drop (q+1)) with
  | true=>
   have e:tr ((bl s).drop q)=(1,(bl s).drop (q+2)):=by unfold tr;rw[h61,h60,List.drop_drop,k60,List.drop_drop];rfl
   rw[e];exact sG a s p n q c w hs hG h hq h61 h60 k60
  | false=>
  cases k61:aA 61 ((bl s).drop (q+1)) with
  | true=>
   have e:tr ((bl s).drop q)=(2,(bl s).drop (q+2)):=by unfold tr;rw[h61,h60,List.drop_drop,k60,k61,List.drop_drop];rfl
   rw[e];exact sH a s p n q c w hs hG h hq h61 h60 k60 k61
  | false=>
   have e:tr ((bl s).drop q)=(0,(bl s).drop (q+1)):=by unfold tr;rw[h61,h60,List.drop_drop,k60,k61];rfl
   rw[e];exact sK a s p n q c w hs hG h hq h61 h60 k60 k61
 | false=>
 cases h62:aA 62 ((bl s).drop q) with
 | true=>
  cases k62:aA 62 ((bl s).drop (q+1)) with
  | true=>
   have e:tr ((bl s).drop q)=(5,(bl s).drop (q+2)):=by unfold tr;rw[h61,h60,h62,List.drop_drop,k62,List.drop_drop];rfl
   rw[e];exact sI a s p n q c w hs hG h hq h61 h60 h62 k62
  | false=>
  cases k61:aA 61 ((bl s).drop (q+1)) with
  | true=>
   have e:tr ((bl s).drop q)=(4,(bl s).drop (q+2)):=by unfold tr;rw[h61,h60,h62,List.drop_drop,k62,k61,List.drop_drop];rfl
   rw[e];exact sJ a s p n q c w hs hG h hq h61 h60 h62 k62 k61
  | false=>
   have e:tr ((bl s).drop q)=(0,(bl s).drop (q+1)):=by unfold tr;rw[h61,h60,h62,List.drop_drop,k62,k61];rfl
   rw[e];exact sL a s p n q c w hs hG h hq h61 h60 h62 k62 k61
 | false=>
  have e:tr ((bl s).drop q)=(0,(bl s).drop q):=by unfold tr;rw[h61,h60,h62];rfl
  rw[e];exact sM a s p n q c w hs hG h hq h61 h60 h62
end
end Go.Proofs.YtlglfpbhapmhiaaGreatDoor
