/- A part of the proof. -/
import Derived.Test.YtkmjcombhjombaaGreatDoorK08
import Derived.Test.YtkmjcombhjombaaGreatDoorK09
set_option maxRecDepth 100000
set_option maxHeartbeats 20000000
set_option linter.unusedVariables false
set_option linter.unusedSimpArgs false
namespace Go.Proofs.YtkmjcombhjombaaGreatDoor
variable{a l r:LU}{acc:List (LU)}{f i k n:Nat}{p q:UInt8->Bool}
section
open Go.RowKit
def rP (l:LU):Option (LU×LU×LU):=(xT l).map fun x=>([],x.2.1,x.2.2)
def oz (fmt:Int)(l:LU):Option (LU×LU×LU):=if fmt=1 then oj l else if fmt=2 then oo l else rP l
theorem xW (s:BA)(w:World)(hG:Gl w)(hs:s.size<=64):Calls Tryz.prog 108 #[.int .i64 3,.string s] w (xM (rP (bl s)) w):=by
 have F:=iV hG;clear hG;go_in;go_wp2_with fail;refine(CJ s _ F.out hs).mono ?_;rintro e H ⟨y,z⟩;cases ha:xT (bl s) with
 | none=>
  rw[ha] at z;obtain⟨A,n,c,p,q,rfl⟩:=z;have D:Hid (rP (bl s)=none):=by show _=_;unfold rP;rw[ha];rfl
  clear ha;go_wp2_with fail;refine bodyPost_ret (ju rfl _ _ _) rfl ?_;exact⟨⟨#[]⟩,⟨#[]⟩,⟨#[]⟩,3,rfl,by rw[D.out];exact⟨rfl,rfl,rfl,rfl⟩,y⟩
 | some x=>
  obtain⟨I,p,q⟩:=x;rw[ha] at z;obtain⟨A,c,rfl,_⟩:=z;have D:Hid (rP (bl s)=some ([],p,q)):=by show _=_;unfold rP;rw[ha];rfl
  clear ha;go_wp2_with fail;refine bodyPost_ret (ju rfl _ _ _) rfl ?_;exact⟨⟨#[]⟩,⟨p.toArray⟩,⟨q.toArray⟩,0,rfl,by rw[D.out];exact⟨rfl,rfl,pd p,pd q⟩,y⟩
theorem sG (fmt:Int)(hf:fmt=1\/fmt=2\/fmt=3)(s:BA)(w:World)(hG:Gl w)(hs:s.size<=64):Calls Tryz.prog 108 #[.int .i64 fmt,.string s] w (xM (oz fmt (bl s)) w):=by
 rcases hf with rfl | rfl | rfl
 ·exact wG s w hG hs
 ·exact xS s w hG hs
 ·exact xW s w hG hs
def kf (fmt:Int)(s:BA):Int:=if ¬ (fmt=1\/fmt=2\/fmt=3) then 9 else if 64<s.size then 4 else BV (oz fmt (bl s))
theorem sH (fmt:Int)(s:BA)(w:World)(hs:s.size<=9223372036854775807)(h:¬ (fmt=1\/fmt=2\/fmt=3)\/64<s.size):Calls Tryz.prog 108 #[.int .i64 fmt,.string s] w fun e w'=>e=.returned (.tuple #[.string ⟨#[]⟩,.string ⟨#[]⟩,.string ⟨#[]⟩,.int .i64 (kf fmt s)])/\w=w':=by
 by_cases y:fmt=1\/fmt=2\/fmt=3
 ·have D:64<s.size:=h.resolve_left (fun z=>z y);have E:Hid (kf fmt s=4):=by show _=_;unfold kf;rw[if_neg (fun z=>z y),if_pos D]
  clear h;rcases y with rfl | rfl | rfl
  all_goals
   go_in;go_wp2_with fail;refine bodyPost_ret (ju rfl _ _ _) rfl ?_;exact⟨by rw[E.out];rfl,rfl⟩
 ·have E:Hid (kf fmt s=9):=by show _=_;unfold kf;rw[if_pos y]
  have H:(fmt != 1)=true:=by simp[bne];omega
  have I:(fmt != 2)=true:=by simp[bne];omega
  have F:(fmt != 3)=true:=by simp[bne];omega
  clear h y;go_in;go_wp2_with fail;refine bodyPost_ret (ju rfl _ _ _) rfl ?_;exact⟨by rw[E.out];rfl,rfl⟩
theorem jT (fmt:Int)(s:BA)(w:World)(hG:Gl w)(hs:s.size<=9223372036854775807):Calls Tryz.prog 65 #[.int .i64 fmt,.string s] w fun e w'=>e=.returned (.int .i64 (kf fmt s))/\Below w.heap.size w w':=by
 have J:=iV hG;clear hG;by_cases h:¬ (fmt=1\/fmt=2\/fmt=3)\/64<s.size
 ·have N:=iV h;clear h;go_in;go_wp2_with fail;refine(sH fmt s _ hs N.out).mono ?_;rintro e K ⟨rfl,rfl⟩;go_wp2;go_ret;exact⟨rfl,bR⟩
 ·have F:fmt=1\/fmt=2\/fmt=3:=Classical.byContradiction fun z=>h (.inl z);have H:¬ 64<s.size:=fun z=>h (.inr z);have E:Hid (kf fmt s=BV (oz fmt (bl s))):=by show _=_;unfold kf;rw[if_neg (fun z=>z F),if_neg H]
  have M:=iV F;clear h F;go_in;go_wp2_with fail;refine(sG fmt M.out s _ J.out (by omega)).mono ?_;rintro e K ⟨U,O,R,c,rfl,y,D⟩;have I:=iV y;clear y;go_wp2;go_ret;refine⟨jz ?_,D⟩;rw[E.out];have y:=I.out;cases h:oz fmt (bl s) with
  | none=>rw[h] at y;exact y.1
  | some x=>obtain⟨a,b,d⟩:=x;rw[h] at y;exact y.1
def ke (l:LU):BA:=⟨l.toArray⟩
theorem lS (l:LU):bl (ke l)=l:=pd l
theorem oQ (s:BA):ke (bl s)=s:=nH (pd _)
theorem kL (l:LU):(ke l).size=l.length:=by rw[<-iX,lS]
theorem Hd {s:BA}(h:bl s=l):s=ke l:=by rw[<-h,oQ]
structure mo where
 no:Bool
 name:LU
 op:Nat
 ver:LU
def mo.cells (x:mo):List Value:=[.bool x.no,.string (ke x.name),.int .i64 x.op,.string (ke x.ver)]
theorem Jn (x:mo):x.cells.length=4:=rfl
def jN (c:UInt8):Bool:=c==32
def me (c:UInt8):Bool:=c != 32
def Gf (c:UInt8):Bool:=c==60||c==61||c==62||c==126
def rj (c:UInt8):Bool:=!Gf c
def AE:LU->Nat×LU
 | []=>(0,[])
 | a::r=>if a==60 then (if jl 61 r then (2,r.drop 1) else (1,r)) else if a==61 then (3,r) else if a==62 then (if jl 61 r then (4,r.drop 1) else (5,r)) else if a==126 then (6,r) else (0,a::r)
def kY (l:LU):LU:=if jl 33 l then l.drop 1 else l
def He (no:Bool)(name t:LU):Option mo:=
 if t.isEmpty then some ⟨no,name,0,[]⟩ else if kf 3 (ke (AE t).2)=0 then some ⟨no,name,(AE t).1,(AE t).2⟩ else none
def oR (l:LU):Option mo:=
 if lV ((kY l).take (jo rj (kY l))) then He (jl 33 l) ((kY l).take (jo rj (kY l))) ((kY l).drop (jo rj (kY l))) else none
def pV:Nat->Nat->LU->Option (List mo)
 | 0,_,_=>none
 | f+1,n,l=>
  let r:=l.drop (jo jN l)
  if r.isEmpty then some [] else if n=64 then none else
  match oR (r.take (jo me r)) with
  | none=>none
  | some x=>(pV f (n+1) (r.drop (jo me r))).map (x :: ·)
def mq (l:LU):Option (List mo):=pV (l.length+1) 0 l
def mo.right (x:mo):Prop:=lV x.name=true/\x.op<=6/\(x.op=0->x.ver=[])/\(0<x.op->kf 3 (ke x.ver)=0)
theorem Z6 (l:LU):(AE l).1<=6:=by
 unfold AE;split
 ·simp
 ·repeat' split
  all_goals simp
def Vt:LU->Bool
 | []=>false
 | a::_=>Gf a
theorem Yo (l:LU)(h:Vt l=true):0<(AE l).1:=by
 cases l with
 | nil=>simp[Vt] at h
 | cons a r=>
  unfold AE;simp only[Vt,Gf,Bool.or_eq_true] at h
  repeat' split
  all_goals first | (simp;done) | (rcases h with((h | h) | h) | h<;>simp_all)
theorem CM (l:LU)(h:(l.drop (jo p l)).isEmpty=false):∃ a r,l.drop (jo p l)=a::r/\p a=false:=by
 refine vp l ?_;have z:=pm p l;rcases Nat.lt_or_ge (jo p l) l.length with y | y
 ·exact y
 ·rw[List.drop_eq_nil_of_le y] at h;simp at h
theorem KM {x:mo}(h:oR l=some x):x.right:=by
 unfold oR at h;split at h
 ·rename_i y;unfold He at h;split at h
  ·injection h with h;subst h;exact⟨y,by simp,by simp,by simp⟩
  ·rename_i z;split at h
   ·rename_i D;injection h with h;subst h;refine⟨y,Z6 _,fun I=>?_,fun _=>D⟩;exfalso;obtain⟨a,r,F,H⟩:=CM _ (Bool.eq_false_iff.2 z);have:=Yo _ (show Vt ((kY l).drop (jo rj (kY l)))=true by rw[F];simpa [Vt,rj] using H);simp only at I;omega
   ·cases h
 ·cases h
theorem uB:∀ (f n:Nat)(l:LU)(L:List mo),n<=64->pV f n l=some L->(∀ x∈L,x.right)/\n+L.length<=64
 | 0,n,l,L,_,h=>by simp[pV] at h
 | f+1,n,l,L,hn,h=>by
  unfold pV at h;simp only at h;split at h
  ·injection h with h;subst h;simpa using hn
  ·split at h
   ·cases h
   ·rename_i F;split at h
    ·cases h
    ·rename_i x H;obtain⟨M,D,rfl⟩:=Option.map_eq_some_iff.1 h;obtain⟨a,b⟩:=uB f (n+1) _ M (by omega) D;refine⟨fun y z=>?_,by simp;omega⟩;rcases List.mem_cons.1 z with rfl | z
     ·exact KM H
     ·exact a y z
theorem qM {a:UInt8}(h:p a=true):jo p (a::r)=jo p r+1:=by simp[jo,h]
theorem AF (f n:Nat)(r:LU):pV f n (32::r)=pV f n r:=by
 cases f with
 | zero=>rfl
 | succ f=>unfold pV;rw[qM (by rfl)];rfl
theorem zk (f n:Nat):pV (f+1) n []=some []:=by simp[pV,jo]
def KO (f n:Nat)(l:LU):Option (List mo):=
 if n=64 then none else match oR (l.take (jo me l)) with
  | none=>none
  | some x=>(pV f (n+1) (l.drop (jo me l))).map (x :: ·)
theorem wL (f n:Nat)(l:LU)(h:me (l.headD 32)=true):pV (f+1) n l=KO f n l:=by
 cases l with
 | nil=>simp[me] at h
 | cons a r=>
  have y:jN a=false:=by simpa [me,jN] using h
  unfold pV KO;rw[oK y];simp
theorem KP (h:me (l.headD 32)=true):pV (f+1) 64 l=none:=by rw[wL f 64 l h];simp[KO]
theorem N5 (h:me (l.headD 32)=true)(hw:oR (l.take (jo me l))=none):pV (f+1) n l=none:=by
 rw[wL f n l h];unfold KO;rw[hw];simp
theorem wM {x:mo}(h:me (l.headD 32)=true)(hn:n≠64)(hw:oR (l.take (jo me l))=some x):pV (f+1) n l=(pV f (n+1) (l.drop (jo me l))).map (x :: ·):=by
 rw[wL f n l h];unfold KO;rw[if_neg hn,hw]
def uC (f:Nat)(acc:List mo)(l:LU):Option (List mo):=(pV f acc.length l).map (acc++·)
theorem N6 (l:LU):mq l=uC (l.length+1) [] l:=by unfold mq uC;simp
theorem N7 (f:Nat)(acc:List mo)(r:LU):uC f acc (32::r)=uC f acc r:=by unfold uC;rw[AF]
theorem Vu (f:Nat)(acc:List mo):uC (f+1) acc []=some acc:=by unfold uC;rw[zk];simp
theorem Sp {acc:List mo}(h:me (l.headD 32)=true)(hw:oR (l.take (jo me l))=none):uC (f+1) acc l=none:=by unfold uC;rw[N5 h hw];rfl
theorem N8 {acc:List mo}(h:me (l.headD 32)=true)(hn:acc.length=64):uC (f+1) acc l=none:=by unfold uC;rw[hn,KP h];rfl
theorem Sq {acc:List mo}{x:mo}(h:me (l.headD 32)=true)(hn:acc.length≠64)(hw:oR (l.take (jo me l))=some x):uC (f+1) acc l=uC f (acc++[x]) (l.drop (jo me l)):=by
 unfold uC;rw[wM h hn hw];simp[Function.comp_def]
def pM:Nat->LU
 | 1=>[60]
 | 2=>[60,61]
 | 3=>[61]
 | 4=>[62,61]
 | 5=>[62]
 | 6=>[126]
 | _=>[]
def mo.text (x:mo):LU:=(if x.no then [33] else [])++(x.name++pM x.op++x.ver)
def mf (L:List mo):LU:=Lib.join (L.map mo.text) [32]
def pW (l:LU):Bool:=!l.isEmpty&&(match mq l with | some L=>decide (mf L=l) | none=>false)
def ly (l:LU):Nat->Nat×LU
 | 0=>(0,l)
 | i+1=>if Lib.hasPrefix l (pM i)&&decide ((Lib.trimPrefix l (pM i)).length<(ly l i).2.length) then (i,Lib.trimPrefix l (pM i)) else ly l i
theorem ue (l:LU)(i:Nat):ly l (i+1)=if Lib.hasPrefix l (pM i)&&decide ((Lib.trimPrefix l (pM i)).length<(ly l i).2.length) then (i,Lib.trimPrefix l (pM i)) else ly l i:=rfl
theorem ld (h:Lib.hasPrefix l (pM i)=false):ly l (i+1)=ly l i:=by rw[ue,h];rfl
theorem tm {b:LU}(h0:ly l i=(n,b))(h:Lib.hasPrefix l (pM i)=true)(ht:l.drop (pM i).length=r)(hl:r.length<b.length):ly l (i+1)=(i,r):=by
 have:Lib.trimPrefix l (pM i)=r:=by unfold Lib.trimPrefix;rw[if_pos h,ht]
 rw[ue,h,this,h0];simp[hl]
theorem Hf (l:LU):ly l 1=(0,l):=by
 rw[ue];have:Lib.trimPrefix l (pM 0)=l:=by unfold Lib.trimPrefix;simp[pM]
 rw[this];simp[ly]
theorem uD (c a:UInt8)(r:LU):Lib.hasPrefix (a::r) [c]=(c==a):=by unfold Lib.hasPrefix;simp only[List.isPrefixOf,Bool.and_true]
theorem KQ (c d a:UInt8)(r:LU):Lib.hasPrefix (a::r) [c,d]=(c==a&&jl d r):=by
 cases r with
 | nil=>unfold Lib.hasPrefix;simp only[List.isPrefixOf,jl]
 | cons b r=>unfold Lib.hasPrefix;simp only[List.isPrefixOf,jl,Bool.and_true];rw[Bool.beq_comm (a:=d)]
theorem Yp {c a:UInt8}(h:a≠c):(c==a)=false:=by simpa using fun e=>h e.symm
theorem Hg (l:LU):ly l 7=AE l:=by
 cases l with
 | nil=>rfl
 | cons a r=>
  by_cases J:a=60
  ·subst J;have M:ly (60::r) 2=(1,r):=tm (Hf _) (by rw[show pM 1=[60] from rfl,uD];rfl) rfl (by simp);have D:ly (60::r) 3=if jl 61 r then (2,r.drop 1) else (1,r):=by
    cases hb:jl 61 r with
    | false=>exact(ld (by rw[show pM 2=[60,61] from rfl,KQ,hb];rfl)).trans M
    | true=>
     refine tm M (by rw[show pM 2=[60,61] from rfl,KQ,hb];rfl) rfl ?_;rw[Hc hb];simp
   rw[ld (i:=6) (by rw[show pM 6=[126] from rfl,uD];rfl),ld (i:=5) (by rw[show pM 5=[62] from rfl,uD];rfl),ld (i:=4) (by rw[show pM 4=[62,61] from rfl,KQ];rfl),ld (i:=3) (by rw[show pM 3=[61] from rfl,uD];rfl),D];simp[AE]
  have N:=Yp J;have D:ly (a::r) 3=(0,a::r):=by
   rw[ld (i:=2) (by rw[show pM 2=[60,61] from rfl,KQ,N];rfl),ld (i:=1) (by rw[show pM 1=[60] from rfl,uD,N]),Hf]
  by_cases I:a=61
  ·subst I;have z:ly (61::r) 4=(3,r):=tm D (by rw[show pM 3=[61] from rfl,uD];rfl) rfl (by simp);rw[ld (i:=6) (by rw[show pM 6=[126] from rfl,uD];rfl),ld (i:=5) (by rw[show pM 5=[62] from rfl,uD];rfl),ld (i:=4) (by rw[show pM 4=[62,61] from rfl,KQ];rfl),z];simp[AE]
  have R:=Yp I;have z:ly (a::r) 4=(0,a::r):=by rw[ld (i:=3) (by rw[show pM 3=[61] from rfl,uD,R]),D]
  by_cases F:a=62
  ·subst F;cases hb:jl 61 r with
   | false=>
    have H:ly (62::r) 5=(0,62::r):=(ld (by rw[show pM 4=[62,61] from rfl,KQ,hb];rfl)).trans z;have y:ly (62::r) 6=(5,r):=tm H (by rw[show pM 5=[62] from rfl,uD];rfl) rfl (by simp);rw[ld (i:=6) (by rw[show pM 6=[126] from rfl,uD];rfl),y];simp[AE,hb]
   | true=>
    have H:ly (62::r) 5=(4,r.drop 1):=tm z (by rw[show pM 4=[62,61] from rfl,KQ,hb];rfl) rfl (by simp;omega);have y:ly (62::r) 6=(4,r.drop 1):=by
     rw[ue,H];have:Lib.trimPrefix (62::r) (pM 5)=r:=by unfold Lib.trimPrefix;rw[if_pos (by rw[show pM 5=[62] from rfl,uD];rfl)];rfl
     rw[this,if_neg (by simp)]
    rw[ld (i:=6) (by rw[show pM 6=[126] from rfl,uD];rfl),y];simp[AE,hb]
  have O:=Yp F;have y:ly (a::r) 6=(0,a::r):=by rw[ld (i:=5) (by rw[show pM 5=[62] from rfl,uD,O]),ld (i:=4) (by rw[show pM 4=[62,61] from rfl,KQ,O];rfl),z]
  by_cases K:a=126
  ·subst K;rw[tm (r:=r) y (by rw[show pM 6=[126] from rfl,uD];rfl) rfl (by simp)];simp[AE]
  ·rw[ld (i:=6) (by rw[show pM 6=[126] from rfl,uD,Yp K]),y];simp[AE,J,I,F,K]
structure kP where
 name:LU
 qual:LU
 op:Nat
 ver:LU
 archs:List (LU)
def KR (c:UInt8):Bool:=c==32||c==44||c==124||c==40||c==41||c==91||c==93
def KU (c:UInt8):Bool:=KR c||c==58
def abi (c:UInt8):Bool:=KU c||c==33
def uE (c:UInt8):Bool:=!KR c
def vX (c:UInt8):Bool:=!KU c
def rk (c:UInt8):Bool:=!abi c
def jq (l:LU):LU:=l.drop (jo jN l)
def uq (p:UInt8->Bool)(l:LU):Option (LU×LU):=if jo p l=0 then none else some (l.take (jo p l),l.drop (jo p l))
def AG (l:LU):Nat×LU:=
 if jl 61 l then (3,l.drop 1) else
 if jl 60 l then (if jl 60 (l.drop 1) then (1,(l.drop 1).drop 1) else if jl 61 (l.drop 1) then (2,(l.drop 1).drop 1) else (0,l.drop 1)) else
 if jl 62 l then (if jl 62 (l.drop 1) then (5,(l.drop 1).drop 1) else if jl 61 (l.drop 1) then (4,(l.drop 1).drop 1) else (0,l.drop 1)) else (0,l)
def sI (op:Nat)(v r:LU):Option (Nat×LU×LU):=if jl 41 (jq r) then some (op,v,jq ((jq r).drop 1)) else none
def lf (op:Nat)(l:LU):Option (Nat×LU×LU):=if op=0 then none else match uq uE (jq l) with
 | none=>none
 | some (v,r)=>sI op v r
def CO (l:LU):Option (Nat×LU×LU):=lf (AG (jq l)).1 (AG (jq l)).2
def Hh (l:LU):LU:=if jl 33 l then [33] else []
def qW (l:LU):Option (LU×LU):=(uq rk (kY l)).map (fun x=>(Hh l++x.1,x.2))
def oA:Nat->LU->Option (List (LU)×LU)
 | 0,_=>none
 | f+1,l=>match qW l with
  | none=>none
  | some (a,r)=>if jl 93 (jq r) then some ([a],jq ((jq r).drop 1)) else if jl 32 r then (oA f (jq r)).map (fun x=>(a::x.1,x.2)) else none
def qS (r:LU):Option (LU×LU):=if jl 58 r then uq rk (r.drop 1) else some ([],r)
def qp (r:LU):Option (Nat×LU×LU):=if jl 40 r then CO (r.drop 1) else some (0,[],r)
def oW (r:LU):Option (List (LU)×LU):=if jl 91 r then oA (r.length+1) (jq (r.drop 1)) else some ([],r)
def oS (l:LU):Option (kP×LU):=match uq vX l with
 | none=>none
 | some (nm,r)=>match qS r with
  | none=>none
  | some (q,r1)=>match qp (jq r1) with
   | none=>none
   | some (op,v,r2)=>match oW r2 with
    | none=>none
    | some (ar,r3)=>some (⟨nm,q,op,v,ar⟩,r3)
def mZ:Nat->LU->Option (List kP×LU)
 | 0,_=>none
 | f+1,l=>match oS l with
  | none=>none
  | some (t,r)=>if jl 124 r then (mZ f (jq (r.drop 1))).map (fun x=>(t::x.1,x.2)) else some ([t],r)
def ou:Nat->LU->Option (List (List kP))
 | 0,_=>none
 | f+1,l=>match mZ (l.length+1) l with
  | none=>none
  | some (g,r)=>if r.isEmpty then some [g] else if jl 44 r then (ou f (jq (r.drop 1))).map (g :: ·) else none
def tn (l:LU):Option (List (List kP)):=if (jq l).isEmpty then some [] else ou (l.length+1) (jq l)
def kP.right (t:kP):Bool:=jZ t.name&&(t.qual.isEmpty||mH t.qual)&&t.archs.all (fun a=>mH (kY a))&&(decide (t.op=0)||decide (kf 1 (ke t.ver)=0))
def Bl (L:List (List kP)):Bool:=L.all (fun g=>g.all kP.right)&&decide ((L.map List.length).sum<=64)
def mB (l:LU):Option (List (List kP)):=match tn l with
 | none=>none
 | some L=>if Bl L then some L else none
theorem nr (l:LU):(jq l).length<=l.length:=by unfold jq;rw[List.length_drop];omega
theorem xX (h:uq p l=some (a,r)):0<jo p l/\a=l.take (jo p l)/\r=l.drop (jo p l):=by
 unfold uq at h;split at h
 ·cases h
 ·injection h with h;injection h with h1 h2;exact⟨by omega,h1.symm,h2.symm⟩
theorem Jo (h:uq p l=some (a,r)):r.length<l.length:=by
 obtain⟨y,_,rfl⟩:=xX h;have:=pm p l;rw[List.length_drop];omega
def KW:Nat->LU
 | 1=>[60,60]
 | 2=>[60,61]
 | 3=>[61]
 | 4=>[62,61]
 | 5=>[62,62]
 | _=>[]
def kP.text (t:kP):LU:=t.name++(if t.qual.isEmpty then [] else 58::t.qual)++(if t.op=0 then [] else [32,40]++KW t.op++[32]++t.ver++[41])++(if t.archs.isEmpty then [] else [32,91]++Lib.join t.archs [32]++[93])
def lO (L:List (List kP)):LU:=Lib.join (L.map (fun g=>Lib.join (g.map kP.text) [32,124,32])) [44,32]
def pX (l:LU):Bool:=!l.isEmpty&&(match mB l with | some L=>decide (lO L=l) | none=>false)
theorem vq (q:UInt8->Bool)(a:UInt8)(r:LU):jo q (a::r)=if q a then jo q r+1 else 0:=by
 cases h:q a with
 | true=>rw[qM h];rfl
 | false=>rw[oK h];rfl
theorem mL (s:BA)(k:Nat)(h:k<s.size):(bl s).drop k=s[k]::(bl s).drop (k+1):=by
 rw[List.drop_eq_getElem_cons (by rw[iX];exact h),qt s k h]
theorem tp (s:BA)(k:Nat)(h:¬ k<s.size):(bl s).drop k=[]:=List.drop_of_length_le (by rw[iX];omega)
theorem Hi (s:BA)(k:Nat)(h:k<s.size)(hq:q s[k]=true):jo q ((bl s).drop k)=jo q ((bl s).drop (k+1))+1:=by
 rw[mL s k h,vq,if_pos hq]
theorem Hj (s:BA)(k:Nat)(h:k<s.size)(hq:q s[k]=false):jo q ((bl s).drop k)=0:=by
 rw[mL s k h,oK hq]
theorem KX (q:UInt8->Bool)(s:BA)(k:Nat)(h:¬ k<s.size):jo q ((bl s).drop k)=0:=by rw[tp s k h];rfl
theorem Sr (q:UInt8->Bool)(s:BA)(k:Nat)(h:k<=s.size):k+jo q ((bl s).drop k)<=s.size:=by
 have:=pm q ((bl s).drop k);rw[List.length_drop,iX] at this;omega
theorem QK (s:BA)(k:Nat)(c:UInt8)(h:k<s.size):jl c ((bl s).drop k)=(s[k]==c):=by rw[mL s k h];rfl
theorem Vv (s:BA)(k:Nat)(c:UInt8)(h:¬ k<s.size):jl c ((bl s).drop k)=false:=by rw[tp s k h];rfl
theorem kW (s:BA)(k:Nat):jq ((bl s).drop k)=(bl s).drop (k+jo jN ((bl s).drop k)):=by unfold jq;rw[List.drop_drop]
theorem CQ (l:LU):decide (0<jo jN l)=jl 32 l:=by
 cases l with
 | nil=>rfl
 | cons a r=>
  rw[vq];show _=(a==32);have:jN a=(a==32):=rfl;rw[this];cases a==32<;>simp
theorem Ss (l:LU):jo jN (jq l)=0:=by
 unfold jq;have D:=pm jN l;by_cases h:jo jN l<l.length
 ·obtain⟨a,r,y,z⟩:=vp l h;rw[y,oK z]
 ·rw[List.drop_of_length_le (by omega)];rfl
def nJ (f:Nat)(acc:List (LU))(l:LU):Option (List (LU)×LU):=(oA f l).map (fun x=>(acc++x.1,x.2))
def pp (f:Nat)(acc:List kP)(l:LU):Option (List kP×LU):=(mZ f l).map (fun x=>(acc++x.1,x.2))
def mR (f:Nat)(acc:List (List kP))(l:LU):Option (List (List kP)):=(ou f l).map (acc++·)
theorem Gg (f:Nat)(l:LU):oA f l=nJ f [] l:=by unfold nJ;simp
theorem xY (h:qW l=none):nJ (f+1) acc l=none:=by unfold nJ oA;rw[h];rfl
theorem AH (h:qW l=some (a,r))(h1:jl 93 (jq r)=true):nJ (f+1) acc l=some (acc++[a],jq ((jq r).drop 1)):=by
 unfold nJ oA;rw[h];simp[h1]
theorem xZ (h:qW l=some (a,r))(h1:jl 93 (jq r)=false)(h2:jl 32 r=true):nJ (f+1) acc l=nJ f (acc++[a]) (jq r):=by
 unfold nJ;conv=>lhs;unfold oA
 rw[h];simp[h1,h2,Function.comp_def]
theorem AI (h:qW l=some (a,r))(h1:jl 93 (jq r)=false)(h2:jl 32 r=false):nJ (f+1) acc l=none:=by
 unfold nJ oA;rw[h];simp[h1,h2]
theorem Gh (f:Nat)(l:LU):mZ f l=pp f [] l:=by unfold pp;simp
theorem Jp {acc:List kP}(h:oS l=none):pp (f+1) acc l=none:=by unfold pp mZ;rw[h];rfl
theorem KY {acc:List kP}{t:kP}(h:oS l=some (t,r))(h1:jl 124 r=false):pp (f+1) acc l=some (acc++[t],r):=by
 unfold pp mZ;rw[h];simp[h1]
theorem Jq {acc:List kP}{t:kP}(h:oS l=some (t,r))(h1:jl 124 r=true):pp (f+1) acc l=pp f (acc++[t]) (jq (r.drop 1)):=by
 unfold pp;conv=>lhs;unfold mZ
 rw[h];simp[h1,Function.comp_def]
theorem CS (f:Nat)(l:LU):ou f l=mR f [] l:=by unfold mR;simp
theorem Gi {acc:List (List kP)}(h:mZ (l.length+1) l=none):mR (f+1) acc l=none:=by unfold mR ou;rw[h];rfl
theorem Jr {acc:List (List kP)}{g:List kP}(h:mZ (l.length+1) l=some (g,[])):mR (f+1) acc l=some (acc++[g]):=by
 unfold mR ou;rw[h];simp
theorem Gj {acc:List (List kP)}{g:List kP}(h:mZ (l.length+1) l=some (g,r))(h1:jl 44 r=true):mR (f+1) acc l=mR f (acc++[g]) (jq (r.drop 1)):=by
 have y:r.isEmpty=false:=by rw[Hc h1];rfl
 unfold mR;conv=>lhs;unfold ou
 rw[h];simp[y,h1,Function.comp_def]
theorem Js {acc:List (List kP)}{g:List kP}(h:mZ (l.length+1) l=some (g,r))(h0:r.isEmpty=false)(h1:jl 44 r=false):mR (f+1) acc l=none:=by
 unfold mR ou;rw[h];simp[h0,h1]
theorem St {x:LU}(h:uq rk (kY l)=some (x,r)):kY (Hh l++x)=x:=by
 unfold Hh;cases hh:jl 33 l with
 | true=>rfl
 | false=>
  have D:kY l=l:=by unfold kY;rw[hh];rfl
  rw[D] at h;obtain⟨z,y,F⟩:=xX h;cases l with
  | nil=>simp[jo] at z
  | cons a t=>
   rw[vq] at z y;cases ha:rk a with
   | false=>rw[ha] at z;simp at z
   | true=>
    rw[ha] at y;simp only[if_true,List.take_succ_cons] at y;subst y;simp only[Bool.false_eq_true,if_false,List.nil_append,kY];have:jl 33 (a::List.take (jo rk t) t)=false:=hh;rw[this];rfl
theorem AJ (h:qW l=some (a,r)):∃ x,uq rk (kY l)=some (x,r)/\a=Hh l++x/\kY a=x:=by
 unfold qW at h;obtain⟨⟨x,y⟩,D,z⟩:=Option.map_eq_some_iff.1 h;injection z with z h3;subst z;subst h3;exact⟨x,D,rfl,St D⟩
theorem Yq (s p:BA)(w:World):Calls Tryz.prog 131 #[.string s,.string p] w fun e w'=>e=.returned (.tuple #[.string (ke (Lib.trimPrefix (bl s) (bl p))),.bool (Lib.hasPrefix (bl s) (bl p))])/\w=w':=
 (Tryz.strings_CutPrefix s p w).mono fun _ _ ⟨y,z⟩=>⟨y,z.symm⟩
theorem abk (k:Nat)(hk:k<7)(x:Nat->BA)(w:World):(Instr.index 289 (.agg #[.string (x 0),.string (x 1),.string (x 2),.string (x 3),.string (x 4),.string (x 5),.string (x 6)]) (.int .i64 k)).run Tryz.prog w=.ok (.string (x k)) w:=by
 rcases(by omega:k=0\/k=1\/k=2\/k=3\/k=4\/k=5\/k=6) with rfl | rfl | rfl | rfl | rfl | rfl | rfl<;>kernel_rfl
theorem C9 (k:Nat)(hk:k<7):bl (xG k)=pM k:=by
 rcases(by omega:k=0\/k=1\/k=2\/k=3\/k=4\/k=5\/k=6) with rfl | rfl | rfl | rfl | rfl | rfl | rfl<;>rfl
theorem Sx (h1:Lib.hasPrefix l (pM k)=true)(h2:(ke (Lib.trimPrefix l (pM k))).size<(ke (ly l k).2).size):ly l (k+1)=(k,Lib.trimPrefix l (pM k)):=by
 rw[kL,kL] at h2;simp[ly,h1,h2]
theorem Oc (h2:¬ (ke (Lib.trimPrefix l (pM k))).size<(ke (ly l k).2).size):ly l (k+1)=ly l k:=by
 rw[kL,kL] at h2;simp[ly,h2]
theorem Vy (h1:Lib.hasPrefix l (pM k)=false):ly l (k+1)=ly l k:=by
 simp[ly,h1]
theorem QM (l p:LU):(Lib.trimPrefix l p).length<=l.length:=by
 unfold Lib.trimPrefix;split<;>simp
theorem Da (l:LU):∀ k,(ly l k).2.length<=l.length
 | 0=>Nat.le_refl _
 | k+1=>by
  unfold ly;split
  ·exact QM _ _
  ·exact Da l k
theorem Gq (s:BA)(w:World)(hG:Gl w)(hs:s.size<=9223372036854775807):Calls Tryz.prog 153 #[.string s] w fun e w'=>e=.returned (.tuple #[.int .i64 (AE (bl s)).1,.string (ke (AE (bl s)).2)])/\w=w':=by
 have U:=hG.asg 0 (by omega);have R:=hG.asg 1 (by omega);have O:=hG.asg 2 (by omega);have X:=hG.asg 3 (by omega);have g4:=hG.asg 4 (by omega);have N:=hG.asg 5 (by omega);have Y:=hG.asg 6 (by omega);clear hG;go_in;go_wp2_with fail;clear U R O X g4 N Y;go_loop [4,5,12] (fun o b i=>∃ k:Nat,k<=7/\∃ (n:Nat) (B:BA),o=.int .i64 n/\b=.string B/\i=.int .i64 k/\Hid (ly (bl s) k=(n,bl B))) (fun _ _ i=>7-(intOf i).toNat)
 case atStart=>exact⟨0,by omega,0,s,rfl,rfl,rfl,rfl⟩
 case round=>
  obtain⟨k,hk,n,B,rfl,rfl,rfl,H⟩:=hrel;by_cases I:k<7
  ·have Z:=fun W=>abk k I xG W;have D:=C9 k I;obtain⟨T,F⟩:∃ T,ke (Lib.trimPrefix (bl s) (pM k))=T:=⟨_,rfl⟩
   have V:T.size<=s.size:=by rw[<-F,kL,<-iX];exact QM _ _
   have M:B.size<=s.size:=by rw[<-iX,<-iX,show bl B=(ly (bl s) k).2 by rw[H.out]];exact Da _ _
   have z:bl T=Lib.trimPrefix (bl s) (pM k):=by rw[<-F,lS]
   have y:ke (ly (bl s) k).2=B:=by rw[H.out];exact oQ B
   cases hp:Lib.hasPrefix (bl s) (pM k) with
   | false=>
    have J:=iV ((Vy hp).trans H.out);clear y z;go_wp2_with (go_at_call 131;refine(Yq _ _ _).mono ?_;rintro e w' ⟨rfl,rfl⟩;rw[D,hp,F]);go_round
    case rel=>exact⟨k+1,by omega,n,B,rfl,rfl,by go_num,J⟩
    case measure=>simp[intOf];omega
   | true=>
    by_cases K:T.size<B.size
    ·have J:Hid (ly (bl s) (k+1)=(k,bl T)):=by show _=_;rw[Sx hp (by rw[F,y];exact K),z]
     clear y z;go_wp2_with (go_at_call 131;refine(Yq _ _ _).mono ?_;rintro e w' ⟨rfl,rfl⟩;rw[D,hp,F]);go_round
     case rel=>exact⟨k+1,by omega,k,T,rfl,rfl,by go_num,J⟩
     case measure=>simp[intOf];omega
    ·have J:=iV ((Oc (by rw[F,y];exact K)).trans H.out);clear y z;go_wp2_with (go_at_call 131;refine(Yq _ _ _).mono ?_;rintro e w' ⟨rfl,rfl⟩;rw[D,hp,F]);go_round
     case rel=>exact⟨k+1,by omega,n,B,rfl,rfl,by go_num,J⟩
     case measure=>simp[intOf];omega
  ·have E:Hid (AE (bl s)=(n,bl B)):=by show _=_;rw[<-Hg,<-H.out];congr 1;omega
   go_wp2;go_ret2;exact⟨by rw[E.out,oQ];rfl,rfl⟩
end
section
open Go.RowKit Go.Deep
theorem Yr (c:UInt8):(bl qq).contains c=Gf c:=by
 have:=nk (fun c=>(bl qq).contains c==Gf c) (by kernel_rfl) c;simpa using this
theorem Hk:∀ l:LU,(0<=Lib.indexAny l (bl qq)->Lib.indexAny l (bl qq)=jo rj l)/\(Lib.indexAny l (bl qq)<0->jo rj l=l.length)
 | []=>⟨fun h=>by simp[Lib.indexAny] at h,fun _=>rfl⟩
 | b::l=>by
  obtain⟨D,y⟩:=Hk l;have F:=Lib.indexAny_ge (bl qq) l;unfold Lib.indexAny;rw[Yr];cases hb:Gf b with
  | true=>exact⟨fun _=>by simp[jo,rj,hb],fun h=>by simp at h⟩
  | false=>
   have z:jo rj (b::l)=jo rj l+1:=qM (by simp[rj,hb]);rw[z];simp only[Bool.false_eq_true,if_false,beq_iff_eq];split
   ·rename_i h;exact⟨fun h=>by simp at h,fun _=>by rw[y (by omega)];rfl⟩
   ·rename_i h;exact⟨fun _=>by rw[D (by omega)];push_cast;rfl,fun H=>by omega⟩
theorem K9 (l:LU):Lib.hasPrefix l [33]=jl 33 l:=by
 cases l with
 | nil=>rfl
 | cons a r=>rw[uD];simp only[jl];rw[Bool.beq_comm]
theorem Hl (l:LU):Lib.trimPrefix l [33]=kY l:=by
 unfold Lib.trimPrefix kY;rw[K9];rfl
theorem Vz (l:LU):(kY l).length<=l.length:=by unfold kY;split<;>simp
theorem Ys (l:LU):(AE l).2.length<=l.length:=by rw[<-Hg];exact Da l 7
def mo.val (x:mo):Value:=.agg #[.bool x.no,.string (ke x.name),.int .i64 x.op,.string (ke x.ver)]
def Hm:Value:=.agg #[.bool false,.string ⟨#[]⟩,.int .i64 0,.string ⟨#[]⟩]
def oX:List Value:=[.bool false,.string ⟨#[]⟩,.int .i64 0,.string ⟨#[]⟩]
def VA (r:Option mo)(w:World)(e:Ending)(w':World):Prop:=
 (match r with
  | some x=>e=.returned (.tuple #[x.val,.nilIface])
  | none=>∃ a c:Int,c≠0/\e=.returned (.tuple #[Hm,.iface 242 (.agg #[.int .i64 a,.int .i64 c])]))/\Below w.heap.size w w'
theorem Od (s:BA)(w:World)(hG:Gl w)(hs:s.size<=4294967280):Calls Tryz.prog 97 #[.string s] w (VA (oR (bl s)) w):=by
 have HG:=iV hG;clear hG;obtain⟨R,hR⟩:∃ R,ke (kY (bl s))=R:=⟨_,rfl⟩
 have ad:bl R=kY (bl s):=by rw[<-hR,lS]
 have au:R.size<=s.size:=by rw[<-iX,<-iX,ad];exact Vz _
 obtain⟨n,hn⟩:∃ n,jo rj (bl R)=n:=⟨_,rfl⟩
 have aq:n<=R.size:=by rw[<-hn,<-iX];exact pm _ _
 obtain⟨i1,i2⟩:=Hk (bl R);rw[hn] at i1 i2;rw[iX] at i2;have J:=fun W=>Yq s ⟨#[33]⟩ W;have ai:bl ⟨#[33]⟩=[33]:=rfl;rw[ai,Hl,K9,hR] at J;generalize hq:jl 33 (bl s)=q at J;go_in;go_wp2_with fail;refine(J _).mono ?_;rintro e w' ⟨rfl,rfl⟩;go_wp2_with fail;refine(Jv R _ (by omega)).mono ?_;rintro e w1 ⟨rfl,M⟩;generalize Lib.indexAny (bl R) (bl qq)=ia at i1 i2;have BB:Hid (Below w.heap.size w w1):=((bR.alloc lr _).alloc (by simp) _).trans (M.mono (by simp;omega));have KA:Hid (jh w1 w.heap.size oX):=((jh.new w oX _).alloc _).below M;have KB:Hid (jh w1 (w.heap.size+1) [.bool q,.string ⟨#[]⟩,.int .i64 0,.string ⟨#[]⟩]):=(by have:=jh.new (w.alloc (.cells #[.bool false,.string ⟨#[]⟩,.int .i64 0,.string ⟨#[]⟩] 142)) [.bool q,.string ⟨#[]⟩,.int .i64 0,.string ⟨#[]⟩] 142;simpa using this:jh _ (w.heap.size+1) _).below M;clear M;go_upto_if 19 with(fail)
 go_cut [7] (fun v wx=>v=.int .i64 n/\w1=wx)
 case first=>
  by_cases ak:0<=ia
  ·have e1:=i1 ak;have O:¬ ia<0:=by omega
   clear i1 i2;go_wp2;go_meet;exact⟨rfl,rfl⟩
  ·have O:ia<0:=by omega
   have e1:=i2 O;clear i1 i2 ak;go_wp2;go_meet;exact⟨by rw[e1],rfl⟩
 case rest=>
 obtain⟨rfl,rfl⟩:=hcut;clear i1 i2;have an:(n:Int)<=(R.size:Int):=by omega
 have X:=KB.out.cell 1 _ rfl;have H:=KB.out.free 1 (by simp);obtain⟨P,hP⟩:∃ P,R.extract 0 n=P:=⟨_,rfl⟩
 obtain⟨T,hT⟩:∃ T,R.extract n R.size=T:=⟨_,rfl⟩
 have Y:bl P=(bl R).take n:=by rw[<-hP,mF]
 have ae:bl T=(bl R).drop n:=by rw[<-hT,lm]
 have ap:P.size=n:=by rw[<-iX,Y,List.length_take,iX];omega
 have ao:T.size=R.size-n:=by rw[<-iX,ae,List.length_drop,iX]
 have WA:Hid (oR (bl s)=if lV (bl P) then He q (bl P) (bl T) else none):=by
  show _=_;unfold oR;rw[<-ad,hn,hq,<-Y,<-ae]
 clear Y ae ad hn hq hR J ai;go_wp2;go_region;clear X H;have X:=(KB.out.set 1 (by simp) (.string P)).drew.cell 1 _ rfl;go_wp2_with fail;refine(zf P _ (by omega)).mono ?_;rintro e w2 ⟨rfl,hw⟩;have y:Hid (jh w2 w.heap.size oX):=by rw[<-hw];exact(KA.out.far (by omega) _).drew
 have z:Hid (jh w2 (w.heap.size+1) [.bool q,.string P,.int .i64 0,.string ⟨#[]⟩]):=by rw[<-hw];exact(KB.out.set 1 (by simp) (.string P)).drew
 have K:Hid (Below w.heap.size w w2):=by rw[<-hw];exact(jb BB.out (by omega) _).drew
 clear hw X hP hT;cases hnm:lV (bl P) with
 | false=>
  have E:Hid (oR (bl s)=none):=by show _=_;rw[WA.out,hnm];rfl
  clear hnm;have a0:=y.out.cell 0 _ rfl;have ag:=y.out.free 0 (by simp[oX]);have a1:=y.out.cell 1 _ rfl;have af:=y.out.free 1 (by simp[oX]);have a2:=y.out.cell 2 _ rfl;have ah:=y.out.free 2 (by simp[oX]);have a3:=y.out.cell 3 _ rfl;have al:=y.out.free 3 (by simp[oX]);go_wp2_with fail;refine bodyPost_ret (v:=.tuple #[Hm,.iface 242 (.agg #[.int .i64 _,.int .i64 10])]) (by simp[results,Tryz.results97,go_sem,Hm,a0,a1,a2,a3];rfl) rfl ?_;refine⟨by rw[E.out];exact⟨_,10,by decide,rfl⟩,?_⟩;exact jb (jb (jb (jb K.out lr _) lr _) lr _) lr _
 | true=>
  have E1:Hid (oR (bl s)=He q (bl P) (bl T)):=by show _=_;rw[WA.out,hnm];rfl
  clear hnm;by_cases N:T.size=0
  ·have he:T.toList=[]:=by rw[iY,kw T N]
   have Z:T.toList.isEmpty=true:=by rw[he];rfl
   have E:Hid (oR (bl s)=some ⟨q,bl P,0,[]⟩):=by show _=_;rw[E1.out,kw T N];rfl
   have a0:=y.out.cell 0 _ rfl;have ag:=y.out.free 0 (by simp[oX]);have a1:=y.out.cell 1 _ rfl;have af:=y.out.free 1 (by simp[oX]);have a2:=y.out.cell 2 _ rfl;have ah:=y.out.free 2 (by simp[oX]);have a3:=y.out.cell 3 _ rfl;have al:=y.out.free 3 (by simp[oX]);have c0:=z.out.cell 0 _ rfl;have aa:=z.out.free 0 (by simp);have X:=z.out.cell 1 _ rfl;have H:=z.out.free 1 (by simp);have c2:=z.out.cell 2 _ rfl;have ac:=z.out.free 2 (by simp);have c3:=z.out.cell 3 _ rfl;have ab:=z.out.free 3 (by simp);go_wp2_with fail;refine bodyPost_ret (v:=.tuple #[.agg #[.bool q,.string P,.int .i64 0,.string ⟨#[]⟩],.nilIface]) (by simp[results,Tryz.results97,go_sem,a0,a1,a2,a3]) rfl ?_;refine⟨by rw[E.out];simp only[mo.val,oQ];rfl,?_⟩;exact jb (jb (jb (jb K.out lr _) lr _) lr _) lr _
  ·have Z:T.toList.isEmpty=false:=by rw[iY,jB];exact dF N
   have he:¬ T.toList=[]:=by intro h;rw[h] at Z;simp at Z
   go_wp2_with fail;refine(Gq T _ (HG.out.below K.out) (by omega)).mono ?_;rintro e w3 ⟨rfl,rfl⟩;obtain⟨V,hV⟩:∃ V,ke (AE (bl T)).2=V:=⟨_,rfl⟩
   have ar:V.size<=T.size:=by rw[<-hV,kL,<-iX];exact Ys _
   have E2:Hid (oR (bl s)=if kf 3 V=0 then some ⟨q,bl P,(AE (bl T)).1,bl V⟩ else none):=by
    show _=_;rw[E1.out];unfold He;rw[hV,if_neg (by rw[jB];simpa using N),<-hV,lS]
   generalize (AE (bl T)).1=o at E2;have c0:=z.out.cell 0 _ rfl;have aa:=z.out.free 0 (by simp);have X:=z.out.cell 1 _ rfl;have H:=z.out.free 1 (by simp);have c2:=z.out.cell 2 _ rfl;have ac:=z.out.free 2 (by simp);have c3:=z.out.cell 3 _ rfl;have ab:=z.out.free 3 (by simp);go_wp2_with fail;have B3:=iV ((jb (j:=3) (jb (j:=2) K.out (Nat.le_succ _) (.int .i64 o)) (Nat.le_succ _) (.string V)));refine(jT 3 V _ (HG.out.below (by exact B3.out)) (by omega)).mono ?_;rintro e w4 ⟨rfl,I⟩;have D:Hid (jh w4 w.heap.size oX):=((y.out.far (by omega) _).far (by omega) _).below I;have F:Hid (jh w4 (w.heap.size+1) [.bool q,.string P,.int .i64 o,.string V]):=((z.out.set 2 (by simp) (.int .i64 o)).set 3 (by simp) (.string V)).below I;have aj:Hid (Below w.heap.size w w4):=jc B3.out I;clear I;clear c0 aa X H c2 ac c3 ab;have a0:=D.out.cell 0 _ rfl;have ag:=D.out.free 0 (by simp[oX]);have a1:=D.out.cell 1 _ rfl;have af:=D.out.free 1 (by simp[oX]);have a2:=D.out.cell 2 _ rfl;have ah:=D.out.free 2 (by simp[oX]);have a3:=D.out.cell 3 _ rfl;have al:=D.out.free 3 (by simp[oX]);have c0:=F.out.cell 0 _ rfl;have aa:=F.out.free 0 (by simp);have X:=F.out.cell 1 _ rfl;have H:=F.out.free 1 (by simp);have c2:=F.out.cell 2 _ rfl;have ac:=F.out.free 2 (by simp);have c3:=F.out.cell 3 _ rfl;have ab:=F.out.free 3 (by simp);by_cases U:kf 3 V=0
   ·have E:Hid (oR (bl s)=some ⟨q,bl P,o,bl V⟩):=by show _=_;rw[E2.out,if_pos U]
    have am:(kf 3 V != 0)=false:=by simp[U]
    clear U;go_wp2_with fail;refine bodyPost_ret (v:=.tuple #[.agg #[.bool q,.string P,.int .i64 o,.string V],.nilIface]) (by simp[results,Tryz.results97,go_sem,a0,a1,a2,a3]) rfl ?_;refine⟨by rw[E.out];simp only[mo.val,oQ],?_⟩;exact jb (jb (jb (jb aj.out lr _) lr _) lr _) lr _
   ·have E:Hid (oR (bl s)=none):=by show _=_;rw[E2.out,if_neg U]
    have am:(kf 3 V != 0)=true:=by simp[U]
    have HV:=Gb.mk U;clear U;go_wp2;go_region;go_wp2_with fail;refine bodyPost_ret (v:=.tuple #[Hm,.iface 242 (.agg #[.int .i64 _,.int .i64 (kf 3 V)])]) (by simp[results,Tryz.results97,go_sem,Hm,a0,a1,a2,a3];rfl) rfl ?_;refine⟨by rw[E.out];exact⟨_,_,HV.out,rfl⟩,?_⟩;exact(jb (jb (jb (jb aj.out lr _) lr _) lr _) lr _).drew
end
end Go.Proofs.YtkmjcombhjombaaGreatDoor
