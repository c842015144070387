/- A part of the proof. -/
import Derived.Test.YtkmjcombhjombaaGreatDoorK10
set_option maxRecDepth 100000
set_option maxHeartbeats 20000000
set_option linter.unusedVariables false
set_option linter.unusedSimpArgs false
namespace Go.Proofs.YtkmjcombhjombaaGreatDoor
variable{E s:BA}{c c':Int}{l nm r r1 r2 v:LU}{vs:List Value}{a b g j k k' lo lo' n n' op p p':Nat}{row:Option Nat}{q:UInt8->Bool}{w w' wr:World}
section
open Go.RowKit
theorem jO (v:Value):w.grownBy (w.setCell ⟨a,j,none⟩ v) (some a):=ji (World.grownBy.refl w (some a)) (.inl rfl) _
theorem uF {w'':World}(h:w.grownBy w' (some a))(hb:Below w'.heap.size w' w''):w.grownBy w'' (some a):=kx h hb
theorem mS (hb:Below w.heap.size w w')(row:Option Nat):w.grownBy w' row:=kx (World.grownBy.refl w row) hb
theorem jh.grownBy (h:jh w b vs)(hg:w.grownBy w' row)(hne:some b≠row):jh w' b vs:=by
 have y:=hg.block b h.sz hne;exact⟨Nat.lt_of_lt_of_le h.sz hg.size,fun j u D=>(World.cell?_of_block (a:=⟨b,j,none⟩) y).trans (h.cell j u D),fun j z=>(World.frozen?_of_block (a:=⟨b,j,none⟩) y).trans (h.free j z)⟩
structure DR (w:World) (a:Nat) (s:BA) (p n:Nat) (c:Int):Prop where
 blk:∃ (f:BA) (x:Int),jh w a [.string s,.int .i64 p,.int .i64 n,.string f,.int .i64 x,.int .i64 c]
 le:p<=s.size
 nle:n<=p
theorem DR.below (h:DR w a s p n c)(hb:Below w.heap.size w w'):DR w' a s p n c:=by
 obtain⟨f,x,k⟩:=h.blk;exact⟨⟨f,x,k.below hb⟩,h.le,h.nle⟩
theorem DR.kept (h:DR w a s p n c)(hg:w.grownBy w' row)(hne:some a≠row):DR w' a s p n c:=by
 obtain⟨f,x,k⟩:=h.blk;exact⟨⟨f,x,k.grownBy hg hne⟩,h.le,h.nle⟩
theorem DR.alloc (h:DR w a s p n c)(o:Obj):DR (w.alloc o) a s p n c:=h.below (bR.alloc lr o)
theorem DR.drewN (h:DR w a s p n c)(k:Nat):DR (w.drewN k) a s p n c:=h.below ⟨rfl,rfl,rfl,lr,fun _ _=>rfl⟩
theorem DR.far (h:DR w a s p n c)(hne:b≠a)(v:Value):DR (w.setCell ⟨b,j,none⟩ v) a s p n c:=h.kept (jO v) (by simp;omega)
theorem DR.sz (h:DR w a s p n c):a<w.heap.size:=by obtain⟨f,x,k⟩:=h.blk;exact k.sz
theorem DR.move {q:Nat}(h:DR w a s p n c)(h1:p<=q)(h2:q<=s.size):DR (w.setCell ⟨a,1,none⟩ (.int .i64 q)) a s q n c:=by
 obtain⟨f,x,k⟩:=h.blk;exact⟨⟨f,x,k.set 1 (by simp) _⟩,h2,Nat.le_trans h.nle h1⟩
theorem DR.count (h:DR w a s p n c)(h1:n<p):DR (w.setCell ⟨a,2,none⟩ (.int .i64 ((n+1:Nat):Int))) a s p (n+1) c:=by
 obtain⟨f,x,k⟩:=h.blk;exact⟨⟨f,x,k.set 2 (by simp) _⟩,h.le,h1⟩
structure DRc (w:World) (a:Nat) (s:BA) (p n:Nat) (f:BA) (x c:Int):Prop where
 c0:w.cell? ⟨a,0,none⟩=some (.string s)
 c1:w.cell? ⟨a,1,none⟩=some (.int .i64 p)
 c2:w.cell? ⟨a,2,none⟩=some (.int .i64 n)
 c3:w.cell? ⟨a,3,none⟩=some (.string f)
 c4:w.cell? ⟨a,4,none⟩=some (.int .i64 x)
 c5:w.cell? ⟨a,5,none⟩=some (.int .i64 c)
 f0:w.frozen? ⟨a,0,none⟩=false
 f1:w.frozen? ⟨a,1,none⟩=false
 f2:w.frozen? ⟨a,2,none⟩=false
 f3:w.frozen? ⟨a,3,none⟩=false
 f4:w.frozen? ⟨a,4,none⟩=false
 f5:w.frozen? ⟨a,5,none⟩=false
theorem DR.cells (h:DR w a s p n c):∃ f x,DRc w a s p n f x c:=by
 obtain⟨f,x,k⟩:=h.blk;exact⟨f,x,k.cell 0 _ rfl,k.cell 1 _ rfl,k.cell 2 _ rfl,k.cell 3 _ rfl,k.cell 4 _ rfl,k.cell 5 _ rfl,k.free 0 (by simp),k.free 1 (by simp),k.free 2 (by simp),k.free 3 (by simp),k.free 4 (by simp),k.free 5 (by simp)⟩
def Jt (a:Nat)(w:World):Nat:=match w.cell? ⟨a,1,none⟩ with | some (.int _ k)=>k.toNat | _=>0
theorem DR.at_ (h:DR w a s p n c):Jt a w=p:=by
 obtain⟨f,x,k⟩:=h.cells;unfold Jt;rw[k.c1];simp
theorem DR.dec (h':DR w' a s k' n' c')(h:DR w a s k n c)(hk:k<k'):s.size-Jt a w'<s.size-Jt a w:=by
 rw[h'.at_,h.at_];have:=h'.le;omega
def sJ (c e:Int):Int:=if c=0 then e else c
theorem oB (c e:Int):sJ c e=0↔c=0/\e=0:=by unfold sJ;split<;>rename_i h<;>simp[h]
theorem DR.noted (h:DR w a s p n c)(f:BA)(x e:Int):DR (((w.setCell ⟨a,3,none⟩ (.string f)).setCell ⟨a,4,none⟩ (.int .i64 x)).setCell ⟨a,5,none⟩ (.int .i64 e)) a s p n e:=by
 obtain⟨y,z,k⟩:=h.blk;exact⟨⟨f,x,((k.set 3 (by simp) _).set 4 (by simp) _).set 5 (by simp) _⟩,h.le,h.nle⟩
structure kX where
 nm:BA
 op:Nat
 ver:BA
 qual:BA
 aa:Option Addr
 ac:Nat
 archs:List BA
def kX.cells (t:kX):List Value:=[.string t.nm,.int .i64 t.op,.string t.ver,.string t.qual,.slice t.aa t.archs.length t.ac]
def kX.val (t:kX):Value:=.agg #[.string t.nm,.int .i64 t.op,.string t.ver,.string t.qual,.slice t.aa t.archs.length t.ac]
def kX.pl (t:kX):kP:=⟨bl t.nm,bl t.qual,t.op,bl t.ver,t.archs.map bl⟩
theorem Ju (t:kX):t.cells.length=5:=rfl
def kX.own (t:kX)(w:World)(lo:Nat):Prop:=w.ownsRow lo 9 1 (.slice t.aa t.archs.length t.ac) t.archs.length (strCells t.archs)
structure jE where
 ga:Option Addr
 gc:Nat
 ts:List kX
def jE.sl (g:jE):Value:=.slice g.ga g.ts.length g.gc
def jE.pl (g:jE):List kP:=g.ts.map kX.pl
structure jE.own (g:jE) (w:World) (lo:Nat):Prop where
 row:w.ownsRow lo 196 5 g.sl g.ts.length (g.ts.flatMap kX.cells)
 archs:∀ t∈g.ts,t.own w lo
theorem kX.own.kept {t:kX}(h:t.own w lo)(hlo:g<lo)(hg:w.grownBy w' (some g)):t.own w' lo:=jS h hlo hg
theorem kX.own.below {t:kX}(h:t.own w lo)(hb:Below w.heap.size w w'):t.own w' lo:=jp h hb
theorem kX.own.base {t:kX}(h:t.own w lo)(hl:lo'<=lo):t.own w lo':=jK h hl
theorem jE.own.kept {t:jE}(h:t.own w lo)(hlo:g<lo)(hg:w.grownBy w' (some g)):t.own w' lo:=⟨jS h.row hlo hg,fun x y=>(h.archs x y).kept hlo hg⟩
theorem jE.own.below {t:jE}(h:t.own w lo)(hb:Below w.heap.size w w'):t.own w' lo:=⟨jp h.row hb,fun x y=>(h.archs x y).below hb⟩
theorem jE.own.base {t:jE}(h:t.own w lo)(hl:lo'<=lo):t.own w lo':=⟨jK h.row hl,fun x y=>(h.archs x y).base hl⟩
structure uG (w:World) (A:Option Addr) (l:List jE):Prop where
 row:Rd w 1 A l.length (l.map jE.sl)
 grp:∀ g∈l,Rd w 5 g.ga g.ts.length (g.ts.flatMap kX.cells)
 archs:∀ g∈l,∀ t∈g.ts,Rd w 1 t.aa t.archs.length (strCells t.archs)
theorem uG.below {A:Option Addr}{l:List jE}(h:uG w A l)(hb:Below w.heap.size w w'):uG w' A l:=
 ⟨h.1.below hb,fun g y=>(h.2 g y).below hb,fun g y t ht=>(h.3 g y t ht).below hb⟩
end
section
open Go.RowKit Go.Deep
theorem pI (x e:Int)(a:Nat)(s:BA)(p n:Nat)(c:Int)(w:World)(h:DR w a s p n c):Calls Tryz.prog 245 #[.pointer (some ⟨a,0,none⟩),.int .i64 x,.int .i64 e] w fun en w'=>en=.returned (.tuple #[])/\DR w' a s p n (sJ c e)/\w.grownBy w' (some a):=by
 obtain⟨f,y,k⟩:=h.cells;have H:=iV h;clear h;obtain⟨I,J,N,c3,V,Y,K,M,R,f3,X,Z⟩:=k;clear I J N K M R;by_cases z:c=0
 ·subst z;by_cases D:e=0
  ·subst D;go_in;go_wp2;go_end0;exact⟨rfl,H.out,World.grownBy.refl _ _⟩
  ·have O:(e != 0)=true:=by simp[D]
   have F:Hid (sJ 0 e=e):=by simp[Hid,sJ]
   clear D;go_in;go_wp2;go_end0;exact⟨rfl,by rw[F.out];exact H.out.noted _ _ _,ja (ja (jO _) (jO _)) (jO _)⟩
 ·have U:(c==0)=false:=by simp[z]
  have F:Hid (sJ c e=c):=by simp[Hid,sJ,z]
  clear z;go_in;go_wp2;go_end0;exact⟨rfl,by rw[F.out];exact H.out,World.grownBy.refl _ _⟩
theorem jD (ch:UInt8)(a:Nat)(s:BA)(p n:Nat)(c:Int)(w:World)(hs:s.size<=4294967280)(h:DR w a s p n c)(hh:Hid (jl ch ((bl s).drop p)=true)):Calls Tryz.prog 145 #[.pointer (some ⟨a,0,none⟩),.int .u8 ch.toNat] w fun e w'=>e=.returned (.bool true)/\DR w' a s (p+1) n c/\w.grownBy w' (some a):=by
 have z:p<s.size:=by
  rcases Nat.lt_or_ge p s.size with D | D
  ·exact D
  ·have:=hh.out;rw[Vv s p ch (by omega)] at this;cases this
 have Z:s[p]=ch:=by have:=hh.out;rw[QK s p ch z] at this;simpa using this
 obtain⟨f,y,k⟩:=h.cells;have U:=iV (h.move (q:=p+1) (by omega) (by omega));clear h hh;obtain⟨V,X,M,N,F,J,H,Y,R,O,I,K⟩:=k;clear M N F J H R O I K;go_in;go_wp2;go_quiet (fail);go_wp2;go_ret;exact⟨rfl,U.out.drewN _,ls (jO _) _⟩
theorem js (ch:UInt8)(a:Nat)(s:BA)(p n:Nat)(c:Int)(w:World)(hs:s.size<=4294967280)(h:DR w a s p n c)(hh:Hid (jl ch ((bl s).drop p)=false)):Calls Tryz.prog 145 #[.pointer (some ⟨a,0,none⟩),.int .u8 ch.toNat] w fun e w'=>e=.returned (.bool false)/\DR w' a s p n c/\w.grownBy w' (some a):=by
 obtain⟨f,y,k⟩:=h.cells;have F:=iV h;clear h;obtain⟨X,Y,O,R,H,K,I,Z,V,U,J,N⟩:=k;clear O R H K I V U J N;by_cases z:p<s.size
 ·obtain⟨d,M⟩:∃ d:UInt8,s[p]=d:=⟨_,rfl⟩
  have e1:((d.toNat:Int)==(ch.toNat:Int))=false:=by have:=hh.out;rw[QK s p ch z,M] at this;rw[np];exact this
  clear hh;go_in;go_wp2;go_quiet (fail);go_wp2;go_ret;exact⟨rfl,F.out.drewN _,ls (World.grownBy.refl _ _) _⟩
 ·have D:decide (p<s.size)=false:=dF z;clear hh;go_in;go_wp2;go_quiet (fail);go_wp2;go_ret;exact⟨rfl,F.out.drewN _,ls (World.grownBy.refl _ _) _⟩
theorem jx (a:Nat)(s:BA)(p n:Nat)(c:Int)(w:World)(hs:s.size<=4294967280)(h:DR w a s p n c):Calls Tryz.prog 143 #[.pointer (some ⟨a,0,none⟩)] w fun e w'=>e=.returned (.bool (jl 32 ((bl s).drop p)))/\DR w' a s (p+jo jN ((bl s).drop p)) n c/\w.grownBy w' (some a):=by
 obtain⟨f,y,k⟩:=h.cells;have R:=k.c1;have hp:=h.le;have HD:=iV h;clear h k;go_in;go_wp2;go_loopw [] (fun wr=>∃ k:Nat,p<=k/\k<=s.size/\Hid (DR wr a s k n c)/\Hid (w.grownBy wr (some a))/\Hid (p+jo jN ((bl s).drop p)=k+jo jN ((bl s).drop k))) (fun wr=>s.size-Jt a wr)
 case atStart=>exact⟨p,lr,hp,HD,World.grownBy.refl _ _,rfl⟩
 case round=>
  clear R;obtain⟨k,Y,aa,F,I,J⟩:=hrel;obtain⟨f',y',K⟩:=F.out.cells;obtain⟨c0,R,c2,c3,Z,c5,f0,f1,f2,f3,f4,f5⟩:=K;clear c2 c3 Z c5 f0 f2 f3 f4 f5;have MA:=iV F.out.at_;by_cases z:k<s.size
  ·obtain⟨d,U⟩:∃ d:UInt8,s[k]=d:=⟨_,rfl⟩
   by_cases D:d.toNat=32
   ·have M:Hid (p+jo jN ((bl s).drop p)=(k+1)+jo jN ((bl s).drop (k+1))):=by
     have:=J.out;rw[Hi s k z (by rw[U];simp[jN];exact UInt8.toNat_inj.1 D)] at this;show _=_;omega
    have X:=iV (F.out.move (q:=k+1) (by omega) (by omega));go_wp2;go_quiet (fail);go_wp2;go_roundw
    case rel=>exact⟨k+1,by omega,by omega,X.out.drewN _,ls (ja I.out (jO _)) _,M⟩
    case measure=>exact DR.dec (X.out.drewN _) F.out (Nat.lt_succ_self _)
   ·have V:((d.toNat:Int)==32)=false:=by simp;omega
    have H:Hid (p+jo jN ((bl s).drop p)=k):=by
     have:=J.out;rw[Hj s k z (by rw[U];simp[jN];intro e;exact D (by rw[e];rfl))] at this;exact this
    have N:Hid (jl 32 ((bl s).drop p)=decide (p<k)):=by
     have:=H.out;show _=_;rw[<-CQ];congr 1;simp;omega
    clear D;go_wp2;go_quiet (fail);go_wp2;go_ret;exact⟨iW (by rw[N.out]),by rw[H.out];exact F.out.drewN _,ls I.out _⟩
  ·have O:decide (k<s.size)=false:=dF z;have H:Hid (p+jo jN ((bl s).drop p)=k):=by
    have:=J.out;rw[KX _ s k z] at this;exact this
   have N:Hid (jl 32 ((bl s).drop p)=decide (p<k)):=by
    have:=H.out;show _=_;rw[<-CQ];congr 1;simp;omega
   go_wp2;go_quiet (fail);go_wp2;go_ret;exact⟨iW (by rw[N.out]),by rw[H.out];exact F.out.drewN _,ls I.out _⟩
def Sw (q:UInt8->Bool)(a:Nat)(s:BA)(p n:Nat)(c:Int)(w:World)(e:Ending)(w':World):Prop:=
 e=.returned (.tuple #[.string (ke (((bl s).drop p).take (jo q ((bl s).drop p)))),.bool (decide (0<jo q ((bl s).drop p)))])/\DR w' a s (p+jo q ((bl s).drop p)) n c/\w.grownBy w' (some a)
theorem QL (q:UInt8->Bool)(s:BA)(p k:Nat)(h:p+jo q ((bl s).drop p)=k):s.extract p k=ke (((bl s).drop p).take (jo q ((bl s).drop p))):=by
 apply Hd;rw[tT];congr 1;omega
theorem CX (E:BA)(q:UInt8->Bool)(hE:∀ d,(bl E).contains d=!q d)(a:Nat)(s:BA)(p n:Nat)(c:Int)(w:World)(hs:s.size<=4294967280)(h:DR w a s p n c):Calls Tryz.prog 244 #[.pointer (some ⟨a,0,none⟩),.string E] w (Sw q a s p n c w):=by
 have Y:=iV hE;clear hE;obtain⟨f,y,k⟩:=h.cells;have U:=k.c1;have hp:=h.le;have HD:=iV h;clear h k;go_in;go_wp2;go_loopw [] (fun wr=>∃ k:Nat,p<=k/\k<=s.size/\Hid (DR wr a s k n c)/\Hid (w.grownBy wr (some a))/\Hid (p+jo q ((bl s).drop p)=k+jo q ((bl s).drop k))) (fun wr=>s.size-Jt a wr)
 case atStart=>exact⟨p,lr,hp,HD,World.grownBy.refl _ _,rfl⟩
 case round=>
  clear U;obtain⟨k,Z,ac,F,M,N⟩:=hrel;obtain⟨f',y',K⟩:=F.out.cells;obtain⟨c0,U,c2,c3,c4,c5,f0,f1,f2,f3,f4,f5⟩:=K;clear c2 c3 c4 c5 f0 f2 f3 f4 f5;have MA:=iV F.out.at_;have ab:(p:Int)<=(k:Int):=by omega
  have aa:(k:Int)<=(s.size:Int):=by omega
  by_cases z:k<s.size
  ·obtain⟨d,V⟩:∃ d:UInt8,s[k]=d:=⟨_,rfl⟩
   have I:=fun W=>(jQ E d W).mono (fun (_:Ending) (_:World) ⟨he,hw⟩=>(⟨he,hw.symm⟩:_/\_));cases hq:q d with
   | true=>
    have J:Bk E d<0:=pj E d (by rw[Y.out,hq];rfl);have D:decide (Bk E d<0)=true:=dT J;have O:Hid (p+jo q ((bl s).drop p)=(k+1)+jo q ((bl s).drop (k+1))):=by
     have:=N.out;rw[Hi s k z (by rw[V];exact hq)] at this;show _=_;omega
    have X:=iV (F.out.move (q:=k+1) (by omega) (by omega));clear hq;generalize Bk E d=i at I J D;go_wp2;go_quiet ((go_at_call 142;exact Calls.quiet_of_same (I _)));go_wp2;go_roundw
    case rel=>exact⟨k+1,by omega,by omega,X.out.drewN _,ls (ja M.out (jO _)) _,O⟩
    case measure=>exact DR.dec (X.out.drewN _) F.out (Nat.lt_succ_self _)
   | false=>
    have J:0<=Bk E d:=pO E d (by rw[Y.out,hq];rfl);have D:decide (Bk E d<0)=false:=dF (by omega);have H:Hid (p+jo q ((bl s).drop p)=k):=by
     have:=N.out;rw[Hj s k z (by rw[V];exact hq)] at this;exact this
    clear hq;generalize Bk E d=i at I J D;go_wp2;go_quiet ((go_at_call 142;exact Calls.quiet_of_same (I _)));go_wp2;go_quiet (fail);go_wp2;go_ret2;refine⟨?_,by rw[H.out];exact(F.out.drewN _).drewN _,ls (ls M.out _) _⟩;have:=H.out;rw[<-QL q s p k this];congr 5;simp;omega
  ·have R:decide (k<s.size)=false:=dF z;have H:Hid (p+jo q ((bl s).drop p)=k):=by
    have:=N.out;rw[KX _ s k z] at this;exact this
   go_wp2;go_quiet (fail);go_wp2;go_quiet (fail);go_wp2;go_ret2;refine⟨?_,by rw[H.out];exact(F.out.drewN _).drewN _,ls (ls M.out _) _⟩;have:=H.out;rw[<-QL q s p k this];congr 5;simp;omega
def ZG:BA:=⟨#[32,44,124,40,41,91,93]⟩
def ZH:BA:=⟨#[32,44,124,40,41,91,93,58]⟩
def ZI:BA:=⟨#[32,44,124,40,41,91,93,58,33]⟩
theorem pf (d:UInt8):(bl ZG).contains d=!uE d:=by
 have:=nk (fun c=>(bl ZG).contains c == !uE c) (by kernel_rfl) d;simpa using this
theorem KZ (d:UInt8):(bl ZH).contains d=!vX d:=by
 have:=nk (fun c=>(bl ZH).contains c == !vX c) (by kernel_rfl) d;simpa using this
theorem CY (d:UInt8):(bl ZI).contains d=!rk d:=by
 have:=nk (fun c=>(bl ZI).contains c == !rk c) (by kernel_rfl) d;simpa using this
theorem nt {t:LU}(hp:p<=s.size)(h:uq q ((bl s).drop p)=some (t,r)):t.length=jo q ((bl s).drop p)/\(bl s).drop (p+t.length)=r/\0<t.length/\p+t.length<=s.size:=by
 obtain⟨F,z,D⟩:=xX h;have y:t.length=jo q ((bl s).drop p):=by rw[z,List.length_take];have:=pm q ((bl s).drop p);omega
 have:=Sr q s p hp;refine⟨y,?_,by omega,by omega⟩;rw[y,<-List.drop_drop,D]
theorem Vw (h:uq q l=none):jo q l=0:=by
 unfold uq at h;split at h
 ·assumption
 ·cases h
theorem lX (hE:∀ d,(bl E).contains d=!q d)(a:Nat)(s:BA)(p n:Nat)(c:Int)(w:World)(hs:s.size<=4294967280)(h:DR w a s p n c)(hh:Hid (uq q ((bl s).drop p)=none)):Calls Tryz.prog 244 #[.pointer (some ⟨a,0,none⟩),.string E] w fun e w'=>e=.returned (.tuple #[.string ⟨#[]⟩,.bool false])/\DR w' a s p n c/\w.grownBy w' (some a):=by
 refine(CX E q hE a s p n c w hs h).mono fun e w' ⟨z,y,D⟩=>?_;rw[Vw hh.out] at z y;exact⟨z,y,D⟩
theorem lA (hE:∀ d,(bl E).contains d=!q d)(t r:LU)(a:Nat)(s:BA)(p n:Nat)(c:Int)(w:World)(hs:s.size<=4294967280)(h:DR w a s p n c)(hh:Hid (uq q ((bl s).drop p)=some (t,r))):Calls Tryz.prog 244 #[.pointer (some ⟨a,0,none⟩),.string E] w fun e w'=>e=.returned (.tuple #[.string (ke t),.bool true])/\DR w' a s (p+t.length) n c/\w.grownBy w' (some a):=by
 refine(CX E q hE a s p n c w hs h).mono fun e w' ⟨z,y,I⟩=>?_;obtain⟨H,K,J,N⟩:=nt h.le hh.out;obtain⟨F,D,M⟩:=xX hh.out;rw[<-D,dT F] at z;rw[<-H] at y;exact⟨z,y,I⟩
def Vx (t:LU)(a:Nat)(s:BA)(p n:Nat)(c:Int)(w:World)(e:Ending)(w':World):Prop:=
 e=.returned (.tuple #[.string (ke t),.bool true])/\(∃ c',DR w' a s (p+t.length) n c'/\(c'=0↔c=0/\mH t=true))/\w.grownBy w' (some a)
theorem qX (a:Nat)(s:BA)(p n:Nat)(c:Int)(w:World)(hs:s.size<=4294967280)(h:DR w a s p n c)(hh:Hid (uq rk ((bl s).drop p)=none)):Calls Tryz.prog 246 #[.pointer (some ⟨a,0,none⟩)] w fun e w'=>e=.returned (.tuple #[.string ⟨#[]⟩,.bool false])/\DR w' a s p n c/\w.grownBy w' (some a):=by
 obtain⟨f,y,k⟩:=h.cells;have I:=k.c1;have J:=iV h;clear h k;go_in;go_wp2_with fail;refine(lX CY a s p n c w hs J.out hh).mono ?_;rintro e K ⟨rfl,F,H⟩;have z:=iV F;have D:=iV H;clear F H I;go_wp2;go_ret2;exact⟨rfl,z.out,D.out⟩
theorem qY (t r:LU)(a:Nat)(s:BA)(p n:Nat)(c:Int)(w:World)(hs:s.size<=4294967280)(h:DR w a s p n c)(hh:Hid (uq rk ((bl s).drop p)=some (t,r))):Calls Tryz.prog 246 #[.pointer (some ⟨a,0,none⟩)] w (Vx t a s p n c w):=by
 obtain⟨f,y,k⟩:=h.cells;have N:=k.c1;have X:(ke t).size<=s.size:=by have:=(nt h.le hh.out).2.2.2;rw[kL];omega
 have O:=iV h;clear h k;have I:=fun W=>zp (ke t) W (by omega);rw[lS] at I;cases z:mH t with
 | true=>
  rw[z] at I;have M:=iV z;clear z;go_in;go_wp2_with fail;refine(lA CY t r a s p n c w hs O.out hh).mono ?_;rintro e R ⟨rfl,z,D⟩;have F:=iV z;have H:=iV D;clear z D N;go_wp2_with fail;refine(I _).mono ?_;rintro e U ⟨rfl,rfl⟩;go_wp2;go_ret2;exact⟨rfl,⟨c,F.out,by simp[M.out]⟩,H.out⟩
 | false=>
  rw[z] at I;have M:=iV z;clear z;go_in;go_wp2_with fail;refine(lA CY t r a s p n c w hs O.out hh).mono ?_;rintro e R ⟨rfl,z,D⟩;have F:=iV z;have H:=iV D;clear z D N;go_wp2_with fail;refine(I _).mono ?_;rintro e U ⟨rfl,rfl⟩;go_wp2_with fail;refine(pI _ 10 a s _ n c R F.out).mono ?_;rintro e V ⟨rfl,z,D⟩;have J:=iV z;have K:=iV D;clear z D;go_wp2;go_ret2;exact⟨rfl,⟨_,J.out,by rw[oB,M.out];simp⟩,ja H.out K.out⟩
def zq (a:Nat)(w:World):Prop:=∃ w0,Gl w0/\Below w0.heap.size w0 w/\w0.heap.size<=a
theorem zq.gl (h:zq a w):Gl w:=by obtain⟨D,z,y,_⟩:=h;exact z.below y
theorem zq.kept (h:zq a w)(hg:w.grownBy w' (some a)):zq a w':=by
 obtain⟨z,F,D,y⟩:=h;exact⟨z,F,mP D hg y,y⟩
theorem zq.below (h:zq a w)(hb:Below w.heap.size w w'):zq a w':=by
 obtain⟨y,D,z,F⟩:=h;exact⟨y,D,jc z hb,F⟩
def kB (r:Option (Nat×LU×LU))(a:Nat)(s:BA)(p n:Nat)(c:Int)(w:World)(e:Ending)(w':World):Prop:=
 w.grownBy w' (some a)/\match r with
  | none=>e=.returned (.tuple #[.int .i64 0,.string ⟨#[]⟩,.bool false])/\∃ p' c',DR w' a s p' n c'
  | some (op,v,r)=>e=.returned (.tuple #[.int .i64 op,.string (ke v),.bool true])/\∃ p' c',p<=p'/\DR w' a s p' n c'/\(bl s).drop p'=r/\(c'=0↔c=0/\kf 1 (ke v)=0)
theorem kB.no {r:Option (Nat×LU×LU)}(hr:r=none)(hg:w.grownBy w' (some a))(h:DR w' a s p' n c'):kB r a s p n c w (.returned (.tuple #[.int .i64 0,.string ⟨#[]⟩,.bool false])) w':=by
 subst hr;exact⟨hg,rfl,_,_,h⟩
theorem kB.yes {r:Option (Nat×LU×LU)}{r':LU}(hr:r=some (op,v,r'))(hg:w.grownBy w' (some a))(h:DR w' a s p' n c')(hp:p<=p')(hd:(bl s).drop p'=r')(hc:c'=0↔c=0/\kf 1 (ke v)=0):kB r a s p n c w (.returned (.tuple #[.int .i64 op,.string (ke v),.bool true])) w':=by
 subst hr;exact⟨hg,rfl,_,_,hp,h,hd,hc⟩
theorem tr (h:uq uE (jq l)=none):lf op l=none:=by unfold lf;rw[h];split<;>rfl
theorem tu (ho:op≠0)(h:uq uE (jq l)=some (v,r)):lf op l=sI op v r:=by unfold lf;rw[if_neg ho,h]
theorem ya (h:jl 41 (jq r)=false):sI op v r=none:=by unfold sI;rw[h];rfl
theorem uH (h:jl 41 (jq r)=true):sI op v r=some (op,v,jq ((jq r).drop 1)):=by unfold sI;rw[h];rfl
theorem Bm (a:Nat)(s:BA)(p n q:Nat)(c:Int)(w:World)(hs:s.size<=4294967280)(hG:zq a w)(h:DR w a s p n c)(hq:p+jo jN ((bl s).drop p)=q)
  (H0:Hid (jl 61 ((bl s).drop q)=true)):Calls Tryz.prog 247 #[.pointer (some ⟨a,0,none⟩)] w (kB (lf 3 ((bl s).drop (q+1))) a s p n c w):=by
 have hB:=jx a s p n c w hs h;rw[hq] at hB;have HQ:Hid (p<=q):=by show _<=_;omega
 have HG:=iV hG;clear hG hq h;go_in;go_wp2_with fail;refine hB.mono ?_;rintro e w1 ⟨rfl,z,D⟩;have D1:=iV z;have G1:=iV D;clear z D hB;go_wp2_with fail;refine(jD 61 a s q n c w1 hs D1.out H0).mono ?_;rintro e w2 ⟨rfl,z,D⟩;have D2:=iV z;have G2:=iV (ja G1.out D);clear z D D1 G1 H0;obtain⟨R,J⟩:∃ R,(q+1)=R:=⟨_,rfl⟩
 obtain⟨F,N⟩:∃ F,R+jo jN ((bl s).drop R)=F:=⟨_,rfl⟩
 rw[J] at D2;have ab:Hid (p<=F):=by have:=HQ.out;show _<=_;omega
 have SK:Hid (jq ((bl s).drop (q+1))=(bl s).drop F):=by show _=_;rw[J,kW,N]
 have M:=jx a s R n c w2 hs D2.out;rw[N] at M;clear J N HQ;go_wp2_with fail;refine M.mono ?_;rintro e v1 ⟨rfl,z,D⟩;have Z:=iV z;have K1:=iV (ja G2.out D);clear z D M;obtain⟨f,y,k⟩:=Z.out.cells;have c1:=k.c1;clear k;cases ht:uq uE ((bl s).drop F) with
 | none=>
  have HT:=iV ht;have X:Hid (lf 3 ((bl s).drop (q+1))=none):=tr (by rw[SK.out];exact ht);clear ht;go_wp2_with fail;refine(lX pf a s F n c v1 hs Z.out HT).mono ?_;rintro e v2 ⟨rfl,z,D⟩;have E2:=iV z;have K2:=iV (ja K1.out D);clear z D c1;go_wp2;go_ret3;exact kB.no X.out K2.out E2.out
 | some x=>
  obtain⟨v,r⟩:=x;have HT:=iV ht;obtain⟨t1,t2,t3,t4⟩:=nt Z.out.le ht;have X:Hid (lf 3 ((bl s).drop (q+1))=sI 3 v r):=tu (by decide) (by rw[SK.out];exact ht);have ad:(ke v).size<=4294967280:=by rw[kL];omega
  obtain⟨H,O⟩:∃ H,F+v.length+jo jN ((bl s).drop (F+v.length))=H:=⟨_,rfl⟩
  have K:Hid (jq r=(bl s).drop H):=by show _=_;rw[<-t2,kW,O]
  have ac:Hid (p<=H):=by have:=ab.out;show _<=_;omega
  have U:=iV (fun (c':Int) (W:World) (hD:DR W a s (F+v.length) n c')=>jx a s (F+v.length) n c' W hs hD);rw[O] at U;clear ht t1 t2 t3 t4 O;go_wp2_with fail;refine(lA pf v r a s F n c v1 hs Z.out HT).mono ?_;rintro e v2 ⟨rfl,z,D⟩;have E2:=iV z;have K2:=iV (ja K1.out D);clear z D c1;go_wp2_with fail;refine(jT 1 (ke v) _ (HG.out.kept K2.out).gl (by omega)).mono ?_;rintro e v3 ⟨rfl,hb⟩;have E3:=iV (E2.out.below hb);have K3:=iV (kx K2.out hb);clear hb;go_wp2_with fail;refine(pI _ _ a s _ n c v3 E3.out).mono ?_;rintro e v4 ⟨rfl,z,D⟩;have E4:=iV z;have K4:=iV (ja K3.out D);clear z D;have NC:=iV (oB c (kf 1 (ke v)));generalize sJ c (kf 1 (ke v))=c' at E4 NC;go_wp2_with fail;refine(U.out c' v4 E4.out).mono ?_;rintro e v5 ⟨rfl,z,D⟩;have E5:=iV z;have K5:=iV (ja K4.out D);clear z D;cases hh:jl 41 ((bl s).drop H) with
  | false=>
   have HH:=iV hh;have EM:Hid (lf 3 ((bl s).drop (q+1))=none):=by show _=_;rw[X.out];exact ya (by rw[K.out];exact hh)
   clear hh;go_wp2_with fail;refine(js 41 a s H n c' v5 hs E5.out HH).mono ?_;rintro e v6 ⟨rfl,z,D⟩;have E6:=iV z;have K6:=iV (ja K5.out D);clear z D;go_wp2;go_ret3;exact kB.no EM.out K6.out E6.out
  | true=>
   have HH:=iV hh;obtain⟨Y,I⟩:∃ Y,H+1+jo jN ((bl s).drop (H+1))=Y:=⟨_,rfl⟩
   have EM:Hid (lf 3 ((bl s).drop (q+1))=some (3,v,(bl s).drop Y)):=by
    show _=_;rw[X.out,uH (by rw[K.out];exact hh),K.out,List.drop_drop,kW,I]
   have V:=iV (fun (W:World) (hD:DR W a s (H+1) n c')=>jx a s (H+1) n c' W hs hD);rw[I] at V;have aa:Hid (p<=Y):=by have:=ac.out;show _<=_;omega
   clear hh I;go_wp2_with fail;refine(jD 41 a s H n c' v5 hs E5.out HH).mono ?_;rintro e v6 ⟨rfl,z,D⟩;have E6:=iV z;have K6:=iV (ja K5.out D);clear z D;go_wp2_with fail;refine(V.out v6 E6.out).mono ?_;rintro e v7 ⟨rfl,z,D⟩;have E7:=iV z;have K7:=iV (ja K6.out D);clear z D;go_wp2;go_ret3;exact kB.yes EM.out K7.out E7.out aa.out rfl NC.out
theorem Bn (a:Nat)(s:BA)(p n q:Nat)(c:Int)(w:World)(hs:s.size<=4294967280)(hG:zq a w)(h:DR w a s p n c)(hq:p+jo jN ((bl s).drop p)=q)
  (H0:Hid (jl 61 ((bl s).drop q)=false))(H1:Hid (jl 60 ((bl s).drop q)=true))(H2:Hid (jl 60 ((bl s).drop (q+1))=true)):Calls Tryz.prog 247 #[.pointer (some ⟨a,0,none⟩)] w (kB (lf 1 ((bl s).drop (q+2))) a s p n c w):=by
 have hB:=jx a s p n c w hs h;rw[hq] at hB;have HQ:Hid (p<=q):=by show _<=_;omega
 have HG:=iV hG;clear hG hq h;go_in;go_wp2_with fail;refine hB.mono ?_;rintro e w1 ⟨rfl,z,D⟩;have D1:=iV z;have G1:=iV D;clear z D hB;go_wp2_with fail;refine(js 61 a s q n c w1 hs D1.out H0).mono ?_;rintro e w2 ⟨rfl,z,D⟩;have D2:=iV z;have G2:=iV (ja G1.out D);clear z D D1 G1 H0;go_wp2_with fail;refine(jD 60 a s q n c w2 hs D2.out H1).mono ?_;rintro e w3 ⟨rfl,z,D⟩;have D3:=iV z;have G3:=iV (ja G2.out D);clear z D D2 G2 H1;go_wp2_with fail;refine(jD 60 a s (q+1) n c w3 hs D3.out H2).mono ?_;rintro e w4 ⟨rfl,z,D⟩;have D4:=iV z;have G4:=iV (ja G3.out D);clear z D D3 G3 H2;obtain⟨R,J⟩:∃ R,(q+2)=R:=⟨_,rfl⟩
 obtain⟨F,N⟩:∃ F,R+jo jN ((bl s).drop R)=F:=⟨_,rfl⟩
 rw[J] at D4;have ab:Hid (p<=F):=by have:=HQ.out;show _<=_;omega
 have SK:Hid (jq ((bl s).drop (q+2))=(bl s).drop F):=by show _=_;rw[J,kW,N]
 have M:=jx a s R n c w4 hs D4.out;rw[N] at M;clear J N HQ;go_wp2_with fail;refine M.mono ?_;rintro e v1 ⟨rfl,z,D⟩;have Z:=iV z;have K1:=iV (ja G4.out D);clear z D M;obtain⟨f,y,k⟩:=Z.out.cells;have c1:=k.c1;clear k;cases ht:uq uE ((bl s).drop F) with
 | none=>
  have HT:=iV ht;have X:Hid (lf 1 ((bl s).drop (q+2))=none):=tr (by rw[SK.out];exact ht);clear ht;go_wp2_with fail;refine(lX pf a s F n c v1 hs Z.out HT).mono ?_;rintro e v2 ⟨rfl,z,D⟩;have E2:=iV z;have K2:=iV (ja K1.out D);clear z D c1;go_wp2;go_ret3;exact kB.no X.out K2.out E2.out
 | some x=>
  obtain⟨v,r⟩:=x;have HT:=iV ht;obtain⟨t1,t2,t3,t4⟩:=nt Z.out.le ht;have X:Hid (lf 1 ((bl s).drop (q+2))=sI 1 v r):=tu (by decide) (by rw[SK.out];exact ht);have ad:(ke v).size<=4294967280:=by rw[kL];omega
  obtain⟨H,O⟩:∃ H,F+v.length+jo jN ((bl s).drop (F+v.length))=H:=⟨_,rfl⟩
  have K:Hid (jq r=(bl s).drop H):=by show _=_;rw[<-t2,kW,O]
  have ac:Hid (p<=H):=by have:=ab.out;show _<=_;omega
  have U:=iV (fun (c':Int) (W:World) (hD:DR W a s (F+v.length) n c')=>jx a s (F+v.length) n c' W hs hD);rw[O] at U;clear ht t1 t2 t3 t4 O;go_wp2_with fail;refine(lA pf v r a s F n c v1 hs Z.out HT).mono ?_;rintro e v2 ⟨rfl,z,D⟩;have E2:=iV z;have K2:=iV (ja K1.out D);clear z D c1;go_wp2_with fail;refine(jT 1 (ke v) _ (HG.out.kept K2.out).gl (by omega)).mono ?_;rintro e v3 ⟨rfl,hb⟩;have E3:=iV (E2.out.below hb);have K3:=iV (kx K2.out hb);clear hb;go_wp2_with fail;refine(pI _ _ a s _ n c v3 E3.out).mono ?_;rintro e v4 ⟨rfl,z,D⟩;have E4:=iV z;have K4:=iV (ja K3.out D);clear z D;have NC:=iV (oB c (kf 1 (ke v)));generalize sJ c (kf 1 (ke v))=c' at E4 NC;go_wp2_with fail;refine(U.out c' v4 E4.out).mono ?_;rintro e v5 ⟨rfl,z,D⟩;have E5:=iV z;have K5:=iV (ja K4.out D);clear z D;cases hh:jl 41 ((bl s).drop H) with
  | false=>
   have HH:=iV hh;have EM:Hid (lf 1 ((bl s).drop (q+2))=none):=by show _=_;rw[X.out];exact ya (by rw[K.out];exact hh)
   clear hh;go_wp2_with fail;refine(js 41 a s H n c' v5 hs E5.out HH).mono ?_;rintro e v6 ⟨rfl,z,D⟩;have E6:=iV z;have K6:=iV (ja K5.out D);clear z D;go_wp2;go_ret3;exact kB.no EM.out K6.out E6.out
  | true=>
   have HH:=iV hh;obtain⟨Y,I⟩:∃ Y,H+1+jo jN ((bl s).drop (H+1))=Y:=⟨_,rfl⟩
   have EM:Hid (lf 1 ((bl s).drop (q+2))=some (1,v,(bl s).drop Y)):=by
    show _=_;rw[X.out,uH (by rw[K.out];exact hh),K.out,List.drop_drop,kW,I]
   have V:=iV (fun (W:World) (hD:DR W a s (H+1) n c')=>jx a s (H+1) n c' W hs hD);rw[I] at V;have aa:Hid (p<=Y):=by have:=ac.out;show _<=_;omega
   clear hh I;go_wp2_with fail;refine(jD 41 a s H n c' v5 hs E5.out HH).mono ?_;rintro e v6 ⟨rfl,z,D⟩;have E6:=iV z;have K6:=iV (ja K5.out D);clear z D;go_wp2_with fail;refine(V.out v6 E6.out).mono ?_;rintro e v7 ⟨rfl,z,D⟩;have E7:=iV z;have K7:=iV (ja K6.out D);clear z D;go_wp2;go_ret3;exact kB.yes EM.out K7.out E7.out aa.out rfl NC.out
theorem Bo (a:Nat)(s:BA)(p n q:Nat)(c:Int)(w:World)(hs:s.size<=4294967280)(hG:zq a w)(h:DR w a s p n c)(hq:p+jo jN ((bl s).drop p)=q)
  (H0:Hid (jl 61 ((bl s).drop q)=false))(H1:Hid (jl 60 ((bl s).drop q)=true))(H2:Hid (jl 60 ((bl s).drop (q+1))=false))(H3:Hid (jl 61 ((bl s).drop (q+1))=true)):Calls Tryz.prog 247 #[.pointer (some ⟨a,0,none⟩)] w (kB (lf 2 ((bl s).drop (q+2))) a s p n c w):=by
 have hB:=jx a s p n c w hs h;rw[hq] at hB;have HQ:Hid (p<=q):=by show _<=_;omega
 have HG:=iV hG;clear hG hq h;go_in;go_wp2_with fail;refine hB.mono ?_;rintro e w1 ⟨rfl,z,D⟩;have D1:=iV z;have G1:=iV D;clear z D hB;go_wp2_with fail;refine(js 61 a s q n c w1 hs D1.out H0).mono ?_;rintro e w2 ⟨rfl,z,D⟩;have D2:=iV z;have G2:=iV (ja G1.out D);clear z D D1 G1 H0;go_wp2_with fail;refine(jD 60 a s q n c w2 hs D2.out H1).mono ?_;rintro e w3 ⟨rfl,z,D⟩;have D3:=iV z;have G3:=iV (ja G2.out D);clear z D D2 G2 H1;go_wp2_with fail;refine(js 60 a s (q+1) n c w3 hs D3.out H2).mono ?_;rintro e w4 ⟨rfl,z,D⟩;have D4:=iV z;have G4:=iV (ja G3.out D);clear z D D3 G3 H2;go_wp2_with fail;refine(jD 61 a s (q+1) n c w4 hs D4.out H3).mono ?_;rintro e w5 ⟨rfl,z,D⟩;have D5:=iV z;have G5:=iV (ja G4.out D);clear z D D4 G4 H3;obtain⟨R,J⟩:∃ R,(q+2)=R:=⟨_,rfl⟩
 obtain⟨F,N⟩:∃ F,R+jo jN ((bl s).drop R)=F:=⟨_,rfl⟩
 rw[J] at D5;have ab:Hid (p<=F):=by have:=HQ.out;show _<=_;omega
 have SK:Hid (jq ((bl s).drop (q+2))=(bl s).drop F):=by show _=_;rw[J,kW,N]
 have M:=jx a s R n c w5 hs D5.out;rw[N] at M;clear J N HQ;go_wp2_with fail;refine M.mono ?_;rintro e v1 ⟨rfl,z,D⟩;have Z:=iV z;have K1:=iV (ja G5.out D);clear z D M;obtain⟨f,y,k⟩:=Z.out.cells;have c1:=k.c1;clear k;cases ht:uq uE ((bl s).drop F) with
 | none=>
  have HT:=iV ht;have X:Hid (lf 2 ((bl s).drop (q+2))=none):=tr (by rw[SK.out];exact ht);clear ht;go_wp2_with fail;refine(lX pf a s F n c v1 hs Z.out HT).mono ?_;rintro e v2 ⟨rfl,z,D⟩;have E2:=iV z;have K2:=iV (ja K1.out D);clear z D c1;go_wp2;go_ret3;exact kB.no X.out K2.out E2.out
 | some x=>
  obtain⟨v,r⟩:=x;have HT:=iV ht;obtain⟨t1,t2,t3,t4⟩:=nt Z.out.le ht;have X:Hid (lf 2 ((bl s).drop (q+2))=sI 2 v r):=tu (by decide) (by rw[SK.out];exact ht);have ad:(ke v).size<=4294967280:=by rw[kL];omega
  obtain⟨H,O⟩:∃ H,F+v.length+jo jN ((bl s).drop (F+v.length))=H:=⟨_,rfl⟩
  have K:Hid (jq r=(bl s).drop H):=by show _=_;rw[<-t2,kW,O]
  have ac:Hid (p<=H):=by have:=ab.out;show _<=_;omega
  have U:=iV (fun (c':Int) (W:World) (hD:DR W a s (F+v.length) n c')=>jx a s (F+v.length) n c' W hs hD);rw[O] at U;clear ht t1 t2 t3 t4 O;go_wp2_with fail;refine(lA pf v r a s F n c v1 hs Z.out HT).mono ?_;rintro e v2 ⟨rfl,z,D⟩;have E2:=iV z;have K2:=iV (ja K1.out D);clear z D c1;go_wp2_with fail;refine(jT 1 (ke v) _ (HG.out.kept K2.out).gl (by omega)).mono ?_;rintro e v3 ⟨rfl,hb⟩;have E3:=iV (E2.out.below hb);have K3:=iV (kx K2.out hb);clear hb;go_wp2_with fail;refine(pI _ _ a s _ n c v3 E3.out).mono ?_;rintro e v4 ⟨rfl,z,D⟩;have E4:=iV z;have K4:=iV (ja K3.out D);clear z D;have NC:=iV (oB c (kf 1 (ke v)));generalize sJ c (kf 1 (ke v))=c' at E4 NC;go_wp2_with fail;refine(U.out c' v4 E4.out).mono ?_;rintro e v5 ⟨rfl,z,D⟩;have E5:=iV z;have K5:=iV (ja K4.out D);clear z D;cases hh:jl 41 ((bl s).drop H) with
  | false=>
   have HH:=iV hh;have EM:Hid (lf 2 ((bl s).drop (q+2))=none):=by show _=_;rw[X.out];exact ya (by rw[K.out];exact hh)
   clear hh;go_wp2_with fail;refine(js 41 a s H n c' v5 hs E5.out HH).mono ?_;rintro e v6 ⟨rfl,z,D⟩;have E6:=iV z;have K6:=iV (ja K5.out D);clear z D;go_wp2;go_ret3;exact kB.no EM.out K6.out E6.out
  | true=>
   have HH:=iV hh;obtain⟨Y,I⟩:∃ Y,H+1+jo jN ((bl s).drop (H+1))=Y:=⟨_,rfl⟩
   have EM:Hid (lf 2 ((bl s).drop (q+2))=some (2,v,(bl s).drop Y)):=by
    show _=_;rw[X.out,uH (by rw[K.out];exact hh),K.out,List.drop_drop,kW,I]
   have V:=iV (fun (W:World) (hD:DR W a s (H+1) n c')=>jx a s (H+1) n c' W hs hD);rw[I] at V;have aa:Hid (p<=Y):=by have:=ac.out;show _<=_;omega
   clear hh I;go_wp2_with fail;refine(jD 41 a s H n c' v5 hs E5.out HH).mono ?_;rintro e v6 ⟨rfl,z,D⟩;have E6:=iV z;have K6:=iV (ja K5.out D);clear z D;go_wp2_with fail;refine(V.out v6 E6.out).mono ?_;rintro e v7 ⟨rfl,z,D⟩;have E7:=iV z;have K7:=iV (ja K6.out D);clear z D;go_wp2;go_ret3;exact kB.yes EM.out K7.out E7.out aa.out rfl NC.out
theorem Bp (a:Nat)(s:BA)(p n q:Nat)(c:Int)(w:World)(hs:s.size<=4294967280)(hG:zq a w)(h:DR w a s p n c)(hq:p+jo jN ((bl s).drop p)=q)
  (H0:Hid (jl 61 ((bl s).drop q)=false))(H1:Hid (jl 60 ((bl s).drop q)=false))(H2:Hid (jl 62 ((bl s).drop q)=true))(H3:Hid (jl 62 ((bl s).drop (q+1))=true)):Calls Tryz.prog 247 #[.pointer (some ⟨a,0,none⟩)] w (kB (lf 5 ((bl s).drop (q+2))) a s p n c w):=by
 have hB:=jx a s p n c w hs h;rw[hq] at hB;have HQ:Hid (p<=q):=by show _<=_;omega
 have HG:=iV hG;clear hG hq h;go_in;go_wp2_with fail;refine hB.mono ?_;rintro e w1 ⟨rfl,z,D⟩;have D1:=iV z;have G1:=iV D;clear z D hB;go_wp2_with fail;refine(js 61 a s q n c w1 hs D1.out H0).mono ?_;rintro e w2 ⟨rfl,z,D⟩;have D2:=iV z;have G2:=iV (ja G1.out D);clear z D D1 G1 H0;go_wp2_with fail;refine(js 60 a s q n c w2 hs D2.out H1).mono ?_;rintro e w3 ⟨rfl,z,D⟩;have D3:=iV z;have G3:=iV (ja G2.out D);clear z D D2 G2 H1;go_wp2_with fail;refine(jD 62 a s q n c w3 hs D3.out H2).mono ?_;rintro e w4 ⟨rfl,z,D⟩;have D4:=iV z;have G4:=iV (ja G3.out D);clear z D D3 G3 H2;go_wp2_with fail;refine(jD 62 a s (q+1) n c w4 hs D4.out H3).mono ?_;rintro e w5 ⟨rfl,z,D⟩;have D5:=iV z;have G5:=iV (ja G4.out D);clear z D D4 G4 H3;obtain⟨R,J⟩:∃ R,(q+2)=R:=⟨_,rfl⟩
 obtain⟨F,N⟩:∃ F,R+jo jN ((bl s).drop R)=F:=⟨_,rfl⟩
 rw[J] at D5;have ab:Hid (p<=F):=by have:=HQ.out;show _<=_;omega
 have SK:Hid (jq ((bl s).drop (q+2))=(bl s).drop F):=by show _=_;rw[J,kW,N]
 have M:=jx a s R n c w5 hs D5.out;rw[N] at M;clear J N HQ;go_wp2_with fail;refine M.mono ?_;rintro e v1 ⟨rfl,z,D⟩;have Z:=iV z;have K1:=iV (ja G5.out D);clear z D M;obtain⟨f,y,k⟩:=Z.out.cells;have c1:=k.c1;clear k;cases ht:uq uE ((bl s).drop F) with
 | none=>
  have HT:=iV ht;have X:Hid (lf 5 ((bl s).drop (q+2))=none):=tr (by rw[SK.out];exact ht);clear ht;go_wp2_with fail;refine(lX pf a s F n c v1 hs Z.out HT).mono ?_;rintro e v2 ⟨rfl,z,D⟩;have E2:=iV z;have K2:=iV (ja K1.out D);clear z D c1;go_wp2;go_ret3;exact kB.no X.out K2.out E2.out
 | some x=>
  obtain⟨v,r⟩:=x;have HT:=iV ht;obtain⟨t1,t2,t3,t4⟩:=nt Z.out.le ht;have X:Hid (lf 5 ((bl s).drop (q+2))=sI 5 v r):=tu (by decide) (by rw[SK.out];exact ht);have ad:(ke v).size<=4294967280:=by rw[kL];omega
  obtain⟨H,O⟩:∃ H,F+v.length+jo jN ((bl s).drop (F+v.length))=H:=⟨_,rfl⟩
  have K:Hid (jq r=(bl s).drop H):=by show _=_;rw[<-t2,kW,O]
  have ac:Hid (p<=H):=by have:=ab.out;show _<=_;omega
  have U:=iV (fun (c':Int) (W:World) (hD:DR W a s (F+v.length) n c')=>jx a s (F+v.length) n c' W hs hD);rw[O] at U;clear ht t1 t2 t3 t4 O;go_wp2_with fail;refine(lA pf v r a s F n c v1 hs Z.out HT).mono ?_;rintro e v2 ⟨rfl,z,D⟩;have E2:=iV z;have K2:=iV (ja K1.out D);clear z D c1;go_wp2_with fail;refine(jT 1 (ke v) _ (HG.out.kept K2.out).gl (by omega)).mono ?_;rintro e v3 ⟨rfl,hb⟩;have E3:=iV (E2.out.below hb);have K3:=iV (kx K2.out hb);clear hb;go_wp2_with fail;refine(pI _ _ a s _ n c v3 E3.out).mono ?_;rintro e v4 ⟨rfl,z,D⟩;have E4:=iV z;have K4:=iV (ja K3.out D);clear z D;have NC:=iV (oB c (kf 1 (ke v)));generalize sJ c (kf 1 (ke v))=c' at E4 NC;go_wp2_with fail;refine(U.out c' v4 E4.out).mono ?_;rintro e v5 ⟨rfl,z,D⟩;have E5:=iV z;have K5:=iV (ja K4.out D);clear z D;cases hh:jl 41 ((bl s).drop H) with
  | false=>
   have HH:=iV hh;have EM:Hid (lf 5 ((bl s).drop (q+2))=none):=by show _=_;rw[X.out];exact ya (by rw[K.out];exact hh)
   clear hh;go_wp2_with fail;refine(js 41 a s H n c' v5 hs E5.out HH).mono ?_;rintro e v6 ⟨rfl,z,D⟩;have E6:=iV z;have K6:=iV (ja K5.out D);clear z D;go_wp2;go_ret3;exact kB.no EM.out K6.out E6.out
  | true=>
   have HH:=iV hh;obtain⟨Y,I⟩:∃ Y,H+1+jo jN ((bl s).drop (H+1))=Y:=⟨_,rfl⟩
   have EM:Hid (lf 5 ((bl s).drop (q+2))=some (5,v,(bl s).drop Y)):=by
    show _=_;rw[X.out,uH (by rw[K.out];exact hh),K.out,List.drop_drop,kW,I]
   have V:=iV (fun (W:World) (hD:DR W a s (H+1) n c')=>jx a s (H+1) n c' W hs hD);rw[I] at V;have aa:Hid (p<=Y):=by have:=ac.out;show _<=_;omega
   clear hh I;go_wp2_with fail;refine(jD 41 a s H n c' v5 hs E5.out HH).mono ?_;rintro e v6 ⟨rfl,z,D⟩;have E6:=iV z;have K6:=iV (ja K5.out D);clear z D;go_wp2_with fail;refine(V.out v6 E6.out).mono ?_;rintro e v7 ⟨rfl,z,D⟩;have E7:=iV z;have K7:=iV (ja K6.out D);clear z D;go_wp2;go_ret3;exact kB.yes EM.out K7.out E7.out aa.out rfl NC.out
theorem Bq (a:Nat)(s:BA)(p n q:Nat)(c:Int)(w:World)(hs:s.size<=4294967280)(hG:zq a w)(h:DR w a s p n c)(hq:p+jo jN ((bl s).drop p)=q)
  (H0:Hid (jl 61 ((bl s).drop q)=false))(H1:Hid (jl 60 ((bl s).drop q)=false))(H2:Hid (jl 62 ((bl s).drop q)=true))(H3:Hid (jl 62 ((bl s).drop (q+1))=false))(H4:Hid (jl 61 ((bl s).drop (q+1))=true)):Calls Tryz.prog 247 #[.pointer (some ⟨a,0,none⟩)] w (kB (lf 4 ((bl s).drop (q+2))) a s p n c w):=by
 have hB:=jx a s p n c w hs h;rw[hq] at hB;have HQ:Hid (p<=q):=by show _<=_;omega
 have HG:=iV hG;clear hG hq h;go_in;go_wp2_with fail;refine hB.mono ?_;rintro e w1 ⟨rfl,z,D⟩;have D1:=iV z;have G1:=iV D;clear z D hB;go_wp2_with fail;refine(js 61 a s q n c w1 hs D1.out H0).mono ?_;rintro e w2 ⟨rfl,z,D⟩;have D2:=iV z;have G2:=iV (ja G1.out D);clear z D D1 G1 H0;go_wp2_with fail;refine(js 60 a s q n c w2 hs D2.out H1).mono ?_;rintro e w3 ⟨rfl,z,D⟩;have D3:=iV z;have G3:=iV (ja G2.out D);clear z D D2 G2 H1;go_wp2_with fail;refine(jD 62 a s q n c w3 hs D3.out H2).mono ?_;rintro e w4 ⟨rfl,z,D⟩;have D4:=iV z;have G4:=iV (ja G3.out D);clear z D D3 G3 H2;go_wp2_with fail;refine(js 62 a s (q+1) n c w4 hs D4.out H3).mono ?_;rintro e w5 ⟨rfl,z,D⟩;have D5:=iV z;have G5:=iV (ja G4.out D);clear z D D4 G4 H3;go_wp2_with fail;refine(jD 61 a s (q+1) n c w5 hs D5.out H4).mono ?_;rintro e w6 ⟨rfl,z,D⟩;have D6:=iV z;have G6:=iV (ja G5.out D);clear z D D5 G5 H4;obtain⟨R,J⟩:∃ R,(q+2)=R:=⟨_,rfl⟩
 obtain⟨H,O⟩:∃ H,R+jo jN ((bl s).drop R)=H:=⟨_,rfl⟩
 rw[J] at D6;have ab:Hid (p<=H):=by have:=HQ.out;show _<=_;omega
 have SK:Hid (jq ((bl s).drop (q+2))=(bl s).drop H):=by show _=_;rw[J,kW,O]
 have M:=jx a s R n c w6 hs D6.out;rw[O] at M;clear J O HQ;go_wp2_with fail;refine M.mono ?_;rintro e v1 ⟨rfl,z,D⟩;have E1:=iV z;have K1:=iV (ja G6.out D);clear z D M;obtain⟨f,y,k⟩:=E1.out.cells;have c1:=k.c1;clear k;cases ht:uq uE ((bl s).drop H) with
 | none=>
  have HT:=iV ht;have Z:Hid (lf 4 ((bl s).drop (q+2))=none):=tr (by rw[SK.out];exact ht);clear ht;go_wp2_with fail;refine(lX pf a s H n c v1 hs E1.out HT).mono ?_;rintro e v2 ⟨rfl,z,D⟩;have E2:=iV z;have Y:=iV (ja K1.out D);clear z D c1;go_wp2;go_ret3;exact kB.no Z.out Y.out E2.out
 | some x=>
  obtain⟨v,r⟩:=x;have HT:=iV ht;obtain⟨t1,t2,t3,t4⟩:=nt E1.out.le ht;have Z:Hid (lf 4 ((bl s).drop (q+2))=sI 4 v r):=tu (by decide) (by rw[SK.out];exact ht);have ad:(ke v).size<=4294967280:=by rw[kL];omega
  obtain⟨F,N⟩:∃ F,H+v.length+jo jN ((bl s).drop (H+v.length))=F:=⟨_,rfl⟩
  have K:Hid (jq r=(bl s).drop F):=by show _=_;rw[<-t2,kW,N]
  have aa:Hid (p<=F):=by have:=ab.out;show _<=_;omega
  have V:=iV (fun (c':Int) (W:World) (hD:DR W a s (H+v.length) n c')=>jx a s (H+v.length) n c' W hs hD);rw[N] at V;clear ht t1 t2 t3 t4 N;go_wp2_with fail;refine(lA pf v r a s H n c v1 hs E1.out HT).mono ?_;rintro e v2 ⟨rfl,z,D⟩;have E2:=iV z;have Y:=iV (ja K1.out D);clear z D c1;go_wp2_with fail;refine(jT 1 (ke v) _ (HG.out.kept Y.out).gl (by omega)).mono ?_;rintro e v3 ⟨rfl,hb⟩;have E3:=iV (E2.out.below hb);have K3:=iV (kx Y.out hb);clear hb;go_wp2_with fail;refine(pI _ _ a s _ n c v3 E3.out).mono ?_;rintro e v4 ⟨rfl,z,D⟩;have E4:=iV z;have K4:=iV (ja K3.out D);clear z D;have NC:=iV (oB c (kf 1 (ke v)));generalize sJ c (kf 1 (ke v))=c' at E4 NC;go_wp2_with fail;refine(V.out c' v4 E4.out).mono ?_;rintro e v5 ⟨rfl,z,D⟩;have E5:=iV z;have K5:=iV (ja K4.out D);clear z D;cases hh:jl 41 ((bl s).drop F) with
  | false=>
   have HH:=iV hh;have EM:Hid (lf 4 ((bl s).drop (q+2))=none):=by show _=_;rw[Z.out];exact ya (by rw[K.out];exact hh)
   clear hh;go_wp2_with fail;refine(js 41 a s F n c' v5 hs E5.out HH).mono ?_;rintro e v6 ⟨rfl,z,D⟩;have E6:=iV z;have K6:=iV (ja K5.out D);clear z D;go_wp2;go_ret3;exact kB.no EM.out K6.out E6.out
  | true=>
   have HH:=iV hh;obtain⟨X,I⟩:∃ X,F+1+jo jN ((bl s).drop (F+1))=X:=⟨_,rfl⟩
   have EM:Hid (lf 4 ((bl s).drop (q+2))=some (4,v,(bl s).drop X)):=by
    show _=_;rw[Z.out,uH (by rw[K.out];exact hh),K.out,List.drop_drop,kW,I]
   have U:=iV (fun (W:World) (hD:DR W a s (F+1) n c')=>jx a s (F+1) n c' W hs hD);rw[I] at U;have ac:Hid (p<=X):=by have:=aa.out;show _<=_;omega
   clear hh I;go_wp2_with fail;refine(jD 41 a s F n c' v5 hs E5.out HH).mono ?_;rintro e v6 ⟨rfl,z,D⟩;have E6:=iV z;have K6:=iV (ja K5.out D);clear z D;go_wp2_with fail;refine(U.out v6 E6.out).mono ?_;rintro e v7 ⟨rfl,z,D⟩;have E7:=iV z;have K7:=iV (ja K6.out D);clear z D;go_wp2;go_ret3;exact kB.yes EM.out K7.out E7.out ac.out rfl NC.out
theorem Br (a:Nat)(s:BA)(p n q:Nat)(c:Int)(w:World)(hs:s.size<=4294967280)(hG:zq a w)(h:DR w a s p n c)(hq:p+jo jN ((bl s).drop p)=q)
  (H0:Hid (jl 61 ((bl s).drop q)=false))(H1:Hid (jl 60 ((bl s).drop q)=true))(H2:Hid (jl 60 ((bl s).drop (q+1))=false))(H3:Hid (jl 61 ((bl s).drop (q+1))=false)):Calls Tryz.prog 247 #[.pointer (some ⟨a,0,none⟩)] w (kB (lf 0 ((bl s).drop (q+1))) a s p n c w):=by
 have D:=jx a s p n c w hs h;rw[hq] at D;have HQ:Hid (p<=q):=by show _<=_;omega
 have HG:=iV hG;clear hG hq h;go_in;go_wp2_with fail;refine D.mono ?_;rintro e V ⟨rfl,y,z⟩;have N:=iV y;have M:=iV z;clear y z D;go_wp2_with fail;refine(js 61 a s q n c V hs N.out H0).mono ?_;rintro e U ⟨rfl,y,z⟩;have F:=iV y;have H:=iV (ja M.out z);clear y z N M H0;go_wp2_with fail;refine(jD 60 a s q n c U hs F.out H1).mono ?_;rintro e X ⟨rfl,y,z⟩;have J:=iV y;have I:=iV (ja H.out z);clear y z F H H1;go_wp2_with fail;refine(js 60 a s (q+1) n c X hs J.out H2).mono ?_;rintro e Y ⟨rfl,y,z⟩;have O:=iV y;have K:=iV (ja I.out z);clear y z J I H2;go_wp2_with fail;refine(js 61 a s (q+1) n c Y hs O.out H3).mono ?_;rintro e w5 ⟨rfl,y,z⟩;have R:=iV y;have Z:=iV (ja K.out z);clear y z O K H3;go_wp2;go_ret3;exact kB.no (by unfold lf;rfl) Z.out R.out
theorem Bs (a:Nat)(s:BA)(p n q:Nat)(c:Int)(w:World)(hs:s.size<=4294967280)(hG:zq a w)(h:DR w a s p n c)(hq:p+jo jN ((bl s).drop p)=q)
  (H0:Hid (jl 61 ((bl s).drop q)=false))(H1:Hid (jl 60 ((bl s).drop q)=false))(H2:Hid (jl 62 ((bl s).drop q)=true))(H3:Hid (jl 62 ((bl s).drop (q+1))=false))(H4:Hid (jl 61 ((bl s).drop (q+1))=false)):Calls Tryz.prog 247 #[.pointer (some ⟨a,0,none⟩)] w (kB (lf 0 ((bl s).drop (q+1))) a s p n c w):=by
 have D:=jx a s p n c w hs h;rw[hq] at D;have HQ:Hid (p<=q):=by show _<=_;omega
 have HG:=iV hG;clear hG hq h;go_in;go_wp2_with fail;refine D.mono ?_;rintro e Y ⟨rfl,y,z⟩;have R:=iV y;have N:=iV z;clear y z D;go_wp2_with fail;refine(js 61 a s q n c Y hs R.out H0).mono ?_;rintro e V ⟨rfl,y,z⟩;have H:=iV y;have I:=iV (ja N.out z);clear y z R N H0;go_wp2_with fail;refine(js 60 a s q n c V hs H.out H1).mono ?_;rintro e Z ⟨rfl,y,z⟩;have K:=iV y;have J:=iV (ja I.out z);clear y z H I H1;go_wp2_with fail;refine(jD 62 a s q n c Z hs K.out H2).mono ?_;rintro e w4 ⟨rfl,y,z⟩;have U:=iV y;have M:=iV (ja J.out z);clear y z K J H2;go_wp2_with fail;refine(js 62 a s (q+1) n c w4 hs U.out H3).mono ?_;rintro e w5 ⟨rfl,y,z⟩;have F:=iV y;have O:=iV (ja M.out z);clear y z U M H3;go_wp2_with fail;refine(js 61 a s (q+1) n c w5 hs F.out H4).mono ?_;rintro e w6 ⟨rfl,y,z⟩;have D6:=iV y;have X:=iV (ja O.out z);clear y z F O H4;go_wp2;go_ret3;exact kB.no (by unfold lf;rfl) X.out D6.out
theorem Bt (a:Nat)(s:BA)(p n q:Nat)(c:Int)(w:World)(hs:s.size<=4294967280)(hG:zq a w)(h:DR w a s p n c)(hq:p+jo jN ((bl s).drop p)=q)
  (H0:Hid (jl 61 ((bl s).drop q)=false))(H1:Hid (jl 60 ((bl s).drop q)=false))(H2:Hid (jl 62 ((bl s).drop q)=false)):Calls Tryz.prog 247 #[.pointer (some ⟨a,0,none⟩)] w (kB (lf 0 ((bl s).drop q)) a s p n c w):=by
 have D:=jx a s p n c w hs h;rw[hq] at D;have Z:Hid (p<=q):=by show _<=_;omega
 have X:=iV hG;clear hG hq h;go_in;go_wp2_with fail;refine D.mono ?_;rintro e N ⟨rfl,y,z⟩;have K:=iV y;have H:=iV z;clear y z D;go_wp2_with fail;refine(js 61 a s q n c N hs K.out H0).mono ?_;rintro e U ⟨rfl,y,z⟩;have J:=iV y;have F:=iV (ja H.out z);clear y z K H H0;go_wp2_with fail;refine(js 60 a s q n c U hs J.out H1).mono ?_;rintro e V ⟨rfl,y,z⟩;have M:=iV y;have I:=iV (ja F.out z);clear y z J F H1;go_wp2_with fail;refine(js 62 a s q n c V hs M.out H2).mono ?_;rintro e Y ⟨rfl,y,z⟩;have R:=iV y;have O:=iV (ja I.out z);clear y z M I H2;go_wp2;go_ret3;exact kB.no (by unfold lf;rfl) O.out R.out
theorem Gk (a:Nat)(s:BA)(p n:Nat)(c:Int)(w:World)(hs:s.size<=4294967280)(hG:zq a w)(h:DR w a s p n c):Calls Tryz.prog 247 #[.pointer (some ⟨a,0,none⟩)] w (kB (CO ((bl s).drop p)) a s p n c w):=by
 obtain⟨q,y⟩:∃ q,p+jo jN ((bl s).drop p)=q:=⟨_,rfl⟩
 have z:CO ((bl s).drop p)=lf (AG ((bl s).drop q)).1 (AG ((bl s).drop q)).2:=by unfold CO;rw[kW,y]
 rw[z];cases h61:jl 61 ((bl s).drop q) with
 | true=>
  have e:AG ((bl s).drop q)=(3,(bl s).drop (q+1)):=by unfold AG;rw[h61,List.drop_drop];rfl
  rw[e];exact Bm a s p n q c w hs hG h y h61
 | false=>
 cases h60:jl 60 ((bl s).drop q) with
 | true=>
  cases k60:jl 60 ((bl s).drop (q+1)) with
  | true=>
   have e:AG ((bl s).drop q)=(1,(bl s).drop (q+2)):=by unfold AG;rw[h61,h60,List.drop_drop,k60,List.drop_drop];rfl
   rw[e];exact Bn a s p n q c w hs hG h y h61 h60 k60
  | false=>
  cases k61:jl 61 ((bl s).drop (q+1)) with
  | true=>
   have e:AG ((bl s).drop q)=(2,(bl s).drop (q+2)):=by unfold AG;rw[h61,h60,List.drop_drop,k60,k61,List.drop_drop];rfl
   rw[e];exact Bo a s p n q c w hs hG h y h61 h60 k60 k61
  | false=>
   have e:AG ((bl s).drop q)=(0,(bl s).drop (q+1)):=by unfold AG;rw[h61,h60,List.drop_drop,k60,k61];rfl
   rw[e];exact Br a s p n q c w hs hG h y h61 h60 k60 k61
 | false=>
 cases h62:jl 62 ((bl s).drop q) with
 | true=>
  cases k62:jl 62 ((bl s).drop (q+1)) with
  | true=>
   have e:AG ((bl s).drop q)=(5,(bl s).drop (q+2)):=by unfold AG;rw[h61,h60,h62,List.drop_drop,k62,List.drop_drop];rfl
   rw[e];exact Bp a s p n q c w hs hG h y h61 h60 h62 k62
  | false=>
  cases k61:jl 61 ((bl s).drop (q+1)) with
  | true=>
   have e:AG ((bl s).drop q)=(4,(bl s).drop (q+2)):=by unfold AG;rw[h61,h60,h62,List.drop_drop,k62,k61,List.drop_drop];rfl
   rw[e];exact Bq a s p n q c w hs hG h y h61 h60 h62 k62 k61
  | false=>
   have e:AG ((bl s).drop q)=(0,(bl s).drop (q+1)):=by unfold AG;rw[h61,h60,h62,List.drop_drop,k62,k61];rfl
   rw[e];exact Bs a s p n q c w hs hG h y h61 h60 h62 k62 k61
 | false=>
  have e:AG ((bl s).drop q)=(0,(bl s).drop q):=by unfold AG;rw[h61,h60,h62];rfl
  rw[e];exact Bt a s p n q c w hs hG h y h61 h60 h62
theorem aaa (h:uq vX l=none):oS l=none:=by unfold oS;rw[h]
theorem aab (h:uq vX l=some (nm,r))(h1:qS r=none):oS l=none:=by unfold oS;rw[h];simp only[h1]
theorem aac {q:LU}(h:uq vX l=some (nm,r))(h1:qS r=some (q,r1))(h2:qp (jq r1)=none):oS l=none:=by unfold oS;rw[h];simp only[h1,h2]
theorem aad {q:LU}(h:uq vX l=some (nm,r))(h1:qS r=some (q,r1))(h2:qp (jq r1)=some (op,v,r2))(h3:oW r2=none):oS l=none:=by unfold oS;rw[h];simp only[h1,h2,h3]
theorem aae {q r3:LU}{ar:List (LU)}(h:uq vX l=some (nm,r))(h1:qS r=some (q,r1))(h2:qp (jq r1)=some (op,v,r2))(h3:oW r2=some (ar,r3)):oS l=some (⟨nm,q,op,v,ar⟩,r3):=by unfold oS;rw[h];simp only[h1,h2,h3]
theorem VF (h:jl 58 r=false):qS r=some ([],r):=by unfold qS;rw[h];rfl
theorem Hs (h:jl 58 r=true):qS r=uq rk (r.drop 1):=by unfold qS;rw[h];rfl
theorem VG (h:jl 40 r=false):qp r=some (0,[],r):=by unfold qp;rw[h];rfl
theorem SQ (h:jl 40 r=true):qp r=CO (r.drop 1):=by unfold qp;rw[h];rfl
theorem SR (h:jl 91 r=false):oW r=some ([],r):=by unfold oW;rw[h];rfl
theorem Ou (h:jl 91 r=true):oW r=oA (r.length+1) (jq (r.drop 1)):=by unfold oW;rw[h];rfl
structure Bw (w wr:World) (a:Nat) (s:BA) (k n:Nat) (c:Int) (vs:List Value):Prop where
 tb:jh wr w.heap.size vs
 dr:DR wr a s k n c
 gr:w.grownBy wr (some a)
 lt:a<w.heap.size
theorem Bw.step (h:Bw w wr a s k n c vs)(hg:wr.grownBy w' (some a))(hd:DR w' a s k' n' c'):Bw w w' a s k' n' c' vs:=
 ⟨h.tb.grownBy hg (by intro e;injection e with e;have:=h.lt;omega),hd,ja h.gr hg,h.lt⟩
theorem Bw.set (h:Bw w wr a s k n c vs)(j:Nat)(hj:j<vs.length)(v:Value):Bw w (wr.setCell ⟨w.heap.size,j,none⟩ v) a s k n c (vs.set j v):=
 ⟨h.tb.set j hj v,h.dr.far (by have:=h.lt;omega) v,ji h.gr (.inr lr) v,h.lt⟩
theorem Bw.start (h:DR w a s k n c)(vs:List Value)(t:TypeId):Bw w (w.alloc (.cells vs.toArray t)) a s k n c vs:=
 ⟨jh.new w vs t,h.alloc _,World.grownBy_alloc w _ _,h.sz⟩
def rQ (r:Option (kP×LU))(a:Nat)(s:BA)(p n:Nat)(c:Int)(w:World)(e:Ending)(w':World):Prop:=
 w.grownBy w' (some a)/\match r with
  | none=>∃ (T:kX) (p' n':Nat) (c':Int),e=.returned (.tuple #[T.val,.bool false])/\DR w' a s p' n' c'
  | some (t,r)=>∃ (T:kX) (p':Nat) (c':Int),e=.returned (.tuple #[T.val,.bool true])/\T.pl=t/\T.own w' w.heap.size/\DR w' a s p' (n+1) c'/\p<p'/\(bl s).drop p'=r/\(c'=0↔c=0/\t.right=true/\n+1<=64)
theorem Bw.same {v0 v1 v2 v3 v4:Value}(h:Bw w wr a s k n c [v0,v1,v2,v3,v4]):Bw w (((((wr.setCell ⟨w.heap.size,0,none⟩ v0).setCell ⟨w.heap.size,1,none⟩ v1).setCell ⟨w.heap.size,2,none⟩ v2).setCell ⟨w.heap.size,3,none⟩ v3).setCell ⟨w.heap.size,4,none⟩ v4) a s k n c [v0,v1,v2,v3,v4]:=
 ((((h.set 0 (by simp) v0).set 1 (by simp) v1).set 2 (by simp) v2).set 3 (by simp) v3).set 4 (by simp) v4
theorem zr (ch:UInt8)(a:Nat)(s:BA)(p n:Nat)(c:Int)(w:World)(hs:s.size<=4294967280)(h:DR w a s p n c)(b:Bool)(hb:Hid (jl ch ((bl s).drop p)=b)):Calls Tryz.prog 145 #[.pointer (some ⟨a,0,none⟩),.int .u8 ch.toNat] w fun e w'=>e=.returned (.bool b)/\DR w' a s (if b then p+1 else p) n c/\w.grownBy w' (some a):=by
 cases b with
 | true=>exact jD ch a s p n c w hs h hb
 | false=>exact js ch a s p n c w hs h hb
theorem VH (t:kP):t.right=true↔jZ t.name=true/\(t.qual=[]\/mH t.qual=true)/\(t.archs.all fun a=>mH (kY a))=true/\(t.op=0\/kf 1 (ke t.ver)=0):=by
 unfold kP.right;simp[and_assoc]
end
end Go.Proofs.YtkmjcombhjombaaGreatDoor
