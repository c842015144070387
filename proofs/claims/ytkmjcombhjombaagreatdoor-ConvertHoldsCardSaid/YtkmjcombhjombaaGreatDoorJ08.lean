/- A part of the proof. -/
import Derived.Test.YtkmjcombhjombaaGreatDoorJ07
set_option maxRecDepth 100000
set_option maxHeartbeats 20000000
set_option linter.unusedVariables false
set_option linter.unusedSimpArgs false
namespace Go.Proofs.YtkmjcombhjombaaGreatDoor
variable{s:BA}{c:Int}{l r:LU}{acc:List (LU)}{a b f g j k lo lo' n p:Nat}{A:OA}{row:Option Nat}{q:UInt8->Bool}{w w' wr:World}
open Go.Proofs.Tryz
section
open Go.RowKit
structure iU where
 name:LU
 qual:LU
 op:Nat
 ver:LU
 archs:List (LU)
def Mk (c:UInt8):Bool:=c==32||c==44||c==124||c==40||c==41||c==91||c==93
def Ml (c:UInt8):Bool:=Mk c||c==58
def adz (c:UInt8):Bool:=Ml c||c==33
def tT (c:UInt8):Bool:=!Mk c
def vC (c:UInt8):Bool:=!Ml c
def pH (c:UInt8):Bool:=!adz c
def gm (l:LU):LU:=l.drop (fS gT l)
def tt (p:UInt8->Bool)(l:LU):Option (LU×LU):=if fS p l=0 then none else some (l.take (fS p l),l.drop (fS p l))
def Au (l:LU):Nat×LU:=
 if fY 61 l then (3,l.drop 1) else
 if fY 60 l then (if fY 60 (l.drop 1) then (1,(l.drop 1).drop 1) else if fY 61 (l.drop 1) then (2,(l.drop 1).drop 1) else (0,l.drop 1)) else
 if fY 62 l then (if fY 62 (l.drop 1) then (5,(l.drop 1).drop 1) else if fY 61 (l.drop 1) then (4,(l.drop 1).drop 1) else (0,l.drop 1)) else (0,l)
def re (op:Nat)(v r:LU):Option (Nat×LU×LU):=if fY 41 (gm r) then some (op,v,gm ((gm r).drop 1)) else none
def jn (op:Nat)(l:LU):Option (Nat×LU×LU):=if op=0 then none else match tt tT (gm l) with
 | none=>none
 | some (v,r)=>re op v r
def Dc (l:LU):Option (Nat×LU×LU):=jn (Au (gm l)).1 (Au (gm l)).2
def Iq (l:LU):LU:=if fY 33 l then [33] else []
def px (l:LU):Option (LU×LU):=(tt pH (ji l)).map (fun x=>(Iq l++x.1,x.2))
def mB:Nat->LU->Option (List (LU)×LU)
 | 0,_=>none
 | f+1,l=>match px l with
  | none=>none
  | some (a,r)=>if fY 93 (gm r) then some ([a],gm ((gm r).drop 1)) else if fY 32 r then (mB f (gm r)).map (fun x=>(a::x.1,x.2)) else none
def pj (r:LU):Option (LU×LU):=if fY 58 r then tt pH (r.drop 1) else some ([],r)
def oA (r:LU):Option (Nat×LU×LU):=if fY 40 r then Dc (r.drop 1) else some (0,[],r)
def nf (r:LU):Option (List (LU)×LU):=if fY 91 r then mB (r.length+1) (gm (r.drop 1)) else some ([],r)
def mX (l:LU):Option (iU×LU):=match tt vC l with
 | none=>none
 | some (nm,r)=>match pj r with
  | none=>none
  | some (q,r1)=>match oA (gm r1) with
   | none=>none
   | some (op,v,r2)=>match nf r2 with
    | none=>none
    | some (ar,r3)=>some (⟨nm,q,op,v,ar⟩,r3)
def ld:Nat->LU->Option (List iU×LU)
 | 0,_=>none
 | f+1,l=>match mX l with
  | none=>none
  | some (t,r)=>if fY 124 r then (ld f (gm (r.drop 1))).map (fun x=>(t::x.1,x.2)) else some ([t],r)
def mt:Nat->LU->Option (List (List iU))
 | 0,_=>none
 | f+1,l=>match ld (l.length+1) l with
  | none=>none
  | some (g,r)=>if r.isEmpty then some [g] else if fY 44 r then (mt f (gm (r.drop 1))).map (g :: ·) else none
def rN (l:LU):Option (List (List iU)):=if (gm l).isEmpty then some [] else mt (l.length+1) (gm l)
def iU.right (t:iU):Bool:=hH t.name&&(t.qual.isEmpty||kH t.qual)&&t.archs.all (fun a=>kH (ji a))&&(decide (t.op=0)||decide (gL 1 (gX t.ver)=0))
def Bn (L:List (List iU)):Bool:=L.all (fun g=>g.all iU.right)&&decide ((L.map List.length).sum<=64)
def jV (l:LU):Option (List (List iU)):=match rN l with
 | none=>none
 | some L=>if Bn L then some L else none
theorem ls (l:LU):(gm l).length<=l.length:=by unfold gm;rw[List.length_drop];omega
theorem xy {p:UInt8->Bool}{a:LU}(h:tt p l=some (a,r)):0<fS p l/\a=l.take (fS p l)/\r=l.drop (fS p l):=by
 unfold tt at h;split at h
 ·cases h
 ·injection h with h;injection h with h1 h2;exact⟨by omega,h1.symm,h2.symm⟩
theorem J9 {p:UInt8->Bool}{a:LU}(h:tt p l=some (a,r)):r.length<l.length:=by
 obtain⟨z,_,rfl⟩:=xy h;have:=jI p l;rw[List.length_drop];omega
def Mm:Nat->LU
 | 1=>[60,60]
 | 2=>[60,61]
 | 3=>[61]
 | 4=>[62,61]
 | 5=>[62,62]
 | _=>[]
def iU.text (t:iU):LU:=t.name++(if t.qual.isEmpty then [] else 58::t.qual)++(if t.op=0 then [] else [32,40]++Mm t.op++[32]++t.ver++[41])++(if t.archs.isEmpty then [] else [32,91]++Lib.join t.archs [32]++[93])
def jQ (L:List (List iU)):LU:=Lib.join (L.map (fun g=>Lib.join (g.map iU.text) [32,124,32])) [44,32]
def nW (l:LU):Bool:=!l.isEmpty&&(match jV l with | some L=>decide (jQ L=l) | none=>false)
theorem kK (q:UInt8->Bool)(a:UInt8)(r:LU):fS q (a::r)=if q a then fS q r+1 else 0:=by
 cases h:q a with
 | true=>rw[oX h];rfl
 | false=>rw[mO h];rfl
theorem kL (s:BA)(k:Nat)(h:k<s.size):(bl s).drop k=s[k]::(bl s).drop (k+1):=by
 rw[List.drop_eq_getElem_cons (by rw[fI];exact h),oE s k h]
theorem rP (s:BA)(k:Nat)(h:¬ k<s.size):(bl s).drop k=[]:=List.drop_of_length_le (by rw[fI];omega)
theorem Ir (s:BA)(k:Nat)(h:k<s.size)(z:q s[k]=true):fS q ((bl s).drop k)=fS q ((bl s).drop (k+1))+1:=by
 rw[kL s k h,kK,if_pos z]
theorem Is (s:BA)(k:Nat)(h:k<s.size)(z:q s[k]=false):fS q ((bl s).drop k)=0:=by
 rw[kL s k h,mO z]
theorem Mn (q:UInt8->Bool)(s:BA)(k:Nat)(h:¬ k<s.size):fS q ((bl s).drop k)=0:=by rw[rP s k h];rfl
theorem Uh (q:UInt8->Bool)(s:BA)(k:Nat)(h:k<=s.size):k+fS q ((bl s).drop k)<=s.size:=by
 have:=jI q ((bl s).drop k);rw[List.length_drop,fI] at this;omega
theorem Sl (s:BA)(k:Nat)(c:UInt8)(h:k<s.size):fY c ((bl s).drop k)=(s[k]==c):=by rw[kL s k h];rfl
theorem Xo (s:BA)(k:Nat)(c:UInt8)(h:¬ k<s.size):fY c ((bl s).drop k)=false:=by rw[rP s k h];rfl
theorem jh (s:BA)(k:Nat):gm ((bl s).drop k)=(bl s).drop (k+fS gT ((bl s).drop k)):=by unfold gm;rw[List.drop_drop]
theorem Dd (l:LU):decide (0<fS gT l)=fY 32 l:=by
 cases l with
 | nil=>rfl
 | cons a r=>
  rw[kK];show _=(a==32);have:gT a=(a==32):=rfl;rw[this];cases a==32<;>simp
theorem Ui (l:LU):fS gT (gm l)=0:=by
 unfold gm;have F:=jI gT l;by_cases h:fS gT l<l.length
 ·obtain⟨a,r,z,D⟩:=rL l h;rw[z,mO D]
 ·rw[List.drop_of_length_le (by omega)];rfl
def lL (f:Nat)(acc:List (LU))(l:LU):Option (List (LU)×LU):=(mB f l).map (fun x=>(acc++x.1,x.2))
def nt (f:Nat)(acc:List iU)(l:LU):Option (List iU×LU):=(ld f l).map (fun x=>(acc++x.1,x.2))
def kR (f:Nat)(acc:List (List iU))(l:LU):Option (List (List iU)):=(mt f l).map (acc++·)
theorem GN (f:Nat)(l:LU):mB f l=lL f [] l:=by unfold lL;simp
theorem xz (h:px l=none):lL (f+1) acc l=none:=by unfold lL mB;rw[h];rfl
theorem Aw {a:LU}(h:px l=some (a,r))(z:fY 93 (gm r)=true):lL (f+1) acc l=some (acc++[a],gm ((gm r).drop 1)):=by
 unfold lL mB;rw[h];simp[z]
theorem xC {a:LU}(h:px l=some (a,r))(z:fY 93 (gm r)=false)(D:fY 32 r=true):lL (f+1) acc l=lL f (acc++[a]) (gm r):=by
 unfold lL;conv=>lhs;unfold mB
 rw[h];simp[z,D,Function.comp_def]
theorem Ax {a:LU}(h:px l=some (a,r))(z:fY 93 (gm r)=false)(D:fY 32 r=false):lL (f+1) acc l=none:=by
 unfold lL mB;rw[h];simp[z,D]
theorem GO (f:Nat)(l:LU):ld f l=nt f [] l:=by unfold nt;simp
theorem Kc {acc:List iU}(h:mX l=none):nt (f+1) acc l=none:=by unfold nt ld;rw[h];rfl
theorem Mo {acc:List iU}{t:iU}(h:mX l=some (t,r))(z:fY 124 r=false):nt (f+1) acc l=some (acc++[t],r):=by
 unfold nt ld;rw[h];simp[z]
theorem Kd {acc:List iU}{t:iU}(h:mX l=some (t,r))(z:fY 124 r=true):nt (f+1) acc l=nt f (acc++[t]) (gm (r.drop 1)):=by
 unfold nt;conv=>lhs;unfold ld
 rw[h];simp[z,Function.comp_def]
theorem De (f:Nat)(l:LU):mt f l=kR f [] l:=by unfold kR;simp
theorem GP {acc:List (List iU)}(h:ld (l.length+1) l=none):kR (f+1) acc l=none:=by unfold kR mt;rw[h];rfl
theorem Ke {acc:List (List iU)}{g:List iU}(h:ld (l.length+1) l=some (g,[])):kR (f+1) acc l=some (acc++[g]):=by
 unfold kR mt;rw[h];simp
theorem GQ {acc:List (List iU)}{g:List iU}(h:ld (l.length+1) l=some (g,r))(z:fY 44 r=true):kR (f+1) acc l=kR f (acc++[g]) (gm (r.drop 1)):=by
 have D:r.isEmpty=false:=by rw[Il z];rfl
 unfold kR;conv=>lhs;unfold mt
 rw[h];simp[D,z,Function.comp_def]
theorem Kf {acc:List (List iU)}{g:List iU}(h:ld (l.length+1) l=some (g,r))(D:r.isEmpty=false)(z:fY 44 r=false):kR (f+1) acc l=none:=by
 unfold kR mt;rw[h];simp[D,z]
theorem Uj {x:LU}(h:tt pH (ji l)=some (x,r)):ji (Iq l++x)=x:=by
 unfold Iq;cases hh:fY 33 l with
 | true=>rfl
 | false=>
  have F:ji l=l:=by unfold ji;rw[hh];rfl
  rw[F] at h;obtain⟨z,D,H⟩:=xy h;cases l with
  | nil=>simp[fS] at z
  | cons a t=>
   rw[kK] at z D;cases ha:pH a with
   | false=>rw[ha] at z;simp at z
   | true=>
    rw[ha] at D;simp only[if_true,List.take_succ_cons] at D;subst D;simp only[Bool.false_eq_true,if_false,List.nil_append,ji];have:fY 33 (a::List.take (fS pH t) t)=false:=hh;rw[this];rfl
theorem Ay {a:LU}(h:px l=some (a,r)):∃ x,tt pH (ji l)=some (x,r)/\a=Iq l++x/\ji a=x:=by
 unfold px at h;obtain⟨⟨x,y⟩,D,z⟩:=Option.map_eq_some_iff.1 h;injection z with z h3;subst z;subst h3;exact⟨x,D,rfl,Uj D⟩
theorem gU (v:Value):w.grownBy (w.setCell ⟨a,j,none⟩ v) (some a):=fX (World.grownBy.refl w (some a)) (.inl rfl) _
theorem tU {w'':World}(h:w.grownBy w' (some a))(z:Bw w' w''):w.grownBy w'' (some a):=iu h z
theorem kS (z:Bw w w')(row:Option Nat):w.grownBy w' row:=iu (World.grownBy.refl w row) z
theorem fV.grownBy {vs:LV}(h:fV w b vs)(F:w.grownBy w' row)(z:some b≠row):fV w' b vs:=by
 have D:=F.block b h.sz z;exact⟨Nat.lt_of_lt_of_le h.sz F.size,fun j u I=>(World.cell?_of_block (a:=⟨b,j,none⟩) D).trans (h.cell j u I),fun j H=>(World.frozen?_of_block (a:=⟨b,j,none⟩) D).trans (h.free j H)⟩
structure DR (w:World) (a:Nat) (s:BA) (p n:Nat) (c:Int):Prop where
 blk:∃ (f:BA) (x:Int),fV w a [.string s,.int .i64 p,.int .i64 n,.string f,.int .i64 x,.int .i64 c]
 le:p<=s.size
 nle:n<=p
theorem DR.below (h:DR w a s p n c)(z:Bw w w'):DR w' a s p n c:=by
 obtain⟨f,x,k⟩:=h.blk;exact⟨⟨f,x,k.below z⟩,h.le,h.nle⟩
theorem DR.kept (h:DR w a s p n c)(D:w.grownBy w' row)(z:some a≠row):DR w' a s p n c:=by
 obtain⟨f,x,k⟩:=h.blk;exact⟨⟨f,x,k.grownBy D z⟩,h.le,h.nle⟩
theorem DR.alloc (h:DR w a s p n c)(o:Obj):DR (w.alloc o) a s p n c:=h.below (bR.alloc lr o)
theorem DR.drewN (h:DR w a s p n c)(k:Nat):DR (w.drewN k) a s p n c:=h.below ⟨rfl,rfl,rfl,lr,fun _ _=>rfl⟩
theorem DR.far (h:DR w a s p n c)(z:b≠a)(v:Value):DR (w.setCell ⟨b,j,none⟩ v) a s p n c:=h.kept (gU v) (by simp;omega)
theorem DR.sz (h:DR w a s p n c):a<w.heap.size:=by obtain⟨f,x,k⟩:=h.blk;exact k.sz
theorem DR.move {q:Nat}(h:DR w a s p n c)(D:p<=q)(z:q<=s.size):DR (w.setCell ⟨a,1,none⟩ (.int .i64 q)) a s q n c:=by
 obtain⟨f,x,k⟩:=h.blk;exact⟨⟨f,x,k.set 1 (by simp) _⟩,z,Nat.le_trans h.nle D⟩
theorem DR.count (h:DR w a s p n c)(z:n<p):DR (w.setCell ⟨a,2,none⟩ (.int .i64 ((n+1:Nat):Int))) a s p (n+1) c:=by
 obtain⟨f,x,k⟩:=h.blk;exact⟨⟨f,x,k.set 2 (by simp) _⟩,h.le,z⟩
structure DRc (w:World) (a:Nat) (s:BA) (p n:Nat) (f:BA) (x c:Int):Prop where
 c0:w.cell? ⟨a,0,none⟩=some (.string s)
 c1:w.cell? ⟨a,1,none⟩=some (.int .i64 p)
 c2:w.cell? ⟨a,2,none⟩=some (.int .i64 n)
 c3:w.cell? ⟨a,3,none⟩=some (.string f)
 c4:w.cell? ⟨a,4,none⟩=some (.int .i64 x)
 c5:w.cell? ⟨a,5,none⟩=some (.int .i64 c)
 f0:w.frozen? ⟨a,0,none⟩=false
 f1:w.frozen? ⟨a,1,none⟩=false
 f2:w.frozen? ⟨a,2,none⟩=false
 f3:w.frozen? ⟨a,3,none⟩=false
 f4:w.frozen? ⟨a,4,none⟩=false
 f5:w.frozen? ⟨a,5,none⟩=false
theorem DR.cells (h:DR w a s p n c):∃ f x,DRc w a s p n f x c:=by
 obtain⟨f,x,k⟩:=h.blk;exact⟨f,x,k.cell 0 _ rfl,k.cell 1 _ rfl,k.cell 2 _ rfl,k.cell 3 _ rfl,k.cell 4 _ rfl,k.cell 5 _ rfl,k.free 0 (by simp),k.free 1 (by simp),k.free 2 (by simp),k.free 3 (by simp),k.free 4 (by simp),k.free 5 (by simp)⟩
def Kg (a:Nat)(w:World):Nat:=match w.cell? ⟨a,1,none⟩ with | some (.int _ k)=>k.toNat | _=>0
theorem DR.at_ (h:DR w a s p n c):Kg a w=p:=by
 obtain⟨f,x,k⟩:=h.cells;unfold Kg;rw[k.c1];simp
theorem DR.dec {k' n':Nat}{c':Int}(z:DR w' a s k' n' c')(h:DR w a s k n c)(D:k<k'):s.size-Kg a w'<s.size-Kg a w:=by
 rw[z.at_,h.at_];have:=z.le;omega
def rg (c e:Int):Int:=if c=0 then e else c
theorem mC (c e:Int):rg c e=0↔c=0/\e=0:=by unfold rg;split<;>rename_i h<;>simp[h]
theorem DR.noted (h:DR w a s p n c)(f:BA)(x e:Int):DR (((w.setCell ⟨a,3,none⟩ (.string f)).setCell ⟨a,4,none⟩ (.int .i64 x)).setCell ⟨a,5,none⟩ (.int .i64 e)) a s p n e:=by
 obtain⟨D,z,k⟩:=h.blk;exact⟨⟨f,x,((k.set 3 (by simp) _).set 4 (by simp) _).set 5 (by simp) _⟩,h.le,h.nle⟩
structure iK where
 nm:BA
 op:Nat
 ver:BA
 qual:BA
 aa:OA
 ac:Nat
 archs:List BA
def iK.cells (t:iK):LV:=[.string t.nm,.int .i64 t.op,.string t.ver,.string t.qual,.slice t.aa t.archs.length t.ac]
def iK.val (t:iK):Value:=.agg #[.string t.nm,.int .i64 t.op,.string t.ver,.string t.qual,.slice t.aa t.archs.length t.ac]
def iK.pl (t:iK):iU:=⟨bl t.nm,bl t.qual,t.op,bl t.ver,t.archs.map bl⟩
theorem Cj (t:iK):t.cells.length=5:=rfl
def iK.own (t:iK)(w:World)(lo:Nat):Prop:=w.ownsRow lo 9 1 (.slice t.aa t.archs.length t.ac) t.archs.length (strCells t.archs)
structure gA where
 ga:OA
 gc:Nat
 ts:List iK
def gA.sl (g:gA):Value:=.slice g.ga g.ts.length g.gc
def gA.pl (g:gA):List iU:=g.ts.map iK.pl
structure gA.own (g:gA) (w:World) (lo:Nat):Prop where
 row:w.ownsRow lo 196 5 g.sl g.ts.length (g.ts.flatMap iK.cells)
 archs:∀ t∈g.ts,t.own w lo
theorem iK.own.kept {t:iK}(h:t.own w lo)(z:g<lo)(D:w.grownBy w' (some g)):t.own w' lo:=gZ h z D
theorem iK.own.below {t:iK}(h:t.own w lo)(z:Bw w w'):t.own w' lo:=ge h z
theorem iK.own.base {t:iK}(h:t.own w lo)(z:lo'<=lo):t.own w lo':=gF h z
theorem gA.own.kept {t:gA}(h:t.own w lo)(z:g<lo)(D:w.grownBy w' (some g)):t.own w' lo:=⟨gZ h.row z D,fun x F=>(h.archs x F).kept z D⟩
theorem gA.own.below {t:gA}(h:t.own w lo)(z:Bw w w'):t.own w' lo:=⟨ge h.row z,fun x D=>(h.archs x D).below z⟩
theorem gA.own.base {t:gA}(h:t.own w lo)(z:lo'<=lo):t.own w lo':=⟨gF h.row z,fun x D=>(h.archs x D).base z⟩
structure rQ (w:World) (A:OA) (l:List gA):Prop where
 row:Rd w 1 A l.length (l.map gA.sl)
 grp:∀ g∈l,Rd w 5 g.ga g.ts.length (g.ts.flatMap iK.cells)
 archs:∀ g∈l,∀ t∈g.ts,Rd w 1 t.aa t.archs.length (strCells t.archs)
theorem rQ.below {l:List gA}(h:rQ w A l)(D:Bw w w'):rQ w' A l:=
 ⟨h.1.below D,fun g z=>(h.2 g z).below D,fun g z t ht=>(h.3 g z t ht).below D⟩
end
section
open Go.RowKit Go.Deep
theorem nG (x e:Int)(a:Nat)(s:BA)(p n:Nat)(c:Int)(w:World)(h:DR w a s p n c):Calls prog 245 #[.pointer (some ⟨a,0,none⟩),.int .i64 x,.int .i64 e] w fun en w'=>en=.returned (.tuple #[])/\DR w' a s p n (rg c e)/\w.grownBy w' (some a):=by
 obtain⟨f,y,k⟩:=h.cells;have H:=fH h;clear h;obtain⟨U,K,M,Y,c4,Z,I,J,R,f3,f4,X⟩:=k;clear U K M I J R;by_cases z:c=0
 ·subst z;by_cases F:e=0
  ·subst F;go_in;go_wp2;go_end0;exact⟨rfl,H,World.grownBy.refl _ _⟩
  ·have O:(e != 0)=true:=by simp[F]
   have D:Hid (rg 0 e=e):=by simp[Hid,rg]
   clear F;go_in;go_wp2;go_end0;exact⟨rfl,by rw[D.out];exact H.noted _ _ _,fN (fN (gU _) (gU _)) (gU _)⟩
 ·have V:(c==0)=false:=by simp[z]
  have D:Hid (rg c e=c):=by simp[Hid,rg,z]
  clear z;go_in;go_wp2;go_end0;exact⟨rfl,by rw[D.out];exact H.out,World.grownBy.refl _ _⟩
theorem gK (z:UInt8)(a:Nat)(s:BA)(p n:Nat)(c:Int)(w:World)(hs:s.size<=4294967280)(h:DR w a s p n c)(F:Hid (fY z ((bl s).drop p)=true)):Calls prog 145 #[.pointer (some ⟨a,0,none⟩),.int .u8 z.toNat] w fun e w'=>e=.returned (.bool true)/\DR w' a s (p+1) n c/\w.grownBy w' (some a):=by
 have D:p<s.size:=by
  rcases Nat.lt_or_ge p s.size with H | H
  ·exact H
  ·have:=F.out;rw[Xo s p z (by omega)] at this;cases this
 have e1:s[p]=z:=by have:=F.out;rw[Sl s p z D] at this;simpa using this
 obtain⟨f,y,k⟩:=h.cells;have I:=fH (h.move (q:=p+1) (by omega) (by omega));clear h F;obtain⟨c0,c1,K,O,Y,R,J,Z,U,X,V,M⟩:=k;clear K O Y R J U X V M;go_in;go_wp2;go_quiet (fail);go_wp2;go_ret;exact⟨rfl,I.drewN _,jS (gU _) _⟩
theorem gt (D:UInt8)(a:Nat)(s:BA)(p n:Nat)(c:Int)(w:World)(hs:s.size<=4294967280)(h:DR w a s p n c)(F:Hid (fY D ((bl s).drop p)=false)):Calls prog 145 #[.pointer (some ⟨a,0,none⟩),.int .u8 D.toNat] w fun e w'=>e=.returned (.bool false)/\DR w' a s p n c/\w.grownBy w' (some a):=by
 obtain⟨f,y,k⟩:=h.cells;have I:=fH h;clear h;obtain⟨c0,c1,M,R,Z,U,K,f1,V,Y,X,O⟩:=k;clear M R Z U K V Y X O;by_cases z:p<s.size
 ·obtain⟨d,J⟩:∃ d:UInt8,s[p]=d:=⟨_,rfl⟩
  have e1:((d.toNat:Int)==(D.toNat:Int))=false:=by have:=F.out;rw[Sl s p D z,J] at this;rw[lm];exact this
  clear F;go_in;go_wp2;go_quiet (fail);go_wp2;go_ret;exact⟨rfl,I.drewN _,jS (World.grownBy.refl _ _) _⟩
 ·have H:decide (p<s.size)=false:=dF z;clear F;go_in;go_wp2;go_quiet (fail);go_wp2;go_ret;exact⟨rfl,I.drewN _,jS (World.grownBy.refl _ _) _⟩
theorem gy (a:Nat)(s:BA)(p n:Nat)(c:Int)(w:World)(hs:s.size<=4294967280)(h:DR w a s p n c):Calls prog 143 #[.pointer (some ⟨a,0,none⟩)] w fun e w'=>e=.returned (.bool (fY 32 ((bl s).drop p)))/\DR w' a s (p+fS gT ((bl s).drop p)) n c/\w.grownBy w' (some a):=by
 obtain⟨f,y,k⟩:=h.cells;have X:=k.c1;have hp:=h.le;have HD:=fH h;clear h k;go_in;go_wp2;go_loopw [] (fun wr=>∃ k:Nat,p<=k/\k<=s.size/\Hid (DR wr a s k n c)/\Hid (w.grownBy wr (some a))/\Hid (p+fS gT ((bl s).drop p)=k+fS gT ((bl s).drop k))) (fun wr=>s.size-Kg a wr)
 case atStart=>exact⟨p,lr,hp,HD,World.grownBy.refl _ _,rfl⟩
 case round=>
  clear X;obtain⟨k,aa,Z,F,J,O⟩:=hrel;obtain⟨f',y',K⟩:=F.cells;obtain⟨c0,X,c2,c3,c4,c5,f0,f1,f2,f3,f4,f5⟩:=K;clear c2 c3 c4 c5 f0 f2 f3 f4 f5;have MA:=fH F.at_;by_cases z:k<s.size
  ·obtain⟨d,R⟩:∃ d:UInt8,s[k]=d:=⟨_,rfl⟩
   by_cases D:d.toNat=32
   ·have I:Hid (p+fS gT ((bl s).drop p)=(k+1)+fS gT ((bl s).drop (k+1))):=by
     have:=O.out;rw[Ir s k z (by rw[R];simp[gT];exact UInt8.toNat_inj.1 D)] at this;show _=_;omega
    have V:=fH (F.move (q:=k+1) (by omega) (by omega));go_wp2;go_quiet (fail);go_wp2;go_roundw
    case rel=>exact⟨k+1,by omega,by omega,V.drewN _,jS (fN J (gU _)) _,I⟩
    case measure=>exact DR.dec (V.drewN _) F (Nat.lt_succ_self _)
   ·have U:((d.toNat:Int)==32)=false:=by simp;omega
    have H:Hid (p+fS gT ((bl s).drop p)=k):=by
     have:=O.out;rw[Is s k z (by rw[R];simp[gT];intro e;exact D (by rw[e];rfl))] at this;exact this
    have M:Hid (fY 32 ((bl s).drop p)=decide (p<k)):=by
     have:=H.out;show _=_;rw[<-Dd];congr 1;simp;omega
    clear D;go_wp2;go_quiet (fail);go_wp2;go_ret;exact⟨fJ (by rw[M.out]),by rw[H.out];exact F.drewN _,jS J _⟩
  ·have Y:decide (k<s.size)=false:=dF z;have H:Hid (p+fS gT ((bl s).drop p)=k):=by
    have:=O.out;rw[Mn _ s k z] at this;exact this
   have M:Hid (fY 32 ((bl s).drop p)=decide (p<k)):=by
    have:=H.out;show _=_;rw[<-Dd];congr 1;simp;omega
   go_wp2;go_quiet (fail);go_wp2;go_ret;exact⟨fJ (by rw[M.out]),by rw[H.out];exact F.drewN _,jS J _⟩
def Um (q:UInt8->Bool)(a:Nat)(s:BA)(p n:Nat)(c:Int)(w:World)(e:Ending)(w':World):Prop:=
 e=.returned (.tuple #[.string (gX (((bl s).drop p).take (fS q ((bl s).drop p)))),.bool (decide (0<fS q ((bl s).drop p)))])/\DR w' a s (p+fS q ((bl s).drop p)) n c/\w.grownBy w' (some a)
theorem Sm (q:UInt8->Bool)(s:BA)(p k:Nat)(h:p+fS q ((bl s).drop p)=k):s.extract p k=gX (((bl s).drop p).take (fS q ((bl s).drop p))):=by
 apply Im;rw[sD];congr 1;omega
theorem Di (E:BA)(q:UInt8->Bool)(Y:∀ d,(bl E).contains d=!q d)(a:Nat)(s:BA)(p n:Nat)(c:Int)(w:World)(hs:s.size<=4294967280)(h:DR w a s p n c):Calls prog 244 #[.pointer (some ⟨a,0,none⟩),.string E] w (Um q a s p n c w):=by
 have HE:=fH Y;clear Y;obtain⟨f,y,k⟩:=h.cells;have X:=k.c1;have hp:=h.le;have HD:=fH h;clear h k;go_in;go_wp2;go_loopw [] (fun wr=>∃ k:Nat,p<=k/\k<=s.size/\Hid (DR wr a s k n c)/\Hid (w.grownBy wr (some a))/\Hid (p+fS q ((bl s).drop p)=k+fS q ((bl s).drop k))) (fun wr=>s.size-Kg a wr)
 case atStart=>exact⟨p,lr,hp,HD,World.grownBy.refl _ _,rfl⟩
 case round=>
  clear X;obtain⟨k,ab,aa,F,O,R⟩:=hrel;obtain⟨f',y',K⟩:=F.cells;obtain⟨c0,X,c2,c3,c4,c5,f0,f1,f2,f3,f4,f5⟩:=K;clear c2 c3 c4 c5 f0 f2 f3 f4 f5;have MA:=fH F.at_;have ad:(p:Int)<=(k:Int):=by omega
  have ac:(k:Int)<=(s.size:Int):=by omega
  by_cases z:k<s.size
  ·obtain⟨d,U⟩:∃ d:UInt8,s[k]=d:=⟨_,rfl⟩
   have I:=fun W=>(gW E d W).mono (fun (_:Ending) (_:World) ⟨he,hw⟩=>(⟨he,hw.symm⟩:_/\_));cases hq:q d with
   | true=>
    have J:JT E d<0:=nP E d (by rw[HE.out,hq];rfl);have D:decide (JT E d<0)=true:=dT J;have M:Hid (p+fS q ((bl s).drop p)=(k+1)+fS q ((bl s).drop (k+1))):=by
     have:=R.out;rw[Ir s k z (by rw[U];exact hq)] at this;show _=_;omega
    have V:=fH (F.move (q:=k+1) (by omega) (by omega));clear hq;generalize JT E d=i at I J D;go_wp2;go_quiet ((go_at_call 142;exact Calls.quiet_of_same (I _)));go_wp2;go_roundw
    case rel=>exact⟨k+1,by omega,by omega,V.drewN _,jS (fN O (gU _)) _,M⟩
    case measure=>exact DR.dec (V.drewN _) F (Nat.lt_succ_self _)
   | false=>
    have J:0<=JT E d:=oV E d (by rw[HE.out,hq];rfl);have D:decide (JT E d<0)=false:=dF (by omega);have H:Hid (p+fS q ((bl s).drop p)=k):=by
     have:=R.out;rw[Is s k z (by rw[U];exact hq)] at this;exact this
    clear hq;generalize JT E d=i at I J D;go_wp2;go_quiet ((go_at_call 142;exact Calls.quiet_of_same (I _)));go_wp2;go_quiet (fail);go_wp2;go_ret2;refine⟨?_,by rw[H.out];exact(F.drewN _).drewN _,jS (jS O _) _⟩;have:=H.out;rw[<-Sm q s p k this];congr 5;simp;omega
  ·have Z:decide (k<s.size)=false:=dF z;have H:Hid (p+fS q ((bl s).drop p)=k):=by
    have:=R.out;rw[Mn _ s k z] at this;exact this
   go_wp2;go_quiet (fail);go_wp2;go_quiet (fail);go_wp2;go_ret2;refine⟨?_,by rw[H.out];exact(F.drewN _).drewN _,jS (jS O _) _⟩;have:=H.out;rw[<-Sm q s p k this];congr 5;simp;omega
end
section
open Go.RowKit
theorem aab (s p:BA)(w:World):Calls prog 131 #[.string s,.string p] w fun e w'=>e=.returned (.tuple #[.string (gX (Lib.trimPrefix (bl s) (bl p))),.bool (Lib.hasPrefix (bl s) (bl p))])/\w=w':=
 (Tryz.strings_CutPrefix s p w).mono fun _ _ ⟨D,z⟩=>⟨D,z.symm⟩
theorem adB (k:Nat)(z:k<7)(x:Nat->BA)(w:World):(Instr.index 289 (.agg #[.string (x 0),.string (x 1),.string (x 2),.string (x 3),.string (x 4),.string (x 5),.string (x 6)]) (.int .i64 k)).run prog w=.ok (.string (x k)) w:=by
 rcases(by omega:k=0\/k=1\/k=2\/k=3\/k=4\/k=5\/k=6) with rfl | rfl | rfl | rfl | rfl | rfl | rfl<;>kernel_rfl
theorem Dn (k:Nat)(z:k<7):bl (wU k)=nN k:=by
 rcases(by omega:k=0\/k=1\/k=2\/k=3\/k=4\/k=5\/k=6) with rfl | rfl | rfl | rfl | rfl | rfl | rfl<;>rfl
theorem Un (D:Lib.hasPrefix l (nN k)=true)(z:(gX (Lib.trimPrefix l (nN k))).size<(gX (jy l k).2).size):jy l (k+1)=(k,Lib.trimPrefix l (nN k)):=by
 rw[iB,iB] at z;simp[jy,D,z]
theorem PE (z:¬ (gX (Lib.trimPrefix l (nN k))).size<(gX (jy l k).2).size):jy l (k+1)=jy l k:=by
 rw[iB,iB] at z;simp[jy,z]
theorem Xr (z:Lib.hasPrefix l (nN k)=false):jy l (k+1)=jy l k:=by
 simp[jy,z]
theorem Sn (l p:LU):(Lib.trimPrefix l p).length<=l.length:=by
 unfold Lib.trimPrefix;split<;>simp
theorem Do (l:LU):∀ k,(jy l k).2.length<=l.length
 | 0=>Nat.le_refl _
 | k+1=>by
  unfold jy;split
  ·exact Sn _ _
  ·exact Do l k
theorem GX (s:BA)(w:World)(F:Gl w)(hs:s.size<=9223372036854775807):Calls prog 153 #[.string s] w fun e w'=>e=.returned (.tuple #[.int .i64 (As (bl s)).1,.string (gX (As (bl s)).2)])/\w=w':=by
 have g0:=F.asg 0 (by omega);have g1:=F.asg 1 (by omega);have Y:=F.asg 2 (by omega);have g3:=F.asg 3 (by omega);have g4:=F.asg 4 (by omega);have g5:=F.asg 5 (by omega);have X:=F.asg 6 (by omega);go_in;go_wp2;go_loop [4,5,12] (fun o b i=>∃ k:Nat,k<=7/\∃ (n:Nat) (B:BA),o=.int .i64 n/\b=.string B/\i=.int .i64 k/\Hid (jy (bl s) k=(n,bl B))) (fun _ _ i=>7-(intOf i).toNat)
 case atStart=>exact⟨0,by omega,0,s,rfl,rfl,rfl,rfl⟩
 case round=>
  obtain⟨k,Z,n,B,rfl,rfl,rfl,I⟩:=hrel;by_cases H:k<7
  ·have R:=fun W=>adB k H wU W;have D:=Dn k H;obtain⟨T,z⟩:∃ T,gX (Lib.trimPrefix (bl s) (nN k))=T:=⟨_,rfl⟩
   have V:T.size<=s.size:=by rw[<-z,iB,<-fI];exact Sn _ _
   have U:B.size<=s.size:=by rw[<-fI,<-fI,show bl B=(jy (bl s) k).2 by rw[I.out]];exact Do _ _
   have M:bl T=Lib.trimPrefix (bl s) (nN k):=by rw[<-z,iS]
   have J:gX (jy (bl s) k).2=B:=by rw[I.out];exact nF B
   cases hp:Lib.hasPrefix (bl s) (nN k) with
   | false=>
    have K:=fH ((Xr hp).trans I.out);go_wp2_with (go_at_call 131;refine mb (aab _ _ _) ?_;rintro w' rfl;rw[D,hp,z]);go_round
    case rel=>exact⟨k+1,by omega,n,B,rfl,rfl,by go_num,K⟩
    case measure=>simp[intOf];omega
   | true=>
    by_cases O:T.size<B.size
    ·have K:Hid (jy (bl s) (k+1)=(k,bl T)):=by show _=_;rw[Un hp (by rw[z,J];exact O),M]
     go_wp2_with (go_at_call 131;refine mb (aab _ _ _) ?_;rintro w' rfl;rw[D,hp,z]);go_round
     case rel=>exact⟨k+1,by omega,k,T,rfl,rfl,by go_num,K⟩
     case measure=>simp[intOf];omega
    ·have K:=fH ((PE (by rw[z,J];exact O)).trans I.out);go_wp2_with (go_at_call 131;refine mb (aab _ _ _) ?_;rintro w' rfl;rw[D,hp,z]);go_round
     case rel=>exact⟨k+1,by omega,n,B,rfl,rfl,by go_num,K⟩
     case measure=>simp[intOf];omega
  ·have E:Hid (As (bl s)=(n,bl B)):=by show _=_;rw[<-Ip,<-I.out];congr 1;omega
   go_wp2;go_ret2;exact⟨by rw[E.out,nF];rfl,rfl⟩
end
section
open Go.RowKit Go.Deep
theorem aac (c:UInt8):(bl oB).contains c=GM c:=by
 have:=kf (fun c=>(bl oB).contains c==GM c) (by kernel_rfl) c;simpa using this
theorem It:∀ l:LU,(0<=Lib.indexAny l (bl oB)->Lib.indexAny l (bl oB)=fS pG l)/\(Lib.indexAny l (bl oB)<0->fS pG l=l.length)
 | []=>⟨fun h=>by simp[Lib.indexAny] at h,fun _=>rfl⟩
 | b::l=>by
  obtain⟨H,D⟩:=It l;have z:=Lib.indexAny_ge (bl oB) l;unfold Lib.indexAny;rw[aac];cases hb:GM b with
  | true=>exact⟨fun _=>by simp[fS,pG,hb],fun h=>by simp at h⟩
  | false=>
   have F:fS pG (b::l)=fS pG l+1:=oX (by simp[pG,hb]);rw[F];simp only[Bool.false_eq_true,if_false,beq_iff_eq];split
   ·rename_i h;exact⟨fun h=>by simp at h,fun _=>by rw[D (by omega)];rfl⟩
   ·rename_i h;exact⟨fun _=>by rw[H (by omega)];push_cast;rfl,fun I=>by omega⟩
theorem Mq (l:LU):Lib.hasPrefix l [33]=fY 33 l:=by
 cases l with
 | nil=>rfl
 | cons a r=>rw[tR];simp only[fY];rw[Bool.beq_comm]
theorem Iu (l:LU):Lib.trimPrefix l [33]=ji l:=by
 unfold Lib.trimPrefix ji;rw[Mq];rfl
theorem Xs (l:LU):(ji l).length<=l.length:=by unfold ji;split<;>simp
theorem aad (l:LU):(As l).2.length<=l.length:=by rw[<-Ip];exact Do l 7
def jP.val (x:jP):Value:=.agg #[.bool x.no,.string (gX x.name),.int .i64 x.op,.string (gX x.ver)]
def Iv:Value:=.agg #[.bool false,.string ⟨#[]⟩,.int .i64 0,.string ⟨#[]⟩]
def ng:LV:=[.bool false,.string ⟨#[]⟩,.int .i64 0,.string ⟨#[]⟩]
def Xt (r:Option jP)(w:World)(e:Ending)(w':World):Prop:=
 (match r with
  | some x=>e=.returned (.tuple #[x.val,.nilIface])
  | none=>∃ a c:Int,c≠0/\e=.returned (.tuple #[Iv,.iface 242 (.agg #[.int .i64 a,.int .i64 c])]))/\Bw w w'
theorem PG (s:BA)(w:World)(hG:Gl w)(hs:s.size<=4294967280):Calls prog 97 #[.string s] w (Xt (mW (bl s)) w):=by
 have HG:=fH hG;clear hG;obtain⟨R,hR⟩:∃ R,gX (ji (bl s))=R:=⟨_,rfl⟩
 have ad:bl R=ji (bl s):=by rw[<-hR,iS]
 have ao:R.size<=s.size:=by rw[<-fI,<-fI,ad];exact Xs _
 obtain⟨n,hn⟩:∃ n,fS pG (bl R)=n:=⟨_,rfl⟩
 have au:n<=R.size:=by rw[<-hn,<-fI];exact jI _ _
 obtain⟨i1,i2⟩:=It (bl R);rw[hn] at i1 i2;rw[fI] at i2;have J:=fun W=>aab s ⟨#[33]⟩ W;have ah:bl ⟨#[33]⟩=[33]:=rfl;rw[ah,Iu,Mq,hR] at J;generalize hq:fY 33 (bl s)=q at J;go_in;go_wp2_with fail;refine mb (J _) ?_;rintro w' rfl;go_wp2_with fail;refine mb (Kh R _ (by omega)) ?_;rintro w1 U;generalize Lib.indexAny (bl R) (bl oB)=ia at i1 i2;have BB:Hid (Bw w w1):=((bR.alloc lr _).alloc (by simp) _).trans (U.mono (by simp;omega));have KA:Hid (fV w1 w.heap.size ng):=((fV.new w ng _).alloc _).below U;have KB:Hid (fV w1 (w.heap.size+1) [.bool q,.string ⟨#[]⟩,.int .i64 0,.string ⟨#[]⟩]):=(by have:=fV.new (w.alloc (.cells #[.bool false,.string ⟨#[]⟩,.int .i64 0,.string ⟨#[]⟩] 142)) [.bool q,.string ⟨#[]⟩,.int .i64 0,.string ⟨#[]⟩] 142;simpa using this:fV _ (w.heap.size+1) _).below U;clear U;go_upto_if 19 with(fail)
 go_cut [7] (fun v wx=>v=.int .i64 n/\w1=wx)
 case first=>
  by_cases ag:0<=ia
  ·have e1:=i1 ag;have X:¬ ia<0:=by omega
   clear i1 i2;go_wp2;go_meet;exact⟨rfl,rfl⟩
  ·have X:ia<0:=by omega
   have e1:=i2 X;clear i1 i2 ag;go_wp2;go_meet;exact⟨by rw[e1],rfl⟩
 case rest=>
 obtain⟨rfl,rfl⟩:=hcut;clear i1 i2;have an:(n:Int)<=(R.size:Int):=by omega
 have c1:=KB.cell 1 _ rfl;have I:=KB.free 1 (by simp);obtain⟨P,hP⟩:∃ P,R.extract 0 n=P:=⟨_,rfl⟩
 obtain⟨T,hT⟩:∃ T,R.extract n R.size=T:=⟨_,rfl⟩
 have aa:bl P=(bl R).take n:=by rw[<-hP,jp]
 have Y:bl T=(bl R).drop n:=by rw[<-hT,ik]
 have aq:P.size=n:=by rw[<-fI,aa,List.length_take,fI];omega
 have ap:T.size=R.size-n:=by rw[<-fI,Y,List.length_drop,fI]
 have WA:Hid (mW (bl s)=if jU (bl P) then In q (bl P) (bl T) else none):=by
  show _=_;unfold mW;rw[<-ad,hn,hq,<-aa,<-Y]
 clear aa Y ad hn hq hR J ah;go_wp2;go_region;clear c1 I;have c1:=(KB.set 1 (by simp) (.string P)).drew.cell 1 _ rfl;go_wp2_with fail;refine mb (yQ P _ (by omega)) ?_;rintro w2 hw;have D:Hid (fV w2 w.heap.size ng):=by rw[<-hw];exact(KA.far (by omega) _).drew
 have z:Hid (fV w2 (w.heap.size+1) [.bool q,.string P,.int .i64 0,.string ⟨#[]⟩]):=by rw[<-hw];exact(KB.set 1 (by simp) (.string P)).drew
 have M:Hid (Bw w w2):=by rw[<-hw];exact(fO BB (by omega) _).drew
 clear hw c1 hP hT;cases hnm:jU (bl P) with
 | false=>
  have E:Hid (mW (bl s)=none):=by show _=_;rw[WA.out,hnm];rfl
  clear hnm;have a0:=D.cell 0 _ rfl;have aj:=D.free 0 (by simp[ng]);have a1:=D.cell 1 _ rfl;have al:=D.free 1 (by simp[ng]);have a2:=D.cell 2 _ rfl;have af:=D.free 2 (by simp[ng]);have a3:=D.cell 3 _ rfl;have ai:=D.free 3 (by simp[ng]);go_wp2_with fail;refine bodyPost_ret (v:=.tuple #[Iv,.iface 242 (.agg #[.int .i64 _,.int .i64 10])]) (by simp[results,results97,go_sem,Iv,a0,a1,a2,a3];rfl) rfl ?_;refine⟨by rw[E.out];exact⟨_,10,by decide,rfl⟩,?_⟩;exact fO (fO (fO (fO M lr _) lr _) lr _) lr _
 | true=>
  have E1:Hid (mW (bl s)=In q (bl P) (bl T)):=by show _=_;rw[WA.out,hnm];rfl
  clear hnm;by_cases K:T.size=0
  ·have he:T.toList=[]:=by rw[fK,hZ T K]
   have ae:T.toList.isEmpty=true:=by rw[he];rfl
   have E:Hid (mW (bl s)=some ⟨q,bl P,0,[]⟩):=by show _=_;rw[E1.out,hZ T K];rfl
   have a0:=D.cell 0 _ rfl;have aj:=D.free 0 (by simp[ng]);have a1:=D.cell 1 _ rfl;have al:=D.free 1 (by simp[ng]);have a2:=D.cell 2 _ rfl;have af:=D.free 2 (by simp[ng]);have a3:=D.cell 3 _ rfl;have ai:=D.free 3 (by simp[ng]);have c0:=z.cell 0 _ rfl;have ac:=z.free 0 (by simp);have c1:=z.cell 1 _ rfl;have I:=z.free 1 (by simp);have c2:=z.cell 2 _ rfl;have Z:=z.free 2 (by simp);have c3:=z.cell 3 _ rfl;have ab:=z.free 3 (by simp);go_wp2_with fail;refine bodyPost_ret (v:=.tuple #[.agg #[.bool q,.string P,.int .i64 0,.string ⟨#[]⟩],.nilIface]) (by simp[results,results97,go_sem,a0,a1,a2,a3]) rfl ?_;refine⟨by rw[E.out];simp only[jP.val,nF];rfl,?_⟩;exact fO (fO (fO (fO M lr _) lr _) lr _) lr _
  ·have ae:T.toList.isEmpty=false:=by rw[fK,gu];exact dF K
   have he:¬ T.toList=[]:=by intro h;rw[h] at ae;simp at ae
   go_wp2_with fail;refine mb (GX T _ (HG.below M) (by omega)) ?_;rintro w3 rfl;obtain⟨V,hV⟩:∃ V,gX (As (bl T)).2=V:=⟨_,rfl⟩
   have ar:V.size<=T.size:=by rw[<-hV,iB,<-fI];exact aad _
   have E2:Hid (mW (bl s)=if gL 3 V=0 then some ⟨q,bl P,(As (bl T)).1,bl V⟩ else none):=by
    show _=_;rw[E1.out];unfold In;rw[hV,if_neg (by rw[gu];simpa using K),<-hV,iS]
   generalize (As (bl T)).1=o at E2;have c0:=z.cell 0 _ rfl;have ac:=z.free 0 (by simp);have c1:=z.cell 1 _ rfl;have I:=z.free 1 (by simp);have c2:=z.cell 2 _ rfl;have Z:=z.free 2 (by simp);have c3:=z.cell 3 _ rfl;have ab:=z.free 3 (by simp);go_wp2_with fail;have B3:=fH ((fO (j:=3) (fO (j:=2) M (Nat.le_succ _) (.int .i64 o)) (Nat.le_succ _) (.string V)));refine mb (gP 3 V _ (HG.below (by exact B3.out)) (by omega)) ?_;rintro w4 O;have H:Hid (fV w4 w.heap.size ng):=((D.far (by omega) _).far (by omega) _).below O;have F:Hid (fV w4 (w.heap.size+1) [.bool q,.string P,.int .i64 o,.string V]):=((z.set 2 (by simp) (.int .i64 o)).set 3 (by simp) (.string V)).below O;have ak:Hid (Bw w w4):=fM B3 O;clear O;clear c0 ac c1 I c2 Z c3 ab;have a0:=H.cell 0 _ rfl;have aj:=H.free 0 (by simp[ng]);have a1:=H.cell 1 _ rfl;have al:=H.free 1 (by simp[ng]);have a2:=H.cell 2 _ rfl;have af:=H.free 2 (by simp[ng]);have a3:=H.cell 3 _ rfl;have ai:=H.free 3 (by simp[ng]);have c0:=F.cell 0 _ rfl;have ac:=F.free 0 (by simp);have c1:=F.cell 1 _ rfl;have I:=F.free 1 (by simp);have c2:=F.cell 2 _ rfl;have Z:=F.free 2 (by simp);have c3:=F.cell 3 _ rfl;have ab:=F.free 3 (by simp);by_cases hv:gL 3 V=0
   ·have E:Hid (mW (bl s)=some ⟨q,bl P,o,bl V⟩):=by show _=_;rw[E2.out,if_pos hv]
    have am:(gL 3 V != 0)=false:=by simp[hv]
    clear hv;go_wp2_with fail;refine bodyPost_ret (v:=.tuple #[.agg #[.bool q,.string P,.int .i64 o,.string V],.nilIface]) (by simp[results,results97,go_sem,a0,a1,a2,a3]) rfl ?_;refine⟨by rw[E.out];simp only[jP.val,nF],?_⟩;exact fO (fO (fO (fO ak lr _) lr _) lr _) lr _
   ·have E:Hid (mW (bl s)=none):=by show _=_;rw[E2.out,if_neg hv]
    have am:(gL 3 V != 0)=true:=by simp[hv]
    have HV:=GG.mk hv;clear hv;go_wp2;go_region;go_wp2_with fail;refine bodyPost_ret (v:=.tuple #[Iv,.iface 242 (.agg #[.int .i64 _,.int .i64 (gL 3 V)])]) (by simp[results,results97,go_sem,Iv,a0,a1,a2,a3];rfl) rfl ?_;refine⟨by rw[E.out];exact⟨_,_,HV.out,rfl⟩,?_⟩;exact(fO (fO (fO (fO ak lr _) lr _) lr _) lr _).drew
theorem Iw:(prog.info? 142).map (fun i=>(i.zero,i.size,i.bytes))=some (some (.agg #[.bool false,.string ⟨#[]⟩,.int .i64 0,.string ⟨#[]⟩]),4,48):=by kernel_rfl
structure GY (w wr:World) (L:List jP) (A:OA) (n c:Nat):Prop where
 len:L.length=n
 row:wr.ownsRow (w.heap.size+1) 142 4 (.slice A n c) n (L.flatMap jP.cells)
 ret:fV wr w.heap.size [.string ⟨#[]⟩,.int .i64 0,.int .i64 0]
 bel:Bw w wr
theorem GY.below {L:List jP}{c:Nat}(h:GY w wr L A n c)(z:Bw wr w'):GY w w' L A n c:=
 ⟨h.len,ge h.row z,h.ret.below z,fM h.bel z⟩
theorem GY.start (w:World):GY w (w.alloc (.cells #[.string ⟨#[]⟩,.int .i64 0,.int .i64 0] 132)) [] none 0 0:=
 ⟨rfl,World.ownsRow_nil _ _ _ _,fV.new w _ _,bR.alloc lr _⟩
theorem GY.grow {w2:World}{L:List jP}{A1:OA}{c c1:Nat}{o1 o2:Obj}{x:jP}(h:GY w wr L A n c)
  (J:w2.ownsRow (w.heap.size+1) 142 4 (.slice A1 (n+1) c1) (n+1) (L.flatMap jP.cells++x.cells))
  (F:((wr.alloc o1).alloc o2).grownBy w2 (Value.slice A n c).ownBlock):GY w w2 (L++[x]) A1 (n+1) c1:=by
 have M:=h.bel.size;have I:Bw w ((wr.alloc o1).alloc o2):=(h.bel.alloc h.bel.size o1).alloc (by simp;omega) o2;have z:fV ((wr.alloc o1).alloc o2) w.heap.size [.string ⟨#[]⟩,.int .i64 0,.int .i64 0]:=(h.ret.alloc o1).alloc o2;refine⟨by simp[h.len],by rw[List.flatMap_append];simpa using J,?_,?_⟩
 ·have H:w2.heap[w.heap.size]?=((wr.alloc o1).alloc o2).heap[w.heap.size]?:=F.block _ z.sz (by intro e;have:=(h.row.lt _ e.symm).1;omega);refine⟨Nat.lt_of_lt_of_le z.sz F.size,fun j u K=>?_,fun j D=>?_⟩
  ·exact(World.cell?_of_block (a:=⟨w.heap.size,j,none⟩) H).trans (z.cell j u K)
  ·exact(World.frozen?_of_block (a:=⟨w.heap.size,j,none⟩) H).trans (z.free j D)
 ·exact I.grown F I.size (fun j D=>by have:=(h.row.lt j D).1;omega)
def PV (r:Option (List jP))(w:World)(e:Ending)(w':World):Prop:=
 ∃ (A:OA) (n c:Nat) (f:BA) (a code:Int),e=.returned (.tuple #[.slice A n c,lF f a code])/\Bw w w' /\
  (match r with
   | some L=>code=0/\n=L.length/\w'.ownsRow w.heap.size 142 4 (.slice A n c) n (L.flatMap jP.cells)
   | none=>code≠0/\A=none/\n=0)
theorem Dx (w:World)(t:TypeId)(a b c d:Value):nE (w.alloc (.cells #[a,b,c,d] t)) (w.heap.size+1) 4 (some ⟨w.heap.size,0,none⟩) 1 [a,b,c,d]:=by
 refine⟨rfl,fun _=>⟨_,rfl,by simp,fun j u z=>?_⟩⟩
 match j,z with
 | 0,z=>simp at z;subst z;simp[Addr.add]
 | 1,z=>simp at z;subst z;simp[Addr.add]
 | 2,z=>simp at z;subst z;simp[Addr.add]
 | 3,z=>simp at z;subst z;simp[Addr.add]
 | j+4,z=>simp at z
theorem aag (l:LU):(Lib.cut l [32]).1=l.take (fS kg l):=by
 by_cases h:fS kg l<l.length
 ·obtain⟨a,r,I,F⟩:=rL l h;have F:a=32:=by simpa [kg] using F
  subst F;have J:l[fS kg l]?=some 32:=by
   have:=congrArg (fun x=>x[0]?) I;simpa [List.getElem?_drop] using this
  have K:(l.take (fS kg l)).contains 32=false:=by
   cases D:(l.take (fS kg l)).contains 32 with
   | false=>rfl
   | true=>
    have z:(32:UInt8)∈l.take (fS kg l):=by simpa using D
    have:l.take (fS kg l)=l.takeWhile kg:=by unfold fS;exact(List.prefix_iff_eq_take.1 (List.takeWhile_prefix _)).symm
    rw[this] at z;have:=List.all_eq_true.1 (List.all_takeWhile (p:=kg) (l:=l)) 32 z;simp[kg] at this
  rw[Xl l _ K J]
 ·have M:=jI kg l;have H:fS kg l=l.length:=by omega
  have D:l.contains 32=false:=by
   cases D:l.contains 32 with
   | false=>rfl
   | true=>
    have z:(32:UInt8)∈l:=by simpa using D
    have:l.takeWhile kg=l:=by
     have:=List.prefix_iff_eq_take.1 (List.takeWhile_prefix (p:=kg) (l:=l));rw[this];exact tL (by unfold fS at H;omega)
    rw[<-this] at z;have:=List.all_eq_true.1 (List.all_takeWhile (p:=kg) (l:=l)) 32 z;simp[kg] at this
  rw[Mf l D,H,List.take_length]
theorem nX {base:Nat}{e:TypeId}{size c:Nat}{xs:LV}{v:Value}(h:w.ownsRow base e size (.slice A n c) n xs)(F:b<base):(w.setCell ⟨b,j,none⟩ v).ownsRow base e size (.slice A n c) n xs:=by
 have D:w.grownBy (w.setCell ⟨b,j,none⟩ v) (some b):=fX (World.grownBy.refl w (some b)) (.inl rfl) _;refine h.kept D ?_;cases hq:(Value.slice A n c).ownBlock with
 | none=>exact .inl rfl
 | some q=>right;intro z;injection z with z;have:=(h.lt q hq).1;omega
theorem Dy (s:BA)(w:World)(hG:Mt w)(hs:s.size<=4294967280):Calls prog 60 #[.string s] w (PV (jL (bl s)) w):=by
 obtain⟨i0,ap,am,aq,ao⟩:=info_parts Iw;have HG:=fH hG;clear hG;go_in;go_wp2;go_loopw [4,5] (fun l p wr=>∃ (L:List jP) (A:OA) (n c k f:Nat),l=.slice A n c/\p=.int .i64 k/\k<=s.size/\n<=64/\Hid (GY w wr L A n c)/\Hid (jL (bl s)=tQ (f+1) L ((bl s).drop k))/\Hid (s.size-k<=f)) (fun _ p _=>s.size-(intOf p).toNat)
 case atStart=>exact⟨[],none,0,0,0,s.size,rfl,rfl,z0,by omega,GY.start w,by show _=_;rw[List.drop_zero,<-fI];exact Pw _,lr⟩
 case round=>
  obtain⟨L,A,n,c,k,f,rfl,rfl,hk,hn,I,HN,HF⟩:=hrel;by_cases aa:k<s.size
  ·have HD:Hid ((bl s).drop k=s[k]::(bl s).drop (k+1)):=by
    show _=_;rw[List.drop_eq_getElem_cons (by rw[fI];exact aa),oE s k aa]
   obtain⟨d,hd⟩:∃ d:UInt8,s[k]=d:=⟨_,rfl⟩
   rw[hd] at HD;by_cases O:d.toNat=32
   ·have ag:d=32:=UInt8.toNat_inj.1 O;have V:Hid (jL (bl s)=tQ (f+1) L ((bl s).drop (k+1))):=by show _=_;rw[HN.out,HD.out,ag,Px]
    have Z:Hid (s.size-(k+1)<=f):=by have:=HF.out;show _<=_;omega
    clear ag;go_wp2;go_roundw
    case rel=>exact⟨L,A,n,c,k+1,f,rfl,by go_num,by omega,hn,I,V,Z⟩
    case measure=>simp[intOf];omega
   ·obtain⟨R,hR⟩:∃ R,s.extract k s.size=R:=⟨_,rfl⟩
    have Y:bl R=(bl s).drop k:=by rw[<-hR,ik]
    have av:R.size=s.size-k:=by rw[<-fI,Y,List.length_drop,fI]
    obtain⟨K,U⟩:∃ K,nx R ⟨#[32]⟩=K:=⟨_,rfl⟩
    have X:bl K=((bl s).drop k).take (fS kg ((bl s).drop k)):=by
     rw[<-U,<-Y,<-aag];unfold nx;rw[nj];rfl
    have H:kg (((bl s).drop k).headD 32)=true:=by
     rw[HD.out];simp only[List.headD_cons,kg];simp;intro e;exact O (by rw[e];rfl)
    have M:K.size=fS kg ((bl s).drop k):=by
     rw[<-fI,X,List.length_take];have:=jI kg ((bl s).drop k);omega
    have ar:0<K.size:=by
     rw[M,HD.out];have:kg d=true:=by rw[HD.out] at H;exact H
     simp[fS,this]
    have ax:K.size<=s.size-k:=by
     rw[M];have:=jI kg ((bl s).drop k);rw[List.length_drop,fI] at this;exact this
    have HK:=fH H;have ad:=fH X;have an:=fH M;clear H X M Y;have au:(k:Int)<=(s.size:Int):=by omega
    go_wp2_with fail;refine mb (iH R ⟨#[32]⟩ _ (HG.1.below I.bel) (by omega)) ?_;rintro w1 al;rw[U];have z:=fH (I.below al);clear al U hR;by_cases af:n=64
    ·have E:Hid (jL (bl s)=none):=by
      show _=_;rw[HN.out];exact Py HK (by rw[z.out.len];exact af)
     have aj:((n:Int)==64)=true:=by simp;omega
     have r0:=z.ret.cell 0 _ rfl;have r1:=z.ret.cell 1 _ rfl;have r2:=z.ret.cell 2 _ rfl;have ab:=z.ret.free 0 (by simp);have ah:=z.ret.free 1 (by simp);have ac:=z.ret.free 2 (by simp);go_wp2_with fail;refine bodyPost_ret (v:=.tuple #[.slice none 0 0,.agg #[.string ⟨#[]⟩,.int .i64 k,.int .i64 4]]) (by simp[results,results60,go_sem,r0,r1,r2]) rfl ?_;refine⟨none,0,0,⟨#[]⟩,k,4,rfl,?_,by rw[E.out];exact⟨by decide,rfl,rfl⟩⟩;exact fO (fO (fO z.bel lr _) lr _) lr _
    have aj:((n:Int)==64)=false:=by simp;omega
    go_wp2_with fail;refine(PG K _ (HG.1.below z.bel) (by omega)).mono ?_;rintro e w2 ⟨D,ae⟩;have J:=fH (z.below ae);clear ae;cases hw:mW (bl K) with
    | none=>
     rw[hw] at D;obtain⟨a,y,hy,rfl⟩:=D;have E:Hid (jL (bl s)=none):=by
      show _=_;rw[HN.out];exact Uf HK (by rw[<-ad.out];exact hw)
     have HY:=GG.mk hy;clear hw hy;unfold Iv;go_wp2_with fail;have ai:=fH (J.below (bR.alloc lr (.cells #[.bool false,.string ⟨#[]⟩,.int .i64 0,.string ⟨#[]⟩] 142)));refine(Kk a y k _ (HG.below ai.bel)).mono ?_;rintro e w4 ⟨⟨q,rfl⟩,ak⟩;have F:=fH (ai.below ak);clear ak;have r0:=F.ret.cell 0 _ rfl;have r1:=F.ret.cell 1 _ rfl;have r2:=F.ret.cell 2 _ rfl;have ab:=F.ret.free 0 (by simp);have ah:=F.ret.free 1 (by simp);have ac:=F.ret.free 2 (by simp);unfold lF;go_wp2_with fail;refine bodyPost_ret (v:=.tuple #[.slice none 0 0,.agg #[.string ⟨#[]⟩,.int .i64 q,.int .i64 y]]) (by simp[results,results60,go_sem,r0,r1,r2]) rfl ?_;refine⟨none,0,0,⟨#[]⟩,q,y,rfl,?_,by rw[E.out];exact⟨HY.out,rfl,rfl⟩⟩;exact fO (fO (fO F.bel lr _) lr _) lr _
    | some x=>
     rw[hw] at D;obtain rfl:=D;have V:Hid (jL (bl s)=tQ (f-1+1) (L++[x]) ((bl s).drop (k+K.size))):=by
      have hf:=HF.out;show _=_;rw[HN.out,Ug HK.out (by rw[J.out.len];exact af) (by rw[<-ad.out];exact hw),List.drop_drop,an.out,show f-1+1=f by omega]
     have Z:Hid (s.size-(k+K.size)<=f-1):=by have:=HF.out;show _<=_;omega
     clear hw;unfold jP.val;go_wp2_with (at_builtin;refine fR _ rfl _ _ _ rfl (w.heap.size+1) 142 i0 _ 4 48 underlying87 ap am aq ao rfl (by omega) (.slice A n c) n _ rfl ((J.row.alloc _).alloc _) (w2.heap.size+1+1) (some ⟨w2.heap.size+1,0,none⟩) 1 1 x.cells rfl (by have:=Dx (w2.alloc (.cells x.cells.toArray 142)) 142 (.bool x.no) (.string (gX x.name)) (.int .i64 x.op) (.string (gX x.ver));simpa [jP.cells] using this) (by simp[Value.oneCell',jP.cells]) (by simp only[maxLen];omega) (by omega) (by simp;have:=J.ret.sz;omega) ?_;intro v1 w3 o1 g1 a1);obtain⟨A1,c1,rfl⟩:=gg o1;have R3:=fH (J.grow (x:=x) o1 g1);clear o1 g1 a1;go_wp2;go_roundw
     case rel=>exact⟨L++[x],A1,n+1,c1,k+K.size,f-1,rfl,by go_num,by omega,by omega,R3,V,Z⟩
     case measure=>simp[intOf];omega
  ·have E:Hid (jL (bl s)=some L):=by
    show _=_;rw[HN.out,List.drop_of_length_le (by rw[fI];omega),Xn]
   have r0:=I.ret.cell 0 _ rfl;have r1:=I.ret.cell 1 _ rfl;have r2:=I.ret.cell 2 _ rfl;have ab:=I.ret.free 0 (by simp);have ah:=I.ret.free 1 (by simp);have ac:=I.ret.free 2 (by simp);go_wp2_with fail;refine bodyPost_ret (v:=.tuple #[.slice A n c,.agg #[.string ⟨#[]⟩,.int .i64 0,.int .i64 0]]) (by simp[results,results60,go_sem,r0,r1,r2]) rfl ?_;refine⟨A,n,c,⟨#[]⟩,0,0,rfl,?_,?_⟩
   ·exact fO (fO (fO I.bel lr _) lr _) lr _
   ·rw[E.out];exact⟨rfl,I.len.symm,gF (nX (nX (nX I.row (Nat.lt_succ_self _)) (Nat.lt_succ_self _)) (Nat.lt_succ_self _)) (Nat.le_succ _)⟩
end
section
open Go.RowKit
inductive mQ where
 | atom (name:LU) (op:Nat) (ver:LU)
 | node (op:LU) (kids:List mQ)
def oy:Nat->LU->Nat
 | _,[]=>0
 | o,c::r=>if c==32 then 0 else if c==40 then oy (o+1) r+1 else if c==41 then (if o=0 then 0 else oy (o-1) r+1) else oy o r+1
def XK (c:UInt8):Bool:=c==40||c==41
def xJ:LU->Nat
 | []=>0
 | c::r=>if XK c then 1 else oy 0 (c::r)
def gJ (l:LU):LU:=(gm l).take (xJ (gm l))
def gY (l:LU):LU:=(gm l).drop (xJ (gm l))
theorem Ck:∀ (l:LU)(o:Nat),oy o l<=l.length
 | [],_=>by simp[oy]
 | c::r,o=>by
  unfold oy;have z:=Ck r (o+1);have D:=Ck r (o-1);have F:=Ck r o
  repeat' split
  all_goals simp
  all_goals omega
theorem Kp (l:LU):xJ l<=l.length:=by
 cases l with
 | nil=>simp[xJ]
 | cons c r=>
  show(if XK c then 1 else oy 0 (c::r))<=(c::r).length;split
  ·simp
  ·exact Ck _ _
theorem UI {c:UInt8}(h:gm l=c::r):(c==32)=false:=by
 have z:=Ui l;rw[h,kK] at z;cases hc:gT c with
 | true=>rw[hc] at z;simp at z
 | false=>exact hc
theorem DM (h:gm l≠[]):0<xJ (gm l):=by
 cases hs:gm l with
 | nil=>exact absurd hs h
 | cons c r=>
  have H:=UI hs;show 0<(if XK c then 1 else oy 0 (c::r));split
  ·omega
  ·rename_i z
   have D:(c==40)=false:=by unfold XK at z;cases h:(c==40) with
    | false=>rfl
    | true=>rw[h] at z;simp at z
   have F:(c==41)=false:=by unfold XK at z;cases h:(c==41) with
    | false=>rfl
    | true=>rw[h] at z;simp at z
   show 0<(if c==32 then 0 else if c==40 then oy (0+1) r+1 else if c==41 then (if 0=0 then 0 else oy (0-1) r+1) else oy 0 r+1);rw[H,D,F];simp
theorem XL (h:gm l≠[]):(gY l).length<l.length:=by
 have z:=DM h;have D:=Kp (gm l);have F:=ls l;unfold gY;rw[List.length_drop];omega
theorem zd :gJ l=[]↔gm l=[]:=by
 constructor
 ·intro h;by_cases z:gm l=[]
  ·exact z
  ·have D:=DM z;have F:=Kp (gm l);unfold gJ at h;have:=congrArg List.length h;rw[List.length_take,List.length_nil] at this;omega
 ·intro h;unfold gJ;rw[h];rfl
def MK (p:LU):Nat:=if p=[60] then 1 else if p=[60,61] then 2 else if p=[61] then 3 else if p=[62,61] then 4 else if p=[62] then 5 else 0
def lh:LU:=[97,110,100]
def kT:LU:=[111,114]
def vn:LU:=[105,102]
def ir:LU:=[117,110,108,101,115,115]
def lJ:LU:=[119,105,116,104]
def iC:LU:=[119,105,116,104,111,117,116]
def AA:LU:=[101,108,115,101]
def mF (p:LU):Bool:=decide (p=lh\/p=kT\/p=vn\/p=ir\/p=lJ\/p=iC)
def gx (op:LU)(n:Nat)(p:LU):Bool:=
 if n=1 then mF p else decide ((op=lh\/op=kT)/\p=op\/(op=vn\/op=ir)/\n=2/\p=AA)
def pC (name:LU)(op n:Nat)(l:LU):Option (mQ×LU×Nat):=
 if gJ l=[]\/gJ l=[40]\/gJ l=[41] then none else if gL 2 (gX (gJ l))=0 then some (.atom name op (gJ l),gY l,n) else none
def qy (name:LU)(n:Nat)(l:LU):Option (mQ×LU×Nat):=
 if MK (gJ l)=0 then some (.atom name 0 [],l,n) else pC name (MK (gJ l)) n (gY l)
def mu (n:Nat)(l:LU):Option (mQ×LU×Nat):=
 if n=64 then none else if kA (gJ l) then qy (gJ l) (n+1) (gY l) else none
mutual
def lV:Nat->Nat->Nat->LU->Option (mQ×LU×Nat)
 | 0,_,_,_=>none
 | f+1,deep,n,l=>
  if gJ l=[]\/gJ l=[41] then none
  else if gJ l=[40] then (if deep=32 then none else nK f (deep+1) n [] [] (gY l))
  else mu n l
def nK:Nat->Nat->Nat->List mQ->LU->LU->Option (mQ×LU×Nat)
 | 0,_,_,_,_,_=>none
 | f+1,deep,n,acc,op,l=>match lV f deep n l with
  | none=>none
  | some (k,l1,n1)=>
   if gJ l1=[41]/\acc≠[] then some (.node op (acc++[k]),gY l1,n1)
   else if gx op (acc.length+1) (gJ l1) then nK f deep n1 (acc++[k]) (if acc=[] then gJ l1 else op) (gY l1)
   else none
end
def jt (l:LU):Option mQ:=match lV (2*l.length+2) 0 0 l with
 | none=>none
 | some (d,r,_)=>if gJ r=[] then some d else none
def XM:Nat->LU
 | 1=>[60]
 | 2=>[60,61]
 | 3=>[61]
 | 4=>[62,61]
 | 5=>[62]
 | _=>[]
def XN (op:LU)(i:Nat):LU:=if 2<=i/\(op=vn\/op=ir) then AA else op
mutual
def ij:mQ->LU
 | .atom nm op v=>if op=0 then nm else nm++[32]++XM op++[32]++v
 | .node op ks=>[40]++jM op 0 ks++[41]
def jM (op:LU):Nat->List mQ->LU
 | _,[]=>[]
 | i,k::r=>(if i=0 then [] else [32]++XN op i++[32])++ij k++jM op (i+1) r
end
def nY (l:LU):Bool:=!l.isEmpty&&(match jt l with | some d=>decide (ij d=l) | none=>false)
end
section
open Go.RowKit Go.Deep
theorem adh (k:Nat)(z:k<6)(x:Nat->BA)(w:World):(Instr.index 324 (.agg #[.string (x 0),.string (x 1),.string (x 2),.string (x 3),.string (x 4),.string (x 5)]) (.int .i64 k)).run prog w=.ok (.string (x k)) w:=by
 rcases(by omega:k=0\/k=1\/k=2\/k=3\/k=4\/k=5) with rfl | rfl | rfl | rfl | rfl | rfl<;>kernel_rfl
def UU (x:Nat->BA)(l:LU):Nat->Prop:=fun k=>∀ j,j<k->bl (x j)≠l
theorem DZ (k:Nat)(z:k<6):bl (wT k)=XM k:=by
 rcases(by omega:k=0\/k=1\/k=2\/k=3\/k=4\/k=5) with rfl | rfl | rfl | rfl | rfl | rfl<;>rfl
theorem UV (z:k<6)(h:bl (wT k)=l):MK l=k:=by
 subst h;rcases(by omega:k=0\/k=1\/k=2\/k=3\/k=4\/k=5) with rfl | rfl | rfl | rfl | rfl | rfl<;>rfl
theorem XS (h:UU wT l 6):MK l=0:=by
 have F:=h 1 (by omega);have z:=h 2 (by omega);have I:=h 3 (by omega);have D:=h 4 (by omega);have H:=h 5 (by omega);rw[DZ _ (by omega)] at F z I D H;unfold MK;rw[if_neg (fun e=>F e.symm),if_neg (fun e=>z e.symm),if_neg (fun e=>I e.symm),if_neg (fun e=>D e.symm),if_neg (fun e=>H e.symm)]
theorem IQ {x:Nat->BA}(h:UU x l k)(D:bl (x k)≠l):UU x l (k+1):=by
 intro j F;rcases(by omega:j<k\/j=k) with z | rfl
 ·exact h j z
 ·exact D
theorem MN (z:k<6)(h:bl (Ie k)=l):mF l=true:=by
 subst h;rcases(by omega:k=0\/k=1\/k=2\/k=3\/k=4\/k=5) with rfl | rfl | rfl | rfl | rfl | rfl<;>rfl
theorem Qk (h:UU Ie l 6):mF l=false:=by
 have I:=h 0 (by omega);have F:=h 1 (by omega);have z:=h 2 (by omega);have J:=h 3 (by omega);have D:=h 4 (by omega);have H:=h 5 (by omega);apply dF;rintro(e | e | e | e | e | e)
 ·exact I e.symm
 ·exact F e.symm
 ·exact z e.symm
 ·exact J e.symm
 ·exact D e.symm
 ·exact H e.symm
theorem Hh (s:BA)(w:World)(z:Gl w):Calls prog 201 #[.string s] w fun e w'=>e=.returned (.int .i64 (MK (bl s)))/\w=w':=by
 have V:=z.rsg 0 (by omega);have R:=z.rsg 1 (by omega);have K:=z.rsg 2 (by omega);have X:=z.rsg 3 (by omega);have J:=z.rsg 4 (by omega);have O:=z.rsg 5 (by omega);go_in;go_wp2;go_loop [6] (fun i=>∃ k:Nat,k<=6/\i=.int .i64 k/\Hid (UU wT (bl s) k)) (fun i=>6-(intOf i).toNat)
 case atStart=>exact⟨0,by omega,rfl,fun j U=>by omega⟩
 case round=>
  obtain⟨k,M,rfl,F⟩:=hrel;by_cases D:k<6
  ·have H:=fun W=>adh k D wT W;cases hq:((wT k).toList==s.toList) with
   | true=>
    have E:Hid (MK (bl s)=k):=UV D (by rw[kY] at hq;rw[dO hq]);go_wp2;go_ret;exact⟨fT (by rw[E.out]),rfl⟩
   | false=>
    have I:=fH (IQ F (k:=k) (by rw[kY] at hq;exact fun e=>of_decide_eq_false hq (kG e)));go_wp2;go_round
    case rel=>exact⟨k+1,by omega,by go_num,I⟩
    case measure=>simp[intOf];omega
  ·have E:Hid (MK (bl s)=0):=XS (by have:=F.out;rwa [show k=6 by omega] at this);go_wp2;go_ret;exact⟨fT (by rw[E.out];rfl),rfl⟩
theorem Ea (s:BA)(w:World)(z:Gl w):Calls prog 249 #[.string s] w fun e w'=>e=.returned (.bool (mF (bl s)))/\w=w':=by
 have V:=z.rwd 0 (by omega);have R:=z.rwd 1 (by omega);have K:=z.rwd 2 (by omega);have X:=z.rwd 3 (by omega);have J:=z.rwd 4 (by omega);have O:=z.rwd 5 (by omega);go_in;go_wp2;go_loop [6] (fun i=>∃ k:Nat,k<=6/\i=.int .i64 k/\Hid (UU Ie (bl s) k)) (fun i=>6-(intOf i).toNat)
 case atStart=>exact⟨0,by omega,rfl,fun j U=>by omega⟩
 case round=>
  obtain⟨k,M,rfl,F⟩:=hrel;by_cases D:k<6
  ·have H:=fun W=>adh k D Ie W;cases hq:((Ie k).toList==s.toList) with
   | true=>
    have E:Hid (mF (bl s)=true):=MN D (by rw[kY] at hq;rw[dO hq]);go_wp2;go_ret;exact⟨fJ E.out.symm,rfl⟩
   | false=>
    have I:=fH (IQ F (k:=k) (by rw[kY] at hq;exact fun e=>of_decide_eq_false hq (kG e)));go_wp2;go_round
    case rel=>exact⟨k+1,by omega,by go_num,I⟩
    case measure=>simp[intOf];omega
  ·have E:Hid (mF (bl s)=false):=Qk (by have:=F.out;rwa [show k=6 by omega] at this);go_wp2;go_ret;exact⟨fJ E.out.symm,rfl⟩
end
end Go.Proofs.YtkmjcombhjombaaGreatDoor
