/- A part of the proof. -/
import Derived.Test.YtaohgmcbpafdeaaGreatDoorA24
set_option maxRecDepth 100000
set_option maxHeartbeats 20000000
set_option linter.unusedVariables false
set_option linter.unusedSimpArgs false
namespace Go.Proofs.YtaohgmcbpafdeaaGreatDoor
section
open Go.RowKit
structure du where
 name:LU
 qual:LU
 op:Nat
 ver:LU
 archs:List (LU)
def Ov (c:UInt8):Bool:=c==32||c==44||c==124||c==40||c==41||c==91||c==93
def Ow (c:UInt8):Bool:=Ov c||c==58
def Pd (c:UInt8):Bool:=Ow c||c==33
def mB (c:UInt8):Bool:=!Ov c
def oo (c:UInt8):Bool:=!Ow c
def ik (c:UInt8):Bool:=!Pd c
def aH (l:LU):LU:=l.drop (aA aO l)
def lf (p:UInt8→Bool)(l:LU):Option (LU×LU):=if aA p l=0 then none else some (l.take (aA p l),l.drop (aA p l))
def re (l:LU):Nat×LU:=
 if ay 61 l then (3,l.drop 1) else
 if ay 60 l then (if ay 60 (l.drop 1) then (1,(l.drop 1).drop 1) else if ay 61 (l.drop 1) then (2,(l.drop 1).drop 1) else (0,l.drop 1)) else
 if ay 62 l then (if ay 62 (l.drop 1) then (5,(l.drop 1).drop 1) else if ay 61 (l.drop 1) then (4,(l.drop 1).drop 1) else (0,l.drop 1)) else (0,l)
def jM (op:Nat)(v r:LU):Option (Nat×LU×LU):=if ay 41 (aH r) then some (op,v,aH ((aH r).drop 1)) else none
def bV (op:Nat)(l:LU):Option (Nat×LU×LU):=if op=0 then none else match lf mB (aH l) with
 | none=>none
 | some (v,r)=>jM op v r
def uK (l:LU):Option (Nat×LU×LU):=bV (re (aH l)).1 (re (aH l)).2
def vH (l:LU):LU:=if ay 33 l then [33] else []
def gY (l:LU):Option (LU×LU):=(lf ik (bU l)).map (fun x=>(vH l++x.1,x.2))
def eE:Nat→LU→Option (List (LU)×LU)
 | 0,_=>none
 | f+1,l=>match gY l with
  | none=>none
  | some (a,r)=>if ay 93 (aH r) then some ([a],aH ((aH r).drop 1)) else if ay 32 r then (eE f (aH r)).map (fun x=>(a::x.1,x.2)) else none
def jN (r:LU):Option (LU×LU):=if ay 58 r then lf ik (r.drop 1) else some ([],r)
def jn (r:LU):Option (Nat×LU×LU):=if ay 40 r then uK (r.drop 1) else some (0,[],r)
def gZ (r:LU):Option (List (LU)×LU):=if ay 91 r then eE (r.length+1) (aH (r.drop 1)) else some ([],r)
def fN (l:LU):Option (du×LU):=match lf oo l with
 | none=>none
 | some (nm,r)=>match jN r with
  | none=>none
  | some (q,r1)=>match jn (aH r1) with
   | none=>none
   | some (op,v,r2)=>match gZ r2 with
    | none=>none
    | some (ar,r3)=>some (⟨nm,q,op,v,ar⟩,r3)
def dZ:Nat→LU→Option (List du×LU)
 | 0,_=>none
 | f+1,l=>match fN l with
  | none=>none
  | some (t,r)=>if ay 124 r then (dZ f (aH (r.drop 1))).map (fun x=>(t::x.1,x.2)) else some ([t],r)
def fO:Nat→LU→Option (List (List du))
 | 0,_=>none
 | f+1,l=>match dZ (l.length+1) l with
  | none=>none
  | some (g,r)=>if r.isEmpty then some [g] else if ay 44 r then (fO f (aH (r.drop 1))).map (g :: ·) else none
def lh (l:LU):Option (List (List du)):=if (aH l).isEmpty then some [] else fO (l.length+1) (aH l)
def du.right (t:du):Bool:=dy t.name&&(t.qual.isEmpty||cU t.qual)&&t.archs.all (fun a=>cU (bU a))&&(decide (t.op=0)||decide (cG 1 (bC t.ver)=0))
def uL (L:List (List du)):Bool:=L.all (fun g=>g.all du.right)&&decide ((L.map List.length).sum≤64)
def gt (l:LU):Option (List (List du)):=match lh l with
 | none=>none
 | some L=>if uL L then some L else none
theorem dC (l:LU):(aH l).length≤l.length:=by unfold aH;rw[List.length_drop];omega
theorem oq {p:UInt8→Bool}{l a r:LU}(h:lf p l=some (a,r)):0<aA p l∧a=l.take (aA p l)∧r=l.drop (aA p l):=by
 unfold lf at h
 split at h
 ·cases h
 ·injection h with h;injection h with h1 h2;exact⟨by omega,h1.symm,h2.symm⟩
theorem xl {p:UInt8→Bool}{l a r:LU}(h:lf p l=some (a,r)):r.length<l.length:=by
 obtain⟨h1,_,rfl⟩:=oq h
 have:=fh p l
 rw[List.length_drop];omega
def Ox:Nat→LU
 | 1=>[60,60]
 | 2=>[60,61]
 | 3=>[61]
 | 4=>[62,61]
 | 5=>[62,62]
 | _=>[]
def du.text (t:du):LU:=t.name++(if t.qual.isEmpty then [] else 58::t.qual)++(if t.op=0 then [] else [32,40]++Ox t.op++[32]++t.ver++[41])++(if t.archs.isEmpty then [] else [32,91]++Lib.join t.archs [32]++[93])
def vI (L:List (List du)):LU:=Lib.join (L.map (fun g=>Lib.join (g.map du.text) [32,124,32])) [44,32]
def iU (l:LU):Bool:=!l.isEmpty&&(match gt l with | some L=>decide (vI L=l) | none=>false)
theorem lR (q:UInt8→Bool)(a:UInt8)(r:LU):aA q (a::r)=if q a then aA q r+1 else 0:=by
 cases h:q a with
 | true=>rw[gH h];rfl
 | false=>rw[eP h];rfl
theorem cX (s:BA)(k:Nat)(h:k<s.size):(bl s).drop k=s[k]::(bl s).drop (k+1):=by
 rw[List.drop_eq_getElem_cons (by rw[ag];exact h),gj s k h]
theorem jO (s:BA)(k:Nat)(h:¬ k<s.size):(bl s).drop k=[]:=List.drop_of_length_le (by rw[ag];omega)
theorem vJ {q:UInt8→Bool}(s:BA)(k:Nat)(h:k<s.size)(hq:q s[k]=true):aA q ((bl s).drop k)=aA q ((bl s).drop (k+1))+1:=by
 rw[cX s k h,lR,if_pos hq]
theorem vK {q:UInt8→Bool}(s:BA)(k:Nat)(h:k<s.size)(hq:q s[k]=false):aA q ((bl s).drop k)=0:=by
 rw[cX s k h,eP hq]
theorem zk (q:UInt8→Bool)(s:BA)(k:Nat)(h:¬ k<s.size):aA q ((bl s).drop k)=0:=by rw[jO s k h];rfl
theorem Fw (q:UInt8→Bool)(s:BA)(k:Nat)(h:k≤s.size):k+aA q ((bl s).drop k)≤s.size:=by
 have:=fh q ((bl s).drop k);rw[List.length_drop,ag] at this;omega
theorem DV (s:BA)(k:Nat)(c:UInt8)(h:k<s.size):ay c ((bl s).drop k)=(s[k]==c):=by rw[cX s k h];rfl
theorem IW (s:BA)(k:Nat)(c:UInt8)(h:¬ k<s.size):ay c ((bl s).drop k)=false:=by rw[jO s k h];rfl
theorem bK (s:BA)(k:Nat):aH ((bl s).drop k)=(bl s).drop (k+aA aO ((bl s).drop k)):=by unfold aH;rw[List.drop_drop]
theorem sx (l:LU):decide (0<aA aO l)=ay 32 l:=by
 cases l with
 | nil=>rfl
 | cons a r=>
  rw[lR]
  show _=(a==32)
  have:aO a=(a==32):=rfl
  rw[this]
  cases a==32<;>simp
theorem Fx (l:LU):aA aO (aH l)=0:=by
 unfold aH
 have h1:=fh aO l
 by_cases h:aA aO l<l.length
 ·obtain⟨a,r,hd,ha⟩:=lQ l h
  rw[hd,eP ha]
 ·rw[List.drop_of_length_le (by omega)];rfl
def dK (f:Nat)(acc:List (LU))(l:LU):Option (List (LU)×LU):=(eE f l).map (fun x=>(acc++x.1,x.2))
def fj (f:Nat)(acc:List du)(l:LU):Option (List du×LU):=(dZ f l).map (fun x=>(acc++x.1,x.2))
def di (f:Nat)(acc:List (List du))(l:LU):Option (List (List du)):=(fO f l).map (acc++·)
theorem uM (f:Nat)(l:LU):eE f l=dK f [] l:=by unfold dK;simp
theorem ot {f:Nat}{acc:List (LU)}{l:LU}(h:gY l=none):dK (f+1) acc l=none:=by unfold dK eE;rw[h];rfl
theorem qa {f:Nat}{acc:List (LU)}{l a r:LU}(h:gY l=some (a,r))(h1:ay 93 (aH r)=true):dK (f+1) acc l=some (acc++[a],aH ((aH r).drop 1)):=by
 unfold dK eE;rw[h];simp[h1]
theorem ou {f:Nat}{acc:List (LU)}{l a r:LU}(h:gY l=some (a,r))(h1:ay 93 (aH r)=false)(h2:ay 32 r=true):dK (f+1) acc l=dK f (acc++[a]) (aH r):=by
 unfold dK;conv=>lhs;unfold eE
 rw[h];simp[h1,h2,Function.comp_def]
theorem qb {f:Nat}{acc:List (LU)}{l a r:LU}(h:gY l=some (a,r))(h1:ay 93 (aH r)=false)(h2:ay 32 r=false):dK (f+1) acc l=none:=by
 unfold dK eE;rw[h];simp[h1,h2]
theorem uN (f:Nat)(l:LU):dZ f l=fj f [] l:=by unfold fj;simp
theorem xm {f:Nat}{acc:List du}{l:LU}(h:fN l=none):fj (f+1) acc l=none:=by unfold fj dZ;rw[h];rfl
theorem zm {f:Nat}{acc:List du}{t:du}{l r:LU}(h:fN l=some (t,r))(h1:ay 124 r=false):fj (f+1) acc l=some (acc++[t],r):=by
 unfold fj dZ;rw[h];simp[h1]
theorem xo {f:Nat}{acc:List du}{t:du}{l r:LU}(h:fN l=some (t,r))(h1:ay 124 r=true):fj (f+1) acc l=fj f (acc++[t]) (aH (r.drop 1)):=by
 unfold fj;conv=>lhs;unfold dZ
 rw[h];simp[h1,Function.comp_def]
theorem sy (f:Nat)(l:LU):fO f l=di f [] l:=by unfold di;simp
theorem uO {f:Nat}{acc:List (List du)}{l:LU}(h:dZ (l.length+1) l=none):di (f+1) acc l=none:=by unfold di fO;rw[h];rfl
theorem xp {f:Nat}{acc:List (List du)}{g:List du}{l:LU}(h:dZ (l.length+1) l=some (g,[])):di (f+1) acc l=some (acc++[g]):=by
 unfold di fO;rw[h];simp
theorem uP {f:Nat}{acc:List (List du)}{g:List du}{l r:LU}(h:dZ (l.length+1) l=some (g,r))(h1:ay 44 r=true):di (f+1) acc l=di f (acc++[g]) (aH (r.drop 1)):=by
 have h0:r.isEmpty=false:=by rw[vC h1];rfl
 unfold di;conv=>lhs;unfold fO
 rw[h];simp[h0,h1,Function.comp_def]
theorem xq {f:Nat}{acc:List (List du)}{g:List du}{l r:LU}(h:dZ (l.length+1) l=some (g,r))(h0:r.isEmpty=false)(h1:ay 44 r=false):di (f+1) acc l=none:=by
 unfold di fO;rw[h];simp[h0,h1]
theorem Fy {l x r:LU}(h:lf ik (bU l)=some (x,r)):bU (vH l++x)=x:=by
 unfold vH
 cases hh:ay 33 l with
 | true=>rfl
 | false=>
  have hb:bU l=l:=by unfold bU;rw[hh];rfl
  rw[hb] at h
  obtain⟨h1,h2,h3⟩:=oq h
  cases l with
  | nil=>simp[aA] at h1
  | cons a t=>
   rw[lR] at h1 h2
   cases ha:ik a with
   | false=>rw[ha] at h1;simp at h1
   | true=>
    rw[ha] at h2
    simp only[if_true,List.take_succ_cons] at h2
    subst h2
    simp only[Bool.false_eq_true,if_false,List.nil_append,bU]
    have:ay 33 (a::List.take (aA ik t) t)=false:=hh
    rw[this];rfl
theorem qc {l a r:LU}(h:gY l=some (a,r)):∃ x,lf ik (bU l)=some (x,r)∧a=vH l++x∧bU a=x:=by
 unfold gY at h
 obtain⟨⟨x,y⟩,h1,h2⟩:=Option.map_eq_some_iff.1 h
 injection h2 with h2 h3
 subst h2;subst h3
 exact⟨x,h1,rfl,Fy h1⟩
theorem aN {w:World}{a j:Nat}(v:Value):w.grownBy (w.setCell ⟨a,j,none⟩ v) (some a):=aY (World.grownBy.refl w (some a)) (.inl rfl) _
theorem li {w w' w'':World}{a:Nat}(h:w.grownBy w' (some a))(hb:Below w'.heap.size w' w''):w.grownBy w'' (some a):=cJ h hb
theorem dj {w w':World}(hb:Below w.heap.size w w')(row:Option Nat):w.grownBy w' row:=cJ (World.grownBy.refl w row) hb
theorem ax.grownBy {w w':World}{b:Nat}{row:Option Nat}{vs:LV}(h:ax w b vs)(hg:w.grownBy w' row)(hne:some b≠row):ax w' b vs:=by
 have hk:=hg.block b h.sz hne
 exact⟨Nat.lt_of_lt_of_le h.sz hg.size,fun j u hu=>(World.cell?_of_block (a:=⟨b,j,none⟩) hk).trans (h.cell j u hu),fun j hj=>(World.frozen?_of_block (a:=⟨b,j,none⟩) hk).trans (h.free j hj)⟩
structure DR (w:World) (a:Nat) (s:BA) (p n:Nat) (c:Int):Prop where
 blk:∃ (f:BA) (x:Int),ax w a [.string s,.int .i64 p,.int .i64 n,.string f,.int .i64 x,.int .i64 c]
 le:p≤s.size
 nle:n≤p
theorem DR.below {w w':World}{a:Nat}{s:BA}{p n:Nat}{c:Int}(h:DR w a s p n c)(hb:Below w.heap.size w w'):DR w' a s p n c:=by
 obtain⟨f,x,k⟩:=h.blk;exact⟨⟨f,x,k.below hb⟩,h.le,h.nle⟩
theorem DR.kept {w w':World}{a:Nat}{row:Option Nat}{s:BA}{p n:Nat}{c:Int}(h:DR w a s p n c)(hg:w.grownBy w' row)(hne:some a≠row):DR w' a s p n c:=by
 obtain⟨f,x,k⟩:=h.blk;exact⟨⟨f,x,k.grownBy hg hne⟩,h.le,h.nle⟩
theorem DR.alloc {w:World}{a:Nat}{s:BA}{p n:Nat}{c:Int}(h:DR w a s p n c)(o:Obj):DR (w.alloc o) a s p n c:=h.below (bR.alloc lr o)
theorem DR.drewN {w:World}{a:Nat}{s:BA}{p n:Nat}{c:Int}(h:DR w a s p n c)(k:Nat):DR (w.drewN k) a s p n c:=h.below ⟨rfl,rfl,rfl,lr,fun _ _=>rfl⟩
theorem DR.far {w:World}{a b j:Nat}{s:BA}{p n:Nat}{c:Int}(h:DR w a s p n c)(hne:b≠a)(v:Value):DR (w.setCell ⟨b,j,none⟩ v) a s p n c:=h.kept (aN v) (by simp;omega)
theorem DR.sz {w:World}{a:Nat}{s:BA}{p n:Nat}{c:Int}(h:DR w a s p n c):a<w.heap.size:=by obtain⟨f,x,k⟩:=h.blk;exact k.sz
theorem DR.move {w:World}{a:Nat}{s:BA}{p n q:Nat}{c:Int}(h:DR w a s p n c)(h1:p≤q)(h2:q≤s.size):DR (w.setCell ⟨a,1,none⟩ (.int .i64 q)) a s q n c:=by
 obtain⟨f,x,k⟩:=h.blk;exact⟨⟨f,x,k.set 1 (by simp) _⟩,h2,Nat.le_trans h.nle h1⟩
theorem DR.count {w:World}{a:Nat}{s:BA}{p n:Nat}{c:Int}(h:DR w a s p n c)(h1:n<p):DR (w.setCell ⟨a,2,none⟩ (.int .i64 ((n+1:Nat):Int))) a s p (n+1) c:=by
 obtain⟨f,x,k⟩:=h.blk;exact⟨⟨f,x,k.set 2 (by simp) _⟩,h.le,h1⟩
structure Po (w:World) (a:Nat) (s:BA) (p n:Nat) (f:BA) (x c:Int):Prop where
 c0:w.cell? ⟨a,0,none⟩=some (.string s)
 c1:w.cell? ⟨a,1,none⟩=some (.int .i64 p)
 c2:w.cell? ⟨a,2,none⟩=some (.int .i64 n)
 c3:w.cell? ⟨a,3,none⟩=some (.string f)
 c4:w.cell? ⟨a,4,none⟩=some (.int .i64 x)
 c5:w.cell? ⟨a,5,none⟩=some (.int .i64 c)
 f0:w.frozen? ⟨a,0,none⟩=false
 f1:w.frozen? ⟨a,1,none⟩=false
 f2:w.frozen? ⟨a,2,none⟩=false
 f3:w.frozen? ⟨a,3,none⟩=false
 f4:w.frozen? ⟨a,4,none⟩=false
 f5:w.frozen? ⟨a,5,none⟩=false
theorem DR.cells {w:World}{a:Nat}{s:BA}{p n:Nat}{c:Int}(h:DR w a s p n c):∃ f x,Po w a s p n f x c:=by
 obtain⟨f,x,k⟩:=h.blk
 exact⟨f,x,k.cell 0 _ rfl,k.cell 1 _ rfl,k.cell 2 _ rfl,k.cell 3 _ rfl,k.cell 4 _ rfl,k.cell 5 _ rfl,k.free 0 (by simp),k.free 1 (by simp),k.free 2 (by simp),k.free 3 (by simp),k.free 4 (by simp),k.free 5 (by simp)⟩
def xt (a:Nat)(w:World):Nat:=match w.cell? ⟨a,1,none⟩ with | some (.int _ k)=>k.toNat | _=>0
theorem DR.at_ {w:World}{a:Nat}{s:BA}{p n:Nat}{c:Int}(h:DR w a s p n c):xt a w=p:=by
 obtain⟨f,x,k⟩:=h.cells;unfold xt;rw[k.c1];simp
theorem DR.dec {w w':World}{a:Nat}{s:BA}{k k' n n':Nat}{c c':Int}(h':DR w' a s k' n' c')(h:DR w a s k n c)(hk:k<k'):s.size-xt a w'<s.size-xt a w:=by
 rw[h'.at_,h.at_];have:=h'.le;omega
def jo (c e:Int):Int:=if c=0 then e else c
theorem eF (c e:Int):jo c e=0↔c=0∧e=0:=by unfold jo;split<;>rename_i h<;>simp[h]
theorem DR.noted {w:World}{a:Nat}{s:BA}{p n:Nat}{c:Int}(h:DR w a s p n c)(f:BA)(x e:Int):DR (((w.setCell ⟨a,3,none⟩ (.string f)).setCell ⟨a,4,none⟩ (.int .i64 x)).setCell ⟨a,5,none⟩ (.int .i64 e)) a s p n e:=by
 obtain⟨f',x',k⟩:=h.blk;exact⟨⟨f,x,((k.set 3 (by simp) _).set 4 (by simp) _).set 5 (by simp) _⟩,h.le,h.nle⟩
structure cA where
 nm:BA
 op:Nat
 ver:BA
 qual:BA
 aa:OA
 ac:Nat
 archs:List BA
def cA.cells (t:cA):LV:=[.string t.nm,.int .i64 t.op,.string t.ver,.string t.qual,.slice t.aa t.archs.length t.ac]
def cA.val (t:cA):Value:=.agg #[.string t.nm,.int .i64 t.op,.string t.ver,.string t.qual,.slice t.aa t.archs.length t.ac]
def cA.pl (t:cA):du:=⟨bl t.nm,bl t.qual,t.op,bl t.ver,t.archs.map bl⟩
theorem DW (t:cA):t.cells.length=5:=rfl
def cA.own (t:cA)(w:World)(lo:Nat):Prop:=w.ownsRow lo 9 1 (.slice t.aa t.archs.length t.ac) t.archs.length (az t.archs)
structure bj where
 ga:OA
 gc:Nat
 ts:List cA
def bj.sl (g:bj):Value:=.slice g.ga g.ts.length g.gc
def bj.pl (g:bj):List du:=g.ts.map cA.pl
structure bj.own (g:bj) (w:World) (lo:Nat):Prop where
 row:w.ownsRow lo 220 5 g.sl g.ts.length (g.ts.flatMap cA.cells)
 archs:∀ t∈g.ts,t.own w lo
theorem cA.own.kept {t:cA}{w w':World}{lo g:Nat}(h:t.own w lo)(hlo:g<lo)(hg:w.grownBy w' (some g)):t.own w' lo:=bN h hlo hg
theorem cA.own.below {t:cA}{w w':World}{lo:Nat}(h:t.own w lo)(hb:Below w.heap.size w w'):t.own w' lo:=cR h hb
theorem cA.own.base {t:cA}{w:World}{lo lo':Nat}(h:t.own w lo)(hl:lo'≤lo):t.own w lo':=dV h hl
theorem bj.own.kept {t:bj}{w w':World}{lo g:Nat}(h:t.own w lo)(hlo:g<lo)(hg:w.grownBy w' (some g)):t.own w' lo:=⟨bN h.row hlo hg,fun x hx=>(h.archs x hx).kept hlo hg⟩
theorem bj.own.below {t:bj}{w w':World}{lo:Nat}(h:t.own w lo)(hb:Below w.heap.size w w'):t.own w' lo:=⟨cR h.row hb,fun x hx=>(h.archs x hx).below hb⟩
theorem bj.own.base {t:bj}{w:World}{lo lo':Nat}(h:t.own w lo)(hl:lo'≤lo):t.own w lo':=⟨dV h.row hl,fun x hx=>(h.archs x hx).base hl⟩
structure ov (w:World) (A:OA) (l:List bj):Prop where
 row:Rd w 1 A l.length (l.map bj.sl)
 grp:∀ g∈l,Rd w 5 g.ga g.ts.length (g.ts.flatMap cA.cells)
 archs:∀ g∈l,∀ t∈g.ts,Rd w 1 t.aa t.archs.length (az t.archs)
theorem ov.below {w w':World}{A:OA}{l:List bj}(h:ov w A l)(hb:Below w.heap.size w w'):ov w' A l:=
 ⟨h.1.below hb,fun g hg=>(h.2 g hg).below hb,fun g hg t ht=>(h.3 g hg t ht).below hb⟩
end
end Go.Proofs.YtaohgmcbpafdeaaGreatDoor
