/- A part of the proof of a law on dependencies in three formats. No condition. -/
import Derived.Test.YtkjdbpjglobbjaaGreatDoorE12
set_option maxRecDepth 100000
set_option maxHeartbeats 20000000
set_option linter.unusedVariables false
set_option linter.unusedSimpArgs false
namespace Go.Proofs.YtkjdbpjglobbjaaGreatDoor
def zt:LU→Bool
 | []=>true
 | [b]=>be b
 | _=>false
def fV (c:aT):Bool:=!c.nums.isEmpty&&(c.nums.all (fun n=>decide (n≤999999999))&&(decide (c.ep≤999999999)&&(decide (c.pnum≤999999999)&&(decide (c.rev≤999999999)&&(zt c.lt&&(((c.pre.isEmpty&&decide (c.pnum=0))||bu.contains c.pre)&&decide ((aN 1 c).length≤64)))))))
theorem Rj (l:LU):zt l=true↔l=[]∨∃ b,l=[b]∧be b=true:=by
 match l with
 | []=>simp[zt]
 | [b]=>simp[zt]
 | a::b::r=>simp[zt]
theorem lP (c:aT):fV c=true↔c.ok:=by
 unfold fV
 simp only[Bool.and_eq_true,Bool.or_eq_true,decide_eq_true_eq,Bool.not_eq_true',List.isEmpty_eq_false_iff,List.isEmpty_iff,List.all_eq_true,Rj,List.contains_iff_mem]
 constructor
 ·rintro⟨h1,h2,h3,h4,h5,h6,h7,h8⟩;exact⟨h1,h2,h3,h4,h5,h6,h7,h8⟩
 ·rintro⟨h1,h2,h3,h4,h5,h6,h7,h8⟩;exact⟨h1,h2,h3,h4,h5,h6,h7,h8⟩
def ct (fmt:Int)(c:aT):Bool:=fV c&&(!decide (fmt=3∧c.ep≠0)&&decide ((aN fmt c).length≤64))
def qi (fmt:Int)(c:aT):LU×Int:=if ct fmt c=true then (aN fmt c,0) else ([],11)
theorem km {fmt:Int}{c:aT}(h:ct fmt c=true):c.ok∧(fmt=3→c.ep=0):=by
 unfold ct at h
 simp only[Bool.and_eq_true,Bool.not_eq_true',decide_eq_false_iff_not] at h
 refine⟨(lP c).1 h.1,fun e=>?_⟩
 have:=h.2.1
 by_cases e2:c.ep=0
 ·exact e2
 ·exact absurd ⟨e,e2⟩ this
def fits (fmt:Int)(l:LU)(c:aT):Bool:=ct fmt c&&decide (aN fmt c=l)
def lF (fmt:Int)(l:LU):Option aT:=match bC fmt l with
 | none=>none
 | some x=>if fits fmt l (nx fmt x)=true then some (nx fmt x) else none
theorem rq {fmt:Int}{l:LU}{c:aT}:fits fmt l c=true↔ct fmt c=true∧aN fmt c=l:=by
 unfold fits;rw[Bool.and_eq_true,decide_eq_true_eq]
theorem ov {fmt:Int}{l:LU}{c:aT}(h:lF fmt l=some c):ct fmt c=true∧aN fmt c=l:=by
 unfold lF at h
 split at h
 ·cases h
 ·split at h
  ·rename_i hf;injection h with h;subst h;exact rq.1 hf
  ·cases h
theorem CT {fmt:Int}(hf:fmt=1∨fmt=2∨fmt=3){l:LU}(hs:bC fmt l≠none){c:aT}(h:ct fmt c=true)(he:aN fmt c=l):lF fmt l=some c:=by
 obtain⟨ok,h3⟩:=km h
 cases e:bC fmt l with
 | none=>exact absurd e hs
 | some x=>
  have hx:x=(vp fmt c,bi fmt c,aC c.rev):=uc hf ok (by rw[he];exact e)
  have hc:nx fmt x=c:=by rw[hx];exact H8 ok h3
  unfold lF
  rw[e]
  simp only
  rw[hc,if_pos (rq.2 ⟨h,he⟩)]
def dN (fmt:Int)(s:BA):Int:=if aV fmt s≠0 then aV fmt s else if lF fmt (bl s)=none then 11 else 0
def trans (a b:Int)(s:BA):LU×Int:=
 if ¬ (a=1∨a=2∨a=3)∨¬ (b=1∨b=2∨b=3) then ([],9) else if aV a s≠0 then ([],aV a s) else match lF a (bl s) with
  | none=>([],11)
  | some c=>qi b c
theorem cZ {fmt:Int}(hf:fmt=1∨fmt=2∨fmt=3){s:BA}(h:aV fmt s=0):bC fmt (bl s)≠none∧s.size≤64:=by
 unfold aV at h
 rw[if_neg (fun hn=>hn hf)] at h
 split at h
 ·simp at h
 ·rename_i h64
  refine⟨fun e=>?_,by omega⟩
  rw[e] at h;simp[rg] at h
theorem Rk (c:aT):aN 2 c=aN 1 c:=by
 unfold aN iE bi bM bK jj;simp
section
open Go.RowKit
structure aB where
 nm:BA
 ver:BA
 ga:Option Addr
 gc:Nat
 gives:List aA
def aB.cells (x:aB):List Value:=[.string x.nm,.string x.ver,.slice x.ga x.gives.length x.gc]
def aB.val (x:aB):Value:=.agg #[.string x.nm,.string x.ver,.slice x.ga x.gives.length x.gc]
theorem lQ (x:aB):x.cells.length=3:=rfl
abbrev dk (a:Int):Prop:=a=1∨a=2∨a=3
theorem wh (c:UInt8)(w:World):
  Calls Tryz.prog 74 #[.int .u8 c.toNat] w fun e w'=>e=.returned (.bool (be c))∧w=w':=by
 go_enter Tryz.func74,Tryz.ntmps74
 go_wp2
 all_goals (go_ret;refine⟨am ?_,rfl⟩;rw[bI];simp[be];omega)
def mV (n:Int):Bool:=!decide (dk n)
theorem sR (n:Int)(w:World):
  Calls Tryz.prog 47 #[.int .i64 n] w fun e w'=>e=.returned (.bool (mV n))∧w=w':=by
 go_enter Tryz.func47,Tryz.ntmps47
 go_wp2
 all_goals (go_ret;refine⟨am ?_,rfl⟩;rw[bI];simp[mV,dk];omega)
def fa (fmt:Int):BA:=⟨#[jj fmt]⟩
def gZ (fmt:Int):BA:=⟨(bK fmt).toArray⟩
theorem wj (fmt:Int)(w:World):
  Calls Tryz.prog 71 #[.int .i64 fmt] w fun e w'=>e=.returned (.tuple #[.string (fa fmt),.string (gZ fmt)])∧w=w':=by
 by_cases h:fmt=3
 ·subst h
  go_enter Tryz.func71,Tryz.ntmps71
  go_wp2
  go_ret2
  exact⟨rfl,rfl⟩
 ·have q:(fmt==3)=false:=by simpa using h
  have E:Hid (fa fmt=⟨#[126]⟩∧gZ fmt=⟨#[45]⟩):=by
   show _∧_;unfold fa gZ jj bK;rw[if_neg h,if_neg h];exact⟨rfl,rfl⟩
  go_enter Tryz.func71,Tryz.ntmps71
  go_wp2
  go_ret2
  exact⟨by rw[E.out.1,E.out.2];rfl,rfl⟩
theorem wk (n:Nat):Lib.decDigits n=aC n:=by
 induction n using Nat.strongRecOn with
 | ind n ih=>
  by_cases h:n<10
  ·rw[cK h,Lib.decDigits,dif_pos h]
  ·rw[gX h,Lib.decDigits,dif_neg h,ih (n / 10) (by omega)]
def gO (n:Nat):BA:=⟨(aC n).toArray⟩
theorem ii (n:Nat):bl (gO n)=aC n:=gI _
theorem lR:∀ (k n:Nat),n<10 ^ (k+1)→(aC n).length≤k+1
 | 0,n,h=>by rw[cK (by simpa using h)];simp
 | k+1,n,h=>by
  by_cases h2:n<10
  ·rw[cK h2];simp
  ·rw[gX h2,List.length_append,List.length_singleton]
   have:=lR k (n / 10) (by rw[Nat.div_lt_iff_lt_mul (by omega)];rw[Nat.pow_succ] at h;exact h)
   omega
theorem jC {n:Nat}(h:n≤4611686018427387903):(gO n).size≤19:=by
 have:=lR 18 n (by omega)
 have h2:=af (gO n)
 rw[ii] at h2;omega
theorem bN {w:World}{a j:Nat}(v:Value):w.grownBy (w.setCell ⟨a,j,none⟩ v) (some a):=aU (World.grownBy.refl w (some a)) (.inl rfl) _
theorem nC {w w' w'':World}{a:Nat}(h:w.grownBy w' (some a))(hb:Below w'.heap.size w' w''):w.grownBy w'' (some a):=ip h hb
theorem eK {w w':World}(hb:Below w.heap.size w w')(row:Option Nat):w.grownBy w' row:=ip (World.grownBy.refl w row) hb
theorem aF.grownBy {w w':World}{b:Nat}{row:Option Nat}{vs:List Value}(h:aF w b vs)(hg:w.grownBy w' row)(hne:some b≠row):aF w' b vs:=by
 have hk:=hg.block b h.sz hne
 exact⟨Nat.lt_of_lt_of_le h.sz hg.size,fun j u hu=>(World.cell?_of_block (a:=⟨b,j,none⟩) hk).trans (h.cell j u hu),fun j hj=>(World.frozen?_of_block (a:=⟨b,j,none⟩) hk).trans (h.free j hj)⟩
structure DR (w:World) (a:Nat) (s:BA) (p n:Nat) (c:Int):Prop where
 blk:∃ (f:BA) (x:Int),aF w a [.string s,.int .i64 p,.int .i64 n,.string f,.int .i64 x,.int .i64 c]
 le:p≤s.size
 nle:n≤p
theorem DR.below {w w':World}{a:Nat}{s:BA}{p n:Nat}{c:Int}(h:DR w a s p n c)(hb:Below w.heap.size w w'):DR w' a s p n c:=by
 obtain⟨f,x,k⟩:=h.blk;exact⟨⟨f,x,k.below hb⟩,h.le,h.nle⟩
theorem DR.kept {w w':World}{a:Nat}{row:Option Nat}{s:BA}{p n:Nat}{c:Int}(h:DR w a s p n c)(hg:w.grownBy w' row)(hne:some a≠row):DR w' a s p n c:=by
 obtain⟨f,x,k⟩:=h.blk;exact⟨⟨f,x,k.grownBy hg hne⟩,h.le,h.nle⟩
theorem DR.alloc {w:World}{a:Nat}{s:BA}{p n:Nat}{c:Int}(h:DR w a s p n c)(o:Obj):DR (w.alloc o) a s p n c:=h.below (bR.alloc lr o)
theorem DR.drewN {w:World}{a:Nat}{s:BA}{p n:Nat}{c:Int}(h:DR w a s p n c)(k:Nat):DR (w.drewN k) a s p n c:=h.below ⟨rfl,rfl,rfl,lr,fun _ _=>rfl⟩
theorem DR.far {w:World}{a b j:Nat}{s:BA}{p n:Nat}{c:Int}(h:DR w a s p n c)(hne:b≠a)(v:Value):DR (w.setCell ⟨b,j,none⟩ v) a s p n c:=h.kept (bN v) (by simp;omega)
theorem DR.sz {w:World}{a:Nat}{s:BA}{p n:Nat}{c:Int}(h:DR w a s p n c):a<w.heap.size:=by obtain⟨f,x,k⟩:=h.blk;exact k.sz
theorem DR.move {w:World}{a:Nat}{s:BA}{p n q:Nat}{c:Int}(h:DR w a s p n c)(h1:p≤q)(h2:q≤s.size):DR (w.setCell ⟨a,1,none⟩ (.int .i64 q)) a s q n c:=by
 obtain⟨f,x,k⟩:=h.blk;exact⟨⟨f,x,k.set 1 (by simp) _⟩,h2,Nat.le_trans h.nle h1⟩
theorem DR.count {w:World}{a:Nat}{s:BA}{p n:Nat}{c:Int}(h:DR w a s p n c)(h1:n<p):DR (w.setCell ⟨a,2,none⟩ (.int .i64 ((n+1:Nat):Int))) a s p (n+1) c:=by
 obtain⟨f,x,k⟩:=h.blk;exact⟨⟨f,x,k.set 2 (by simp) _⟩,h.le,h1⟩
structure UW (w:World) (a:Nat) (s:BA) (p n:Nat) (f:BA) (x c:Int):Prop where
 c0:w.cell? ⟨a,0,none⟩=some (.string s)
 c1:w.cell? ⟨a,1,none⟩=some (.int .i64 p)
 c2:w.cell? ⟨a,2,none⟩=some (.int .i64 n)
 c3:w.cell? ⟨a,3,none⟩=some (.string f)
 c4:w.cell? ⟨a,4,none⟩=some (.int .i64 x)
 c5:w.cell? ⟨a,5,none⟩=some (.int .i64 c)
 f0:w.frozen? ⟨a,0,none⟩=false
 f1:w.frozen? ⟨a,1,none⟩=false
 f2:w.frozen? ⟨a,2,none⟩=false
 f3:w.frozen? ⟨a,3,none⟩=false
 f4:w.frozen? ⟨a,4,none⟩=false
 f5:w.frozen? ⟨a,5,none⟩=false
theorem DR.cells {w:World}{a:Nat}{s:BA}{p n:Nat}{c:Int}(h:DR w a s p n c):∃ f x,UW w a s p n f x c:=by
 obtain⟨f,x,k⟩:=h.blk
 exact⟨f,x,k.cell 0 _ rfl,k.cell 1 _ rfl,k.cell 2 _ rfl,k.cell 3 _ rfl,k.cell 4 _ rfl,k.cell 5 _ rfl,k.free 0 (by simp),k.free 1 (by simp),k.free 2 (by simp),k.free 3 (by simp),k.free 4 (by simp),k.free 5 (by simp)⟩
def C9 (a:Nat)(w:World):Nat:=match w.cell? ⟨a,1,none⟩ with | some (.int _ k)=>k.toNat | _=>0
theorem DR.at_ {w:World}{a:Nat}{s:BA}{p n:Nat}{c:Int}(h:DR w a s p n c):C9 a w=p:=by
 obtain⟨f,x,k⟩:=h.cells;unfold C9;rw[k.c1];simp
theorem DR.dec {w w':World}{a:Nat}{s:BA}{k k' n n':Nat}{c c':Int}(h':DR w' a s k' n' c')(h:DR w a s k n c)(hk:k<k'):s.size-C9 a w'<s.size-C9 a w:=by
 rw[h'.at_,h.at_];have:=h'.le;omega
def lj (c e:Int):Int:=if c=0 then e else c
theorem gj (c e:Int):lj c e=0↔c=0∧e=0:=by unfold lj;split<;>rename_i h<;>simp[h]
theorem DR.noted {w:World}{a:Nat}{s:BA}{p n:Nat}{c:Int}(h:DR w a s p n c)(f:BA)(x e:Int):DR (((w.setCell ⟨a,3,none⟩ (.string f)).setCell ⟨a,4,none⟩ (.int .i64 x)).setCell ⟨a,5,none⟩ (.int .i64 e)) a s p n e:=by
 obtain⟨f',x',k⟩:=h.blk;exact⟨⟨f,x,((k.set 3 (by simp) _).set 4 (by simp) _).set 5 (by simp) _⟩,h.le,h.nle⟩
structure cA where
 nm:BA
 op:Nat
 ver:BA
 qual:BA
 aa:Option Addr
 ac:Nat
 archs:List BA
def cA.cells (t:cA):List Value:=[.string t.nm,.int .i64 t.op,.string t.ver,.string t.qual,.slice t.aa t.archs.length t.ac]
def cA.val (t:cA):Value:=.agg #[.string t.nm,.int .i64 t.op,.string t.ver,.string t.qual,.slice t.aa t.archs.length t.ac]
def cA.pl (t:cA):cL:=⟨bl t.nm,bl t.qual,t.op,bl t.ver,t.archs.map bl⟩
theorem vu (t:cA):t.cells.length=5:=rfl
def cA.own (t:cA)(w:World)(lo:Nat):Prop:=w.ownsRow lo 9 1 (.slice t.aa t.archs.length t.ac) t.archs.length (strCells t.archs)
structure aW where
 ga:Option Addr
 gc:Nat
 ts:List cA
def aW.sl (g:aW):Value:=.slice g.ga g.ts.length g.gc
def aW.pl (g:aW):List cL:=g.ts.map cA.pl
structure aW.own (g:aW) (w:World) (lo:Nat):Prop where
 row:w.ownsRow lo 81 5 g.sl g.ts.length (g.ts.flatMap cA.cells)
 archs:∀ t∈g.ts,t.own w lo
theorem cA.own.kept {t:cA}{w w':World}{lo g:Nat}(h:t.own w lo)(hlo:g<lo)(hg:w.grownBy w' (some g)):t.own w' lo:=dh h hlo hg
theorem cA.own.below {t:cA}{w w':World}{lo:Nat}(h:t.own w lo)(hb:Below w.heap.size w w'):t.own w' lo:=aR h hb
theorem cA.own.base {t:cA}{w:World}{lo lo':Nat}(h:t.own w lo)(hl:lo'≤lo):t.own w lo':=cN h hl
theorem aW.own.kept {t:aW}{w w':World}{lo g:Nat}(h:t.own w lo)(hlo:g<lo)(hg:w.grownBy w' (some g)):t.own w' lo:=⟨dh h.row hlo hg,fun x hx=>(h.archs x hx).kept hlo hg⟩
theorem aW.own.below {t:aW}{w w':World}{lo:Nat}(h:t.own w lo)(hb:Below w.heap.size w w'):t.own w' lo:=⟨aR h.row hb,fun x hx=>(h.archs x hx).below hb⟩
theorem aW.own.base {t:aW}{w:World}{lo lo':Nat}(h:t.own w lo)(hl:lo'≤lo):t.own w lo':=⟨cN h.row hl,fun x hx=>(h.archs x hx).base hl⟩
structure py (w:World) (A:Option Addr) (l:List aW):Prop where
 row:Rd w 1 A l.length (l.map aW.sl)
 grp:∀ g∈l,Rd w 5 g.ga g.ts.length (g.ts.flatMap cA.cells)
 archs:∀ g∈l,∀ t∈g.ts,Rd w 1 t.aa t.archs.length (strCells t.archs)
theorem py.below {w w':World}{A:Option Addr}{l:List aW}(h:py w A l)(hb:Below w.heap.size w w'):py w' A l:=
 ⟨h.1.below hb,fun g hg=>(h.2 g hg).below hb,fun g hg t ht=>(h.3 g hg t ht).below hb⟩
end
section
open Go.RowKit Go.Deep
structure qq (w wr:World) (xs:List BA) (A:Option Addr) (n c:Nat):Prop where
 len:xs.length=n
 row:wr.ownsRow w.heap.size 9 1 (.slice A n c) n (strCells xs)
 bel:Below w.heap.size w wr
theorem qq.below {w wr w':World}{xs:List BA}{A:Option Addr}{n c:Nat}(h:qq w wr xs A n c)(hb:Below wr.heap.size wr w'):qq w w' xs A n c:=
 ⟨h.len,aR h.row hb,ah h.bel hb⟩
theorem qq.nil (w:World):qq w w [] none 0 0:=⟨rfl,World.ownsRow_nil _ _ _ _,bR⟩
theorem qq.grow {w wr w2:World}{xs:List BA}{A A1:Option Addr}{n c c1:Nat}{o:Obj}{x:BA}(h:qq w wr xs A n c)
  (hr:w2.ownsRow w.heap.size 9 1 (.slice A1 (n+1) c1) (n+1) (strCells xs++[.string x]))
  (hg:(wr.alloc o).grownBy w2 (Value.slice A n c).ownBlock):qq w w2 (xs++[x]) A1 (n+1) c1:=by
 refine⟨by simp[h.len],by rw[show strCells (xs++[x])=strCells xs++[.string x] by simp[strCells]];exact hr,?_⟩
 exact(h.bel.alloc h.bel.size o).grown hg (by have:=h.bel.size;simp;omega) (fun j hj=>by have:=(h.row.lt j hj).1;omega)
theorem fQ (w:World)(t:TypeId)(a:Value):jQ (w.alloc (.cells #[a] t)) (w.heap.size+1) 1 (some ⟨w.heap.size,0,none⟩) 1 [a]:=by
 refine⟨rfl,fun _=>⟨_,rfl,by simp,fun j u hu=>?_⟩⟩
 match j,hu with
 | 0,hu=>simp at hu;subst hu;simp[Addr.add]
 | j+1,hu=>simp at hu
theorem nE {w:World}{base:Nat}{e:TypeId}{size n c:Nat}{A:Option Addr}{xs:List Value}(h:w.ownsRow base e size (.slice A n c) n xs):n≤c:=by
 rcases h.2 with⟨h0,h1⟩ | ⟨g,cap,cur,hv,_,_,h2,_⟩
 ·omega
 ·injection hv with _ _ h3;omega
theorem ke (sep:LU)(b:Nat):∀ (l:List (LU)),(∀ x∈l,x.length≤b)→(Lib.join l sep).length≤l.length*(b+sep.length)
 | [],_=>by simp[Lib.join,List.intercalate]
 | [a],h=>by have:=h a (by simp);simp[Lib.join,List.intercalate];omega
 | a::c::r,h=>by
  have h1:=h a (by simp)
  have ih:=ke sep b (c::r) (fun x hx=>h x (by simp at hx ⊢;exact .inr hx))
  have e:Lib.join (a::c::r) sep=a++sep++Lib.join (c::r) sep:=by simp[Lib.join,List.intercalate,List.intersperse]
  rw[e,List.length_append,List.length_append,List.length_cons,Nat.succ_mul]
  omega
theorem dR.text_eq (x:dR)(hx:x.right):bl (if x.no then (⟨#[33]⟩:BA)++(bz x.name++qT x.op++bz x.ver) else bz x.name++qT x.op++bz x.ver)=x.text:=by
 have h7:x.op<7:=by have:=hx.2.1;omega
 unfold dR.text
 cases x.no with
 | true=>simp[bg,cH,wI x.op h7];rfl
 | false=>simp[bg,cH,wI x.op h7]
theorem De (k:Nat):(iH k).length≤2:=by unfold iH;split<;>simp
theorem dR.text_len (x:dR)(hx:x.right):x.text.length≤131:=by
 obtain⟨z1,z2⟩:=hx.sizes
 have:=De x.op
 unfold dR.text;cases x.no<;>simp<;>omega
theorem IC (A:Option Addr)(c:Nat)(L:List dR)(hL:∀ x∈L,x.right)(h64:L.length≤64)(w:World)(hG:Gl w)(hr:Rd w 4 A L.length (L.flatMap dR.cells)):
  Calls Tryz.prog 41 #[.slice A L.length c] w fun e w'=>e=.returned (.tuple #[.string (bz (fz L)),.int .i64 0])∧Below w.heap.size w w':=by
 obtain⟨i0,hi0,hz0,hz1,hz2⟩:=info_parts qV
 have HG:=ae hG;have HR:=ae hr;have HL:=ae hL
 clear hG hr hL
 go_enter Tryz.func41,Tryz.ntmps41
 go_wp2_with fail
 refine(IA A c L HL.out h64 w HG.out HR.out).mono ?_;rintro e w0 ⟨rfl,hb0⟩
 have HB0:=ae hb0;clear hb0
 go_wp2_with fail
 go_loopw [5,16] (fun l i wr=>∃ (k:Nat) (xs:List BA) (B:Option Addr) (cc:Nat),k≤L.length∧l=.slice B k cc∧i=.int .i64 k∧Hid (qq w0 wr xs B k cc)∧Hid (xs.map bl=(L.take k).map dR.text)) (fun _ i _=>L.length-(intOf i).toNat)
 case atStart=>exact⟨0,[],none,0,z0,rfl,rfl,qq.nil w0,rfl⟩
 case round=>
  obtain⟨k,xs,B,cc,hk,rfl,rfl,HS,HT⟩:=hrel
  by_cases hlt:k<L.length
  ·obtain⟨x,hx⟩:∃ x,L[k]?=some x:=⟨_,gG hlt⟩
   obtain⟨b,off,hA,he⟩:=(HR.out.below (ah HB0.out HS.out.bel)).elem vq k x hx
   have e0:=he 0 _ rfl
   have e1:=he 1 _ rfl
   have e2:=he 2 _ rfl
   have e3:=he 3 _ rfl
   simp only[Nat.add_zero] at e0
   have hix:=fun W=>aH (T:=71) (E:=86) (sz:=4) (c:=c) Tryz.underlying71 rfl Tryz.sizeOf86 hA hlt W
   have HX:=ae (HL.out x (gM hx))
   have h7:x.op<7:=by have:=HX.out.2.1;omega
   have TK:Hid ((L.take (k+1)).map dR.text=(L.take k).map dR.text++[x.text]):=by
    show _=_;obtain⟨hk',hf'⟩:=gS hx;rw[tS hk',hf'];simp
   clear hx he hA
   have K0:Hid (aF (wr.alloc (.cells #[.bool x.no,.string (bz x.name),.int .i64 x.op,.string (bz x.ver)] 86)) wr.heap.size x.cells):=aF.new wr x.cells _
   have hsg:=(HG.out.below (ah (ah HB0.out HS.out.bel) (bR.alloc lr (.cells #[.bool x.no,.string (bz x.name),.int .i64 x.op,.string (bz x.ver)] 86)))).asg x.op h7
   have S0:=ae (HS.out.below (bR.alloc lr (.cells #[.bool x.no,.string (bz x.name),.int .i64 x.op,.string (bz x.ver)] 86)))
   have s1:(bz x.name).size≤64:=by rw[bQ];exact HX.out.sizes.1
   have s2:(bz x.ver).size≤64:=by rw[bQ];exact HX.out.sizes.2
   have s3:(qT x.op).size≤2:=by rw[←af,wI x.op h7];exact De _
   go_upto_region 8 with(fail)
   go_cut [8] (fun v wx=>v=.string (bz x.name++qT x.op++bz x.ver)∧Hid (qq w0 wx xs B k cc)∧Hid (aF wx wr.heap.size x.cells))
   case first=>
    go_quiet (fail)
    go_wp2_with fail
    go_meet
    exact⟨rfl,S0.out.below ⟨rfl,rfl,rfl,lr,fun _ _=>rfl⟩,K0.out.drewN _⟩
   case rest=>
   obtain⟨rfl,S1,K1⟩:=hcut
   clear e0 e1 e2 e3 hix hsg S0 K0
   have c0:=K1.out.cell 0 _ rfl
   have TX:=ae (x.text_eq HX.out)
   have hYz:(bz x.name++qT x.op++bz x.ver).size≤130:=by
    have h1:=HX.out.sizes;have h2:=De x.op
    rw[←af,bg,bg,cH,cH,wI x.op h7];simp;omega
   generalize bz x.name++qT x.op++bz x.ver=Y at *
   cases hno:x.no with
   | false=>
    rw[hno] at c0 TX
    have HTX:Hid (bl Y=x.text):=TX.out
    clear TX hno
    go_wp2_with (at_builtin;refine ak _ rfl _ _ _ rfl w0.heap.size 9 i0 _ 1 16 Tryz.underlying25 hi0 hz0 hz1 hz2 rfl (by omega) (.slice B k cc) k _ rfl (S1.out.row.alloc _) (wc.heap.size+1) (some ⟨wc.heap.size,0,none⟩) 1 1 [.string Y] rfl (fQ wc _ _) (by simp[Value.oneCell']) (by simp only[maxLen];omega) (by omega) (by simp;have:=S1.out.bel.size;omega) ?_;intro v1 w1 o1 g1 a1)
    obtain⟨A1,c1,rfl⟩:=aG o1
    have R1:=ae (S1.out.grow (x:=Y) o1 g1)
    clear o1 g1 a1
    go_wp2_with fail
    go_roundw
    case rel=>exact⟨k+1,xs++[Y],A1,c1,by omega,rfl,by go_num,R1,by show _=_;rw[TK.out,List.map_append,HT.out];simp[HTX.out]⟩
    case measure=>simp[intOf];omega
   | true=>
    rw[hno] at c0 TX
    have HTX:Hid (bl ((⟨#[33]⟩:BA)++Y)=x.text):=TX.out
    clear TX hno
    go_wp2_with (at_builtin;refine ak _ rfl _ _ _ rfl w0.heap.size 9 i0 _ 1 16 Tryz.underlying25 hi0 hz0 hz1 hz2 rfl (by omega) (.slice B k cc) k _ rfl (S1.out.row.alloc _) (wc.heap.size+1) (some ⟨wc.heap.size,0,none⟩) 1 1 [.string (⟨#[33]⟩++Y)] rfl (fQ wc _ _) (by simp[Value.oneCell']) (by simp only[maxLen];omega) (by omega) (by simp;have:=S1.out.bel.size;omega) ?_;intro v1 w1 o1 g1 a1)
    obtain⟨A1,c1,rfl⟩:=aG o1
    have R1:=ae (S1.out.grow (x:=⟨#[33]⟩++Y) o1 g1)
    clear o1 g1 a1
    go_wp2_with fail
    go_roundw
    case rel=>exact⟨k+1,xs++[⟨#[33]⟩++Y],A1,c1,by omega,rfl,by go_num,R1,by show _=_;rw[TK.out,List.map_append,HT.out];simp[HTX.out]⟩
    case measure=>simp[intOf];omega
  ·have hkL:k=L.length:=by omega
   have EX:Hid (xs.map bl=L.map dR.text):=by show _=_;rw[HT.out,hkL,List.take_length]
   have hln:=HS.out.len
   have hcap:=nE HS.out.row
   have JL:Hid ((Lib.join (xs.map bl) (bl ⟨#[32]⟩)).length≤140737488355328):=by
    have h1:=ke (bl ⟨#[32]⟩) 131 (xs.map bl) (fun y hy=>by rw[EX.out] at hy;obtain⟨z,hz,rfl⟩:=List.mem_map.1 hy;exact z.text_len (HL.out z hz))
    have h2:(bl ⟨#[32]⟩:LU).length=1:=rfl
    rw[h2,List.length_map,hln] at h1
    show _≤_;omega
   have HJ:=ae (fun (_:Unit)=>rE B cc xs ⟨#[32]⟩ wr (by rw[hln];exact bA HS.out.row) (by omega) (by omega) JL.out)
   rw[hln] at HJ
   clear hcap JL hln hkL
   go_wp2_with fail
   refine(HJ.out ()).mono ?_;rintro e w2 ⟨rfl,hb2⟩
   have ET:Hid (bz (Lib.join (xs.map bl) (bl ⟨#[32]⟩))=bz (fz L)):=by show _=_;rw[EX.out];rfl
   have B2:Hid (Below w.heap.size w w2):=ah (ah HB0.out HS.out.bel) hb2
   clear hb2
   go_wp2_with fail
   go_ret2
   exact⟨by rw[←ET.out];rfl,B2.out⟩
end
end Go.Proofs.YtkjdbpjglobbjaaGreatDoor
