/- A part of the proof that ModelChecks holds. No condition. -/
import Derived.Test.YtdfdllbebfoggaaGreatDoorD23
set_option maxRecDepth 100000
set_option maxHeartbeats 20000000
set_option linter.unusedVariables false
set_option linter.unusedSimpArgs false
namespace Go.Proofs.YtdfdllbebfoggaaGreatDoor
section
open Go.RowKit
theorem runN_cons (q:UInt8→Bool)(a:UInt8)(r:LU):runN q (a::r)=if q a then runN q r+1 else 0:=by
 cases h:q a with
 | true=>rw[runN_cons_yes h];rfl
 | false=>rw[runN_cons_no h];rfl
theorem drop_cons (s:BA)(k:Nat)(h:k<s.size):(bl s).drop k=s[k]::(bl s).drop (k+1):=by
 rw[List.drop_eq_getElem_cons (by rw[bl_length];exact h),bl_get s k h]
theorem drop_end (s:BA)(k:Nat)(h:¬ k<s.size):(bl s).drop k=[]:=List.drop_of_length_le (by rw[bl_length];omega)
theorem runN_step {q:UInt8→Bool}(s:BA)(k:Nat)(h:k<s.size)(hq:q s[k]=true):runN q ((bl s).drop k)=runN q ((bl s).drop (k+1))+1:=by
 rw[drop_cons s k h,runN_cons,if_pos hq]
theorem runN_halt {q:UInt8→Bool}(s:BA)(k:Nat)(h:k<s.size)(hq:q s[k]=false):runN q ((bl s).drop k)=0:=by
 rw[drop_cons s k h,runN_cons_no hq]
theorem runN_end (q:UInt8→Bool)(s:BA)(k:Nat)(h:¬ k<s.size):runN q ((bl s).drop k)=0:=by rw[drop_end s k h];rfl
theorem runN_room (q:UInt8→Bool)(s:BA)(k:Nat)(h:k≤s.size):k+runN q ((bl s).drop k)≤s.size:=by
 have:=runN_le q ((bl s).drop k);rw[List.length_drop,bl_length] at this;omega
theorem head_at (s:BA)(k:Nat)(c:UInt8)(h:k<s.size):head0 c ((bl s).drop k)=(s[k]==c):=by rw[drop_cons s k h];rfl
theorem head_end (s:BA)(k:Nat)(c:UInt8)(h:¬ k<s.size):head0 c ((bl s).drop k)=false:=by rw[drop_end s k h];rfl
theorem skip_at (s:BA)(k:Nat):skipL ((bl s).drop k)=(bl s).drop (k+runN blankB ((bl s).drop k)):=by unfold skipL;rw[List.drop_drop]
theorem blank_head (l:LU):decide (0<runN blankB l)=head0 32 l:=by
 cases l with
 | nil=>rfl
 | cons a r=>
  rw[runN_cons]
  show _=(a==32)
  have:blankB a=(a==32):=rfl
  rw[this]
  cases a==32<;>simp
theorem skip_zero (l:LU):runN blankB (skipL l)=0:=by
 unfold skipL
 have h1:=runN_le blankB l
 by_cases h:runN blankB l<l.length
 ·obtain⟨a,r,hd,ha⟩:=runN_head l h
  rw[hd,runN_cons_no ha]
 ·rw[List.drop_of_length_le (by omega)];rfl
theorem skip_idem (l:LU):skipL (skipL l)=skipL l:=by
 show(skipL l).drop (runN blankB (skipL l))=skipL l
 rw[skip_zero l];rfl
def dArchsT (f:Nat)(acc:List (LU))(l:LU):Option (List (LU)×LU):=(dArchs f l).map (fun x=>(acc++x.1,x.2))
def dGroupT (f:Nat)(acc:List Trm)(l:LU):Option (List Trm×LU):=(dGroup f l).map (fun x=>(acc++x.1,x.2))
def dGroupsT (f:Nat)(acc:List (List Trm))(l:LU):Option (List (List Trm)):=(dGroups f l).map (acc++·)
theorem dArchsT_start (f:Nat)(l:LU):dArchs f l=dArchsT f [] l:=by unfold dArchsT;simp
theorem dArchsT_none {f:Nat}{acc:List (LU)}{l:LU}(h:dArch1 l=none):dArchsT (f+1) acc l=none:=by unfold dArchsT dArchs;rw[h];rfl
theorem dArchsT_end {f:Nat}{acc:List (LU)}{l a r:LU}(h:dArch1 l=some (a,r))(h1:head0 93 (skipL r)=true):dArchsT (f+1) acc l=some (acc++[a],skipL ((skipL r).drop 1)):=by
 unfold dArchsT dArchs;rw[h];simp[h1]
theorem dArchsT_more {f:Nat}{acc:List (LU)}{l a r:LU}(h:dArch1 l=some (a,r))(h1:head0 93 (skipL r)=false)(h2:head0 32 r=true):dArchsT (f+1) acc l=dArchsT f (acc++[a]) (skipL r):=by
 unfold dArchsT;conv=>lhs;unfold dArchs
 rw[h];simp[h1,h2,Function.comp_def]
theorem dArchsT_bad {f:Nat}{acc:List (LU)}{l a r:LU}(h:dArch1 l=some (a,r))(h1:head0 93 (skipL r)=false)(h2:head0 32 r=false):dArchsT (f+1) acc l=none:=by
 unfold dArchsT dArchs;rw[h];simp[h1,h2]
theorem dGroupT_start (f:Nat)(l:LU):dGroup f l=dGroupT f [] l:=by unfold dGroupT;simp
theorem dGroupT_none {f:Nat}{acc:List Trm}{l:LU}(h:dTerm l=none):dGroupT (f+1) acc l=none:=by unfold dGroupT dGroup;rw[h];rfl
theorem dGroupT_end {f:Nat}{acc:List Trm}{t:Trm}{l r:LU}(h:dTerm l=some (t,r))(h1:head0 124 r=false):dGroupT (f+1) acc l=some (acc++[t],r):=by
 unfold dGroupT dGroup;rw[h];simp[h1]
theorem dGroupT_more {f:Nat}{acc:List Trm}{t:Trm}{l r:LU}(h:dTerm l=some (t,r))(h1:head0 124 r=true):dGroupT (f+1) acc l=dGroupT f (acc++[t]) (skipL (r.drop 1)):=by
 unfold dGroupT;conv=>lhs;unfold dGroup
 rw[h];simp[h1,Function.comp_def]
theorem dGroupsT_start (f:Nat)(l:LU):dGroups f l=dGroupsT f [] l:=by unfold dGroupsT;simp
theorem dGroupsT_none {f:Nat}{acc:List (List Trm)}{l:LU}(h:dGroup (l.length+1) l=none):dGroupsT (f+1) acc l=none:=by unfold dGroupsT dGroups;rw[h];rfl
theorem dGroupsT_end {f:Nat}{acc:List (List Trm)}{g:List Trm}{l:LU}(h:dGroup (l.length+1) l=some (g,[])):dGroupsT (f+1) acc l=some (acc++[g]):=by
 unfold dGroupsT dGroups;rw[h];simp
theorem dGroupsT_more {f:Nat}{acc:List (List Trm)}{g:List Trm}{l r:LU}(h:dGroup (l.length+1) l=some (g,r))(h1:head0 44 r=true):dGroupsT (f+1) acc l=dGroupsT f (acc++[g]) (skipL (r.drop 1)):=by
 have h0:r.isEmpty=false:=by rw[head0_yes h1];rfl
 unfold dGroupsT;conv=>lhs;unfold dGroups
 rw[h];simp[h0,h1,Function.comp_def]
theorem dGroupsT_bad {f:Nat}{acc:List (List Trm)}{g:List Trm}{l r:LU}(h:dGroup (l.length+1) l=some (g,r))(h0:r.isEmpty=false)(h1:head0 44 r=false):dGroupsT (f+1) acc l=none:=by
 unfold dGroupsT dGroups;rw[h];simp[h0,h1]
theorem tok_is {p:UInt8→Bool}{l:LU}(h:0<runN p l):tok p l=some (l.take (runN p l),l.drop (runN p l)):=by unfold tok;rw[if_neg (by omega)]
theorem tok_no {p:UInt8→Bool}{l:LU}(h:runN p l=0):tok p l=none:=by unfold tok;rw[if_pos h]
theorem bare_mark {l x r:LU}(h:tok nendW (aBare l)=some (x,r)):aBare (markL l++x)=x:=by
 unfold markL
 cases hh:head0 33 l with
 | true=>rfl
 | false=>
  have hb:aBare l=l:=by unfold aBare;rw[hh];rfl
  rw[hb] at h
  obtain⟨h1,h2,h3⟩:=tok_some h
  cases l with
  | nil=>simp[runN] at h1
  | cons a t=>
   rw[runN_cons] at h1 h2
   cases ha:nendW a with
   | false=>rw[ha] at h1;simp at h1
   | true=>
    rw[ha] at h2
    simp only[if_true,List.take_succ_cons] at h2
    subst h2
    simp only[Bool.false_eq_true,if_false,List.nil_append,aBare]
    have:head0 33 (a::List.take (runN nendW t) t)=false:=hh
    rw[this];rfl
theorem dArch1_some {l a r:LU}(h:dArch1 l=some (a,r)):∃ x,tok nendW (aBare l)=some (x,r)∧a=markL l++x∧aBare a=x:=by
 unfold dArch1 at h
 obtain⟨⟨x,y⟩,h1,h2⟩:=Option.map_eq_some_iff.1 h
 injection h2 with h2 h3
 subst h2;subst h3
 exact⟨x,h1,rfl,bare_mark h1⟩
theorem kept_set {w:World}{a j:Nat}(v:Value):w.grownBy (w.setCell ⟨a,j,none⟩ v) (some a):=only_setCell (World.grownBy.refl w (some a)) (.inl rfl) _
theorem grown_below {w w' w'':World}{a:Nat}(h:w.grownBy w' (some a))(hb:Below w'.heap.size w' w''):w.grownBy w'' (some a):=only_below h hb
theorem below_grows {w w':World}(hb:Below w.heap.size w w')(row:Option Nat):w.grownBy w' row:=only_below (World.grownBy.refl w row) hb
theorem Blk.grownBy {w w':World}{b:Nat}{row:Option Nat}{vs:List Value}(h:Blk w b vs)(hg:w.grownBy w' row)(hne:some b≠row):Blk w' b vs:=by
 have hk:=hg.block b h.sz hne
 exact⟨Nat.lt_of_lt_of_le h.sz hg.size,fun j u hu=>(World.cell?_of_block (a:=⟨b,j,none⟩) hk).trans (h.cell j u hu),fun j hj=>(World.frozen?_of_block (a:=⟨b,j,none⟩) hk).trans (h.free j hj)⟩
structure DR (w:World) (a:Nat) (s:BA) (p n:Nat) (c:Int):Prop where
 blk:∃ (f:BA) (x:Int),Blk w a [.string s,.int .i64 p,.int .i64 n,.string f,.int .i64 x,.int .i64 c]
 le:p≤s.size
 nle:n≤p
theorem DR.below {w w':World}{a:Nat}{s:BA}{p n:Nat}{c:Int}(h:DR w a s p n c)(hb:Below w.heap.size w w'):DR w' a s p n c:=by
 obtain⟨f,x,k⟩:=h.blk;exact⟨⟨f,x,k.below hb⟩,h.le,h.nle⟩
theorem DR.kept {w w':World}{a:Nat}{row:Option Nat}{s:BA}{p n:Nat}{c:Int}(h:DR w a s p n c)(hg:w.grownBy w' row)(hne:some a≠row):DR w' a s p n c:=by
 obtain⟨f,x,k⟩:=h.blk;exact⟨⟨f,x,k.grownBy hg hne⟩,h.le,h.nle⟩
theorem DR.alloc {w:World}{a:Nat}{s:BA}{p n:Nat}{c:Int}(h:DR w a s p n c)(o:Obj):DR (w.alloc o) a s p n c:=h.below (bR.alloc lr o)
theorem DR.drewN {w:World}{a:Nat}{s:BA}{p n:Nat}{c:Int}(h:DR w a s p n c)(k:Nat):DR (w.drewN k) a s p n c:=h.below ⟨rfl,rfl,rfl,lr,fun _ _=>rfl⟩
theorem DR.far {w:World}{a b j:Nat}{s:BA}{p n:Nat}{c:Int}(h:DR w a s p n c)(hne:b≠a)(v:Value):DR (w.setCell ⟨b,j,none⟩ v) a s p n c:=h.kept (kept_set v) (by simp;omega)
theorem DR.sz {w:World}{a:Nat}{s:BA}{p n:Nat}{c:Int}(h:DR w a s p n c):a<w.heap.size:=by obtain⟨f,x,k⟩:=h.blk;exact k.sz
theorem DR.move {w:World}{a:Nat}{s:BA}{p n q:Nat}{c:Int}(h:DR w a s p n c)(h1:p≤q)(h2:q≤s.size):DR (w.setCell ⟨a,1,none⟩ (.int .i64 q)) a s q n c:=by
 obtain⟨f,x,k⟩:=h.blk;exact⟨⟨f,x,k.set 1 (by simp) _⟩,h2,Nat.le_trans h.nle h1⟩
theorem DR.count {w:World}{a:Nat}{s:BA}{p n:Nat}{c:Int}(h:DR w a s p n c)(h1:n<p):DR (w.setCell ⟨a,2,none⟩ (.int .i64 ((n+1:Nat):Int))) a s p (n+1) c:=by
 obtain⟨f,x,k⟩:=h.blk;exact⟨⟨f,x,k.set 2 (by simp) _⟩,h.le,h1⟩
structure DRc (w:World) (a:Nat) (s:BA) (p n:Nat) (f:BA) (x c:Int):Prop where
 c0:w.cell? ⟨a,0,none⟩=some (.string s)
 c1:w.cell? ⟨a,1,none⟩=some (.int .i64 p)
 c2:w.cell? ⟨a,2,none⟩=some (.int .i64 n)
 c3:w.cell? ⟨a,3,none⟩=some (.string f)
 c4:w.cell? ⟨a,4,none⟩=some (.int .i64 x)
 c5:w.cell? ⟨a,5,none⟩=some (.int .i64 c)
 f0:w.frozen? ⟨a,0,none⟩=false
 f1:w.frozen? ⟨a,1,none⟩=false
 f2:w.frozen? ⟨a,2,none⟩=false
 f3:w.frozen? ⟨a,3,none⟩=false
 f4:w.frozen? ⟨a,4,none⟩=false
 f5:w.frozen? ⟨a,5,none⟩=false
theorem DR.cells {w:World}{a:Nat}{s:BA}{p n:Nat}{c:Int}(h:DR w a s p n c):∃ f x,DRc w a s p n f x c:=by
 obtain⟨f,x,k⟩:=h.blk
 exact⟨f,x,k.cell 0 _ rfl,k.cell 1 _ rfl,k.cell 2 _ rfl,k.cell 3 _ rfl,k.cell 4 _ rfl,k.cell 5 _ rfl,k.free 0 (by simp),k.free 1 (by simp),k.free 2 (by simp),k.free 3 (by simp),k.free 4 (by simp),k.free 5 (by simp)⟩
def atOf (a:Nat)(w:World):Nat:=match w.cell? ⟨a,1,none⟩ with | some (.int _ k)=>k.toNat | _=>0
theorem DR.at_ {w:World}{a:Nat}{s:BA}{p n:Nat}{c:Int}(h:DR w a s p n c):atOf a w=p:=by
 obtain⟨f,x,k⟩:=h.cells;unfold atOf;rw[k.c1];simp
theorem DR.dec {w w':World}{a:Nat}{s:BA}{k k' n n':Nat}{c c':Int}(h':DR w' a s k' n' c')(h:DR w a s k n c)(hk:k<k'):s.size-atOf a w'<s.size-atOf a w:=by
 rw[h'.at_,h.at_];have:=h'.le;omega
def noteC (c e:Int):Int:=if c=0 then e else c
theorem noteC_zero (c e:Int):noteC c e=0↔c=0∧e=0:=by unfold noteC;split<;>rename_i h<;>simp[h]
theorem DR.noted {w:World}{a:Nat}{s:BA}{p n:Nat}{c:Int}(h:DR w a s p n c)(f:BA)(x e:Int):DR (((w.setCell ⟨a,3,none⟩ (.string f)).setCell ⟨a,4,none⟩ (.int .i64 x)).setCell ⟨a,5,none⟩ (.int .i64 e)) a s p n e:=by
 obtain⟨f',x',k⟩:=h.blk;exact⟨⟨f,x,((k.set 3 (by simp) _).set 4 (by simp) _).set 5 (by simp) _⟩,h.le,h.nle⟩
structure TrmM where
 nm:BA
 op:Nat
 ver:BA
 qual:BA
 aa:Option Addr
 ac:Nat
 archs:List BA
def TrmM.cells (t:TrmM):List Value:=[.string t.nm,.int .i64 t.op,.string t.ver,.string t.qual,.slice t.aa t.archs.length t.ac]
def TrmM.val (t:TrmM):Value:=.agg #[.string t.nm,.int .i64 t.op,.string t.ver,.string t.qual,.slice t.aa t.archs.length t.ac]
def TrmM.pl (t:TrmM):Trm:=⟨bl t.nm,bl t.qual,t.op,bl t.ver,t.archs.map bl⟩
theorem trm_len (t:TrmM):t.cells.length=5:=rfl
def TrmM.own (t:TrmM)(w:World)(lo:Nat):Prop:=w.ownsRow lo 9 1 (.slice t.aa t.archs.length t.ac) t.archs.length (strCells t.archs)
structure GrpM where
 ga:Option Addr
 gc:Nat
 ts:List TrmM
def GrpM.sl (g:GrpM):Value:=.slice g.ga g.ts.length g.gc
def GrpM.pl (g:GrpM):List Trm:=g.ts.map TrmM.pl
structure GrpM.own (g:GrpM) (w:World) (lo:Nat):Prop where
 row:w.ownsRow lo 157 5 g.sl g.ts.length (g.ts.flatMap TrmM.cells)
 archs:∀ t∈g.ts,t.own w lo
theorem TrmM.own.kept {t:TrmM}{w w':World}{lo g:Nat}(h:t.own w lo)(hlo:g<lo)(hg:w.grownBy w' (some g)):t.own w' lo:=owns_kept h hlo hg
theorem TrmM.own.below {t:TrmM}{w w':World}{lo:Nat}(h:t.own w lo)(hb:Below w.heap.size w w'):t.own w' lo:=owns_below h hb
theorem TrmM.own.base {t:TrmM}{w:World}{lo lo':Nat}(h:t.own w lo)(hl:lo'≤lo):t.own w lo':=owns_base h hl
theorem GrpM.own.kept {t:GrpM}{w w':World}{lo g:Nat}(h:t.own w lo)(hlo:g<lo)(hg:w.grownBy w' (some g)):t.own w' lo:=⟨owns_kept h.row hlo hg,fun x hx=>(h.archs x hx).kept hlo hg⟩
theorem GrpM.own.below {t:GrpM}{w w':World}{lo:Nat}(h:t.own w lo)(hb:Below w.heap.size w w'):t.own w' lo:=⟨owns_below h.row hb,fun x hx=>(h.archs x hx).below hb⟩
theorem GrpM.own.base {t:GrpM}{w:World}{lo lo':Nat}(h:t.own w lo)(hl:lo'≤lo):t.own w lo':=⟨owns_base h.row hl,fun x hx=>(h.archs x hx).base hl⟩
structure FldOk (w:World) (A:Option Addr) (l:List GrpM):Prop where
 row:Rd w 1 A l.length (l.map GrpM.sl)
 grp:∀ g∈l,Rd w 5 g.ga g.ts.length (g.ts.flatMap TrmM.cells)
 archs:∀ g∈l,∀ t∈g.ts,Rd w 1 t.aa t.archs.length (strCells t.archs)
theorem FldOk.below {w w':World}{A:Option Addr}{l:List GrpM}(h:FldOk w A l)(hb:Below w.heap.size w w'):FldOk w' A l:=
 ⟨h.1.below hb,fun g hg=>(h.2 g hg).below hb,fun g hg t ht=>(h.3 g hg t ht).below hb⟩
def BT (w:World)(b:Nat)(e:TypeId)(vs:List Value):Prop:=w.heap[b]?=some (.cells vs.toArray e (0,0))
theorem BT.new (w:World)(e:TypeId)(vs:List Value):BT (w.alloc (.cells vs.toArray e)) w.heap.size e vs:=heap_alloc_new w _
theorem BT.sz {w:World}{b:Nat}{e:TypeId}{vs:List Value}(h:BT w b e vs):b<w.heap.size:=(Array.getElem?_eq_some_iff.1 h).1
theorem BT.blk {w:World}{b:Nat}{e:TypeId}{vs:List Value}(h:BT w b e vs):Blk w b vs:=by
 refine⟨h.sz,fun j u hu=>?_,fun j hj=>?_⟩
 ·unfold BT at h;simp[World.cell?,h,hu]
 ·unfold BT at h;simp[World.frozen?,h]
theorem BT.set {w:World}{b:Nat}{e:TypeId}{vs:List Value}(h:BT w b e vs)(j:Nat)(v:Value):BT (w.setCell ⟨b,j,none⟩ v) b e (vs.set j v):=by
 have:=heap_setCell_same w b j _ e v h
 unfold BT;rw[this];simp
theorem BT.far {w:World}{b c j:Nat}{e:TypeId}{vs:List Value}(h:BT w b e vs)(hne:c≠b)(v:Value):BT (w.setCell ⟨c,j,none⟩ v) b e vs:=by
 unfold BT;rw[heap_setCell_other w ⟨c,j,none⟩ b v (fun e=>hne e.symm)];exact h
theorem BT.below {w w':World}{b n:Nat}{e:TypeId}{vs:List Value}(h:BT w b e vs)(hb:Below n w w')(hn:b<n):BT w' b e vs:=(hb.block b hn).trans h
theorem BT.belowW {w w':World}{b:Nat}{e:TypeId}{vs:List Value}(h:BT w b e vs)(hb:Below w.heap.size w w'):BT w' b e vs:=h.below hb h.sz
theorem BT.grownBy {w w':World}{b:Nat}{e:TypeId}{vs:List Value}{row:Option Nat}(h:BT w b e vs)(hg:w.grownBy w' row)(hne:some b≠row):BT w' b e vs:=(hg.block b h.sz hne).trans h
def isTS (e:TypeId):Prop:=e=9∨e=157
structure KT (a:Nat) (w w':World):Prop where
 bel:Below a w w'
 same:∀ (k:Nat)(cur:Array Value)(e:TypeId)(fr:Nat×Nat),w.heap[k]?=some (.cells cur e fr)→isTS e→w'.heap[k]?=w.heap[k]?
theorem KT.refl (a:Nat)(w:World):KT a w w:=⟨bR,fun _ _ _ _ _ _=>rfl⟩
theorem KT.trans {a:Nat}{w w1 w2:World}(h:KT a w w1)(k:KT a w1 w2):KT a w w2:=
 ⟨h.bel.trans k.bel,fun i cur e fr hi he=>by
  have h1:=h.same i cur e fr hi he
  rw[←h1];exact k.same i cur e fr (h1.trans hi) he⟩
theorem KT.of_below {a:Nat}{w w':World}(hb:Below w.heap.size w w')(ha:a≤w.heap.size):KT a w w':=
 ⟨hb.mono ha,fun i cur e fr hi _=>hb.block i (Array.getElem?_eq_some_iff.1 hi).1⟩
theorem KT.of_grown {a b:Nat}{w w':World}{e:TypeId}{cur:Array Value}{fr:Nat×Nat}(hg:w.grownBy w' (some b))(hab:a≤b)(hb:w.heap[b]?=some (.cells cur e fr))(he:¬ isTS e):KT a w w':=by
 refine⟨⟨hg.os,hg.tape,hg.output,hg.size,fun k hk=>?_⟩,fun i c2 e2 f2 hi h2=>hg.block i (Array.getElem?_eq_some_iff.1 hi).1 (fun h=>?_)⟩
 ·by_cases hkw:k<w.heap.size
  ·exact hg.block k hkw (by intro h;injection h with h;omega)
  ·have:=(Array.getElem?_eq_some_iff.1 hb).1;omega
 ·injection h with h;subst h;rw[hb] at hi;injection hi with hi;injection hi with _ h3 _;exact he (h3 ▸ h2)
theorem KT.of_row {a:Nat}{w w':World}{lo:Nat}{e:TypeId}{z n:Nat}{v:Value}{xs:List Value}(hr:w.ownsRow lo e z v n xs)(hg:w.grownBy w' v.ownBlock)(hab:a≤lo)(haw:a≤w.heap.size)(he:¬ isTS e):KT a w w':=by
 rcases hr.2 with⟨rfl,_⟩ | ⟨g,cap,cur,rfl,h1,h2,_⟩
 ·exact KT.of_below ⟨hg.os,hg.tape,hg.output,hg.size,fun k hk=>hg.block k hk (by simp[Value.ownBlock])⟩ haw
 ·exact KT.of_grown (b:=g) hg (by omega) h2 he
theorem KT.owns {a:Nat}{w w':World}{lo:Nat}{e:TypeId}{z n:Nat}{v:Value}{xs:List Value}(h:KT a w w')(hr:w.ownsRow lo e z v n xs)(he:isTS e):w'.ownsRow lo e z v n xs:=by
 refine⟨hr.1,?_⟩
 rcases hr.2 with h0 | ⟨g,cap,cur,hv,h1,h2,h3⟩
 ·exact .inl h0
 ·exact .inr ⟨g,cap,cur,hv,h1,(h.same g cur e (0,0) h2 he).trans h2,h3⟩
theorem KT.bt {a b:Nat}{w w':World}{vs:List Value}(h:KT a w w')(hb:BT w b 157 vs):BT w' b 157 vs:=(h.same b _ _ _ hb (.inr rfl)).trans hb
theorem KT.trm {a:Nat}{w w':World}{t:TrmM}{lo:Nat}(h:KT a w w')(ht:t.own w lo):t.own w' lo:=h.owns ht (.inl rfl)
theorem KT.grp {a:Nat}{w w':World}{g:GrpM}{lo:Nat}(h:KT a w w')(hg:g.own w lo):g.own w' lo:=⟨h.owns hg.row (.inr rfl),fun t ht=>h.trm (hg.archs t ht)⟩
structure Prt where
 kind:Nat
 at_:Nat
 text:BA
def Prt.cells (x:Prt):List Value:=[.int .i64 x.kind,.int .i64 x.at_,.string x.text]
theorem prt_len (x:Prt):x.cells.length=3:=rfl
def prtB (x:Prt):Bool:=if x.kind=1 then dnameB (bl x.text) else if x.kind=2 then dwordB (bl x.text) else decide (verE 1 x.text=0)
structure RS (w:World) (a:Nat) (s:BA) (p:Nat) (bad:Bool) (ps:List Prt) (gs:List GrpM) (hs:List Int):Prop where
 blk:∃ (PA LA HA:Option Addr) (pc lc hc:Nat),BT w a 242 [.string s,.int .i64 p,.bool bad,.slice PA ps.length pc,.slice LA gs.length lc,.slice HA hs.length hc] ∧
  w.ownsRow (a+1) 244 3 (.slice PA ps.length pc) ps.length (ps.flatMap Prt.cells)∧w.ownsRow (a+1) 155 1 (.slice LA gs.length lc) gs.length (gs.map GrpM.sl)∧w.ownsRow (a+1) 3 1 (.slice HA hs.length hc) hs.length (hs.map (Value.int .i64))
 grp:∀ g∈gs,g.own w (a+1)
 le:p≤s.size
 pl:ps.length≤p
 hl:hs.length≤p+1
 gl:gs.length≤p
 pat:∀ x∈ps,x.at_≤s.size∧x.text.size≤4294967280∧1≤x.kind∧x.kind≤3
theorem RS.below {w w':World}{a:Nat}{s:BA}{p:Nat}{bad:Bool}{ps:List Prt}{gs:List GrpM}{hs:List Int}(h:RS w a s p bad ps gs hs)(hb:Below w.heap.size w w'):RS w' a s p bad ps gs hs:=by
 obtain⟨PA,LA,HA,pc,lc,hc,k1,k2,k3,k4⟩:=h.blk
 exact⟨⟨PA,LA,HA,pc,lc,hc,k1.belowW hb,owns_below k2 hb,owns_below k3 hb,owns_below k4 hb⟩,fun g hg=>(h.grp g hg).below hb,h.le,h.pl,h.hl,h.gl,h.pat⟩
theorem RS.sz {w:World}{a:Nat}{s:BA}{p:Nat}{bad:Bool}{ps:List Prt}{gs:List GrpM}{hs:List Int}(h:RS w a s p bad ps gs hs):a<w.heap.size:=by
 obtain⟨PA,LA,HA,pc,lc,hc,k1,_⟩:=h.blk;exact k1.sz
theorem RS.alloc {w:World}{a:Nat}{s:BA}{p:Nat}{bad:Bool}{ps:List Prt}{gs:List GrpM}{hs:List Int}(h:RS w a s p bad ps gs hs)(o:Obj):RS (w.alloc o) a s p bad ps gs hs:=h.below (bR.alloc lr o)
theorem RS.drewN {w:World}{a:Nat}{s:BA}{p:Nat}{bad:Bool}{ps:List Prt}{gs:List GrpM}{hs:List Int}(h:RS w a s p bad ps gs hs)(n:Nat):RS (w.drewN n) a s p bad ps gs hs:=h.below ⟨rfl,rfl,rfl,lr,fun _ _=>rfl⟩
theorem notTS_State:¬ isTS 242:=by unfold isTS;decide
theorem notTS_Part:¬ isTS 244:=by unfold isTS;decide
theorem notTS_Grp:¬ isTS 155:=by unfold isTS;decide
theorem notTS_int:¬ isTS 3:=by unfold isTS;decide
theorem RS.kt {w:World}{a j:Nat}{s:BA}{p:Nat}{bad:Bool}{ps:List Prt}{gs:List GrpM}{hs:List Int}(h:RS w a s p bad ps gs hs)(v:Value):KT a w (w.setCell ⟨a,j,none⟩ v):=by
 obtain⟨PA,LA,HA,pc,lc,hc,k1,_⟩:=h.blk
 exact KT.of_grown (kept_set v) lr k1 notTS_State
theorem RS.kept {w w':World}{a:Nat}{s:BA}{p p':Nat}{bad bad':Bool}{ps:List Prt}{gs:List GrpM}{hs:List Int}(h:RS w a s p bad ps gs hs)(hg:w.grownBy w' (some a))(h1:p≤p')(h2:p'≤s.size)
  (hb:∀ v3 v4 v5,BT w a 242 [.string s,.int .i64 p,.bool bad,v3,v4,v5]→BT w' a 242 [.string s,.int .i64 p',.bool bad',v3,v4,v5]):RS w' a s p' bad' ps gs hs:=by
 obtain⟨PA,LA,HA,pc,lc,hc,k1,k2,k3,k4⟩:=h.blk
 refine⟨⟨PA,LA,HA,pc,lc,hc,hb _ _ _ k1,owns_kept k2 (Nat.lt_succ_self _) hg,owns_kept k3 (Nat.lt_succ_self _) hg,owns_kept k4 (Nat.lt_succ_self _) hg⟩,fun g hg'=>(h.grp g hg').kept (Nat.lt_succ_self _) hg,h2,?_,?_,?_,h.pat⟩
 ·have:=h.pl;omega
 ·have:=h.hl;omega
 ·have:=h.gl;omega
theorem RS.move {w:World}{a:Nat}{s:BA}{p q:Nat}{bad:Bool}{ps:List Prt}{gs:List GrpM}{hs:List Int}(h:RS w a s p bad ps gs hs)(h1:p≤q)(h2:q≤s.size):RS (w.setCell ⟨a,1,none⟩ (.int .i64 q)) a s q bad ps gs hs:=
 h.kept (kept_set _) h1 h2 (fun _ _ _ k=>k.set 1 _)
theorem RS.fail {w:World}{a:Nat}{s:BA}{p:Nat}{bad:Bool}{ps:List Prt}{gs:List GrpM}{hs:List Int}(h:RS w a s p bad ps gs hs)(b:Bool):RS (w.setCell ⟨a,2,none⟩ (.bool b)) a s p b ps gs hs:=
 h.kept (kept_set _) lr h.le (fun _ _ _ k=>k.set 2 _)
structure RSc (w:World) (a:Nat) (s:BA) (p:Nat) (bad:Bool) (v3 v4 v5:Value):Prop where
 c0:w.cell? ⟨a,0,none⟩=some (.string s)
 c1:w.cell? ⟨a,1,none⟩=some (.int .i64 p)
 c2:w.cell? ⟨a,2,none⟩=some (.bool bad)
 c3:w.cell? ⟨a,3,none⟩=some v3
 c4:w.cell? ⟨a,4,none⟩=some v4
 c5:w.cell? ⟨a,5,none⟩=some v5
 f1:w.frozen? ⟨a,1,none⟩=false
 f2:w.frozen? ⟨a,2,none⟩=false
 f3:w.frozen? ⟨a,3,none⟩=false
 f4:w.frozen? ⟨a,4,none⟩=false
 f5:w.frozen? ⟨a,5,none⟩=false
theorem BT.rsc {w:World}{a:Nat}{s:BA}{p:Nat}{bad:Bool}{v3 v4 v5:Value}(h:BT w a 242 [.string s,.int .i64 p,.bool bad,v3,v4,v5]):RSc w a s p bad v3 v4 v5:=by
 have k:=h.blk
 exact⟨k.cell 0 _ rfl,k.cell 1 _ rfl,k.cell 2 _ rfl,k.cell 3 _ rfl,k.cell 4 _ rfl,k.cell 5 _ rfl,k.free 1 (by simp),k.free 2 (by simp),k.free 3 (by simp),k.free 4 (by simp),k.free 5 (by simp)⟩
theorem RS.cells {w:World}{a:Nat}{s:BA}{p:Nat}{bad:Bool}{ps:List Prt}{gs:List GrpM}{hs:List Int}(h:RS w a s p bad ps gs hs):∃ v3 v4 v5,RSc w a s p bad v3 v4 v5:=by
 obtain⟨PA,LA,HA,pc,lc,hc,k1,_⟩:=h.blk;exact⟨_,_,_,k1.rsc⟩
theorem RS.at_ {w:World}{a:Nat}{s:BA}{p:Nat}{bad:Bool}{ps:List Prt}{gs:List GrpM}{hs:List Int}(h:RS w a s p bad ps gs hs):atOf a w=p:=by
 obtain⟨_,_,_,k⟩:=h.cells;unfold atOf;rw[k.c1];simp
theorem RS.dec {w w':World}{a:Nat}{s:BA}{p p':Nat}{bad bad':Bool}{ps ps':List Prt}{gs gs':List GrpM}{hs hs':List Int}(h':RS w' a s p' bad' ps' gs' hs')(h:RS w a s p bad ps gs hs)(hk:p<p'):s.size-atOf a w'<s.size-atOf a w:=by
 rw[h'.at_,h.at_];have:=h'.le;omega
end
end Go.Proofs.YtdfdllbebfoggaaGreatDoor
