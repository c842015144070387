/- A part of the proof that ModelPackages holds. No condition. -/
import Derived.Test.YtdfdllbebfoggaaGreatDoorC24
set_option maxRecDepth 100000
set_option maxHeartbeats 20000000
set_option linter.unusedVariables false
set_option linter.unusedSimpArgs false
namespace Go.Proofs.YtdfdllbebfoggaaGreatDoor
section
open Go.RowKit
theorem runN_cons (q:UInt8→Bool)(a:UInt8)(r:List UInt8):runN q (a::r)=if q a then runN q r+1 else 0:=by
 cases h:q a with
 | true=>rw[runN_cons_yes h];rfl
 | false=>rw[runN_cons_no h];rfl
theorem drop_cons (s:ByteArray)(k:Nat)(h:k<s.size):(bl s).drop k=s[k]::(bl s).drop (k+1):=by
 rw[List.drop_eq_getElem_cons (by rw[bl_length];exact h),bl_get s k h]
theorem drop_end (s:ByteArray)(k:Nat)(h:¬ k<s.size):(bl s).drop k=[]:=List.drop_of_length_le (by rw[bl_length];omega)
theorem runN_step {q:UInt8→Bool}(s:ByteArray)(k:Nat)(h:k<s.size)(hq:q s[k]=true):runN q ((bl s).drop k)=runN q ((bl s).drop (k+1))+1:=by
 rw[drop_cons s k h,runN_cons,if_pos hq]
theorem runN_halt {q:UInt8→Bool}(s:ByteArray)(k:Nat)(h:k<s.size)(hq:q s[k]=false):runN q ((bl s).drop k)=0:=by
 rw[drop_cons s k h,runN_cons_no hq]
theorem runN_end (q:UInt8→Bool)(s:ByteArray)(k:Nat)(h:¬ k<s.size):runN q ((bl s).drop k)=0:=by rw[drop_end s k h];rfl
theorem runN_room (q:UInt8→Bool)(s:ByteArray)(k:Nat)(h:k≤s.size):k+runN q ((bl s).drop k)≤s.size:=by
 have:=runN_le q ((bl s).drop k);rw[List.length_drop,bl_length] at this;omega
theorem head_at (s:ByteArray)(k:Nat)(c:UInt8)(h:k<s.size):head0 c ((bl s).drop k)=(s[k]==c):=by rw[drop_cons s k h];rfl
theorem head_end (s:ByteArray)(k:Nat)(c:UInt8)(h:¬ k<s.size):head0 c ((bl s).drop k)=false:=by rw[drop_end s k h];rfl
theorem skip_at (s:ByteArray)(k:Nat):skipL ((bl s).drop k)=(bl s).drop (k+runN blankB ((bl s).drop k)):=by unfold skipL;rw[List.drop_drop]
theorem blank_head (l:List UInt8):decide (0<runN blankB l)=head0 32 l:=by
 cases l with
 | nil=>rfl
 | cons a r=>
  rw[runN_cons]
  show _=(a==32)
  have:blankB a=(a==32):=rfl
  rw[this]
  cases a==32<;>simp
theorem skip_zero (l:List UInt8):runN blankB (skipL l)=0:=by
 unfold skipL
 have h1:=runN_le blankB l
 by_cases h:runN blankB l<l.length
 ·obtain⟨a,r,hd,ha⟩:=runN_head l h
  rw[hd,runN_cons_no ha]
 ·rw[List.drop_of_length_le (by omega)];rfl
theorem skip_idem (l:List UInt8):skipL (skipL l)=skipL l:=by
 show(skipL l).drop (runN blankB (skipL l))=skipL l
 rw[skip_zero l];rfl
def dArchsT (f:Nat)(acc:List (List UInt8))(l:List UInt8):Option (List (List UInt8)×List UInt8):=(dArchs f l).map (fun x=>(acc++x.1,x.2))
def dGroupT (f:Nat)(acc:List Trm)(l:List UInt8):Option (List Trm×List UInt8):=(dGroup f l).map (fun x=>(acc++x.1,x.2))
def dGroupsT (f:Nat)(acc:List (List Trm))(l:List UInt8):Option (List (List Trm)):=(dGroups f l).map (acc++·)
theorem dArchsT_start (f:Nat)(l:List UInt8):dArchs f l=dArchsT f [] l:=by unfold dArchsT;simp
theorem dArchsT_none {f:Nat}{acc:List (List UInt8)}{l:List UInt8}(h:dArch1 l=none):dArchsT (f+1) acc l=none:=by unfold dArchsT dArchs;rw[h];rfl
theorem dArchsT_end {f:Nat}{acc:List (List UInt8)}{l a r:List UInt8}(h:dArch1 l=some (a,r))(h1:head0 93 (skipL r)=true):dArchsT (f+1) acc l=some (acc++[a],skipL ((skipL r).drop 1)):=by
 unfold dArchsT dArchs;rw[h];simp[h1]
theorem dArchsT_more {f:Nat}{acc:List (List UInt8)}{l a r:List UInt8}(h:dArch1 l=some (a,r))(h1:head0 93 (skipL r)=false)(h2:head0 32 r=true):dArchsT (f+1) acc l=dArchsT f (acc++[a]) (skipL r):=by
 unfold dArchsT;conv=>lhs;unfold dArchs
 rw[h];simp[h1,h2,Function.comp_def]
theorem dArchsT_bad {f:Nat}{acc:List (List UInt8)}{l a r:List UInt8}(h:dArch1 l=some (a,r))(h1:head0 93 (skipL r)=false)(h2:head0 32 r=false):dArchsT (f+1) acc l=none:=by
 unfold dArchsT dArchs;rw[h];simp[h1,h2]
theorem dGroupT_start (f:Nat)(l:List UInt8):dGroup f l=dGroupT f [] l:=by unfold dGroupT;simp
theorem dGroupT_none {f:Nat}{acc:List Trm}{l:List UInt8}(h:dTerm l=none):dGroupT (f+1) acc l=none:=by unfold dGroupT dGroup;rw[h];rfl
theorem dGroupT_end {f:Nat}{acc:List Trm}{t:Trm}{l r:List UInt8}(h:dTerm l=some (t,r))(h1:head0 124 r=false):dGroupT (f+1) acc l=some (acc++[t],r):=by
 unfold dGroupT dGroup;rw[h];simp[h1]
theorem dGroupT_more {f:Nat}{acc:List Trm}{t:Trm}{l r:List UInt8}(h:dTerm l=some (t,r))(h1:head0 124 r=true):dGroupT (f+1) acc l=dGroupT f (acc++[t]) (skipL (r.drop 1)):=by
 unfold dGroupT;conv=>lhs;unfold dGroup
 rw[h];simp[h1,Function.comp_def]
theorem dGroupsT_start (f:Nat)(l:List UInt8):dGroups f l=dGroupsT f [] l:=by unfold dGroupsT;simp
theorem dGroupsT_none {f:Nat}{acc:List (List Trm)}{l:List UInt8}(h:dGroup (l.length+1) l=none):dGroupsT (f+1) acc l=none:=by unfold dGroupsT dGroups;rw[h];rfl
theorem dGroupsT_end {f:Nat}{acc:List (List Trm)}{g:List Trm}{l:List UInt8}(h:dGroup (l.length+1) l=some (g,[])):dGroupsT (f+1) acc l=some (acc++[g]):=by
 unfold dGroupsT dGroups;rw[h];simp
theorem dGroupsT_more {f:Nat}{acc:List (List Trm)}{g:List Trm}{l r:List UInt8}(h:dGroup (l.length+1) l=some (g,r))(h1:head0 44 r=true):dGroupsT (f+1) acc l=dGroupsT f (acc++[g]) (skipL (r.drop 1)):=by
 have h0:r.isEmpty=false:=by rw[head0_yes h1];rfl
 unfold dGroupsT;conv=>lhs;unfold dGroups
 rw[h];simp[h0,h1,Function.comp_def]
theorem dGroupsT_bad {f:Nat}{acc:List (List Trm)}{g:List Trm}{l r:List UInt8}(h:dGroup (l.length+1) l=some (g,r))(h0:r.isEmpty=false)(h1:head0 44 r=false):dGroupsT (f+1) acc l=none:=by
 unfold dGroupsT dGroups;rw[h];simp[h0,h1]
theorem tok_is {p:UInt8→Bool}{l:List UInt8}(h:0<runN p l):tok p l=some (l.take (runN p l),l.drop (runN p l)):=by unfold tok;rw[if_neg (by omega)]
theorem tok_no {p:UInt8→Bool}{l:List UInt8}(h:runN p l=0):tok p l=none:=by unfold tok;rw[if_pos h]
theorem bare_mark {l x r:List UInt8}(h:tok nendW (aBare l)=some (x,r)):aBare (markL l++x)=x:=by
 unfold markL
 cases hh:head0 33 l with
 | true=>rfl
 | false=>
  have hb:aBare l=l:=by unfold aBare;rw[hh];rfl
  rw[hb] at h
  obtain⟨h1,h2,h3⟩:=tok_some h
  cases l with
  | nil=>simp[runN] at h1
  | cons a t=>
   rw[runN_cons] at h1 h2
   cases ha:nendW a with
   | false=>rw[ha] at h1;simp at h1
   | true=>
    rw[ha] at h2
    simp only[if_true,List.take_succ_cons] at h2
    subst h2
    simp only[Bool.false_eq_true,if_false,List.nil_append,aBare]
    have:head0 33 (a::List.take (runN nendW t) t)=false:=hh
    rw[this];rfl
theorem dArch1_some {l a r:List UInt8}(h:dArch1 l=some (a,r)):∃ x,tok nendW (aBare l)=some (x,r)∧a=markL l++x∧aBare a=x:=by
 unfold dArch1 at h
 obtain⟨⟨x,y⟩,h1,h2⟩:=Option.map_eq_some_iff.1 h
 injection h2 with h2 h3
 subst h2;subst h3
 exact⟨x,h1,rfl,bare_mark h1⟩
end
section
open Go.RowKit
theorem kept_set {w:World}{a j:Nat}(v:Value):w.grownBy (w.setCell ⟨a,j,none⟩ v) (some a):=only_setCell (World.grownBy.refl w (some a)) (.inl rfl) _
theorem grown_below {w w' w'':World}{a:Nat}(h:w.grownBy w' (some a))(hb:Below w'.heap.size w' w''):w.grownBy w'' (some a):=only_below h hb
theorem below_grows {w w':World}(hb:Below w.heap.size w w')(row:Option Nat):w.grownBy w' row:=only_below (World.grownBy.refl w row) hb
theorem Blk.grownBy {w w':World}{b:Nat}{row:Option Nat}{vs:List Value}(h:Blk w b vs)(hg:w.grownBy w' row)(hne:some b≠row):Blk w' b vs:=by
 have hk:=hg.block b h.sz hne
 exact⟨Nat.lt_of_lt_of_le h.sz hg.size,fun j u hu=>(World.cell?_of_block (a:=⟨b,j,none⟩) hk).trans (h.cell j u hu),fun j hj=>(World.frozen?_of_block (a:=⟨b,j,none⟩) hk).trans (h.free j hj)⟩
structure DR (w:World) (a:Nat) (s:ByteArray) (p n:Nat) (c:Int):Prop where
 blk:∃ (f:ByteArray) (x:Int),Blk w a [.string s,.int .i64 p,.int .i64 n,.string f,.int .i64 x,.int .i64 c]
 le:p≤s.size
 nle:n≤p
theorem DR.below {w w':World}{a:Nat}{s:ByteArray}{p n:Nat}{c:Int}(h:DR w a s p n c)(hb:Below w.heap.size w w'):DR w' a s p n c:=by
 obtain⟨f,x,k⟩:=h.blk;exact⟨⟨f,x,k.below hb⟩,h.le,h.nle⟩
theorem DR.kept {w w':World}{a:Nat}{row:Option Nat}{s:ByteArray}{p n:Nat}{c:Int}(h:DR w a s p n c)(hg:w.grownBy w' row)(hne:some a≠row):DR w' a s p n c:=by
 obtain⟨f,x,k⟩:=h.blk;exact⟨⟨f,x,k.grownBy hg hne⟩,h.le,h.nle⟩
theorem DR.alloc {w:World}{a:Nat}{s:ByteArray}{p n:Nat}{c:Int}(h:DR w a s p n c)(o:Obj):DR (w.alloc o) a s p n c:=h.below ((Below.refl _ _).alloc lr o)
theorem DR.drewN {w:World}{a:Nat}{s:ByteArray}{p n:Nat}{c:Int}(h:DR w a s p n c)(k:Nat):DR (w.drewN k) a s p n c:=h.below ⟨rfl,rfl,rfl,lr,fun _ _=>rfl⟩
theorem DR.far {w:World}{a b j:Nat}{s:ByteArray}{p n:Nat}{c:Int}(h:DR w a s p n c)(hne:b≠a)(v:Value):DR (w.setCell ⟨b,j,none⟩ v) a s p n c:=h.kept (kept_set v) (by simp;omega)
theorem DR.sz {w:World}{a:Nat}{s:ByteArray}{p n:Nat}{c:Int}(h:DR w a s p n c):a<w.heap.size:=by obtain⟨f,x,k⟩:=h.blk;exact k.sz
theorem DR.move {w:World}{a:Nat}{s:ByteArray}{p n q:Nat}{c:Int}(h:DR w a s p n c)(h1:p≤q)(h2:q≤s.size):DR (w.setCell ⟨a,1,none⟩ (.int .i64 q)) a s q n c:=by
 obtain⟨f,x,k⟩:=h.blk;exact⟨⟨f,x,k.set 1 (by simp) _⟩,h2,Nat.le_trans h.nle h1⟩
theorem DR.count {w:World}{a:Nat}{s:ByteArray}{p n:Nat}{c:Int}(h:DR w a s p n c)(h1:n<p):DR (w.setCell ⟨a,2,none⟩ (.int .i64 ((n+1:Nat):Int))) a s p (n+1) c:=by
 obtain⟨f,x,k⟩:=h.blk;exact⟨⟨f,x,k.set 2 (by simp) _⟩,h.le,h1⟩
structure DRc (w:World) (a:Nat) (s:ByteArray) (p n:Nat) (f:ByteArray) (x c:Int):Prop where
 c0:w.cell? ⟨a,0,none⟩=some (.string s)
 c1:w.cell? ⟨a,1,none⟩=some (.int .i64 p)
 c2:w.cell? ⟨a,2,none⟩=some (.int .i64 n)
 c3:w.cell? ⟨a,3,none⟩=some (.string f)
 c4:w.cell? ⟨a,4,none⟩=some (.int .i64 x)
 c5:w.cell? ⟨a,5,none⟩=some (.int .i64 c)
 f0:w.frozen? ⟨a,0,none⟩=false
 f1:w.frozen? ⟨a,1,none⟩=false
 f2:w.frozen? ⟨a,2,none⟩=false
 f3:w.frozen? ⟨a,3,none⟩=false
 f4:w.frozen? ⟨a,4,none⟩=false
 f5:w.frozen? ⟨a,5,none⟩=false
theorem DR.cells {w:World}{a:Nat}{s:ByteArray}{p n:Nat}{c:Int}(h:DR w a s p n c):∃ f x,DRc w a s p n f x c:=by
 obtain⟨f,x,k⟩:=h.blk
 exact⟨f,x,k.cell 0 _ rfl,k.cell 1 _ rfl,k.cell 2 _ rfl,k.cell 3 _ rfl,k.cell 4 _ rfl,k.cell 5 _ rfl,k.free 0 (by simp),k.free 1 (by simp),k.free 2 (by simp),k.free 3 (by simp),k.free 4 (by simp),k.free 5 (by simp)⟩
def atOf (a:Nat)(w:World):Nat:=match w.cell? ⟨a,1,none⟩ with | some (.int _ k)=>k.toNat | _=>0
theorem DR.at_ {w:World}{a:Nat}{s:ByteArray}{p n:Nat}{c:Int}(h:DR w a s p n c):atOf a w=p:=by
 obtain⟨f,x,k⟩:=h.cells;unfold atOf;rw[k.c1];simp
theorem DR.dec {w w':World}{a:Nat}{s:ByteArray}{k k' n n':Nat}{c c':Int}(h':DR w' a s k' n' c')(h:DR w a s k n c)(hk:k<k'):s.size-atOf a w'<s.size-atOf a w:=by
 rw[h'.at_,h.at_];have:=h'.le;omega
def noteC (c e:Int):Int:=if c=0 then e else c
theorem noteC_zero (c e:Int):noteC c e=0↔c=0∧e=0:=by unfold noteC;split<;>rename_i h<;>simp[h]
theorem DR.noted {w:World}{a:Nat}{s:ByteArray}{p n:Nat}{c:Int}(h:DR w a s p n c)(f:ByteArray)(x e:Int):DR (((w.setCell ⟨a,3,none⟩ (.string f)).setCell ⟨a,4,none⟩ (.int .i64 x)).setCell ⟨a,5,none⟩ (.int .i64 e)) a s p n e:=by
 obtain⟨f',x',k⟩:=h.blk;exact⟨⟨f,x,((k.set 3 (by simp) _).set 4 (by simp) _).set 5 (by simp) _⟩,h.le,h.nle⟩
structure TrmM where
 nm:ByteArray
 op:Nat
 ver:ByteArray
 qual:ByteArray
 aa:Option Addr
 ac:Nat
 archs:List ByteArray
def TrmM.cells (t:TrmM):List Value:=[.string t.nm,.int .i64 t.op,.string t.ver,.string t.qual,.slice t.aa t.archs.length t.ac]
def TrmM.val (t:TrmM):Value:=.agg #[.string t.nm,.int .i64 t.op,.string t.ver,.string t.qual,.slice t.aa t.archs.length t.ac]
def TrmM.pl (t:TrmM):Trm:=⟨bl t.nm,bl t.qual,t.op,bl t.ver,t.archs.map bl⟩
theorem trm_len (t:TrmM):t.cells.length=5:=rfl
def TrmM.own (t:TrmM)(w:World)(lo:Nat):Prop:=w.ownsRow lo 9 1 (.slice t.aa t.archs.length t.ac) t.archs.length (strCells t.archs)
structure GrpM where
 ga:Option Addr
 gc:Nat
 ts:List TrmM
def GrpM.sl (g:GrpM):Value:=.slice g.ga g.ts.length g.gc
def GrpM.pl (g:GrpM):List Trm:=g.ts.map TrmM.pl
structure GrpM.own (g:GrpM) (w:World) (lo:Nat):Prop where
 row:w.ownsRow lo 157 5 g.sl g.ts.length (g.ts.flatMap TrmM.cells)
 archs:∀ t∈g.ts,t.own w lo
theorem TrmM.own.kept {t:TrmM}{w w':World}{lo g:Nat}(h:t.own w lo)(hlo:g<lo)(hg:w.grownBy w' (some g)):t.own w' lo:=owns_kept h hlo hg
theorem TrmM.own.below {t:TrmM}{w w':World}{lo:Nat}(h:t.own w lo)(hb:Below w.heap.size w w'):t.own w' lo:=owns_below h hb
theorem TrmM.own.base {t:TrmM}{w:World}{lo lo':Nat}(h:t.own w lo)(hl:lo'≤lo):t.own w lo':=owns_base h hl
theorem GrpM.own.kept {t:GrpM}{w w':World}{lo g:Nat}(h:t.own w lo)(hlo:g<lo)(hg:w.grownBy w' (some g)):t.own w' lo:=⟨owns_kept h.row hlo hg,fun x hx=>(h.archs x hx).kept hlo hg⟩
theorem GrpM.own.below {t:GrpM}{w w':World}{lo:Nat}(h:t.own w lo)(hb:Below w.heap.size w w'):t.own w' lo:=⟨owns_below h.row hb,fun x hx=>(h.archs x hx).below hb⟩
theorem GrpM.own.base {t:GrpM}{w:World}{lo lo':Nat}(h:t.own w lo)(hl:lo'≤lo):t.own w lo':=⟨owns_base h.row hl,fun x hx=>(h.archs x hx).base hl⟩
structure FldOk (w:World) (A:Option Addr) (l:List GrpM):Prop where
 row:Rd w 1 A l.length (l.map GrpM.sl)
 grp:∀ g∈l,Rd w 5 g.ga g.ts.length (g.ts.flatMap TrmM.cells)
 archs:∀ g∈l,∀ t∈g.ts,Rd w 1 t.aa t.archs.length (strCells t.archs)
theorem FldOk.below {w w':World}{A:Option Addr}{l:List GrpM}(h:FldOk w A l)(hb:Below w.heap.size w w'):FldOk w' A l:=
 ⟨h.1.below hb,fun g hg=>(h.2 g hg).below hb,fun g hg t ht=>(h.3 g hg t ht).below hb⟩
end
end Go.Proofs.YtdfdllbebfoggaaGreatDoor
