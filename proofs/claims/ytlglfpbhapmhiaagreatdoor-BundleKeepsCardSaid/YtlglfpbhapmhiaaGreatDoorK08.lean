/- A part of the proof. -/
import Derived.Deep.RegionHeld3
import Derived.LaidEqlPtr
import Derived.Laws.Bits64b
import Derived.Laws.CopyOwn
import Derived.Laws.IdiomCopy
import Derived.Laws.IdiomStrings
import Derived.Laws.StructEq
import Derived.MapKept
import Derived.Shelf.SlSortCmp.NoneTotal
import Derived.Test.YtlglfpbhapmhiaaGreatDoorK06
import Derived.Test.YtlglfpbhapmhiaaGreatDoorK07
set_option maxRecDepth 100000
set_option maxHeartbeats 20000000
set_option linter.unusedVariables false
set_option linter.unusedSimpArgs false
namespace Go.Proofs.YtlglfpbhapmhiaaGreatDoor
abbrev bY:=BitVec 32
def vw (x:bY):Value:=.int .u32 (nv x)
def vb (c:UInt8):Value:=.int .u8 c.toNat
def Mn:List bY:=[3614090360,3905402710,606105819,3250441966,4118548399,1200080426,2821735955,4249261313,1770035416,2336552879,4294925233,2304563134,1804603682,4254626195,2792965006,1236535329,4129170786,3225465664,643717713,3921069994,3593408605,38016083,3634488961,3889429448,568446438,3275163606,4107603335,1163531501,2850285829,4243563512,1735328473,2368359562,4294588738,2272392833,1839030562,4259657740,2763975236,1272893353,4139469664,3200236656,681279174,3936430074,3572445317,76029189,3654602809,3873151461,530742520,3299628645,4096336452,1126891415,2878612391,4237533241,1700485571,2399980690,4293915773,2240044497,1873313359,4264355552,2734768916,1309151649,4149444226,3174756917,718787259,3951481745]
def Mo:List bY:=[1116352408,1899447441,3049323471,3921009573,961987163,1508970993,2453635748,2870763221,3624381080,310598401,607225278,1426881987,1925078388,2162078206,2614888103,3248222580,3835390401,4022224774,264347078,604807628,770255983,1249150122,1555081692,1996064986,2554220882,2821834349,2952996808,3210313671,3336571891,3584528711,113926993,338241895,666307205,773529912,1294757372,1396182291,1695183700,1986661051,2177026350,2456956037,2730485921,2820302411,3259730800,3345764771,3516065817,3600352804,4094571909,275423344,430227734,506948616,659060556,883997877,958139571,1322822218,1537002063,1747873779,1955562222,2024104815,2227730452,2361852424,2428436474,2756734187,3204031479,3329325298]
def Jm (i:Nat):bY:=Mn.getD i 0
def KX (i:Nat):bY:=Mo.getD i 0
def pn (i:Nat):Nat:=[7,12,17,22,5,9,14,20,4,11,16,23,6,10,15,21].getD (4*(i / 16)+i % 4) 1
def C9 (q:Nat)(b c d:bY):bY:=if q=0 then b &&& c ||| ~~~b &&& d else if q=1 then d &&& b ||| ~~~d &&& c else if q=2 then b ^^^ c ^^^ d else c ^^^ (b ||| ~~~d)
def Ga (q i:Nat):Nat:=if q=0 then i else if q=1 then (5*i+1) % 16 else if q=2 then (3*i+5) % 16 else 7*i % 16
structure S4 where
 a:bY
 b:bY
 c:bY
 d:bY
def Ce (w:List bY)(i:Nat)(s:S4):S4:=⟨s.d,s.b+rl (pn i) (s.a+C9 (i / 16) s.b s.c s.d+Jm i+w.getD (Ga (i / 16) i) 0),s.b,s.c⟩
def ju (w:List bY)(s:S4):Nat→S4
 | 0=>s
 | n+1=>Ce w n (ju w s n)
structure S5 where
 a:bY
 b:bY
 c:bY
 d:bY
 e:bY
def ut (q:Nat)(b c d:bY):bY:=if q=0 then b &&& c ||| ~~~b &&& d else if q=1 then b ^^^ c ^^^ d else if q=2 then b &&& c ||| b &&& d ||| c &&& d else b ^^^ c ^^^ d
def lX (q:Nat):bY:=if q=0 then 0x5a827999 else if q=1 then 0x6ed9eba1 else if q=2 then 0x8f1bbcdc else 0xca62c1d6
def Gb (l:List bY)(i:Nat):bY:=rl 1 (l.getD (i-3) 0 ^^^ l.getD (i-8) 0 ^^^ l.getD (i-14) 0 ^^^ l.getD (i-16) 0)
def po (w:List bY):Nat→List bY
 | 0=>w
 | n+1=>po w n++[Gb (po w n) (16+n)]
def xq (l:List bY)(i:Nat)(s:S5):S5:=⟨rl 5 s.a+ut (i / 20) s.b s.c s.d+s.e+lX (i / 20)+l.getD i 0,s.a,rl 30 s.b,s.c,s.d⟩
def kh (l:List bY)(s:S5):Nat→S5
 | 0=>s
 | n+1=>xq l n (kh l s n)
structure S8 where
 a:bY
 b:bY
 c:bY
 d:bY
 e:bY
 f:bY
 g:bY
 h:bY
def Kv (x:bY):bY:=rr 7 x ^^^ rr 18 x ^^^ x >>> 3
def Kx (x:bY):bY:=rr 17 x ^^^ rr 19 x ^^^ x >>> 10
def KY (l:List bY)(i:Nat):bY:=l.getD (i-16) 0+Kv (l.getD (i-15) 0)+l.getD (i-7) 0+Kx (l.getD (i-2) 0)
def xt (w:List bY):Nat→List bY
 | 0=>w
 | n+1=>xt w n++[KY (xt w n) (16+n)]
def vG (l:List bY)(i:Nat)(s:S8):bY:=s.h+(rr 6 s.e ^^^ rr 11 s.e ^^^ rr 25 s.e)+(s.e &&& s.f ^^^ ~~~s.e &&& s.g)+KX i+l.getD i 0
def zI (s:S8):bY:=(rr 2 s.a ^^^ rr 13 s.a ^^^ rr 22 s.a)+(s.a &&& s.b ^^^ s.a &&& s.c ^^^ s.b &&& s.c)
def Cf (l:List bY)(i:Nat)(s:S8):S8:=⟨vG l i s+zI s,s.a,s.b,s.c,s.d+vG l i s,s.e,s.f,s.g⟩
def oA (l:List bY)(s:S8):Nat→S8
 | 0=>s
 | n+1=>Cf l n (oA l s n)
theorem Gc:∀ i:Nat,i<64→0<pn i∧pn i<32:=by decide
theorem Jn (i:Nat)(hi:i<64):Ga (i / 16) i<16:=by
 unfold Ga
 split
 ·omega
 ·split
  ·omega
  ·split<;>omega
section
open Go.RowKit
structure am where
 path:BA
 kind:Int
 mode:Int
 uid:Int
 gid:Int
 owner:BA
 group:BA
 mtime:Int
 link:BA
 da:OA
 dc:Nat
 data:LU
def am.cells (x:am):LV:=[.string x.path,.int .i64 x.kind,.int .i64 x.mode,.int .i64 x.uid,.int .i64 x.gid,.string x.owner,.string x.group,.int .i64 x.mtime,.string x.link,.slice x.da x.data.length x.dc]
def am.val (x:am):Value:=.agg #[.string x.path,.int .i64 x.kind,.int .i64 x.mode,.int .i64 x.uid,.int .i64 x.gid,.string x.owner,.string x.group,.int .i64 x.mtime,.string x.link,.slice x.da x.data.length x.dc]
theorem bP (x:am):x.cells.length=10:=rfl
structure fL (w:World) (A:OA) (l:List am):Prop where
 row:Rd w 10 A l.length (l.flatMap am.cells)
 all:∀ x∈l,Rd w 1 x.da x.data.length (x.data.map vb)
theorem fL.below {w w':World}{A:OA}{l:List am}(h:fL w A l)(hb:Below w.heap.size w w'):fL w' A l:=⟨h.1.below hb,fun x hx=>(h.2 x hx).below hb⟩
structure am.small (x:am):Prop where
 path:x.path.size≤1000000
 owner:x.owner.size≤1000000
 group:x.group.size≤1000000
 link:x.link.size≤1000000
 data:x.data.length≤1000000
 cap:x.data.length≤x.dc
 capM:x.dc≤9223372036854775807
def oB (s:BA):Bool:=decide (s.size≤31) && !Lib.containsAny (bl s) [0,10,58]
def lY (s:BA):Bool:=decide (1≤s.size)&&decide (s.size≤200) && !Lib.containsAny (bl s) [0,10]
def mC (x:am):Bool:=decide (x.mode<0)||decide (4095<x.mode)||decide (x.uid<0)||decide (2097151<x.uid)||decide (x.gid<0)||decide (2097151<x.gid)||decide (x.mtime<0)||decide (8589934591<x.mtime)
def df (x:am):Int:=
 if eh (bl x.path)=false then 10 else if x.kind<1∨4<x.kind then 9 else if mC x=true then 1 else if oB x.owner=false∨oB x.group=false then 10
 else if x.kind=3∧lY x.link=false then 10 else if x.kind=4∧(eh (bl x.link)=false∨x.link=x.path) then 10
 else if x.kind≠3∧x.kind≠4∧x.link.size≠0 then 1 else if x.kind≠1∧0<x.data.length then 1 else if 1048576<x.data.length then 4 else 0
def jF (s:BA):Nat→List BA
 | 0=>[]
 | k+1=>if (bl s)[k]?=some 47 then jF s k++[s.extract 0 k] else jF s k
def be (s:BA):List BA:=jF s s.size
theorem qG (s:BA):∀ k,(jF s k).length≤k
 | 0=>Nat.le_refl _
 | k+1=>by
  have:=qG s k
  unfold jF;split
  ·rw[List.length_append];simp;exact this
  ·omega
theorem oC (s:BA):∀ k,∀ x∈jF s k,x.size≤s.size
 | 0,x,h=>by simp[jF] at h
 | k+1,x,h=>by
  unfold jF at h
  split at h
  ·rcases List.mem_append.1 h with h | h
   ·exact oC s k x h
   ·rw[List.mem_singleton.1 h,ByteArray.size_extract];omega
  ·exact oC s k x h
theorem Gd {s:BA}{k:Nat}(hk:k<s.size)(h:s[k]=47):jF s (k+1)=jF s k++[s.extract 0 k]:=by
 rw[jF,if_pos (by rw[dD s k hk,h])]
theorem Da {s:BA}{k:Nat}(hk:k<s.size)(h:¬ s[k]=47):jF s (k+1)=jF s k:=by
 rw[jF,if_neg (by rw[dD s k hk];intro e;injection e with e;exact h e)]
theorem qH (s:BA):(be s).length≤s.size:=qG s _
theorem pp {s x:BA}(h:x∈be s):x.size≤s.size:=oC s _ x h
def nh (ps:List BA)(s:BA):Bool:=ps.any fun t=>decide (t=s)
theorem qI {ps:List BA}{s:BA}:nh ps s=true↔s∈ps:=by
 unfold nh;rw[List.any_eq_true]
 exact⟨fun ⟨t,ht,he⟩=>by rw[←dO he];exact ht,fun h=>⟨s,h,dT rfl⟩⟩
theorem pq (ps qs:List BA)(s:BA):nh (ps++qs) s=(nh ps s||nh qs s):=by unfold nh;rw[List.any_append]
theorem xu (t s:BA):nh [t] s=decide (t=s):=by simp[nh]
def Ge (x y:am):Bool:=(x.mode==y.mode)&&((x.uid==y.uid)&&((x.gid==y.gid)&&((x.owner.toList==y.owner.toList)&&((x.group.toList==y.group.toList)&&(x.mtime==y.mtime)))))
def dm (l:List am)(s:BA):Option am:=l.find? fun y=>decide (y.path=s)
def fv (pre:List am)(x:am):Int:=match dm pre x.link with
 | none=>15
 | some y=>if y.kind≠1 then 15 else if Ge x y=false then 1 else 0
def kI (pre:List am)(x:am):Int:=
 if df x≠0 then df x else if (dm pre x.path).isSome then 8 else if x.kind=4∧fv pre x≠0 then fv pre x
 else if (be x.path).any (fun s=>(dm pre s).any fun y=>decide (y.kind≠2)) then 9
 else if x.kind≠2∧pre.any (fun y=>nh (be y.path) x.path) then 9 else 0
def it:List am→List am→Nat×Int
 | _,[]=>(0,0)
 | pre,x::r=>if kI pre x=0 then it (pre++[x]) r else (pre.length,kI pre x)
theorem Db {l:List am}{k:Nat}{x:am}(h:l[k]?=some x)(h0:it [] l=it (l.take k) (l.drop k))(he:kI (l.take k) x=0):it [] l=it (l.take (k+1)) (l.drop (k+1)):=by
 obtain⟨hk,hf⟩:=gS h
 rw[h0,List.drop_eq_getElem_cons hk,hf,it,if_pos he,tS hk,hf]
theorem Gf {l:List am}{k:Nat}{x:am}(h:l[k]?=some x)(h0:it [] l=it (l.take k) (l.drop k))(he:kI (l.take k) x≠0):it [] l=(k,kI (l.take k) x):=by
 obtain⟨hk,hf⟩:=gS h
 rw[h0,List.drop_eq_getElem_cons hk,hf,it,if_neg he,List.length_take]
 congr 1;omega
theorem Gg {l:List am}{k:Nat}(hk:l.length≤k)(h0:it [] l=it (l.take k) (l.drop k)):it [] l=(0,0):=by
 rw[h0,List.drop_of_length_le hk];rfl
def pt (l:List am):Nat×Int:=if 4096<l.length then (4096,4) else it [] l
end
section
open Go.RowKit Go.Maps
def cL:List am→BA→Option Nat
 | [],_=>none
 | x::r,s=>if x.path=s then some 0 else (cL r s).map (· + 1)
theorem iK:∀ (l:List am)(s:BA),(cL l s=none∧dm l s=none)∨∃ i y,cL l s=some i∧l[i]?=some y∧dm l s=some y∧y.path=s
 | [],s=>.inl ⟨rfl,rfl⟩
 | x::r,s=>by
  by_cases h:x.path=s
  ·exact .inr ⟨0,x,by rw[cL,if_pos h],rfl,by unfold dm;rw[List.find?_cons_of_pos (by simpa using h)],h⟩
  ·have hf:dm (x::r) s=dm r s:=by unfold dm;rw[List.find?_cons_of_neg (by simpa using h)]
   rcases iK r s with⟨h1,h2⟩ | ⟨i,y,h1,h2,h3,h4⟩
   ·exact .inl ⟨by rw[cL,if_neg h,h1];rfl,by rw[hf];exact h2⟩
   ·exact .inr ⟨i+1,y,by rw[cL,if_neg h,h1];rfl,by simpa using h2,by rw[hf];exact h3,h4⟩
theorem re:∀ (l:List am)(x:am)(s:BA),cL l x.path=none→cL (l++[x]) s=if s=x.path then some l.length else cL l s
 | [],x,s,_=>by
  simp only[List.nil_append,cL,List.length_nil,Option.map_none]
  by_cases h:s=x.path
  ·rw[if_pos h,if_pos h.symm]
  ·rw[if_neg h,if_neg (fun e=>h e.symm)]
 | y::r,x,s,hn=>by
  have hy:¬ y.path=x.path:=fun e=>by rw[cL,if_pos e] at hn;cases hn
  have hr:cL r x.path=none:=by
   rw[cL,if_neg hy] at hn
   cases h:cL r x.path with
   | none=>rfl
   | some i=>rw[h] at hn;cases hn
  rw[List.cons_append,cL,cL,re r x s hr]
  by_cases h:s=x.path
  ·rw[if_pos h,if_neg (fun e=>hy (e.trans h)),if_pos h];rfl
  ·rw[if_neg h,if_neg h]
def Lh (l:List am)(s:BA):Option Value:=(cL l s).map fun i=>.int .i64 i
theorem Gx {l:List am}{x:am}(h:cL l x.path=none):Lh (l++[x])=fun s=>if s=x.path then some (.int .i64 l.length) else Lh l s:=by
 funext s
 unfold Lh
 rw[re l x s h]
 by_cases e:s=x.path
 ·rw[if_pos e,if_pos e];rfl
 ·rw[if_neg e,if_neg e]
def kQ (l:List am)(s:BA):Bool:=l.any fun y=>nh (be y.path) s
structure ti (w:World) (m n:Nat) (l:List am) (ps:List BA):Prop where
 ex:∃ g,aZ w m n g∧∀ s,(g s).isSome=(kQ l s||nh ps s)
theorem ti.below {w w':World}{m n:Nat}{l:List am}{ps:List BA}(h:ti w m n l ps)(hb:Below w.heap.size w w'):ti w' m n l ps:=by
 obtain⟨g,h1,h2⟩:=h.ex
 exact⟨g,h1.below hb,h2⟩
theorem ti.kept {w w':World}{m n:Nat}{l:List am}{ps:List BA}{row:Option Nat}(h:ti w m n l ps)(hg:w.grownBy w' row)(hne:some m≠row):ti w' m n l ps:=by
 obtain⟨g,h1,h2⟩:=h.ex
 exact⟨g,h1.kept hg hne,h2⟩
theorem ti.lt {w:World}{m n:Nat}{l:List am}{ps:List BA}(h:ti w m n l ps):m<w.heap.size:=by
 obtain⟨g,h1,_⟩:=h.ex;exact h1.lt
theorem ti.made (w:World):ti (w.alloc (.map #[] 0)) w.heap.size 0 [] []:=⟨_,aZ.made w,fun s=>rfl⟩
theorem ti.next {w:World}{m n:Nat}{l:List am}{x:am}(h:ti w m n l (be x.path)):ti w m n (l++[x]) []:=by
 obtain⟨g,h1,h2⟩:=h.ex
 refine⟨g,h1,fun s=>?_⟩
 rw[h2];simp[kQ,nh]
theorem ti.put {w:World}{m n:Nat}{l:List am}{ps:List BA}(h:ti w m n l ps){t e:TypeId}(ht:Tryz.prog.underlying t=some (.map 9 e))(hn:n<maxLen)(s:BA)(hs:s.size≤maxLen)(v:Value):
  ∃ w',(Instr.mapUpdate t (.map (some m)) (.string s) v).run Tryz.prog w=.ok () w'∧ti w' m (n+1) l (ps++[s])∧w.grownBy w' (some m):=by
 obtain⟨g,h1,h2⟩:=h.ex
 obtain⟨w',hr,hm,hg⟩:=h1.put ht hn s hs v
 refine⟨w',hr,⟨_,hm,fun x=>?_⟩,hg⟩
 by_cases e:x=s
 ·subst e;rw[pq,xu];simp
 ·simp only[if_neg e]
  rw[h2,pq,xu,dF (fun h=>e h.symm),Bool.or_false]
theorem ti.look {w:World}{m n:Nat}{l:List am}{ps:List BA}(h:ti w m n l ps){t e:TypeId}(ht:Tryz.prog.underlying t=some (.map 9 e)){z:Value}(hz:∀ w,(zeroValue e).run Tryz.prog w=.ok z w)(s:BA)(hs:s.size≤maxLen):
  ∃ v,∀ k,(Instr.lookup t (.map (some m)) (.string s) true).run Tryz.prog (w.drewN k)=.ok (.tuple #[v,.bool (kQ l s||nh ps s)]) (w.drewN k):=by
 obtain⟨g,h1,h2⟩:=h.ex
 refine⟨(g s).getD z,fun k=>?_⟩
 rw[←h2]
 exact(h1.below (show Below w.heap.size w (w.drewN k) from⟨rfl,rfl,rfl,lr,fun _ _=>rfl⟩)).look_ok ht hz s hs
structure iL (w:World) (c m1 m2 n2:Nat) (v:Value) (l:List am) (ps:List BA):Prop where
 blk:av w c [v,.map (some m1),.map (some m2)]
 one:aZ w m1 l.length (Lh l)
 two:ti w m2 n2 l ps
theorem iL.below {w w':World}{c m1 m2 n2:Nat}{v:Value}{l:List am}{ps:List BA}(h:iL w c m1 m2 n2 v l ps)(hb:Below w.heap.size w w'):iL w' c m1 m2 n2 v l ps:=⟨h.blk.below hb,h.one.below hb,h.two.below hb⟩
theorem iL.drewN {w:World}{c m1 m2 n2:Nat}{v:Value}{l:List am}{ps:List BA}(h:iL w c m1 m2 n2 v l ps)(k:Nat):iL (w.drewN k) c m1 m2 n2 v l ps:=h.below ⟨rfl,rfl,rfl,lr,fun _ _=>rfl⟩
theorem rf (w:World):(zeroValue 3).run Tryz.prog w=.ok (.int .i64 0) w:=by kernel_rfl
theorem iL.look1 {w:World}{c m1 m2 n2:Nat}{v:Value}{l:List am}{ps:List BA}(h:iL w c m1 m2 n2 v l ps)(s:BA)(hs:s.size≤maxLen)(k:Nat):
  (Instr.lookup 104 (.map (some m1)) (.string s) true).run Tryz.prog (w.drewN k)=.ok (.tuple #[.int .i64 ((cL l s).getD 0:Nat),.bool (cL l s).isSome]) (w.drewN k):=by
 have h1:=(h.drewN k).one.look_ok Tryz.underlying104 rf s hs
 rw[h1]
 unfold Lh
 cases cL l s<;>rfl
theorem iL.look2 {w:World}{c m1 m2 n2:Nat}{v:Value}{l:List am}(h:iL w c m1 m2 n2 v l [])(s:BA)(hs:s.size≤maxLen):
  ∃ z,∀ k,(Instr.lookup 104 (.map (some m2)) (.string s) true).run Tryz.prog (w.drewN k)=.ok (.tuple #[z,.bool (kQ l s)]) (w.drewN k):=by
 obtain⟨z,hz⟩:=h.two.look Tryz.underlying104 rf s hs
 refine⟨z,fun k=>?_⟩
 rw[hz k];simp[nh]
structure am.fits (x:am):Prop where
 path:x.path.size≤9223372036854775807
 owner:x.owner.size≤9223372036854775807
 group:x.group.size≤9223372036854775807
 link:x.link.size≤9223372036854775807
 data:x.data.length≤9223372036854775807
structure am.lite (x:am):Prop where
 path:x.path.size≤5000
 owner:x.owner.size≤5000
 group:x.group.size≤5000
 link:x.link.size≤5000
 data:x.data.length≤5000
def Ms (a:Int):Int:=if 5001<a then 5001 else a
theorem Li (ats:Array TypeId)(ty:TypeId)(a:Int)(w:World):(Builtin.min_ ats ty #[.int .i64 a,.int .i64 5001]).run Tryz.prog w=.ok (.int .i64 (Ms a)) w:=rfl
theorem rg (n:Nat):0≤Ms n∧Ms n≤5001∧(Ms n≤5000→n≤5000):=by unfold Ms;split<;>omega
theorem rh {α:Type}{l:List α}{k:Nat}{x:α}(h:l[k]?=some x):l.take (k+1)=l.take k++[x]:=by
 obtain⟨hk,hx⟩:=gS h
 rw[tS hk,hx]
def Lj (l:List am)(w:World)(e:Ending)(w':World):Prop:=(∃ b:Bool,e=.returned (.bool b)∧(b=true→l.length≤30∧∀ x∈l,x.lite))∧Below w.heap.size w w'
theorem Dq (A:OA)(c:Nat)(l:List am)(w:World)(hE:fL w A l)(hn:l.length≤9223372036854775807)(hf:∀ x∈l,x.fits):
  Calls Tryz.prog 18 #[.slice A l.length c,.int .i64 30,.int .i64 5000] w (Lj l w):=by
 have HE:=ae hE
 have HF:=ae hf
 clear hE hf
 have hm:=fun ats ty a w=>Li ats ty a w
 go_enter Tryz.func18,Tryz.ntmps18
 by_cases hl:l.length≤30
 case neg=>
  have q:(30:Int)<(l.length:Int):=by omega
  go_wp2_with fail
  go_ret
  exact⟨⟨false,rfl,fun h=>by cases h⟩,bR⟩
 go_wp2_with fail
 go_loopw [7,8] (fun s i wr=>∃ (k:Nat) (n:Int),k≤l.length∧s=.int .i64 n∧i=.int .i64 k∧0≤n∧n≤30005∧Hid (n≤5000→∀ x∈l.take k,x.lite)∧Hid (Below w.heap.size w wr)) (fun _ i _=>l.length-(intOf i).toNat)
 case atStart=>exact⟨0,0,z0,rfl,rfl,by omega,by omega,(fun _ x hx=>by simp at hx),bR⟩
 case round=>
  obtain⟨k,n,hk,rfl,rfl,hn0,hn1,U,B⟩:=hrel
  by_cases hlt:k<l.length
  ·by_cases hle:n≤5000
   ·obtain⟨x,hx⟩:∃ x,l[k]?=some x:=⟨_,gG hlt⟩
    obtain⟨b,off,hA,hel⟩:=((HE.out.below B.out).row).elem bP k x hx
    have hix:=fun W=>aH (T:=28) (E:=35) (sz:=10) (c:=c) Tryz.underlying28 rfl Tryz.sizeOf35 hA hlt W
    have e0:=hel 0 _ rfl
    have e5:=hel 5 _ rfl
    have e6:=hel 6 _ rfl
    have e8:=hel 8 _ rfl
    have e9:=hel 9 _ rfl
    simp only[Nat.add_zero] at e0
    have fx:=HF.out x (gM hx)
    have f0:=fx.path
    have f5:=fx.owner
    have f6:=fx.group
    have f8:=fx.link
    have f9:=fx.data
    obtain⟨a0,a1,A2⟩:=rg x.path.size
    obtain⟨b0,b1,B2⟩:=rg x.link.size
    obtain⟨c0,c1,C2⟩:=rg x.owner.size
    obtain⟨d0,d1,D2⟩:=rg x.group.size
    obtain⟨g0,g1,G2⟩:=rg x.data.length
    have HX:=ae hx
    clear hx hA hel fx
    have A3:=ae A2
    have B3:=ae B2
    have C3:=ae C2
    have D3:=ae D2
    have G3:=ae G2
    clear A2 B2 C2 D2 G2
    go_wp2_with fail
    go_quiet (fail)
    go_wp2_with fail
    go_roundw
    case rel=>
     refine⟨k+1,_,by omega,rfl,by go_num,by omega,by omega,fun h y hy=>?_,aq B.out _⟩
     rw[rh HX.out] at hy
     rcases List.mem_append.1 hy with hy | hy
     ·exact U.out (by omega) y hy
     ·rw[List.mem_singleton.1 hy]
      exact⟨A3.out (by omega),C3.out (by omega),D3.out (by omega),B3.out (by omega),G3.out (by omega)⟩
    case measure=>simp[intOf];omega
   ·have q:(5000:Int)<n:=by omega
    go_wp2_with fail
    go_ret
    exact⟨⟨false,rfl,fun h=>by cases h⟩,B.out⟩
  ·have hkl:k=l.length:=by omega
   subst hkl
   obtain⟨bb,hbb⟩:∃ bb,decide (n≤5000)=bb:=⟨_,rfl⟩
   have U2:Hid (bb=true→∀ x∈l,x.lite):=fun h=>by have:=U.out (dO (hbb.trans h));rwa [List.take_length] at this
   have HL:=ae hl
   have HB:=ae hbb
   go_wp2_with fail
   go_ret
   exact⟨⟨_,rfl,fun h=>⟨HL.out,U2.out h⟩⟩,B.out⟩
end
def dg (n j:Nat):UInt8:=UInt8.ofNat (n / 256 ^ j)
def Bl (n k:Nat):LU:=(List.range k).map (dg n)
def EZ (n k:Nat):LU:=(Bl n k).reverse
theorem lN (n k:Nat):(Bl n k).length=k:=by simp[Bl]
theorem qy (n k:Nat):(EZ n k).length=k:=by simp[EZ,lN]
theorem zb (n k:Nat):Bl n (k+1)=Bl n k++[dg n k]:=by simp[Bl,List.range_succ]
theorem Ia (n k:Nat):EZ n (k+1)=dg n k::EZ n k:=by simp[EZ,zb]
def vl (l:LU):Nat:=l.foldl (fun n c=>n*256+c.toNat) 0
def FU (l:LU):Nat:=vl l.reverse
theorem Ib (l:LU)(c:UInt8):vl (l++[c])=vl l*256+c.toNat:=by simp[vl]
theorem zc (c:UInt8)(l:LU):vl (c::l)=c.toNat*256 ^ l.length+vl l:=by
 have h:∀ (l:LU)(n:Nat),l.foldl (fun n c=>n*256+c.toNat) n=n*256 ^ l.length+vl l:=by
  intro l
  induction l with
  | nil=>intro n;simp[vl]
  | cons a r ih=>
   intro n
   unfold vl
   rw[List.foldl_cons,List.foldl_cons,ih,ih,List.length_cons,Nat.pow_succ,Nat.zero_mul,Nat.zero_add]
   have:(n*256+a.toNat)*256 ^ r.length=n*(256 ^ r.length*256)+a.toNat*256 ^ r.length:=by rw[Nat.add_mul,Nat.mul_assoc,Nat.mul_comm 256]
   omega
 show(c::l).foldl _ 0=_
 rw[List.foldl_cons,h]
 simp
theorem Ic (l:LU)(c:UInt8):FU (l++[c])=FU l+c.toNat*256 ^ l.length:=by
 unfold FU
 rw[List.reverse_append]
 show vl (c::l.reverse)=_
 rw[zc,List.length_reverse]
 omega
theorem Bm (l:LU):vl l<256 ^ l.length:=by
 induction l with
 | nil=>simp[vl]
 | cons c r ih=>
  rw[zc,List.length_cons,Nat.pow_succ]
  have:=c.toNat_lt
  have h2:c.toNat*256 ^ r.length≤255*256 ^ r.length:=Nat.mul_le_mul_right _ (by omega)
  omega
theorem Bn (l:LU):FU l<256 ^ l.length:=by have:=Bm l.reverse;rwa [List.length_reverse] at this
def Bo (low:Bool)(blk:LU)(i:Nat):bY:=BitVec.ofNat 32 (if low then FU ((blk.drop (4*i)).take 4) else vl ((blk.drop (4*i)).take 4))
def qz (low:Bool)(blk:LU):List bY:=(List.range 16).map (Bo low blk)
def sK (ws st:List bY):List bY:=
 [(ju ws ⟨st.getD 0 0,st.getD 1 0,st.getD 2 0,st.getD 3 0⟩ 64).a,(ju ws ⟨st.getD 0 0,st.getD 1 0,st.getD 2 0,st.getD 3 0⟩ 64).b,(ju ws ⟨st.getD 0 0,st.getD 1 0,st.getD 2 0,st.getD 3 0⟩ 64).c,(ju ws ⟨st.getD 0 0,st.getD 1 0,st.getD 2 0,st.getD 3 0⟩ 64).d]++st.drop 4
def og (ws st:List bY):S5:=kh (po ws 64) ⟨st.getD 0 0,st.getD 1 0,st.getD 2 0,st.getD 3 0,st.getD 4 0⟩ 80
def pc (ws st:List bY):List bY:=[(og ws st).a,(og ws st).b,(og ws st).c,(og ws st).d,(og ws st).e]++st.drop 5
def ll (ws st:List bY):S8:=oA (xt ws 48) ⟨st.getD 0 0,st.getD 1 0,st.getD 2 0,st.getD 3 0,st.getD 4 0,st.getD 5 0,st.getD 6 0,st.getD 7 0⟩ 64
def sL (ws st:List bY):List bY:=[(ll ws st).a,(ll ws st).b,(ll ws st).c,(ll ws st).d,(ll ws st).e,(ll ws st).f,(ll ws st).g,(ll ws st).h]++st.drop 8
def lm (kd:Nat)(ws st:List bY):List bY:=if kd=1 then sK ws st else if kd=2 then pc ws st else sL ws st
def fZ (kd:Nat)(st:List bY)(blk:LU):List bY:=List.zipWith (· + ·) (lm kd (qz (kd==1) blk) st) st
def CE (kd:Nat):List bY:=
 if kd=1 then [0x67452301,0xefcdab89,0x98badcfe,0x10325476,0,0,0,0]
 else if kd=2 then [0x67452301,0xefcdab89,0x98badcfe,0x10325476,0xc3d2e1f0,0,0,0]
 else [0x6a09e667,0xbb67ae85,0x3c6ef372,0xa54ff53a,0x510e527f,0x9b05688c,0x1f83d9ab,0x5be0cd19]
def zd (m:LU)(i:Nat):LU:=(m.drop (64*i)).take 64
def KJ (kd:Nat)(m:LU):Nat→List bY
 | 0=>CE kd
 | n+1=>fZ kd (KJ kd m n) (zd m n)
def cF (kd:Nat)(m:LU):List bY:=KJ kd m (m.length / 64)
def jD (m:LU):Nat:=(119-m.length % 64) % 64
def kF (kd:Nat)(n k:Nat):LU:=if kd=1 then Bl n k else EZ n k
def mT (kd:Nat)(m:LU):LU:=m++[128]++List.replicate (jD m) 0++kF kd (8*m.length) 8
def jc (kd:Nat):Nat:=if kd=1 then 4 else if kd=2 then 5 else 8
def fh (kd:Nat)(m:LU):LU:=((cF kd (mT kd m)).take (jc kd)).flatMap fun x=>kF kd x.toNat 4
theorem wL (ws:List bY){st:List bY}(h:st.length=8):(sK ws st).length=8:=by simp[sK,h]
theorem ui (ws:List bY){st:List bY}(h:st.length=8):(pc ws st).length=8:=by simp[pc,h]
theorem wM (ws:List bY){st:List bY}(h:st.length=8):(sL ws st).length=8:=by simp[sL,h]
theorem sM (kd:Nat)(ws:List bY){st:List bY}(h:st.length=8):(lm kd ws st).length=8:=by
 unfold lm
 split
 ·exact wL ws h
 ·split
  ·exact ui ws h
  ·exact wM ws h
theorem wN (kd:Nat){st:List bY}(blk:LU)(h:st.length=8):(fZ kd st blk).length=8:=by simp[fZ,sM,h]
theorem E8 (kd:Nat):(CE kd).length=8:=by unfold CE;split;rfl;split<;>rfl
theorem CG (kd:Nat)(m:LU):∀ n,(KJ kd m n).length=8
 | 0=>E8 kd
 | n+1=>wN kd _ (CG kd m n)
theorem gT (kd:Nat)(m:LU):(cF kd m).length=8:=CG kd m _
theorem wO {m r:LU}{i:Nat}(h:64*i+64≤m.length):zd (m++r) i=zd m i:=by
 unfold zd
 rw[List.drop_append_of_le_length (by omega),List.take_append_of_le_length (by simp;omega)]
theorem mU (kd:Nat){m r:LU}:∀ n,64*n≤m.length→KJ kd (m++r) n=KJ kd m n
 | 0,_=>rfl
 | n+1,h=>by rw[KJ,KJ,mU kd n (by omega),wO (by omega)]
theorem wP (kd:Nat){m r:LU}(h:m.length % 64+r.length<64):cF kd (m++r)=cF kd m:=by
 unfold cF
 rw[List.length_append,show(m.length+r.length) / 64=m.length / 64 by omega]
 exact mU kd _ (by omega)
theorem wQ (kd:Nat){m r:LU}(h:m.length % 64+r.length=64):cF kd (m++r)=fZ kd (cF kd m) (m.drop (m.length / 64*64)++r):=by
 unfold cF
 rw[List.length_append,show(m.length+r.length) / 64=m.length / 64+1 by omega,KJ,mU kd _ (by omega)]
 congr 1
 unfold zd
 rw[List.drop_append_of_le_length (by omega),Nat.mul_comm]
 exact tL (by simp;omega)
section
open Go.RowKit
theorem fD {a w:World}(h:∃ n,w=a.drewN n)(m:Nat):∃ n,w.drewN m=a.drewN n:=by
 obtain⟨n,rfl⟩:=h
 exact⟨n+m,World.drewN_drewN _ _ _⟩
theorem jq (b o j:Nat):(⟨b,o,none⟩:Addr).add j=⟨b,o+j,none⟩:=by unfold Addr.add;split<;>simp_all
theorem sN (b j:Nat):(⟨b,0,none⟩:Addr).add j=⟨b,j,none⟩:=by rw[jq,Nat.zero_add]
theorem av.setN {b:Nat}(post:LV):∀ (cs old pre:LV)(wr:World),cs.length=old.length→av wr b (pre++(old++post))→av (wr.setCells b pre.length cs) b (pre++(cs++post))
 | [],[],_,_,_,h=>h
 | c::cr,o::r,pre,wr,hl,h=>by
  have h1:=h.set pre.length (by simp) c
  rw[List.set_append_right _ _ lr,Nat.sub_self] at h1
  have h2:av (wr.setCell ⟨b,pre.length,none⟩ c) b ((pre++[c])++(r++post)):=by simpa using h1
  have h3:=av.setN post cr r (pre++[c]) _ (by simpa using hl) h2
  rw[World.setCells]
  simpa using h3
 | [],_::_,_,_,hl,_=>by simp at hl
 | _::_,[],_,_,hl,_=>by simp at hl
theorem dV {g:Nat}:∀ (cs:LV)(o:Nat)(a w:World),a.grownBy w (some g)→a.grownBy (w.setCells g o cs) (some g)
 | [],_,_,_,h=>h
 | c::r,o,a,w,h=>dV r (o+1) a _ (an h (p:=⟨g,o,none⟩) (.inl rfl) c)
theorem iA {w:World}{b sl sc dl dc n:Nat}{pre old post:LV}(hb:av w b (pre++(old++post))){T T2 e:TypeId}(ty:TypeId)(hu:Tryz.prog.underlying T=some (.slice e))(hs:(Tryz.prog.info? e).map (·.size)=some 1){off:Nat}(hoff:off=pre.length){a:Addr}(cs:LV)(hn:cs.length=Nat.min sl dl)(hl:cs.length=old.length)(hcn:cs.length=n)
  (hsrc:∀ j v,cs[j]?=some v→w.cell? (a.add j)=some v)(h1:∀ v∈cs,v.oneCell'=true):
  (Builtin.copy_ #[T,T2] ty #[.slice (some ⟨b,off,none⟩) dl dc,.slice (some a) sl sc]).run Tryz.prog w=.ok (.int .i64 n) (w.setCells b off cs):=by
 subst hoff hcn
 refine run_copy_cells w T T2 ty e b pre.length dl dc a sl sc cs hu hs hn hsrc (fun j hj=>?_) (fun j hj=>hb.free _ (by simp;omega)) h1
 have:(pre++(old++post))[pre.length+j]?=some (old[j]'(by omega)):=by
  rw[List.getElem?_append_right (by omega),Nat.add_sub_cancel_left,List.getElem?_append_left (by omega),gG (by omega)]
 rw[hb.cell _ _ this]
 rfl
theorem lp (w:World){ops:Array Oper}{rest:List Oper}{o:Oper}{a:Act}{Q:Exit→Act→World→Prop}(hgd:o.guard=none)(d s:Operand)(t t':TypeId)
  (ho:o.op=.call { callee:=.builtin .copy,args:=#[d,s],argTypes:=#[t,t'] })(v u:Value)(hd:a.eval d=v)(hs:a.eval s=u){v':Value}{w':World}
  (hr:∀ ty,(Builtin.copy_ #[t,t'] ty #[v,u]).run Tryz.prog w=.ok v' w')(h:wpList Tryz.prog ops Q rest (a.put o.dst v') w'):wpList Tryz.prog ops Q (o::rest) a w:=by
 refine wpList_plain hgd fun K hK=>?_
 unfold Oper.wp execOp
 simp only[ho,resolve,invoke,builtin,Sem.run_bind,Sem.run_pure,Result.andThen_ok,List.map_toArray,List.map_cons,List.map_nil,hd,hs,hr]
 exact hK _ _ h
theorem ky {ops:Array Oper}{o:Oper}{a:Act}{w:World}{K:Act→World→Prop}{Q:Exit→Act→World→Prop}{E:Prop}(hgd:o.guard=none)(d s:Operand)(t t':TypeId)
  (ho:o.op=.call { callee:=.builtin .copy,args:=#[d,s],argTypes:=#[t,t'] })(v u:Value)(hd:a.eval d=v)(hs:a.eval s=u){v':Value}{w':World}
  (hr:∀ ty,(Builtin.copy_ #[t,t'] ty #[v,u]).run Tryz.prog w=.ok v' w')(h:K (a.put o.dst v') w'):if Region.wanted o (yielded ops a.tmps)=true then Oper.wp Tryz.prog o a w K Q else E:=by
 have hw:Region.wanted o (yielded ops a.tmps)=true:=by simp[Region.wanted,hgd]
 rw[if_pos hw]
 unfold Oper.wp execOp
 simp only[ho,resolve,invoke,builtin,Sem.run_bind,Sem.run_pure,Result.andThen_ok,List.map_toArray,List.map_cons,List.map_nil,hd,hs,hr]
 exact h
theorem vn {T E:TypeId}{sz:Nat}(hT:Tryz.prog.underlying T=some (.slice (Tryz.prog.elem T)))(hE:Tryz.prog.elem T=E)(hs:∀ w,(sizeOf E).run Tryz.prog w=.ok sz w)
  {A:OA}{n c i j:Nat}(hij:i≤j)(hj:j≤c)(w:World):(Instr.slice T (.slice A n c) (some (.int .i64 i)) (some (.int .i64 j)) none).run Tryz.prog w=.ok (.slice (if c=i then A else A.map (·.add (i*sz))) (j-i) (c-i)) w:=by
 have hb:(Instr.sliceBounds true n c (some (.int .i64 i)) (some (.int .i64 j)) none).run Tryz.prog w=.ok (i,j,c) w:=by
  simp[Instr.sliceBounds,run_sliceBound (k:=.i64) (i:=(j:Int)) (y:=c) (h0:=by omega) (h1:=by omega),run_sliceBound (k:=.i64) (i:=(i:Int)) (y:=j) (h0:=by omega) (h1:=by omega)]
 simp only[Instr.slice,Sem.run_bind,run_underlying hT,Result.andThen_ok,hb,hE,hs,Sem.run_pure]
theorem JU {T E:TypeId}{sz:Nat}(hT:Tryz.prog.underlying T=some (.slice (Tryz.prog.elem T)))(hE:Tryz.prog.elem T=E)(hs:∀ w,(sizeOf E).run Tryz.prog w=.ok sz w)
  {A:OA}{n c k:Nat}(hk:k≤n)(w:World):(Instr.slice T (.slice A n c) (some (.int .i64 k)) none none).run Tryz.prog w=.ok (.slice (if c=k then A else A.map (·.add (k*sz))) (n-k) (c-k)) w:=by
 have hb:(Instr.sliceBounds true n c (some (.int .i64 k)) none none).run Tryz.prog w=.ok (k,n,c) w:=by
  simp[Instr.sliceBounds,run_sliceBound (k:=.i64) (i:=(k:Int)) (y:=n) (h0:=by omega) (h1:=by omega)]
 simp only[Instr.slice,Sem.run_bind,run_underlying hT,Result.andThen_ok,hb,hE,hs,Sem.run_pure]
theorem Rd.cut {w:World}{A:OA}{n c i j:Nat}{xs:LV}(h:Rd w 1 A n xs)(hij:i≤j)(hj:j≤n)(hc:n≤c):Rd w 1 (if c=i then A else A.map (·.add (i*1))) (j-i) ((xs.drop i).take (j-i)):=by
 have hl:=h.1
 refine⟨by simp;omega,fun hp=>?_⟩
 obtain⟨b,off,rfl,hc2⟩:=h.2 (by omega)
 rw[if_neg (by omega)]
 refine⟨b,off+i,by simp[jq],fun k u hu=>?_⟩
 have hk:k<j-i:=by
  have:=(gS hu).1
  simp at this
  omega
 rw[List.getElem?_take_of_lt hk,List.getElem?_drop] at hu
 rw[Nat.add_assoc]
 exact hc2 _ u hu
theorem Ig {x c:Nat}(k:Nat)(hc:c<2 ^ k):x*2 ^ k ||| c=x*2 ^ k+c:=by
 rw[Nat.mul_comm]
 exact(Nat.two_pow_add_eq_or_of_lt hc x).symm
end
def il (m tl:LU):Prop:=tl.length=64∧tl.take (m.length % 64)=m.drop (m.length / 64*64)
def dK (m tl r:LU):LU:=tl.take (m.length % 64)++(r++tl.drop (m.length % 64+r.length))
theorem pG {m tl r:LU}(h:tl.length=64)(hr:m.length % 64+r.length≤64):(dK m tl r).length=64:=by
 simp[dK,h];omega
theorem il.zero {m tl:LU}(h:tl.length=64)(hm:m.length % 64=0):il m tl:=by
 refine⟨h,?_⟩
 rw[hm,List.take_zero,List.drop_eq_nil_of_le (by omega)]
theorem il.part {m tl r:LU}(h:il m tl)(hr:m.length % 64+r.length<64):il (m++r) (dK m tl r):=by
 obtain⟨h1,h2⟩:=h
 refine⟨pG h1 (by omega),?_⟩
 have e1:(m++r).length % 64=m.length % 64+r.length:=by rw[List.length_append];omega
 have e2:(m++r).length / 64=m.length / 64:=by rw[List.length_append];omega
 rw[e1,e2,List.drop_append_of_le_length (by omega),←h2]
 unfold dK
 rw[←List.append_assoc,List.take_append_of_le_length (by simp[h1];omega)]
 exact tL (by simp;omega)
theorem il.full {m tl r:LU}(h:il m tl)(hr:m.length % 64+r.length=64):dK m tl r=m.drop (m.length / 64*64)++r:=by
 obtain⟨h1,h2⟩:=h
 unfold dK
 rw[←h2,List.drop_eq_nil_of_le (by omega),List.append_nil]
theorem uj (kd:Nat){m tl r:LU}(h:il m tl)(hr:m.length % 64+r.length=64):cF kd (m++r)=fZ kd (cF kd m) (dK m tl r):=by
 rw[wQ kd hr,h.full hr]
theorem Fm {pre:List am}{x:am}(h:kI pre x=0):df x=0∧dm pre x.path=none∧(x.kind=4→fv pre x=0)∧(∀ s∈be x.path,∀ y,dm pre s=some y→y.kind=2)∧(x.kind≠2→∀ y∈pre,x.path ∉ be y.path):=by
 unfold kI at h
 split at h
 ·contradiction
 split at h
 ·simp at h
 split at h
 ·rename_i h3;exact absurd h h3.2
 split at h
 ·simp at h
 split at h
 ·simp at h
 ·rename_i h1 h2 h3 h4 h5
  refine⟨by simpa using h1,by simpa using h2,fun hk=>?_,fun s hs y hy=>?_,fun hk y hy hm=>?_⟩
  ·by_cases e:fv pre x=0
   ·exact e
   ·exact absurd ⟨hk,e⟩ h3
  ·by_cases e:y.kind=2
   ·exact e
   ·exact absurd (List.any_eq_true.2 ⟨s,hs,by rw[hy];simpa using e⟩) h4
  ·exact h5 ⟨hk,List.any_eq_true.2 ⟨y,hy,qI.2 hm⟩⟩
theorem LQ {pre:List am}{x:am}(h1:df x=0)(h2:dm pre x.path=none)(h3:x.kind=4→fv pre x=0)(h4:∀ s∈be x.path,∀ y,dm pre s=some y→y.kind=2)(h5:x.kind≠2→∀ y∈pre,x.path ∉ be y.path):kI pre x=0:=by
 unfold kI
 rw[if_neg (by simpa using h1),if_neg (by rw[h2];simp),if_neg (fun h=>h.2 (h3 h.1)),if_neg,if_neg]
 ·rintro⟨hk,ha⟩
  obtain⟨y,hy,hc⟩:=List.any_eq_true.1 ha
  exact h5 hk y hy (qI.1 hc)
 ·intro ha
  obtain⟨s,hs,hc⟩:=List.any_eq_true.1 ha
  cases hf:dm pre s with
  | none=>rw[hf] at hc;simp at hc
  | some y=>rw[hf] at hc;have:=h4 s hs y hf;simp[this] at hc
theorem Iu {pre:List am}{x y:am}(h1:dm pre x.link=some y)(h2:y.kind=1)(h3:Ge x y=true):fv pre x=0:=by
 unfold fv;rw[h1];simp[h2,h3]
section
open Go.RowKit
theorem fE {w:World}{base:Nat}{e:TypeId}{size n c:Nat}{A:OA}{xs:LV}(h:w.ownsRow base e size (.slice A n c) n xs)(hn:0<n):
  ∃ g,A=some ⟨g,0,none⟩∧base≤g∧g<w.heap.size∧(∀ j,j<n*size→∃ v,w.cell? ⟨g,j,none⟩=some v)∧∀ j,w.frozen? ⟨g,j,none⟩=false:=by
 obtain⟨g,cap,hv,hb,hlt⟩:=h.form hn
 obtain⟨rfl,rfl⟩:A=some ⟨g,0,none⟩∧c=cap:=by injection hv with h1 _ h2;exact⟨h1,h2⟩
 refine⟨g,rfl,hb,hlt,fun j hj=>?_,fun j=>h.frozenAt j⟩
 have hl:j<xs.length:=by rw[h.1];exact hj
 exact⟨xs[j],by rw[h.cellAt j hj,gG hl]⟩
theorem fP.base {q:bN}{w:World}{lo lo':Nat}(h:fP q w lo)(hb:lo'≤lo):fP q w lo':=⟨aN h.1 hb,aN h.2 hb,aN h.3 hb,aN h.4 hb,aN h.5 hb⟩
end
section
open Go.RowKit Go.Maps
def am.own (x:am)(w:World)(lo:Nat):Prop:=w.ownsRow lo 5 1 (.slice x.da x.data.length x.dc) x.data.length (x.data.map vb)
structure am.same (x y:am):Prop where
 path:x.path=y.path
 kind:x.kind=y.kind
 mode:x.mode=y.mode
 uid:x.uid=y.uid
 gid:x.gid=y.gid
 owner:x.owner=y.owner
 group:x.group=y.group
 mtime:x.mtime=y.mtime
 link:x.link=y.link
 data:x.data=y.data
theorem wW (x:am):∀ u∈x.cells,u.oneCell'=true:=by intro u hu;simp only[am.cells,List.mem_cons,List.not_mem_nil,or_false] at hu;rcases hu with rfl | rfl | rfl | rfl | rfl | rfl | rfl | rfl | rfl | rfl<;>rfl
theorem IE (l:LU):∀ u∈l.map vb,u.oneCell'=true:=by intro u hu;obtain⟨c,_,rfl⟩:=List.mem_map.1 hu;rfl
theorem zr:(Tryz.prog.info? 35).map (fun i=>(i.zero,i.size,i.bytes))=some (some (.agg #[.string ⟨#[]⟩,.int .i64 0,.int .i64 0,.int .i64 0,.int .i64 0,.string ⟨#[]⟩,.string ⟨#[]⟩,.int .i64 0,.string ⟨#[]⟩,.slice none 0 0]),10,128):=by kernel_rfl
theorem zt:(Tryz.prog.info? 5).map (fun i=>(i.zero,i.size,i.bytes))=some (some (.int .u8 0),1,1):=by kernel_rfl
theorem Fs:(Tryz.prog.info? 9).map (fun i=>(i.zero,i.size,i.bytes))=some (some (.string ⟨#[]⟩),1,16):=by kernel_rfl
theorem Ft (A:OA)(c:Nat)(l:List am)(w:World)(hr:Rd w 10 A l.length (l.flatMap am.cells))(hn:l.length≤100000):
  Calls Tryz.prog 112 #[.slice A l.length c] w (fy w 35 10 l.length (l.flatMap am.cells)):=by
 obtain⟨i0,hi0,hz0,hz1,hz2⟩:=info_parts zr
 have HR:=ae hr
 clear hr
 have q:∀ (w:World)(a:OA)(n c n' c':Nat),(binOp .eql 28 (.slice a n c) (.slice none n' c')).run Tryz.prog w=.ok (.bool a.isNone) w:=fun w a n c n' c'=>Lib.run_eql_slice_nil w _ _ a n c n' c' Tryz.underlying28
 cases A with
 | none=>
  have hl:l=[]:=by
   cases l with
   | nil=>rfl
   | cons a r=>obtain⟨_,_,h,_⟩:=HR.out.2 (by simp);cases h
  subst hl
  go_enter Tryz.func112,Tryz.ntmps112
  go_wp2_with fail
  go_ret
  exact⟨_,rfl,World.ownsRow_nil _ _ _ _,bR⟩
 | some a=>
  have RL:=ae ((HR.out.below (bR.alloc lr (.cells #[] 35))).reads (by decide))
  go_enter Tryz.func112,Tryz.ntmps112
  go_wp2_with (
   at_builtin
   refine au _ rfl _ _ 28 rfl w.heap.size 35 i0 _ 10 128 Tryz.underlying28 hi0 hz0 hz1 hz2 rfl (by omega) (.slice (some ⟨w.heap.size,0,none⟩) 0 0) 0 [] rfl (World.ownsRow_made w #[] 0 lr z0 rfl) _ (some a) l.length c _ rfl RL.out (kL wW l) (by simp only[maxLen];omega) (by omega) (by simp) ?_
   intro v1 w1 hown1 hg1 hat1)
  go_ret
  exact⟨v1,rfl,by simpa using hown1,((Below.refl _ w).alloc lr _).grown hg1 (by simp) (by intro k hk;simp[Value.ownBlock] at hk;omega)⟩
theorem vq (A:OA)(c:Nat)(l:List BA)(w:World)(hr:Rd w 1 A l.length (az l))(hn:l.length≤100000):
  Calls Tryz.prog 28 #[.slice A l.length c] w (fy w 9 1 l.length (az l)):=by
 obtain⟨i0,hi0,hz0,hz1,hz2⟩:=info_parts Fs
 have HR:=ae hr
 clear hr
 have q:∀ (w:World)(a:OA)(n c n' c':Nat),(binOp .eql 22 (.slice a n c) (.slice none n' c')).run Tryz.prog w=.ok (.bool a.isNone) w:=fun w a n c n' c'=>Lib.run_eql_slice_nil w _ _ a n c n' c' Tryz.underlying22
 cases A with
 | none=>
  have hl:l=[]:=by
   cases l with
   | nil=>rfl
   | cons a r=>obtain⟨_,_,h,_⟩:=HR.out.2 (by simp);cases h
  subst hl
  go_enter Tryz.func28,Tryz.ntmps28
  go_wp2_with fail
  go_ret
  exact⟨_,rfl,World.ownsRow_nil _ _ _ _,bR⟩
 | some a=>
  have RL:=ae ((HR.out.below (bR.alloc lr (.cells #[] 9))).reads (by decide))
  go_enter Tryz.func28,Tryz.ntmps28
  go_wp2_with (
   at_builtin
   refine au _ rfl _ _ 22 rfl w.heap.size 9 i0 _ 1 16 Tryz.underlying22 hi0 hz0 hz1 hz2 rfl (by omega) (.slice (some ⟨w.heap.size,0,none⟩) 0 0) 0 [] rfl (World.ownsRow_made w #[] 0 lr z0 rfl) _ (some a) l.length c _ rfl RL.out (vN l) (by simp only[maxLen];omega) (by omega) (by simp) ?_
   intro v1 w1 hown1 hg1 hat1)
  go_ret
  exact⟨v1,rfl,by simpa using hown1,((Below.refl _ w).alloc lr _).grown hg1 (by simp) (by intro k hk;simp[Value.ownBlock] at hk;omega)⟩
theorem pI (A:OA)(c n:Nat)(l:LU)(w:World)(hr:Rd w 1 A n (l.map vb))(hn:n≤10000000):
  Calls Tryz.prog 63 #[.slice A n c] w (fy w 5 1 n (l.map vb)):=by
 obtain⟨i0,hi0,hz0,hz1,hz2⟩:=info_parts zt
 have HR:=ae hr
 clear hr
 have q:∀ (w:World)(a:OA)(n c n' c':Nat),(binOp .eql 33 (.slice a n c) (.slice none n' c')).run Tryz.prog w=.ok (.bool a.isNone) w:=fun w a n c n' c'=>Lib.run_eql_slice_nil w _ _ a n c n' c' Tryz.underlying33
 cases A with
 | none=>
  obtain rfl:n=0:=by
   by_cases h:0<n
   ·obtain⟨_,_,h,_⟩:=HR.out.2 h;cases h
   ·omega
  have hl:l=[]:=by have:=HR.out.1;simp at this;exact this
  subst hl
  go_enter Tryz.func63,Tryz.ntmps63
  go_wp2_with fail
  go_ret
  exact⟨_,rfl,World.ownsRow_nil _ _ _ _,bR⟩
 | some a=>
  have RL:=ae ((HR.out.below (bR.alloc lr (.cells #[] 5))).reads (by decide))
  go_enter Tryz.func63,Tryz.ntmps63
  go_wp2_with (
   at_builtin
   refine au _ rfl _ _ 33 rfl w.heap.size 5 i0 _ 1 1 Tryz.underlying33 hi0 hz0 hz1 hz2 rfl (by omega) (.slice (some ⟨w.heap.size,0,none⟩) 0 0) 0 [] rfl (World.ownsRow_made w #[] 0 lr z0 rfl) _ (some a) n c _ rfl RL.out (IE l) (by simp only[maxLen];omega) (by omega) (by simp) ?_
   intro v1 w1 hown1 hg1 hat1)
  go_ret
  exact⟨v1,rfl,by simpa using hown1,((Below.refl _ w).alloc lr _).grown hg1 (by simp) (by intro k hk;simp[Value.ownBlock] at hk;omega)⟩
theorem vr {α:Type}{f:α→LV}{sz:Nat}(hf:∀ x,(f x).length=sz)(qs r:List α)(p p':α)(k j:Nat)(u:Value)(hk:qs.length=k)(hj:j<sz)(hp:(f p).set j u=f p'):((qs++p::r).flatMap f).set (k*sz+j) u=(qs++p'::r).flatMap f:=by
 have hl:(qs.flatMap f).length=k*sz:=by rw[cX hf,hk]
 rw[List.flatMap_append,List.flatMap_cons,List.set_append_right _ _ (by omega),hl,show k*sz+j-k*sz=j from by omega,List.set_append_left _ _ (by rw[hf];omega),hp,List.flatMap_append,List.flatMap_cons]
end
section
open Go.RowKit Go.Shelf Go.Lib Go.Sort
section
variable {α : Type} [Inhabited α]
theorem sX {enc:α→LV}{k:Nat}(hk:∀ x,(enc x).length=k)(d:Array α):(flatK enc k d).toList=d.toList.flatMap enc:=by
 have hlen:(d.toList.flatMap enc).length=d.size*k:=by rw[cX hk];simp
 apply List.ext_getElem?
 intro t
 by_cases ht:t<d.size*k
 ·have k0:0<k:=by rcases Nat.eq_zero_or_pos k with h | h
                  ·subst h;simp at ht
                  ·exact h
  have hq:t / k<d.size:=(Nat.div_lt_iff_lt_mul k0).2 ht
  have hm:t % k<k:=Nat.mod_lt _ k0
  have hx:d.toList[t / k]?=some (d[t / k]'hq):=by simp[hq]
  have h1:=ei hk d.toList (t / k) (t % k) (d[t / k]'hq) hx hm
  have e:t / k*k+t % k=t:=Nat.div_add_mod' t k
  rw[e] at h1
  rw[h1]
  have h2:=get_flatK enc k d t ht
  have h3:(flatK enc k d)[t]?=some ((flatK enc k d)[t]!):=by
   rw[getElem!_pos _ t (by rw[size_flatK];exact ht)];exact Array.getElem?_eq_getElem _
  rw[Array.getElem?_toList,h3,h2,getElem!_pos d (t / k) hq]
  rw[getElem!_pos _ (t % k) (by rw[hk];exact hm)]
  exact(gG _).symm
 ·rw[List.getElem?_eq_none (by rw[Array.length_toList,size_flatK];omega),List.getElem?_eq_none (by omega)]
theorem sY {enc:α→LV}{k:Nat}(hk:∀ x,(enc x).length=k){w:World}{base g cap:Nat}{e:TypeId}{l:List α}(h:w.ownsRow base e k (.slice (some ⟨g,0,none⟩) l.length cap) l.length (l.flatMap enc)):HoldsK enc k w g 0 l.toArray:=by
 intro j hj
 have hj':j<l.length*k:=by rw[size_flatK] at hj;simpa using hj
 rw[Nat.zero_add]
 refine⟨?_,h.frozenAt j⟩
 rw[h.cellAt j hj']
 have e1:=sX hk l.toArray
 have e2:(flatK enc k l.toArray)[j]?=some ((flatK enc k l.toArray)[j]!):=by
  rw[getElem!_pos _ j hj];exact Array.getElem?_eq_getElem _
 rw[←Array.getElem?_toList,e1] at e2
 exact e2
theorem zu {enc:α→LV}{k:Nat}(hk:∀ x,(enc x).length=k){w:World}{base g cap:Nat}{e:TypeId}{l:List α}(h:w.ownsRow base e k (.slice (some ⟨g,0,none⟩) l.length cap) l.length (l.flatMap enc))(d:Array α)(hd:d.size=l.length)(n:Nat)(os:Array Obj):
  (sortWorldK enc k w g 0 n d os).ownsRow base e k (.slice (some ⟨g,0,none⟩) l.length cap) l.length (d.toList.flatMap enc)∧w.grownBy (sortWorldK enc k w g 0 n d os) (some g):=by
 refine⟨?_,rfl,rfl,rfl,size_sortWorldK_c enc k w g 0 n d os,fun i hi hne=>?_⟩
 ·obtain⟨_,⟨hv,hn⟩ | ⟨g',cap',cur,hv,hb,hh,hc1,hc2,hsz,htk⟩⟩:=h
  ·cases hv
  injection hv with e1 e2 e3
  injection e1 with e1;injection e1 with e1;subst e1 e3
  have hg:g<w.heap.size:=(Array.getElem?_eq_some_iff.1 hh).1
  refine⟨by rw[cX hk];simp[hd],.inr ⟨g,cap,putCells id 0 (flatK enc k d) cur,rfl,hb,?_,hc1,hc2,by simp[putCells,hsz],?_⟩⟩
  ·show(w.heap.modify g _++os)[g]?=_
   rw[Array.getElem?_append_left (by simpa using hg),Array.getElem?_modify,if_pos rfl,hh];rfl
  ·rw[←sX hk]
   have hle:l.length*k≤cur.size:=by rw[hsz];exact Nat.mul_le_mul_right k hc1
   apply List.ext_getElem?
   intro t
   rw[List.getElem?_take]
   by_cases ht:t<l.length*k
   ·have hf:t<(flatK enc k d).size:=by rw[size_flatK,hd];exact ht
    rw[if_pos ht,Array.getElem?_toList,Array.getElem?_toList,Array.getElem?_eq_getElem (by simp[putCells];omega),Array.getElem?_eq_getElem hf]
    simp only[putCells,Array.getElem_mapIdx]
    rw[if_pos ⟨z0,by omega⟩]
    simp only[Nat.sub_zero,id]
    rw[getElem!_pos _ t hf]
   ·rw[if_neg ht,List.getElem?_eq_none (by rw[Array.length_toList,size_flatK,hd];omega)]
 ·have hne':g≠i:=fun e=>hne (by rw[e])
  show(w.heap.modify g _++os)[i]?=_
  rw[Array.getElem?_append_left (by simpa using hi),Array.getElem?_modify,if_neg hne']
end
section
variable {α : Type}
def FW (key:α→BA)(x y:α):Int:=if bl (key x)<bl (key y) then -1 else if bl (key y)<bl (key x) then 1 else 0
theorem wY (key:α→BA)(x y:α):ltOf (FW key) x y=decide (bl (key x)<bl (key y)):=by
 unfold ltOf FW
 by_cases h:bl (key x)<bl (key y)
 ·rw[if_pos h,dT h];rfl
 ·rw[if_neg h,dF h];split<;>rfl
theorem CQ (key:α→BA):SWO (ltOf (FW key)):=by
 refine⟨fun x=>?_,fun x y z h1 h2=>?_,fun x y z h1 h2=>?_⟩
 ·rw[wY];exact dF (rN _)
 ·rw[wY] at *;exact dT (Cq (dO h1) (dO h2))
 ·rw[wY] at *
  have h1:=of_decide_eq_false h1
  have h2:=of_decide_eq_false h2
  apply dF
  intro h3
  by_cases e:bl (key x)=bl (key y)
  ·rw[e] at h3;exact h2 h3
  ·exact h2 (Cq (oQ h1 (fun e'=>e e')) h3)
end
section
variable {α : Type} [Inhabited α]
theorem pJ {key:α→BA}{n:Nat}{d:Array α}(hn:d.size=n)(h:SortedIn (ltOf (FW key)) 0 n d):d.toList.Pairwise (fun x y=>¬ bl (key y)<bl (key x)):=by
 rw[List.pairwise_iff_getElem]
 intro i j hi hj hij
 have hi':i<d.size:=by simpa using hi
 have hj':j<d.size:=by simpa using hj
 have:=h i j z0 hij (by omega)
 rw[wY,getElem!_pos d j hj',getElem!_pos d i hi'] at this
 have:=of_decide_eq_false this
 simpa using this
theorem vu {n:Nat}{l:List α}{d:Array α}(hn:l.length=n)(h:PermIn 0 n l.toArray d):d.toList.Perm l:=by
 obtain⟨h1,_,h3⟩:=h
 have hs:d.size=n:=by rw[h1];simpa using hn
 have e1:d.extract 0 n=d:=by rw[←hs];simp
 have e2:l.toArray.extract 0 n=l.toArray:=by rw[←hn];simp
 rw[e1,e2] at h3
 simpa using h3
end
end
section
open Go.RowKit Go.Shelf Go.Lib Go.Sort
theorem sZ:∀ (a b:LU),Lib.compareBytes a b=if a<b then -1 else if b<a then 1 else 0
 | [],[]=>by simp[Lib.compareBytes]
 | [],_::_=>by simp[Lib.compareBytes]
 | _::_,[]=>by simp[Lib.compareBytes]
 | a::r,b::s=>by
  rw[Lib.compareBytes,sZ r s]
  simp only[List.cons_lt_cons_iff]
  by_cases h:a<b
  ·simp[h]
  ·by_cases h2:b<a
   ·have h3:¬ a=b:=fun e=>by subst e;exact h h2
    simp[h,h2,h3]
   ·have h3:a=b:=by
     apply UInt8.toNat_inj.1
     rw[UInt8.lt_iff_toNat_lt] at h h2;omega
    subst h3
    simp
theorem IG (x y:ax)(W:World):Calls Tryz.prog 25 #[.agg x.cells.toArray,.agg y.cells.toArray] W fun e w'=>e=.returned (.int .i64 (FW ax.path x y))∧∃ q os',w'=grow (W.drewN q) os':=by
 have hS:=fun W=>Tryz.strings_Compare x.path y.path W
 have E:Hid (Lib.compareBytes x.path.data.toList y.path.data.toList=FW ax.path x y):=by show _=_;rw[sZ];rfl
 generalize Lib.compareBytes x.path.data.toList y.path.data.toList=r at hS E
 unfold ax.cells
 go_enter Tryz.func25,Tryz.ntmps25
 go_wp2_with fail
 refine(hS _).mono ?_;rintro e w' ⟨rfl,rfl⟩
 go_wp2_with fail
 go_ret
 exact⟨aE E.out,0,_,by rw[alloc_eq_grow,alloc_eq_grow,grow_grow];rfl⟩
def td {α:Type}(key:α→BA)(enc:α→LV)(t:TypeId)(k base:Nat)(v:Value)(l:List α)(w:World)(e:Ending)(w':World):Prop:=
 e=.returned (.tuple #[])∧∃ l':List α,l'.Perm l∧l'.Pairwise (fun x y=>¬ bl (key y)<bl (key x))∧w'.ownsRow base t k v l.length (l'.flatMap enc)∧w.grownBy w' v.ownBlock
instance:Inhabited ax:=⟨⟨⟨#[]⟩,0,0,⟨#[]⟩,⟨#[]⟩,⟨#[]⟩,⟨#[]⟩,false⟩⟩
theorem BI (A:OA)(cap base:Nat)(l:List ax)(w:World)(h:w.ownsRow base 56 8 (.slice A l.length cap) l.length (l.flatMap ax.cells))(hl:l.length≤100000):
  Calls Tryz.prog 24 #[.slice A l.length cap,.func (.func 25) #[] #[]] w (td ax.path ax.cells 56 8 base (.slice A l.length cap) l w):=by
 by_cases hn:l=[]
 ·subst hn
  refine(AnyF.slices_SortFunc_none Tryz.sortFile A cap _ w).mono ?_
  rintro e w' ⟨rfl,rfl⟩
  exact⟨rfl,[],.nil,.nil,h,World.grownBy.refl _ _⟩
 ·have hpos:0<l.length:=List.length_pos_iff.2 hn
  obtain⟨g,hA,hb,hg,_,_⟩:=fE h hpos
  subst hA
  have eg:∀ args w,(callFunc 25 args).run Tryz.prog w=.ok (.enter 25 args) w:=enters_of Tryz.func25 (by kernel_rfl) rfl
  have hcmp:CmpLays Tryz.prog 25 #[] ax.cells 8 (FW ax.path) g 0 l.toArray.size w:=fun m os dk _ a b=>IG a b _
  have hH:=sY gL h
  have hcon:=AnyQ.slices_SortFunc Tryz.sortFile 8 Tryz.isAgg56 Tryz.sizeOf56 ax.cells gL (fun x v hv=>qO x v hv) (FW ax.path) (CQ ax.path) 25 #[] g 0 cap l.toArray w eg hcmp hH hg (by simp;omega)
  refine hcon.mono ?_
  rintro e w' ⟨rfl,d',n,os,hp,hs,rfl⟩
  have hp':=vu (l:=l) rfl (by simpa using hp)
  have hd:d'.size=l.length:=by have:=hp'.length_eq;simpa using this
  obtain⟨h1,h2⟩:=zu gL h d' hd n os
  exact⟨rfl,d'.toList,hp',pJ hd (by simpa using hs),h1,h2⟩
theorem un (A:OA)(cap base n:Nat)(l:List ax)(hn:Hid (l.length=n))(w:World)(h:w.ownsRow base 56 8 (.slice A n cap) n (l.flatMap ax.cells))(hl:n≤100000):
  Calls Tryz.prog 24 #[.slice A n cap,.func (.func 25) #[] #[]] w (td ax.path ax.cells 56 8 base (.slice A n cap) l w):=by
 have e:=hn.out
 subst e
 exact BI A cap base l w h hl
end
section
open Go.ChangeShapes Go.WideShapes Go.Deep Go.RowKit
section
variable {H : Type} {enc : TypeId × Value → H} {w : World} {spare : Nat → Bool}
theorem Cc {x:Int}(h:(Lit.int .u8 x).wf=true):∃ c:UInt8,x=(c.toNat:Int):=by
 have hb:0≤x∧x<256:=by
  have h2:(0:Int)≤x∧x≤255:=by
   unfold Lit.wf at h
   rw[Bool.and_eq_true,decide_eq_true_eq,decide_eq_true_eq] at h
   rw[show IntKind.u8.min=0 by kernel_rfl,show IntKind.u8.max=255 by kernel_rfl] at h
   exact h
  omega
 refine⟨UInt8.ofNat x.toNat,?_⟩
 have:x.toNat<256:=by omega
 simp
 omega
theorem Cd {fuel:Nat}{v:Value}{d:DataW H×List MemPlace}(h:DataW.trod enc Tryz.prog w 0 spare true fuel 33 [v]=some d):
  ∃ (A:OA) (n c:Nat) (l:LU),v=.slice A n c∧Rd w 1 A n (l.map vb)∧n≤c∧c≤9223372036854775807:=by
 rcases open_slice Tryz.underlying33 h with⟨hcs,_⟩ | ⟨a,len,cap,m,n,D,Pl,hcs,_,hl,hm,hmm,_,hi⟩
 ·injection hcs with hcs _
  exact⟨none,0,0,[],hcs,Rd.nil _ _ _,z0,z0⟩
 ·injection hcs with hcs _
  have hlen:len≤m:=by rw[hmm];split<;>omega
  have key:∀ i,i<len→∃ x:UInt8,w.cell? ⟨a.block,a.off+i,none⟩=some (vb x)∧a.add i=⟨a.block,a.off+i,none⟩:=by
   intro i hi'
   obtain⟨cs',hc,ht'⟩:=hi i (by omega)
   rw[show Tryz.prog.cellsOf 5=1 by kernel_rfl] at hc
   obtain⟨_,hcl,hat⟩:=World.cells?_some hc
   obtain⟨s,hs,_,hsz⟩:=DataW.trod_int Tryz.underlying5 ht'
   have h0:=hat 0 (by omega)
   rw[hs,Nat.mul_one] at h0
   have h1:w.cell? (a.add i)=some (.int .u8 s):=by
    have e:(a.add i).add 0=a.add i:=by simp[Addr.add]
    rw[e] at h0;simpa using h0
   have h2:=lR h1
   obtain⟨x,rfl⟩:=Cc hsz
   exact⟨x,by rw[←h2];exact h1,h2⟩
  obtain⟨l,hll,hlq⟩:=qB len key
  refine⟨some a,len,cap,l,hcs,⟨by simp[hll],fun hn=>?_⟩,hl,by unfold maxLen at hm;omega⟩
  ·refine⟨a.block,a.off,?_,fun j u hu=>?_⟩
   ·have h2:=(hlq 0 _ (gG (by rw[hll];exact hn))).2
    simp only[Addr.add,if_pos,Nat.add_zero] at h2
    rw[←h2]
   ·simp only[List.getElem?_map,Option.map_eq_some_iff] at hu
    obtain⟨x,hx,rfl⟩:=hu
    exact(hlq j x hx).1
end
end
end Go.Proofs.YtlglfpbhapmhiaaGreatDoor
