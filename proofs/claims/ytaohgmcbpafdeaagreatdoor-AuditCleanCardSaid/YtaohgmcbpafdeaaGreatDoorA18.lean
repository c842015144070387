/- A part of the proof. -/
import Derived.Laws.BytesArg
import Derived.Test.YtaohgmcbpafdeaaGreatDoorA04
import Derived.Test.YtaohgmcbpafdeaaGreatDoorA07
import Derived.Test.YtaohgmcbpafdeaaGreatDoorA10
set_option maxRecDepth 100000
set_option maxHeartbeats 20000000
set_option linter.unusedVariables false
set_option linter.unusedSimpArgs false
namespace Go.Proofs.YtaohgmcbpafdeaaGreatDoor
section
open Go.RowKit
structure am where
 path:BA
 kind:Int
 mode:Int
 uid:Int
 gid:Int
 owner:BA
 group:BA
 mtime:Int
 link:BA
 da:OA
 dc:Nat
 data:LU
def am.cells (x:am):LV:=[.string x.path,.int .i64 x.kind,.int .i64 x.mode,.int .i64 x.uid,.int .i64 x.gid,.string x.owner,.string x.group,.int .i64 x.mtime,.string x.link,.slice x.da x.data.length x.dc]
def am.val (x:am):Value:=.agg #[.string x.path,.int .i64 x.kind,.int .i64 x.mode,.int .i64 x.uid,.int .i64 x.gid,.string x.owner,.string x.group,.int .i64 x.mtime,.string x.link,.slice x.da x.data.length x.dc]
theorem fi (x:am):x.cells.length=10:=rfl
structure dz (w:World) (A:OA) (l:List am):Prop where
 row:Rd w 10 A l.length (l.flatMap am.cells)
 all:∀ x∈l,Rd w 1 x.da x.data.length (x.data.map vb)
theorem dz.below {w w':World}{A:OA}{l:List am}(h:dz w A l)(hb:Below w.heap.size w w'):dz w' A l:=⟨h.1.below hb,fun x hx=>(h.2 x hx).below hb⟩
structure am.small (x:am):Prop where
 path:x.path.size≤1000000
 owner:x.owner.size≤1000000
 group:x.group.size≤1000000
 link:x.link.size≤1000000
 data:x.data.length≤1000000
 cap:x.data.length≤x.dc
 capM:x.dc≤9223372036854775807
def kD (s:BA):Bool:=decide (s.size≤31) && !Lib.containsAny (bl s) [0,10,58]
def jl (s:BA):Bool:=decide (1≤s.size)&&decide (s.size≤200) && !Lib.containsAny (bl s) [0,10]
def ju (x:am):Bool:=decide (x.mode<0)||decide (4095<x.mode)||decide (x.uid<0)||decide (2097151<x.uid)||decide (x.gid<0)||decide (2097151<x.gid)||decide (x.mtime<0)||decide (8589934591<x.mtime)
def bA (x:am):Int:=
 if cy (bl x.path)=false then 10 else if x.kind<1∨4<x.kind then 9 else if ju x=true then 1 else if kD x.owner=false∨kD x.group=false then 10
 else if x.kind=3∧jl x.link=false then 10 else if x.kind=4∧(cy (bl x.link)=false∨x.link=x.path) then 10
 else if x.kind≠3∧x.kind≠4∧x.link.size≠0 then 1 else if x.kind≠1∧0<x.data.length then 1 else if 1048576<x.data.length then 4 else 0
def fY (s:BA):Nat→List BA
 | 0=>[]
 | k+1=>if (bl s)[k]?=some 47 then fY s k++[s.extract 0 k] else fY s k
def aL (s:BA):List BA:=fY s s.size
theorem rL (s:BA):∀ k,(fY s k).length≤k
 | 0=>Nat.le_refl _
 | k+1=>by
  have:=rL s k
  unfold fY;split
  ·rw[List.length_append];simp;exact this
  ·omega
theorem oV (s:BA):∀ k,∀ x∈fY s k,x.size≤s.size
 | 0,x,h=>by simp[fY] at h
 | k+1,x,h=>by
  unfold fY at h
  split at h
  ·rcases List.mem_append.1 h with h | h
   ·exact oV s k x h
   ·rw[List.mem_singleton.1 h,ByteArray.size_extract];omega
  ·exact oV s k x h
theorem Iz {s:BA}{k:Nat}(hk:k<s.size)(h:s[k]=47):fY s (k+1)=fY s k++[s.extract 0 k]:=by
 rw[fY,if_pos (by rw[cZ s k hk,h])]
theorem Fc {s:BA}{k:Nat}(hk:k<s.size)(h:¬ s[k]=47):fY s (k+1)=fY s k:=by
 rw[fY,if_neg (by rw[cZ s k hk];intro e;injection e with e;exact h e)]
theorem rM (s:BA):(aL s).length≤s.size:=rL s _
theorem pT {s x:BA}(h:x∈aL s):x.size≤s.size:=oV s _ x h
def ip (ps:List BA)(s:BA):Bool:=ps.any fun t=>decide (t=s)
theorem iL {ps:List BA}{s:BA}:ip ps s=true↔s∈ps:=by
 unfold ip;rw[List.any_eq_true]
 exact⟨fun ⟨t,ht,he⟩=>by rw[←dO he];exact ht,fun h=>⟨s,h,dT rfl⟩⟩
theorem pU (ps qs:List BA)(s:BA):ip (ps++qs) s=(ip ps s||ip qs s):=by unfold ip;rw[List.any_append]
theorem yN (t s:BA):ip [t] s=decide (t=s):=by simp[ip]
def gp (x y:am):Bool:=(x.mode==y.mode)&&((x.uid==y.uid)&&((x.gid==y.gid)&&((x.owner.toList==y.owner.toList)&&((x.group.toList==y.group.toList)&&(x.mtime==y.mtime)))))
def aV (l:List am)(s:BA):Option am:=l.find? fun y=>decide (y.path=s)
def cC (pre:List am)(x:am):Int:=match aV pre x.link with
 | none=>15
 | some y=>if y.kind≠1 then 15 else if gp x y=false then 1 else 0
def fZ (pre:List am)(x:am):Int:=
 if bA x≠0 then bA x else if (aV pre x.path).isSome then 8 else if x.kind=4∧cC pre x≠0 then cC pre x
 else if (aL x.path).any (fun s=>(aV pre s).any fun y=>decide (y.kind≠2)) then 9
 else if x.kind≠2∧pre.any (fun y=>ip (aL y.path) x.path) then 9 else 0
def eW:List am→List am→Nat×Int
 | _,[]=>(0,0)
 | pre,x::r=>if fZ pre x=0 then eW (pre++[x]) r else (pre.length,fZ pre x)
theorem vu {l:List am}{k:Nat}{x:am}(h:l[k]?=some x)(h0:eW [] l=eW (l.take k) (l.drop k))(he:fZ (l.take k) x=0):eW [] l=eW (l.take (k+1)) (l.drop (k+1)):=by
 obtain⟨hk,hf⟩:=gS h
 rw[h0,List.drop_eq_getElem_cons hk,hf,eW,if_pos he,tS hk,hf]
theorem yO {l:List am}{k:Nat}{x:am}(h:l[k]?=some x)(h0:eW [] l=eW (l.take k) (l.drop k))(he:fZ (l.take k) x≠0):eW [] l=(k,fZ (l.take k) x):=by
 obtain⟨hk,hf⟩:=gS h
 rw[h0,List.drop_eq_getElem_cons hk,hf,eW,if_neg he,List.length_take]
 congr 1;omega
theorem yP {l:List am}{k:Nat}(hk:l.length≤k)(h0:eW [] l=eW (l.take k) (l.drop k)):eW [] l=(0,0):=by
 rw[h0,List.drop_of_length_le hk];rfl
def nR (l:List am):Nat×Int:=if 4096<l.length then (4096,4) else eW [] l
end
section
open Go.RowKit Go.Maps
def cO:List am→BA→Option Nat
 | [],_=>none
 | x::r,s=>if x.path=s then some 0 else (cO r s).map (· + 1)
theorem iO:∀ (l:List am)(s:BA),(cO l s=none∧aV l s=none)∨∃ i y,cO l s=some i∧l[i]?=some y∧aV l s=some y∧y.path=s
 | [],s=>.inl ⟨rfl,rfl⟩
 | x::r,s=>by
  by_cases h:x.path=s
  ·exact .inr ⟨0,x,by rw[cO,if_pos h],rfl,by unfold aV;rw[List.find?_cons_of_pos (by simpa using h)],h⟩
  ·have hf:aV (x::r) s=aV r s:=by unfold aV;rw[List.find?_cons_of_neg (by simpa using h)]
   rcases iO r s with⟨h1,h2⟩ | ⟨i,y,h1,h2,h3,h4⟩
   ·exact .inl ⟨by rw[cO,if_neg h,h1];rfl,by rw[hf];exact h2⟩
   ·exact .inr ⟨i+1,y,by rw[cO,if_neg h,h1];rfl,by simpa using h2,by rw[hf];exact h3,h4⟩
theorem sg:∀ (l:List am)(x:am)(s:BA),cO l x.path=none→cO (l++[x]) s=if s=x.path then some l.length else cO l s
 | [],x,s,_=>by
  simp only[List.nil_append,cO,List.length_nil,Option.map_none]
  by_cases h:s=x.path
  ·rw[if_pos h,if_pos h.symm]
  ·rw[if_neg h,if_neg (fun e=>h e.symm)]
 | y::r,x,s,hn=>by
  have hy:¬ y.path=x.path:=fun e=>by rw[cO,if_pos e] at hn;cases hn
  have hr:cO r x.path=none:=by
   rw[cO,if_neg hy] at hn
   cases h:cO r x.path with
   | none=>rfl
   | some i=>rw[h] at hn;cases hn
  rw[List.cons_append,cO,cO,sg r x s hr]
  by_cases h:s=x.path
  ·rw[if_pos h,if_neg (fun e=>hy (e.trans h)),if_pos h];rfl
  ·rw[if_neg h,if_neg h]
def M9 (l:List am)(s:BA):Option Value:=(cO l s).map fun i=>.int .i64 i
theorem IK {l:List am}{x:am}(h:cO l x.path=none):M9 (l++[x])=fun s=>if s=x.path then some (.int .i64 l.length) else M9 l s:=by
 funext s
 unfold M9
 rw[sg l x s h]
 by_cases e:s=x.path
 ·rw[if_pos e,if_pos e];rfl
 ·rw[if_neg e,if_neg e]
def kX (l:List am)(s:BA):Bool:=l.any fun y=>ip (aL y.path) s
structure us (w:World) (m n:Nat) (l:List am) (ps:List BA):Prop where
 ex:∃ g,aX w m n g∧∀ s,(g s).isSome=(kX l s||ip ps s)
theorem us.below {w w':World}{m n:Nat}{l:List am}{ps:List BA}(h:us w m n l ps)(hb:Below w.heap.size w w'):us w' m n l ps:=by
 obtain⟨g,h1,h2⟩:=h.ex
 exact⟨g,h1.below hb,h2⟩
theorem us.kept {w w':World}{m n:Nat}{l:List am}{ps:List BA}{row:Option Nat}(h:us w m n l ps)(hg:w.grownBy w' row)(hne:some m≠row):us w' m n l ps:=by
 obtain⟨g,h1,h2⟩:=h.ex
 exact⟨g,h1.kept hg hne,h2⟩
theorem us.lt {w:World}{m n:Nat}{l:List am}{ps:List BA}(h:us w m n l ps):m<w.heap.size:=by
 obtain⟨g,h1,_⟩:=h.ex;exact h1.lt
theorem us.made (w:World):us (w.alloc (.map #[] 0)) w.heap.size 0 [] []:=⟨_,aX.made w,fun s=>rfl⟩
theorem us.next {w:World}{m n:Nat}{l:List am}{x:am}(h:us w m n l (aL x.path)):us w m n (l++[x]) []:=by
 obtain⟨g,h1,h2⟩:=h.ex
 refine⟨g,h1,fun s=>?_⟩
 rw[h2];simp[kX,ip]
theorem us.put {w:World}{m n:Nat}{l:List am}{ps:List BA}(h:us w m n l ps){t e:TypeId}(ht:Tryz.prog.underlying t=some (.map 9 e))(hn:n<maxLen)(s:BA)(hs:s.size≤maxLen)(v:Value):
  ∃ w',(Instr.mapUpdate t (.map (some m)) (.string s) v).run Tryz.prog w=.ok () w'∧us w' m (n+1) l (ps++[s])∧w.grownBy w' (some m):=by
 obtain⟨g,h1,h2⟩:=h.ex
 obtain⟨w',hr,hm,hg⟩:=h1.put ht hn s hs v
 refine⟨w',hr,⟨_,hm,fun x=>?_⟩,hg⟩
 by_cases e:x=s
 ·subst e;rw[pU,yN];simp
 ·simp only[if_neg e]
  rw[h2,pU,yN,dF (fun h=>e h.symm),Bool.or_false]
theorem us.look {w:World}{m n:Nat}{l:List am}{ps:List BA}(h:us w m n l ps){t e:TypeId}(ht:Tryz.prog.underlying t=some (.map 9 e)){z:Value}(hz:∀ w,(zeroValue e).run Tryz.prog w=.ok z w)(s:BA)(hs:s.size≤maxLen):
  ∃ v,∀ k,(Instr.lookup t (.map (some m)) (.string s) true).run Tryz.prog (w.drewN k)=.ok (.tuple #[v,.bool (kX l s||ip ps s)]) (w.drewN k):=by
 obtain⟨g,h1,h2⟩:=h.ex
 refine⟨(g s).getD z,fun k=>?_⟩
 rw[←h2]
 exact(h1.below (show Below w.heap.size w (w.drewN k) from⟨rfl,rfl,rfl,lr,fun _ _=>rfl⟩)).look_ok ht hz s hs
structure iP (w:World) (c m1 m2 n2:Nat) (v:Value) (l:List am) (ps:List BA):Prop where
 blk:ax w c [v,.map (some m1),.map (some m2)]
 one:aX w m1 l.length (M9 l)
 two:us w m2 n2 l ps
theorem iP.below {w w':World}{c m1 m2 n2:Nat}{v:Value}{l:List am}{ps:List BA}(h:iP w c m1 m2 n2 v l ps)(hb:Below w.heap.size w w'):iP w' c m1 m2 n2 v l ps:=⟨h.blk.below hb,h.one.below hb,h.two.below hb⟩
theorem iP.drewN {w:World}{c m1 m2 n2:Nat}{v:Value}{l:List am}{ps:List BA}(h:iP w c m1 m2 n2 v l ps)(k:Nat):iP (w.drewN k) c m1 m2 n2 v l ps:=h.below ⟨rfl,rfl,rfl,lr,fun _ _=>rfl⟩
theorem si (w:World):(zeroValue 3).run Tryz.prog w=.ok (.int .i64 0) w:=by kernel_rfl
theorem iP.look1 {w:World}{c m1 m2 n2:Nat}{v:Value}{l:List am}{ps:List BA}(h:iP w c m1 m2 n2 v l ps)(s:BA)(hs:s.size≤maxLen)(k:Nat):
  (Instr.lookup 87 (.map (some m1)) (.string s) true).run Tryz.prog (w.drewN k)=.ok (.tuple #[.int .i64 ((cO l s).getD 0:Nat),.bool (cO l s).isSome]) (w.drewN k):=by
 have h1:=(h.drewN k).one.look_ok Tryz.underlying87 si s hs
 rw[h1]
 unfold M9
 cases cO l s<;>rfl
theorem iP.look2 {w:World}{c m1 m2 n2:Nat}{v:Value}{l:List am}(h:iP w c m1 m2 n2 v l [])(s:BA)(hs:s.size≤maxLen):
  ∃ z,∀ k,(Instr.lookup 87 (.map (some m2)) (.string s) true).run Tryz.prog (w.drewN k)=.ok (.tuple #[z,.bool (kX l s)]) (w.drewN k):=by
 obtain⟨z,hz⟩:=h.two.look Tryz.underlying87 si s hs
 refine⟨z,fun k=>?_⟩
 rw[hz k];simp[ip]
end
theorem oZ:∀ (l pre:List am),(eW pre l).2=0↔∀ k x,l[k]?=some x→fZ (pre++l.take k) x=0
 | [],pre=>by simp[eW]
 | x::r,pre=>by
  unfold eW
  by_cases h:fZ pre x=0
  ·rw[if_pos h,oZ r (pre++[x])]
   constructor
   ·intro H k y hy
    cases k with
    | zero=>simp at hy;subst hy;simpa using h
    | succ k=>have:=H k y (by simpa using hy);simpa using this
   ·intro H k y hy
    have:=H (k+1) y (by simpa using hy)
    simpa using this
  ·rw[if_neg h]
   constructor
   ·intro e;exact absurd e h
   ·intro H;exact absurd (by simpa using H 0 x rfl) h
structure kY (l:List am):Prop where
 err:∀ x∈l,bA x=0
 nd:∀ (i j:Nat)(x y:am),l[i]?=some x→l[j]?=some y→x.path=y.path→i=j
 up:∀ x∈l,∀ y∈l,y.path∈aL x.path→y.kind=2
 hard:∀ (k:Nat)(x:am),l[k]?=some x→x.kind=4→∃ (i:Nat)(y:am),i<k∧l[i]?=some y∧y.path=x.link∧y.kind=1∧gp x y=true
theorem dA {l:List am}{s:BA}{y:am}(h:aV l s=some y):y∈l∧y.path=s:=⟨List.mem_of_find?_eq_some h,by have:=List.find?_some h;simpa using this⟩
theorem nX {l:List am}{s:BA}(h:aV l s=none):∀ y∈l,y.path≠s:=by
 unfold aV at h
 rw[List.find?_eq_none] at h
 intro y hy e
 exact h y hy (by simpa using e)
theorem lP {l:List am}{y:am}(hy:y∈l)(hu:∀ z∈l,z.path=y.path→z=y):aV l y.path=some y:=by
 cases h:aV l y.path with
 | none=>exact absurd rfl (nX h y hy)
 | some z=>obtain⟨h1,h2⟩:=dA h;rw[hu z h1 h2]
theorem sj {α:Type}{l:List α}{k:Nat}{x:α}(h:x∈l.take k):∃ i,i<k∧l[i]?=some x:=by
 obtain⟨i,hi⟩:=List.getElem?_of_mem h
 rw[List.getElem?_take] at hi
 split at hi
 ·exact⟨i,by assumption,hi⟩
 ·cases hi
theorem nY {α:Type}{l:List α}{i k:Nat}{x:α}(h:l[i]?=some x)(hk:i<k):x∈l.take k:=by
 refine gM (i:=i) ?_
 rw[List.getElem?_take,if_pos hk];exact h
theorem iz {pre:List am}{x:am}(h:fZ pre x=0):bA x=0∧aV pre x.path=none∧(x.kind=4→cC pre x=0)∧(∀ s∈aL x.path,∀ y,aV pre s=some y→y.kind=2)∧(x.kind≠2→∀ y∈pre,x.path ∉ aL y.path):=by
 unfold fZ at h
 split at h
 ·contradiction
 split at h
 ·simp at h
 split at h
 ·rename_i h3;exact absurd h h3.2
 split at h
 ·simp at h
 split at h
 ·simp at h
 ·rename_i h1 h2 h3 h4 h5
  refine⟨by simpa using h1,by simpa using h2,fun hk=>?_,fun s hs y hy=>?_,fun hk y hy hm=>?_⟩
  ·by_cases e:cC pre x=0
   ·exact e
   ·exact absurd ⟨hk,e⟩ h3
  ·by_cases e:y.kind=2
   ·exact e
   ·exact absurd (List.any_eq_true.2 ⟨s,hs,by rw[hy];simpa using e⟩) h4
  ·exact h5 ⟨hk,List.any_eq_true.2 ⟨y,hy,iL.2 hm⟩⟩
theorem IL {pre:List am}{x:am}(h1:bA x=0)(h2:aV pre x.path=none)(h3:x.kind=4→cC pre x=0)(h4:∀ s∈aL x.path,∀ y,aV pre s=some y→y.kind=2)(h5:x.kind≠2→∀ y∈pre,x.path ∉ aL y.path):fZ pre x=0:=by
 unfold fZ
 rw[if_neg (by simpa using h1),if_neg (by rw[h2];simp),if_neg (fun h=>h.2 (h3 h.1)),if_neg,if_neg]
 ·rintro⟨hk,ha⟩
  obtain⟨y,hy,hc⟩:=List.any_eq_true.1 ha
  exact h5 hk y hy (iL.1 hc)
 ·intro ha
  obtain⟨s,hs,hc⟩:=List.any_eq_true.1 ha
  cases hf:aV pre s with
  | none=>rw[hf] at hc;simp at hc
  | some y=>rw[hf] at hc;have:=h4 s hs y hf;simp[this] at hc
theorem Bt {pre:List am}{x:am}(h:cC pre x=0):∃ y,aV pre x.link=some y∧y.kind=1∧gp x y=true:=by
 unfold cC at h
 cases hf:aV pre x.link with
 | none=>rw[hf] at h;simp at h
 | some y=>
  rw[hf] at h
  simp only at h
  split at h
  ·simp at h
  split at h
  ·simp at h
  ·rename_i h1 h2
   exact⟨y,rfl,by simpa using h1,by simpa using h2⟩
theorem yX {pre:List am}{x y:am}(h1:aV pre x.link=some y)(h2:y.kind=1)(h3:gp x y=true):cC pre x=0:=by
 unfold cC;rw[h1];simp[h2,h3]
theorem DS {l:List am}(h:(eW [] l).2=0):kY l:=by
 have H:=(oZ l []).1 h
 simp only[List.nil_append] at H
 have nd:∀ (i j:Nat)(x y:am),l[i]?=some x→l[j]?=some y→i<j→x.path≠y.path:=fun i j x y hi hj hij=>
  nX (iz (H j y hj)).2.1 x (nY hi hij)
 have nd':∀ (i j:Nat)(x y:am),l[i]?=some x→l[j]?=some y→x.path=y.path→i=j:=fun i j x y hi hj e=>by
  rcases Nat.lt_trichotomy i j with h | h | h
  ·exact absurd e (nd i j x y hi hj h)
  ·exact h
  ·exact absurd e.symm (nd j i y x hj hi h)
 refine⟨fun x hx=>?_,nd',fun x hx y hy hm=>?_,fun k x hk h4=>?_⟩
 ·obtain⟨k,hk⟩:=List.getElem?_of_mem hx
  exact(iz (H k x hk)).1
 ·obtain⟨i,hi⟩:=List.getElem?_of_mem hx
  obtain⟨j,hj⟩:=List.getElem?_of_mem hy
  rcases Nat.lt_trichotomy i j with h | h | h
  ·by_cases e:y.kind=2
   ·exact e
   ·exact absurd hm ((iz (H j y hj)).2.2.2.2 e x (nY hi h))
  ·subst h
   rw[hi] at hj;injection hj with hj;subst hj
   exact absurd hm (par_self x.path)
  ·refine(iz (H i x hi)).2.2.2.1 _ hm y ?_
   refine lP (nY hj h) fun z hz e=>?_
   obtain⟨m,hm1,hm2⟩:=sj hz
   have:=nd' m j z y hm2 hj e
   subst this
   rw[hm2] at hj;injection hj
 ·obtain⟨y,hf,h1,h2⟩:=Bt ((iz (H k x hk)).2.2.1 h4)
  obtain⟨hm,hp⟩:=dA hf
  obtain⟨i,hi,hiy⟩:=sj hm
  exact⟨i,y,hi,hiy,hp,h1,h2⟩
 where
 par_self (s:BA):s ∉ aL s:=by
  intro h
  have key:∀ k,k≤s.size→∀ x∈fY s k,x.size<k:=by
   intro k
   induction k with
   | zero=>intro _ x hx;simp[fY] at hx
   | succ k ih=>
    intro hk x hx
    unfold fY at hx
    split at hx
    ·rcases List.mem_append.1 hx with hx | hx
     ·have:=ih (by omega) x hx;omega
     ·rw[List.mem_singleton.1 hx,ByteArray.size_extract];omega
    ·have:=ih (by omega) x hx;omega
  have:=key s.size lr s h
  omega
section
open Go.RowKit
theorem eP {p:UInt8→Bool}{a:UInt8}{r:LU}(h:p a=false):aA p (a::r)=0:=by simp[aA,h]
theorem lQ {p:UInt8→Bool}:∀ (l:LU),aA p l<l.length→∃ a r,l.drop (aA p l)=a::r∧p a=false
 | [],h=>by simp at h
 | a::r,h=>by
  cases hp:p a with
  | false=>exact⟨a,r,by rw[eP hp];rfl,hp⟩
  | true=>
   have e:aA p (a::r)=aA p r+1:=by simp[aA,hp]
   rw[e] at h ⊢
   simpa using lQ r (by simpa using h)
theorem ub (n:Nat):(madeCells (Value.int .u8 0).cells (n*1)).toList=(List.replicate n (0:UInt8)).map vb:=by
 apply List.ext_getElem?
 intro j
 rw[Nat.mul_one,List.map_replicate,List.getElem?_replicate]
 by_cases h:j<n
 ·simp[madeCells,h,Value.cells,vb,Nat.mod_one]
 ·rw[if_neg h,List.getElem?_eq_none (by simp[madeCells];omega)]
theorem Ay (x i s:Nat)(hs:8*i=s):((x:Int) / 2 ^ s) % 256=((dg x i).toNat:Int):=by
 have hp:256 ^ i=2 ^ s:=by rw[←hs,Nat.pow_mul]
 unfold dg
 rw[hp]
 simp
theorem Nw {n m:Nat}{r:LU}(c:UInt8):((List.replicate (n+1) (0:UInt8)++r).map vb).set n (vb c)=(List.replicate n 0++c::r).map vb:=by
 rw[List.replicate_succ',List.append_assoc,List.map_append,List.map_append,List.set_append_right _ _ (by simp)]
 simp
theorem Nx {n:Nat}{r:LU}(c:UInt8):((r++List.replicate (n+1) (0:UInt8)).map vb).set r.length (vb c)=(r++[c]++List.replicate n 0).map vb:=by
 rw[List.replicate_succ,List.map_append,List.set_append_right _ _ (by simp)]
 simp
theorem oI:(Tryz.prog.info? 5).map (fun i=>(i.zero,i.size,i.bytes))=some (some (.int .u8 0),1,1):=by kernel_rfl
theorem JY (x k:Nat)(w:World)(hx:x<18446744073709551616)(hk:1≤k)(hk8:k≤8):
  Calls Tryz.prog 91 #[.int .u64 x,.int .i64 k] w fun e w'=>∃ g,e=.returned (.slice (some ⟨g,0,none⟩) k k)∧w'.ownsRow w.heap.size 5 1 (.slice (some ⟨g,0,none⟩) k k) k (Lib.byteCells (GS x k))∧Below w.heap.size w w':=by
 obtain⟨i0,hi,hz0,hz1,hz2⟩:=info_parts oI
 have d1:decide ((k:Int)<1)=false:=dF (by omega)
 have d2:decide ((8:Int)<(k:Int))=false:=dF (by omega)
 go_enter Tryz.func91,Tryz.ntmps91
 go_wp2_with (
  refine wpList_make_full _ rfl _ _ _ rfl w.heap.size 5 i0 _ 1 Tryz.underlying43 hi hz0 hz1 .i64 .i64 _ _ k rfl rfl rfl rfl (by rw[hz2];omega) (by simp only[maxLen];omega) (by omega) ?_
  intro w1 hr1 hg1)
 have R0:Hid (w1.ownsRow w.heap.size 5 1 (.slice (some ⟨w.heap.size,0,none⟩) k k) k ((List.replicate (k-0) 0++GS x 0).map vb)):=by
  have:=hr1
  rw[ub] at this
  show World.ownsRow _ _ _ _ _ _ _
  simpa [C8,GS] using this
 have L0:=ae ((Below.refl w.heap.size w).grown hg1 lr (by simp))
 clear hr1 hg1
 go_wp2_with fail
 go_loopw [16] (fun s16 wr=>∃ i:Nat,i≤k∧s16=.int .i64 i∧Hid (wr.ownsRow w.heap.size 5 1 (.slice (some ⟨w.heap.size,0,none⟩) k k) k ((List.replicate (k-i) 0++GS x i).map vb))∧Hid (Below w.heap.size w wr)) (fun s16 _=>k-(intOf s16).toNat)
 case atStart=>exact⟨0,z0,rfl,R0,L0⟩
 case round=>
  obtain⟨i,hik,rfl,HR,HL⟩:=hrel
  by_cases hlt:i<k
  ·obtain⟨m,hm⟩:∃ m,k-i=m+1:=⟨k-i-1,by omega⟩
   have hmi:(k:Int)-1-(i:Int)=(m:Int):=by omega
   obtain⟨s,hs⟩:∃ s,8*i=s:=⟨_,rfl⟩
   have hsi:(8:Int)*(i:Int)=(s:Int):=by omega
   have hs64:s<64:=by omega
   have hsh:=Ay x i s hs
   obtain⟨d,hd⟩:∃ d,dg x i=d:=⟨_,rfl⟩
   rw[hd] at hsh
   have hmk:m<k:=by omega
   have cm:=HR.out.cellAt (m) (by omega)
   obtain⟨u,hu⟩:∃ u,((List.replicate (k-i) 0++GS x i).map vb)[m]?=some u:=⟨_,gG (by simp[lY,rj];omega)⟩
   rw[hu] at cm
   have fm:=HR.out.frozenAt (m)
   have HN:Hid ((wr.setCell ⟨w.heap.size,m,none⟩ (vb d)).ownsRow w.heap.size 5 1 (.slice (some ⟨w.heap.size,0,none⟩) k k) k ((List.replicate (k-(i+1)) 0++GS x (i+1)).map vb)):=by
    have:=(HR.out.stored (m) (vb d)).1
    rw[hm] at this
    rw[Nw (m:=0)] at this
    show World.ownsRow _ _ _ _ _ _ _
    rw[show k-(i+1)=m by omega,JO,hd]
    exact this
   have HL2:=ae (HL.out.setCell (p:=⟨w.heap.size,m,none⟩) lr (vb d))
   unfold vb at HN HL2
   clear hm hs hd hu
   go_wp2_with fail
   go_roundw
   case rel=>exact⟨i+1,by omega,by go_num,HN,HL2⟩
   case measure=>simp[intOf];omega
  ·obtain rfl:i=k:=by omega
   go_wp2_with fail
   go_ret
   refine⟨_,rfl,?_,HL.out⟩
   have:=HR.out
   rw[Nat.sub_self,List.replicate_zero,List.nil_append] at this
   exact this
theorem JZ (x k:Nat)(w:World)(hx:x<18446744073709551616)(hk:1≤k)(hk8:k≤8):
  Calls Tryz.prog 92 #[.int .u64 x,.int .i64 k] w fun e w'=>∃ g,e=.returned (.slice (some ⟨g,0,none⟩) k k)∧w'.ownsRow w.heap.size 5 1 (.slice (some ⟨g,0,none⟩) k k) k (Lib.byteCells (C8 x k))∧Below w.heap.size w w':=by
 obtain⟨i0,hi,hz0,hz1,hz2⟩:=info_parts oI
 have d1:decide ((k:Int)<1)=false:=dF (by omega)
 have d2:decide ((8:Int)<(k:Int))=false:=dF (by omega)
 go_enter Tryz.func92,Tryz.ntmps92
 go_wp2_with (
  refine wpList_make_full _ rfl _ _ _ rfl w.heap.size 5 i0 _ 1 Tryz.underlying43 hi hz0 hz1 .i64 .i64 _ _ k rfl rfl rfl rfl (by rw[hz2];omega) (by simp only[maxLen];omega) (by omega) ?_
  intro w1 hr1 hg1)
 have R0:Hid (w1.ownsRow w.heap.size 5 1 (.slice (some ⟨w.heap.size,0,none⟩) k k) k ((C8 x 0++List.replicate (k-0) 0).map vb)):=by
  have:=hr1
  rw[ub] at this
  show World.ownsRow _ _ _ _ _ _ _
  simpa [C8,GS] using this
 have L0:=ae ((Below.refl w.heap.size w).grown hg1 lr (by simp))
 clear hr1 hg1
 go_wp2_with fail
 go_loopw [16] (fun s16 wr=>∃ i:Nat,i≤k∧s16=.int .i64 i∧Hid (wr.ownsRow w.heap.size 5 1 (.slice (some ⟨w.heap.size,0,none⟩) k k) k ((C8 x i++List.replicate (k-i) 0).map vb))∧Hid (Below w.heap.size w wr)) (fun s16 _=>k-(intOf s16).toNat)
 case atStart=>exact⟨0,z0,rfl,R0,L0⟩
 case round=>
  obtain⟨i,hik,rfl,HR,HL⟩:=hrel
  by_cases hlt:i<k
  ·obtain⟨m,hm⟩:∃ m,k-i=m+1:=⟨k-i-1,by omega⟩
   obtain⟨s,hs⟩:∃ s,8*i=s:=⟨_,rfl⟩
   have hsi:(8:Int)*(i:Int)=(s:Int):=by omega
   have hs64:s<64:=by omega
   have hsh:=Ay x i s hs
   obtain⟨d,hd⟩:∃ d,dg x i=d:=⟨_,rfl⟩
   rw[hd] at hsh
   have hmk:i<k:=by omega
   have cm:=HR.out.cellAt (i) (by omega)
   obtain⟨u,hu⟩:∃ u,((C8 x i++List.replicate (k-i) 0).map vb)[i]?=some u:=⟨_,gG (by simp[lY,rj];omega)⟩
   rw[hu] at cm
   have fm:=HR.out.frozenAt (i)
   have HN:Hid ((wr.setCell ⟨w.heap.size,i,none⟩ (vb d)).ownsRow w.heap.size 5 1 (.slice (some ⟨w.heap.size,0,none⟩) k k) k ((C8 x (i+1)++List.replicate (k-(i+1)) 0).map vb)):=by
    have:=(HR.out.stored (i) (vb d)).1
    rw[hm] at this
    have e:=Nx (n:=m) (r:=C8 x i) d
    rw[lY] at e
    rw[e] at this
    show World.ownsRow _ _ _ _ _ _ _
    rw[show k-(i+1)=m by omega,An,hd]
    exact this
   have HL2:=ae (HL.out.setCell (p:=⟨w.heap.size,i,none⟩) lr (vb d))
   unfold vb at HN HL2
   clear hm hs hd hu
   go_wp2_with fail
   go_roundw
   case rel=>exact⟨i+1,by omega,by go_num,HN,HL2⟩
   case measure=>simp[intOf];omega
  ·obtain rfl:i=k:=by omega
   go_wp2_with fail
   go_ret
   refine⟨_,rfl,?_,HL.out⟩
   have:=HR.out
   rw[Nat.sub_self,List.replicate_zero,List.append_nil] at this
   exact this
end
section
open Go.RowKit Go.Maps
theorem Ep:∀ (l pre:List am),(eW pre l).2≠0→∃ x,(pre++l)[(eW pre l).1]?=some x
 | [],pre,h=>by simp[eW] at h
 | x::r,pre,h=>by
  unfold eW at h ⊢
  split
  ·rename_i h0
   rw[if_pos h0] at h
   have:=Ep r (pre++[x]) h
   simpa using this
  ·exact⟨x,by simp⟩
theorem Er (x:am):∀ u∈x.cells,u.oneCell'=true:=by intro u hu;simp only[am.cells,List.mem_cons,List.not_mem_nil,or_false] at hu;rcases hu with rfl | rfl | rfl | rfl | rfl | rfl | rfl | rfl | rfl | rfl<;>rfl
theorem Kk:(Tryz.prog.info? 45).map (fun i=>(i.zero,i.size,i.bytes))=some (some (.agg #[.string ⟨#[]⟩,.int .i64 0,.int .i64 0,.int .i64 0,.int .i64 0,.string ⟨#[]⟩,.string ⟨#[]⟩,.int .i64 0,.string ⟨#[]⟩,.slice none 0 0]),10,128):=by kernel_rfl
end
section
open Go.RowKit
theorem AG {x y:am}:gp x y=true↔x.mode=y.mode∧x.uid=y.uid∧x.gid=y.gid∧x.owner=y.owner∧x.group=y.group∧x.mtime=y.mtime:=by
 unfold gp
 simp only[Bool.and_eq_true,beq_iff_eq,dx,decide_eq_true_eq]
theorem AH {l:List am}(h:∀ (i j:Nat)(x y:am),l[i]?=some x→l[j]?=some y→x.path=y.path→i=j):(l.map am.path).Nodup:=by
 rw[List.Nodup,List.pairwise_iff_getElem]
 intro i j hi hj hij e
 simp only[List.getElem_map] at e
 have hi':i<l.length:=by simpa using hi
 have hj':j<l.length:=by simpa using hj
 have:=h i j l[i] l[j] (gG hi') (gG hj') e
 omega
theorem AI {l:List am}(h:(l.map am.path).Nodup):∀ (i j:Nat)(x y:am),l[i]?=some x→l[j]?=some y→x.path=y.path→i=j:=by
 intro i j x y hi hj e
 obtain⟨hi',hi⟩:=gS hi
 obtain⟨hj',hj⟩:=gS hj
 rw[List.Nodup,List.pairwise_iff_getElem] at h
 rcases Nat.lt_trichotomy i j with k | k | k
 ·exact absurd (show(l.map am.path)[i]'(by simpa using hi')=(l.map am.path)[j]'(by simpa using hj') by simp only[List.getElem_map,hi,hj];exact e) (h i j (by simpa using hi') (by simpa using hj') k)
 ·exact k
 ·exact absurd (show(l.map am.path)[j]'(by simpa using hj')=(l.map am.path)[i]'(by simpa using hi') by simp only[List.getElem_map,hi,hj];exact e.symm) (h j i (by simpa using hj') (by simpa using hi') k)
end
section
open Go.RowKit Go.Maps
structure am.fits (x:am):Prop where
 path:x.path.size≤9223372036854775807
 owner:x.owner.size≤9223372036854775807
 group:x.group.size≤9223372036854775807
 link:x.link.size≤9223372036854775807
 data:x.data.length≤9223372036854775807
structure am.lite (x:am):Prop where
 path:x.path.size≤5000
 owner:x.owner.size≤5000
 group:x.group.size≤5000
 link:x.link.size≤5000
 data:x.data.length≤5000
def OI (a:Int):Int:=if 5001<a then 5001 else a
theorem NA (ats:Array TypeId)(ty:TypeId)(a:Int)(w:World):(Builtin.min_ ats ty #[.int .i64 a,.int .i64 5001]).run Tryz.prog w=.ok (.int .i64 (OI a)) w:=rfl
theorem ue (n:Nat):0≤OI n∧OI n≤5001∧(OI n≤5000→n≤5000):=by unfold OI;split<;>omega
theorem ny {α:Type}{l:List α}{k:Nat}{x:α}(h:l[k]?=some x):l.take (k+1)=l.take k++[x]:=by
 obtain⟨hk,hx⟩:=gS h
 rw[tS hk,hx]
structure Hg (W:World) (b o:Nat) (x:am):Prop where
 cell:∀ (j:Nat)(u:Value),x.cells[j]?=some u→W.cell? ⟨b,o+j,none⟩=some u
 data:Rd W 1 x.da x.data.length (x.data.map vb)
theorem Hg.below {W W':World}{b o:Nat}{x:am}(h:Hg W b o x)(hb:Below W.heap.size W W'):Hg W' b o x:=
 ⟨fun j u hu=>(hb.cell (p:=⟨b,o+j,none⟩) (World.block_lt_of_cell? _ _ (h.cell j u hu))).trans (h.cell j u hu),h.data.below hb⟩
theorem Ds (x y:am)(w:World):Calls Tryz.prog 46 #[.agg #[.string x.path,.int .i64 x.kind,.int .i64 x.mode,.int .i64 x.uid,.int .i64 x.gid,.string x.owner,.string x.group,.int .i64 x.mtime,.string x.link,.slice x.da x.data.length x.dc],.agg #[.string y.path,.int .i64 y.kind,.int .i64 y.mode,.int .i64 y.uid,.int .i64 y.gid,.string y.owner,.string y.group,.int .i64 y.mtime,.string y.link,.slice y.da y.data.length y.dc]] w fun e w'=>e=.returned (.bool (gp x y))∧Below w.heap.size w w':=by
 have hb:Below w.heap.size w ((w.alloc (.cells #[.string x.path,.int .i64 x.kind,.int .i64 x.mode,.int .i64 x.uid,.int .i64 x.gid,.string x.owner,.string x.group,.int .i64 x.mtime,.string x.link,.slice x.da x.data.length x.dc] 45)).alloc (.cells #[.string y.path,.int .i64 y.kind,.int .i64 y.mode,.int .i64 y.uid,.int .i64 y.gid,.string y.owner,.string y.group,.int .i64 y.mtime,.string y.link,.slice y.da y.data.length y.dc] 45)):=(bR.alloc lr _).alloc (by simp) _
 have HB:=ae hb;clear hb
 cases h0:(x.mode==y.mode)
 case false=>
  have E:Hid (gp x y=false):=by show _=_;unfold gp;rw[h0];rfl
  go_enter Tryz.func46,Tryz.ntmps46
  go_wp2_with fail
  go_ret
  exact⟨congrArg (fun b=>Ending.returned (Value.bool b)) E.out.symm,HB.out⟩
 cases h1:(x.uid==y.uid)
 case false=>
  have E:Hid (gp x y=false):=by show _=_;unfold gp;rw[h0,h1];rfl
  go_enter Tryz.func46,Tryz.ntmps46
  go_wp2_with fail
  go_ret
  exact⟨congrArg (fun b=>Ending.returned (Value.bool b)) E.out.symm,HB.out⟩
 cases h2:(x.gid==y.gid)
 case false=>
  have E:Hid (gp x y=false):=by show _=_;unfold gp;rw[h0,h1,h2];rfl
  go_enter Tryz.func46,Tryz.ntmps46
  go_wp2_with fail
  go_ret
  exact⟨congrArg (fun b=>Ending.returned (Value.bool b)) E.out.symm,HB.out⟩
 cases h3:(x.owner.toList==y.owner.toList)
 case false=>
  have E:Hid (gp x y=false):=by show _=_;unfold gp;rw[h0,h1,h2,h3];rfl
  go_enter Tryz.func46,Tryz.ntmps46
  go_wp2_with fail
  go_ret
  exact⟨congrArg (fun b=>Ending.returned (Value.bool b)) E.out.symm,HB.out⟩
 cases h4:(x.group.toList==y.group.toList)
 case false=>
  have E:Hid (gp x y=false):=by show _=_;unfold gp;rw[h0,h1,h2,h3,h4];rfl
  go_enter Tryz.func46,Tryz.ntmps46
  go_wp2_with fail
  go_ret
  exact⟨congrArg (fun b=>Ending.returned (Value.bool b)) E.out.symm,HB.out⟩
 cases h5:(x.mtime==y.mtime)
 case false=>
  have E:Hid (gp x y=false):=by show _=_;unfold gp;rw[h0,h1,h2,h3,h4,h5];rfl
  go_enter Tryz.func46,Tryz.ntmps46
  go_wp2_with fail
  go_ret
  exact⟨congrArg (fun b=>Ending.returned (Value.bool b)) E.out.symm,HB.out⟩
 have E:Hid (gp x y=true):=by show _=_;unfold gp;rw[h0,h1,h2,h3,h4,h5];rfl
 go_enter Tryz.func46,Tryz.ntmps46
 go_wp2_with fail
 go_ret
 exact⟨congrArg (fun b=>Ending.returned (Value.bool b)) E.out.symm,HB.out⟩
theorem un {s x:BA}:∀ {n:Nat},n≤s.size→x∈fY s n→∃ k,k<n∧(bl s)[k]?=some 47∧x=s.extract 0 k
 | 0,_,h=>by simp[fY] at h
 | n+1,hn,h=>by
  unfold fY at h
  split at h
  ·rename_i h47
   rcases List.mem_append.1 h with h | h
   ·obtain⟨k,a,b,c⟩:=un (by omega) h;exact⟨k,by omega,b,c⟩
   ·exact⟨n,by omega,h47,List.mem_singleton.1 h⟩
  ·obtain⟨k,a,b,c⟩:=un (by omega) h;exact⟨k,by omega,b,c⟩
theorem Hq {s:BA}{k:Nat}(h:(bl s)[k]?=some 47):∀ n,k<n→s.extract 0 k∈fY s n:=by
 intro n
 induction n with
 | zero=>intro hk;omega
 | succ n ih=>
  intro hk
  unfold fY
  by_cases e:k=n
  ·subst e;rw[if_pos h];exact List.mem_append_right _ (List.mem_singleton.2 rfl)
  ·have:=ih (by omega)
   split
   ·exact List.mem_append_left _ this
   ·exact this
theorem Ob (c:UInt8):((c.toNat:Int)==47)=(c==47):=by
 have h:(List.range 256).all (fun n=>(((UInt8.ofNat n).toNat:Int)==47)==(UInt8.ofNat n==47))=true:=by kernel_rfl
 have:=List.all_eq_true.1 h c.toNat (List.mem_range.2 c.toNat_lt)
 simpa using this
theorem pM {a b:BA}:ip (aL b) a=true↔a.size<b.size∧b.extract 0 a.size=a∧(bl b)[a.size]?=some 47:=by
 rw[iL]
 unfold aL
 constructor
 ·intro h
  obtain⟨k,hk,h47,e⟩:=un lr h
  have hs:a.size=k:=by rw[e,ByteArray.size_extract];omega
  rw[hs]
  exact⟨hk,e.symm,h47⟩
 ·rintro⟨h1,h2,h3⟩
  have:=Hq h3 b.size h1
  rwa [h2] at this
theorem Hr (a b:BA)(w:World)(ha:a.size≤9223372036854775807)(hb:b.size≤9223372036854775807):Calls Tryz.prog 47 #[.string a,.string b] w fun e w'=>e=.returned (.bool (ip (aL b) a))∧w=w':=by
 obtain⟨v,hv⟩:∃ v,ip (aL b) a=v:=⟨_,rfl⟩
 rw[hv]
 go_enter Tryz.func47,Tryz.ntmps47
 by_cases h:a.size<b.size
 case neg=>
  have E:Hid (v=false):=by
   show _=_
   rw[←hv]
   cases e:ip (aL b) a with
   | false=>rfl
   | true=>exact absurd (pM.1 e).1 h
  clear hv
  have q2:¬ (a.size:Int)<(b.size:Int):=by omega
  go_wp2_with fail
  go_ret
  exact⟨by rw[E.out];rfl,rfl⟩
 have q2:(a.size:Int)<(b.size:Int):=by omega
 by_cases he:b.extract 0 a.size=a
 case neg=>
  have E:Hid (v=false):=by
   show _=_
   rw[←hv]
   cases e:ip (aL b) a with
   | false=>rfl
   | true=>exact absurd (pM.1 e).2.1 he
  clear hv
  have q3:((b.extract 0 a.size).toList==a.toList)=false:=by rw[dx];exact dF he
  clear he
  go_wp2_with fail
  go_ret
  exact⟨by rw[E.out];rfl,rfl⟩
 have q3:((b.extract 0 a.size).toList==a.toList)=true:=by rw[he];simp
 have E:Hid (v=(b[a.size]==47)):=by
  show _=_
  rw[←hv,bI,pM,cZ b a.size h]
  simp[h,he]
 clear hv he
 go_wp2_with fail
 go_ret
 exact⟨by rw[E.out];simp[Ob],rfl⟩
end
section
open Go.ChangeShapes Go.WideShapes Go.Deep Go.RowKit
section
variable {H : Type} {enc : TypeId × Value → H} {w : World} {spare : Nat → Bool}
def MR (w:World)(x:am):Prop:=x.fits∧Rd w 1 x.da x.data.length (x.data.map vb)∧x.data.length≤x.dc∧x.dc≤9223372036854775807
theorem Hz {fuel:Nat}{v:Value}{d:DataW H×List MemPlace}(h:DataW.trod enc Tryz.prog w 0 spare true fuel 23 [v]=some d):
  ∃ (A:OA) (c:Nat) (l:List am),v=.slice A l.length c∧Rd w 10 A l.length (l.flatMap am.cells)∧(∀ x∈l,MR w x)∧l.length≤9223372036854775807∧l.length≤c:=by
 refine jW Tryz.underlying23 Tryz.underlying45 (by kernel_rfl) (by kernel_rfl) (by decide) am.cells (MR w) (fun _=>rfl) (fun n vs hv=>?_) h
 obtain⟨y0,h0⟩:=hv 0 _ rfl
 obtain⟨y1,h1⟩:=hv 1 _ rfl
 obtain⟨y2,h2⟩:=hv 2 _ rfl
 obtain⟨y3,h3⟩:=hv 3 _ rfl
 obtain⟨y4,h4⟩:=hv 4 _ rfl
 obtain⟨y5,h5⟩:=hv 5 _ rfl
 obtain⟨y6,h6⟩:=hv 6 _ rfl
 obtain⟨y7,h7⟩:=hv 7 _ rfl
 obtain⟨y8,h8⟩:=hv 8 _ rfl
 obtain⟨y9,h9⟩:=hv 9 _ rfl
 obtain⟨s0,e0,z0⟩:=cN h0
 obtain⟨s1,e1,z1⟩:=fW h1
 obtain⟨s2,e2,z2⟩:=fW h2
 obtain⟨s3,e3,z3⟩:=fW h3
 obtain⟨s4,e4,z4⟩:=fW h4
 obtain⟨s5,e5,z5⟩:=cN h5
 obtain⟨s6,e6,z6⟩:=cN h6
 obtain⟨s7,e7,z7⟩:=fW h7
 obtain⟨s8,e8,z8⟩:=cN h8
 obtain⟨A,m,c,l,e9,hr,hmc,hc⟩:=DE h9
 have hm:m=l.length:=by have:=hr.1;simpa using this.symm
 subst hm
 refine⟨⟨s0,s1,s2,s3,s4,s5,s6,s7,s8,A,c,l⟩,⟨⟨z0,z5,z6,z8,by show l.length≤_;omega⟩,hr,hmc,hc⟩,fun j hj=>?_⟩
 have hj':j<10:=hj
 rcases(by omega:j=0∨j=1∨j=2∨j=3∨j=4∨j=5∨j=6∨j=7∨j=8∨j=9) with rfl | rfl | rfl | rfl | rfl | rfl | rfl | rfl | rfl | rfl
 ·rw[e0];rfl
 ·rw[e1];rfl
 ·rw[e2];rfl
 ·rw[e3];rfl
 ·rw[e4];rfl
 ·rw[e5];rfl
 ·rw[e6];rfl
 ·rw[e7];rfl
 ·rw[e8];rfl
 ·rw[e9];rfl
end
end
end Go.Proofs.YtaohgmcbpafdeaaGreatDoor
