/- A part of the proof. -/
import Derived.Ground.SlsfProg
import Derived.LoopIn
import Derived.LoopNIn
import Derived.Maps.OwnIn
import Derived.Maps.RangeRun
import Derived.OwnWalkIn
import Derived.RangeFuncBound
import Derived.RangeFuncCalls
import Derived.RangeFuncLeaves
import Derived.RangeFuncNested
import Derived.Shelf.Abstract
import Derived.Shelf.RegionOpen
import Derived.Shelf.SlSortCmp.NoneTotal
import Derived.TacticsInMore
import Derived.Test.YtaohgmcbpafdeaaGreatDoorA07
import Derived.Test.YtaohgmcbpafdeaaGreatDoorA14
import Derived.Test.YtaohgmcbpafdeaaGreatDoorA15
set_option maxRecDepth 100000
set_option maxHeartbeats 20000000
set_option linter.unusedVariables false
set_option linter.unusedSimpArgs false
namespace Go.Proofs.YtaohgmcbpafdeaaGreatDoor
section
open Go.RowKit
def lJ (l:List bJ):Nat:=(l.map fun p=>1+jB p).sum
theorem Ii (l:List bJ)(k:Nat)(x:bJ)(h:l[k]?=some x):lJ (l.take (k+1))=lJ (l.take k)+1+jB x:=by
 obtain⟨hk,hx⟩:=gS h
 unfold lJ;rw[tS hk,List.map_append,List.sum_append,hx];simp;omega
def Ez (l:List bJ)(count:Nat)(most:Int)(e:Ending):Prop:=∃ b:Bool,e=.returned (.bool b)∧(b=true→l.length≤count∧(lJ l:Int)≤most)
theorem EC (A:OA)(c:Nat)(l:List bJ)(count:Nat)(hcnt:count≤1000)(most:Int)(h0:0≤most)(h1:most≤1000000)(w:World)(hd:oO w A l)(hf:∀ p∈l,p.fits)(hl:l.length≤9223372036854775807):
  Calls Tryz.prog 10 #[.slice A l.length c,.int .i64 count,.int .i64 most] w fun e w'=>Ez l count most e∧Below w.heap.size w w':=by
 have HD:=ae hd;clear hd
 have HF:=ae hf;clear hf
 by_cases hc:l.length≤count
 ·have hcb:decide (count<l.length)=false:=by simp;omega
  go_enter Tryz.func10,Tryz.ntmps10
  go_upto_block 0 with(fail)
  go_cut [7] (fun s7 wx=>∃ m:Int,s7=.int .i64 m∧0≤m∧m≤7*most+7∧Hid (m≤most→m=(lJ l:Int))∧Hid (Below w.heap.size w wx))
  case first=>
   go_wp2_with fail
   go_loopw [7,8] (fun n i wr=>∃ (k:Nat) (m:Int),k≤l.length∧i=.int .i64 k∧n=.int .i64 m∧0≤m∧m≤7*most+7∧Hid (m≤most→m=(lJ (l.take k):Int))∧Hid (Below w.heap.size w wr)) (fun _ i _=>l.length-(intOf i).toNat)
   case atStart=>exact⟨0,0,z0,rfl,rfl,by omega,by omega,(fun h=>by simp[lJ]),bR⟩
   case round=>
    obtain⟨k,m,hk,rfl,rfl,m0,m1,M2,BX⟩:=hrel
    by_cases hlt:k<l.length
    ·by_cases hm:m≤most
     ·obtain⟨x,hx⟩:∃ x,l[k]?=some x:=⟨_,gG hlt⟩
      have hxm:x∈l:=gM hx
      obtain⟨b,off,hA,he⟩:=(HD.out.row.below BX.out).elem oP k x hx
      have e0:=he 0 _ rfl
      have e1:=he 1 _ rfl
      have e2:=he 2 _ rfl
      have e3:=he 3 _ rfl
      have e4:=he 4 _ rfl
      have e5:=he 5 _ rfl
      have e6:=he 6 _ rfl
      have e7:=he 7 _ rfl
      have e8:=he 8 _ rfl
      simp only[Nat.add_zero] at e0
      clear he
      have hix:=fun W=>aI (T:=22) (E:=39) (sz:=9) (c:=c) Tryz.underlying22 rfl Tryz.sizeOf39 hA hlt W
      have HX:=ae hx
      have HW:=ae (Ii l k x hx)
      have HM:=ae hxm
      clear hx hA hxm
      go_wp2_with fail
      refine(Bd x most h0 h1 _ ((HD.out.all x HM.out).below BX.out) (HF.out x HM.out)).mono ?_
      rintro e w1 ⟨⟨q,rfl,q0,q1,q2⟩,hb1⟩
      have Q2:=ae q2;clear q2
      clear e0 e1 e2 e3 e4 e5 e6 e7 e8 hix
      go_wp2_with fail
      have F1:Hid (m+1+q≤most→m+1+q=(lJ (l.take (k+1)):Int)):=by
       intro h;rw[HW.out];have:=M2.out hm;have:=Q2.out (by omega);omega
      go_roundw
      case rel=>exact⟨k+1,_,by omega,by go_num,rfl,by omega,by omega,F1,aq BX.out hb1⟩
      case measure=>simp[intOf];omega
     ·go_wp2_with fail
      go_meet
      exact⟨m,rfl,m0,m1,(fun h=>by omega),BX⟩
    ·go_wp2_with fail
     go_meet
     exact⟨m,rfl,m0,m1,(fun h=>by rw[M2.out h,tL (by omega)]),BX⟩
  case rest=>
   obtain⟨m,rfl,m0,m1,M2,BX⟩:=hcut
   go_wp2_with fail
   go_ret
   exact⟨⟨_,rfl,fun hb=>⟨hc,by have h:=dO hb;have:=M2.out h;omega⟩⟩,BX.out⟩
 ·go_enter Tryz.func10,Tryz.ntmps10
  go_wp2_with fail
  go_ret
  exact⟨⟨false,rfl,fun h=>by cases h⟩,bR⟩
end
section
open Go.RowKit
open Classical
noncomputable def dd (l:List BA):List BA:=l.foldl (fun acc x=>if x∈acc then acc else acc++[x]) []
theorem nH (s:BA):∀ (l acc:List BA),s∈l.foldl (fun acc x=>if x∈acc then acc else acc++[x]) acc↔s∈acc∨s∈l
 | [],acc=>by simp
 | x::r,acc=>by
  rw[List.foldl_cons,nH s r,List.mem_cons]
  split
  ·rename_i h
   constructor
   ·rintro(h1 | h1)
    ·exact .inl h1
    ·exact .inr (.inr h1)
   ·rintro(h1 | rfl | h1)
    ·exact .inl h1
    ·exact .inl h
    ·exact .inr h1
  ·rw[List.mem_append,List.mem_singleton]
   constructor
   ·rintro((h1 | h1) | h1)
    ·exact .inl h1
    ·exact .inr (.inl h1)
    ·exact .inr (.inr h1)
   ·rintro(h1 | h1 | h1)
    ·exact .inl (.inl h1)
    ·exact .inl (.inr h1)
    ·exact .inr h1
theorem Bg (s:BA)(l:List BA):s∈dd l↔s∈l:=by unfold dd;rw[nH];simp
theorem DF (l:List BA)(x:BA):dd (l++[x])=if x∈l then dd l else dd l++[x]:=by
 have h:dd (l++[x])=if x∈dd l then dd l else dd l++[x]:=by unfold dd;rw[List.foldl_append];rfl
 rw[h]
 by_cases hx:x∈l
 ·rw[if_pos hx,if_pos ((Bg x l).2 hx)]
 ·rw[if_neg hx,if_neg (fun h=>hx ((Bg x l).1 h))]
theorem kz:∀ (l acc:List BA),(l.foldl (fun acc x=>if x∈acc then acc else acc++[x]) acc).length≤acc.length+l.length
 | [],acc=>by simp
 | x::r,acc=>by
  rw[List.foldl_cons]
  have h1:=kz r (if x∈acc then acc else acc++[x])
  have h2:(if x∈acc then acc else acc++[x]).length≤acc.length+1:=by split<;>simp
  rw[List.length_cons];omega
theorem ED (l:List BA):(dd l).length≤l.length:=by have:=kz l [];simpa [dd] using this
def bg (l:List av):List BA:=l.map (·.path)
noncomputable def fE (fs:List av) (nm:BA):List (BA×BA):=(dd (bg fs)).map fun s=>(s,nm)
noncomputable def gU (l:List bJ):List (BA×BA):=l.flatMap fun p=>fE p.files p.nm
theorem yw (fs:List av)(nm:BA):(fE fs nm).length≤fs.length:=by
 unfold fE;rw[List.length_map];exact Nat.le_trans (ED _) (by simp[bg])
theorem iH:∀ (l:List bJ),(gU l).length≤lJ l
 | []=>by simp[gU,lJ]
 | p::r=>by
  have h1:=iH r
  have h2:=yw p.files p.nm
  have h3:p.files.length≤cT p.files:=by
   unfold cT
   generalize p.files=fs
   induction fs with
   | nil=>simp
   | cons a r ih=>simp at *;omega
  unfold gU at h1 ⊢
  unfold lJ at h1 ⊢
  rw[List.flatMap_cons,List.length_append,List.map_cons,List.sum_cons]
  have hw:jB p=dn p+bY p.needs+bY p.bars+eA p.gives+cT p.files+eC p.scripts:=rfl
  omega
theorem rz {l:List bJ}{k:Nat}{p:bJ}(h:l[k]?=some p):gU (l.take (k+1))=gU (l.take k)++fE p.files p.nm:=by
 obtain⟨hk,hx⟩:=gS h
 unfold gU;rw[tS hk,List.flatMap_append,hx];simp
theorem oR {fs:List av}{k:Nat}{f:av}{nm:BA}(h:fs[k]?=some f):
  fE (fs.take (k+1)) nm=if f.path∈bg (fs.take k) then fE (fs.take k) nm else fE (fs.take k) nm++[(f.path,nm)]:=by
 obtain⟨hk,hx⟩:=gS h
 unfold fE
 rw[tS hk,hx,show bg (fs.take k++[f])=bg (fs.take k)++[f.path] by simp[bg],DF]
 split
 ·rfl
 ·simp
theorem kJ {fs:List av}{k:Nat}{f:av}(h:fs[k]?=some f):bg (fs.take (k+1))=bg (fs.take k)++[f.path]:=by
 obtain⟨hk,hx⟩:=gS h
 rw[tS hk,hx];simp[bg]
structure me where
 path:BA
 na:OA
 nc:Nat
 names:List BA
def me.sl (x:me):Value:=.slice x.na x.names.length x.nc
def me.cells (x:me):LV:=[.string x.path,x.sl]
def me.pair (x:me):BA×List BA:=(x.path,x.names)
theorem Lb (x:me):x.cells.length=2:=rfl
def EF (ps:List (BA×BA))(w:World)(e:Ending)(w':World):Prop:=
 ∃ (A:OA) (c:Nat) (out:List me),e=.returned (.slice A out.length c)∧Rd w' 2 A out.length (out.flatMap me.cells) ∧
  (∀ x∈out,Rd w' 1 x.na x.names.length (az x.names))∧Oi ps (out.map me.pair)∧Below w.heap.size w w'
end
section
open Go.RowKit Go.Maps
theorem aX.drew {w:World}{b n:Nat}{f:BA→Option Value}(h:aX w b n f):aX w.drew b n f:=h.kept (row:=none) ⟨rfl,rfl,rfl,lr,fun _ _ _=>rfl⟩ (by simp)
theorem aX.alloc {w:World}{b n:Nat}{f:BA→Option Value}(h:aX w b n f)(o:Obj):aX (w.alloc o) b n f:=h.kept (World.grownBy_alloc w o none) (by simp)
theorem aX.keys {w:World}{b n:Nat}{f:BA→Option Value}(h:aX w b n f):
  ∃ D:DataW Value,w.ownsMap Tryz.prog 9 RV b n D∧Maps.size D≤n∧(strKeys D).Nodup∧(∀ x∈strKeys D,x.length≤maxLen∧(f ⟨x.toArray⟩).isSome=true)∧∀ s:BA,s.size≤maxLen→(f s).isSome=true→bl s∈strKeys D:=by
 obtain⟨D,h1,h2⟩:=h
 refine⟨D,h1,h1.size_le,?_,?_,?_⟩
 all_goals
  obtain⟨es,hD,hpw,_⟩:=h1.entries kH
  obtain⟨es',hD',hko⟩:=h1.keysOf
  obtain rfl:es=es':=by rw[hD] at hD';simpa using hD'
  have hstr:∀ p∈es,∃ x:LU,p.1=.string x∧x.length≤maxLen:=fun p hp=>by obtain⟨v,hv⟩:=hko p hp;obtain⟨x,_,hx,hl⟩:=Maps.keyOf_str Tryz.underlying9 hv;exact⟨x,hx,hl⟩
 ·rw[hD]
  show(es.map fun p=>strOf p.1).Nodup
  refine List.pairwise_map.2 (hpw.imp_of_mem fun {p q} hp' hq' hne e=>hne ?_)
  obtain⟨a,ha,_⟩:=hstr p hp'
  obtain⟨c,hc,_⟩:=hstr q hq'
  rw[ha,hc] at e ⊢
  exact congrArg _ e
 ·intro x hx
  rw[hD] at hx
  obtain⟨p,hp,rfl⟩:=List.mem_map.1 hx
  obtain⟨a,ha,hal⟩:=hstr p hp
  rw[ha]
  refine⟨hal,?_⟩
  have h3:=(h2 ⟨a.toArray⟩ (by simpa [ByteArray.size] using hal)).1
  show(f ⟨a.toArray⟩).isSome=true
  rw[←h3,hD,has_eq,List.any_eq_true]
  exact⟨p,hp,by rw[ha];simp[Lit.sameKey,kl]⟩
 ·intro s hs hf
  have h3:=(h2 s hs).1
  rw[hf,hD,has_eq,List.any_eq_true] at h3
  obtain⟨p,hp,hsame⟩:=h3
  obtain⟨a,ha,_⟩:=hstr p hp
  rw[ha] at hsame
  rw[hD]
  refine List.mem_map.2 ⟨p,hp,?_⟩
  rw[ha]
  have:a=s.data.toList:=by simpa [Lit.sameKey,kl] using hsame
  rw[this];rfl
structure Lc (w wr:World) (ps:List (BA×BA)) (f:BA→Option Value):Prop where
 names:aX wr w.heap.size ps.length f
 dom:∀ s,f s=none↔s ∉ ps.map (·.1)
 row:∀ s v,f s=some v→wr.ownsRow (w.heap.size+2) 9 1 v (kC ps s).length (az (kC ps s))
 apart:∀ s t v u,f s=some v→f t=some u→s≠t→v.ownBlock≠u.ownBlock
structure Pa (i:Nat) (T:List BA) (g:BA→Option Value):Prop where
 val:∀ s v,g s=some v→∃ j:Nat,v=.int .i64 j∧(j=i∧s∈T∨j<i∧s ∉ T)
 mem:∀ s,s∈T→g s≠none
structure qn (w wr:World) (i:Nat) (T:List BA) (ps:List (BA×BA)) (f g:BA→Option Value):Prop where
 grp:Lc w wr ps f
 last:aX wr (w.heap.size+1) ps.length g
 lst:Pa i T g
 bel:Below w.heap.size w wr
 sz:w.heap.size+2≤wr.heap.size
theorem Lc.below {w wr w':World}{ps:List (BA×BA)}{f:BA→Option Value}(h:Lc w wr ps f)(hb:Below wr.heap.size wr w'):Lc w w' ps f:=
 ⟨h.names.below hb,h.dom,fun s v hv=>cR (h.row s v hv) hb,h.apart⟩
theorem qn.below {w wr w':World}{i:Nat}{T:List BA}{ps:List (BA×BA)}{f g:BA→Option Value}(h:qn w wr i T ps f g)(hb:Below wr.heap.size wr w'):qn w w' i T ps f g:=
 ⟨h.grp.below hb,h.last.below hb,h.lst,aq h.bel hb,Nat.le_trans h.sz hb.size⟩
theorem qn.alloc {w wr:World}{i:Nat}{T:List BA}{ps:List (BA×BA)}{f g:BA→Option Value}(h:qn w wr i T ps f g)(o:Obj):qn w (wr.alloc o) i T ps f g:=
 h.below (bR.alloc lr o)
theorem qn.start (w:World):qn w ((w.alloc (.map #[] 0)).alloc (.map #[] 0)) 0 [] [] (fun _=>none) (fun _=>none):=by
 refine⟨⟨(aX.made w).alloc _,by simp,by simp,by simp⟩,?_,⟨by simp,by simp⟩,(bR.alloc lr _).alloc (by simp) _,by simp⟩
 have:=aX.made (w.alloc (.map #[] 0))
 simpa using this
theorem qn.next {w wr:World}{i:Nat}{T:List BA}{ps:List (BA×BA)}{f g:BA→Option Value}(h:qn w wr i T ps f g):qn w wr (i+1) [] ps f g:=
 ⟨h.grp,h.last,⟨fun s v hv=>by
  obtain⟨j,rfl,hj⟩:=h.lst.val s v hv
  exact⟨j,rfl,.inr ⟨by omega,by simp⟩⟩,by simp⟩,h.bel,h.sz⟩
theorem mJ {W:World}{base:Nat}{e t:TypeId}{size n b:Nat}{v:Value}{xs:LV}{cs:Array Value}{fr:Nat×Nat}(h:W.ownsRow base e size v n xs)(hb:W.heap[b]?=some (.cells cs t fr))(hne:t≠e):some b≠v.ownBlock:=by
 intro he
 rcases h.2 with⟨rfl,_⟩ | ⟨g,cap,cur,rfl,_,hg,_⟩
 ·simp[Value.ownBlock] at he
 ·simp[Value.ownBlock] at he
  subst he
  rw[hb] at hg
  injection hg with hg
  injection hg with _ h2 _
  exact hne h2
theorem Lc.at_ {w wr:World}{ps:List (BA×BA)}{f:BA→Option Value}(h:Lc w wr ps f)(s:BA):wr.ownsRow (w.heap.size+2) 9 1 ((f s).getD (.slice none 0 0)) (kC ps s).length (az (kC ps s)):=by
 cases hf:f s with
 | none=>
  rw[Ik ((h.dom s).1 hf)]
  exact World.ownsRow_nil _ _ _ _
 | some v=>exact h.row s v hf
theorem Lc.block {w wr:World}{ps:List (BA×BA)}{f:BA→Option Value}(h:Lc w wr ps f){s:BA}{v:Value}(hv:f s=some v):∃ g,v.ownBlock=some g∧w.heap.size+2≤g∧g<wr.heap.size:=by
 have hin:s∈ps.map (·.1):=by
  by_cases hn:s∈ps.map (·.1)
  ·exact hn
  ·rw[(h.dom s).2 hn] at hv;cases hv
 have hpos:0<(kC ps s).length:=List.length_pos_iff.2 (Il hin)
 obtain⟨g,cap,rfl,h1,h2⟩:=(h.row s v hv).form hpos
 exact⟨g,rfl,h1,h2⟩
theorem qn.step {w wa w1 wb w2 w3:World}{i:Nat}{T:List BA}{ps:List (BA×BA)}{f g:BA→Option Value}{s nm:BA}{v1:Value}(h:qn w wa i T ps f g)
  (m1:aX w1 (w.heap.size+1) (ps.length+1) (fun x=>if x=s then some (.int .i64 i) else g x))(g1:wa.grownBy w1 (some (w.heap.size+1)))(gb:w1.grownBy wb none)
  (o2:w2.ownsRow (w.heap.size+2) 9 1 v1 ((kC ps s).length+1) (az (kC ps s)++[.string nm]))(g2:wb.grownBy w2 ((f s).getD (.slice none 0 0)).ownBlock)
  (a2:v1.ownBlock=((f s).getD (.slice none 0 0)).ownBlock∨v1.ownBlock=some wb.heap.size)
  (m3:aX w3 w.heap.size (ps.length+1) (fun x=>if x=s then some v1 else f x))(g3:w2.grownBy w3 (some w.heap.size)):
  qn w w3 i (T++[s]) (ps++[(s,nm)]) (fun x=>if x=s then some v1 else f x) (fun x=>if x=s then some (.int .i64 i) else g x):=by
 have z1:=g1.size;have z2:=gb.size;have z3:=g2.size;have z4:=g3.size;have z0:=h.sz
 have far:∀ k,((f s).getD (.slice none 0 0)).ownBlock=some k→w.heap.size+2≤k:=by
  intro k hk
  cases hf:f s with
  | none=>rw[hf] at hk;simp[Value.ownBlock] at hk
  | some v=>
   rw[hf] at hk
   obtain⟨k',hk',hle,_⟩:=h.grp.block hf
   simp only[Option.getD_some] at hk
   rw[hk'] at hk;injection hk with hk;omega
 have v1b:∃ k,v1.ownBlock=some k∧w.heap.size+2≤k:=by
  obtain⟨k,cap,rfl,hle,_⟩:=o2.form (by omega)
  exact⟨k,rfl,hle⟩
 refine⟨⟨by rw[List.length_append];exact m3,fun x=>?_,fun x v hv=>?_,fun x y v u hv hu hne=>?_⟩,?_,⟨fun x v hv=>?_,fun x hx=>?_⟩,?_,by omega⟩
 ·by_cases hx:x=s
  ·subst hx;simp
  ·rw[if_neg hx,h.grp.dom x]
   simp[hx]
 ·by_cases hx:x=s
  ·subst hx
   simp only[if_pos] at hv;injection hv with hv;subst hv
   rw[yv,if_pos rfl,List.length_append,List.length_singleton]
   have o3:=o2.kept g3 (by
    right
    obtain⟨k,hk,hle⟩:=v1b
    rw[hk];intro he;injection he with he;omega)
   have e:az (kC ps x++[nm])=az (kC ps x)++[.string nm]:=by simp[az]
   rw[e];exact o3
  ·simp only[if_neg hx] at hv
   rw[yv,if_neg (fun he=>hx he.symm)]
   obtain⟨k,hk,hle,hlt⟩:=h.grp.block hv
   have r0:=h.grp.row x v hv
   have r1:=r0.kept g1 (by right;rw[hk];intro he;injection he with he;omega)
   have r2:=r1.kept gb (by right;rw[hk];simp)
   have r3:=r2.kept g2 (by
    right
    cases hf:f s with
    | none=>rw[hk];simp[Value.ownBlock]
    | some v0=>simp only[Option.getD_some];exact h.grp.apart x s v v0 hv hf hx)
   exact r3.kept g3 (by right;rw[hk];intro he;injection he with he;omega)
 ·have new:∀ t u',f t=some u'→t≠s→v1.ownBlock≠u'.ownBlock:=by
   intro t u' hu' ht
   obtain⟨k,hk,hle,hlt⟩:=h.grp.block hu'
   rcases a2 with ha | ha
   ·rw[ha]
    cases hf:f s with
    | none=>rw[hk];simp[Value.ownBlock]
    | some v0=>simp only[Option.getD_some];exact h.grp.apart s t v0 u' hf hu' (Ne.symm ht)
   ·rw[ha,hk];intro he;injection he with he;omega
  by_cases hx:x=s
  ·have hy:y≠s:=fun he=>hne (hx.trans he.symm)
   simp only[if_pos hx] at hv;simp only[if_neg hy] at hu
   injection hv with hv;subst hv
   exact new y u hu hy
  ·simp only[if_neg hx] at hv
   by_cases hy:y=s
   ·simp only[if_pos hy] at hu;injection hu with hu;subst hu
    exact Ne.symm (new x v hv hx)
   ·simp only[if_neg hy] at hu
    exact h.grp.apart x y v u hv hu hne
 ·rw[List.length_append]
  have k1:=m1.kept gb (by simp)
  have k2:=k1.kept g2 (fun he=>by have:=far _ he.symm;omega)
  exact k2.kept g3 (by intro he;injection he with he;omega)
 ·by_cases hx:x=s
  ·subst hx
   simp only[if_pos] at hv;injection hv with hv;subst hv
   exact⟨i,rfl,.inl ⟨rfl,by simp⟩⟩
  ·simp only[if_neg hx] at hv
   obtain⟨j,rfl,hj⟩:=h.lst.val x v hv
   refine⟨j,rfl,?_⟩
   rcases hj with⟨h1,h2⟩ | ⟨h1,h2⟩
   ·exact .inl ⟨h1,by simp[h2]⟩
   ·exact .inr ⟨h1,by simp[h2,hx]⟩
 ·by_cases hxs:x=s
  ·simp[hxs]
  ·simp only[if_neg hxs]
   exact h.lst.mem x (by simpa [hxs] using hx)
 ·have b1:=h.bel.grown g1 h.bel.size (fun j hj=>by injection hj with hj;omega)
  have b2:=b1.grown gb b1.size (fun j hj=>by cases hj)
  have b3:=b2.grown g2 b2.size (fun j hj=>by have:=far j hj;omega)
  exact b3.grown g3 b3.size (fun j hj=>by injection hj with hj;omega)
theorem kA (l:List bJ)(k:Nat):(gU (l.take k)).length≤(gU l).length:=by
 conv=>rhs;rw[←List.take_append_drop k l]
 unfold gU;rw[List.flatMap_append,List.length_append];omega
theorem DG:∀ (b a:List BA),(dd a).length≤(dd (a++b)).length
 | [],a=>by simp
 | x::b,a=>by
  have h1:=DG b (a++[x])
  have h2:(dd a).length≤(dd (a++[x])).length:=by rw[DF];split<;>simp
  rw[List.append_assoc,List.singleton_append] at h1
  omega
theorem jE (fs:List av)(nm:BA)(m:Nat):(fE (fs.take m) nm).length≤(fE fs nm).length:=by
 unfold fE
 rw[List.length_map,List.length_map]
 conv=>rhs;rw[←List.take_append_drop m fs]
 rw[show bg (fs.take m++fs.drop m)=bg (fs.take m)++bg (fs.drop m) by simp[bg]]
 exact DG _ _
theorem Bh (w:World)(x y:Value):iF (w.alloc (.cells #[x,y] 63)) (w.heap.size+1) 2 (some ⟨w.heap.size,0,none⟩) 1 [x,y]:=by
 refine⟨rfl,fun _=>⟨_,rfl,by simp,fun j u hu=>?_⟩⟩
 match j,hu with
 | 0,hu=>simp at hu;subst hu;simp[Addr.add]
 | 1,hu=>simp at hu;subst hu;simp[Addr.add]
 | j+2,hu=>simp at hu
theorem Bi:(Tryz.prog.info? 63).map (fun i=>(i.zero,i.size,i.bytes))=some (some (.agg #[.string ⟨#[]⟩,.slice none 0 0]),2,40):=by kernel_rfl
theorem rA (w:World)(s:BA):iF (w.alloc (.cells #[.string s] 9)).drew (w.heap.size+1) 1 (some ⟨w.heap.size,0,none⟩) 1 [.string s]:=by
 refine⟨rfl,fun _=>⟨_,rfl,by simp,fun j u hu=>?_⟩⟩
 cases j with
 | zero=>simp at hu;subst hu;simp[Addr.add]
 | succ j=>simp at hu
def yx (x:LU):BA:=⟨x.toArray⟩
theorem qT (x:LU):bl (yx x)=x:=by simp[bl,yx]
theorem DH (s:BA):yx (bl s)=s:=by apply dY;rw[qT]
theorem yy {ss K:List (LU)}(hp:ss.Perm K)(hn:K.Nodup):((ss.mergeSort leB).map yx).Pairwise (fun s t=>bl s<bl t)∧∀ s:BA,s∈(ss.mergeSort leB).map yx↔bl s∈K:=by
 have tr:∀ a b c:LU,leB a b=true→leB b c=true→leB a c=true:=fun a b c h1 h2=>by simp only[leB,decide_eq_true_eq] at *;exact List.le_trans h1 h2
 have tot:∀ a b:LU,(leB a b||leB b a)=true:=fun a b=>by simp only[leB,Bool.or_eq_true,decide_eq_true_eq];exact List.le_total a b
 have hperm:(ss.mergeSort leB).Perm K:=(List.mergeSort_perm ss leB).trans hp
 have hnd:(ss.mergeSort leB).Nodup:=hperm.symm.nodup hn
 have hs:=List.pairwise_mergeSort tr tot ss
 refine⟨List.pairwise_map.2 ((hs.and hnd).imp fun {a b} hab=>?_),fun s=>?_⟩
 ·rw[qT,qT]
  obtain⟨h1,h2⟩:=hab
  have h1:a≤b:=by simpa using h1
  exact lK (fun h=>h1 h) (fun h=>h2 h.symm)
 ·rw[List.mem_map]
  constructor
  ·rintro⟨a,ha,rfl⟩;rw[qT];exact hperm.mem_iff.1 ha
  ·intro h;exact⟨bl s,hperm.mem_iff.2 h,DH s⟩
theorem uy (L:List (LU)):L.map encStr=az (L.map yx):=by simp[az,yx,encStr]
end
section
open Go.RowKit
theorem Bk {W:World}{b1 b2:Nat}{e1 e2:TypeId}{s1 s2 n1 n2:Nat}{v1 v2:Value}{x1 x2:LV}(h1:W.ownsRow b1 e1 s1 v1 n1 x1)(h2:W.ownsRow b2 e2 s2 v2 n2 x2)(hne:e1≠e2):v1.ownBlock=none∨v1.ownBlock≠v2.ownBlock:=by
 rcases h1.2 with⟨rfl,_⟩ | ⟨g,cap,cur,rfl,_,hg,_⟩
 ·exact .inl rfl
 ·exact .inr (mJ h2 hg hne)
def av.val (f:av):Value:=.agg #[.string f.path,.int .i64 f.kind,.int .i64 f.mode,.string f.owner,.string f.group,.string f.link,.string f.sum,.bool f.conf]
def bW (fmt:Int)(f:av):Bool:=decide (0≤f.mode∧f.mode≤4095)&&kT fmt f.owner&&kT fmt f.group&&(if f.kind=3 then decide (f.mode=511)&&iE (bl f.link)&&decide (f.link.size≤200) else decide (f.link.size=0))&&(if f.kind=1 then IF fmt f.sum&&(!f.conf||decide (fmt≠3)) else decide (f.sum.size=0) && !f.conf)
theorem qM (fmt:Int)(hfmt:fmt=1∨fmt=2∨fmt=3)(f:av)(w:World)(ho:f.owner.size≤9223372036854775807)(hg:f.group.size≤9223372036854775807)(hl:f.link.size≤9223372036854775807)(hsm:f.sum.size≤9223372036854775807):
  Calls Tryz.prog 85 #[.int .i64 fmt,f.val] w fun e w'=>e=.returned (.bool (bW fmt f))∧Below w.heap.size w w':=by
 have HW:Hid (Below w.heap.size w (w.alloc (.cells #[.string f.path,.int .i64 f.kind,.int .i64 f.mode,.string f.owner,.string f.group,.string f.link,.string f.sum,.bool f.conf] 42))):=bR.alloc lr _
 unfold av.val
 by_cases hm0:f.mode<0
 ·skip
  have E:Hid (bW fmt f=false):=by show _=_;unfold bW;rw[dF];rfl
  go_enter Tryz.func85,Tryz.ntmps85
  go_wp2_with fail
  go_ret
  exact⟨af (by rw[E.out]),HW.out⟩
 by_cases hm1:4095<f.mode
 ·skip
  have E:Hid (bW fmt f=false):=by show _=_;unfold bW;rw[dF];rfl
  go_enter Tryz.func85,Tryz.ntmps85
  go_wp2_with fail
  go_ret
  exact⟨af (by rw[E.out]),HW.out⟩
 have RM:Hid (decide (0≤f.mode∧f.mode≤4095)=true):=dT (by omega)
 go_enter Tryz.func85,Tryz.ntmps85
 go_wp2_with fail
 refine(jH fmt f.owner _ ho).mono ?_;rintro e w' ⟨rfl,rfl⟩
 cases g1:kT fmt f.owner
 ·skip
  have E:Hid (bW fmt f=false):=by show _=_;unfold bW;rw[g1];simp
  clear g1
  go_wp2_with fail
  go_ret
  exact⟨af (by rw[E.out]),HW.out⟩
 have G1:=ae g1;clear g1
 go_wp2_with fail
 refine(jH fmt f.group _ hg).mono ?_;rintro e w' ⟨rfl,rfl⟩
 cases g2:kT fmt f.group
 ·skip
  have E:Hid (bW fmt f=false):=by show _=_;unfold bW;rw[g2];simp
  clear g2
  go_wp2_with fail
  go_ret
  exact⟨af (by rw[E.out]),HW.out⟩
 have G2:=ae g2;clear g2
 have HWX:=HW.out
 by_cases k3:f.kind=3
 ·have k3':(f.kind==3)=true:=by simpa using k3
  have k1':(f.kind==1)=false:=by simp;omega
  by_cases m5:f.mode=511
  ·have m5':(f.mode != 511)=false:=by simpa [bne] using m5
   have M5:Hid (decide (f.mode=511)=true):=dT m5
   have K3:=ae k3;clear k3 m5
   go_wp2_with fail
   refine(pN f.link _ hl).mono ?_;rintro e w' ⟨rfl,rfl⟩
   cases g3:iE (bl f.link)
   ·skip
    have E:Hid (bW fmt f=false):=by show _=_;unfold bW;rw[if_pos K3.out,g3];simp
    clear g3
    go_wp2_with fail
    go_ret
    exact⟨af (by rw[E.out]),HWX⟩
   have G3:=ae g3;clear g3
   by_cases l2:200<f.link.size
   ·skip
    have E:Hid (bW fmt f=false):=by show _=_;unfold bW;rw[if_pos K3.out,dF (show ¬ f.link.size≤200 by omega)];simp
    go_wp2_with fail
    go_ret
    exact⟨af (by rw[E.out]),HWX⟩
   have L2:Hid (decide (f.link.size≤200)=true):=dT (by omega)
   have RL:Hid ((if f.kind=3 then decide (f.mode=511)&&iE (bl f.link)&&decide (f.link.size≤200) else decide (f.link.size=0))=true):=by show _=_;rw[if_pos K3.out,M5.out,G3.out,L2.out];rfl
   have KN:uD (f.kind=1):=⟨by have:=K3.out;omega⟩
   by_cases s0:f.sum.size=0
   ·have se:f.sum.toList=[]:=by rw[ah,bG _ s0]
    have se2:f.sum.toList.isEmpty=true:=by rw[se];rfl
    cases hcf:f.conf
    ·skip
     have E:Hid (bW fmt f=true):=by show _=_;unfold bW;rw[RM.out,G1.out,G2.out,RL.out,if_neg KN.out,dT s0,hcf];rfl
     simp only[hcf] at *
     go_wp2_with fail
     go_ret
     exact⟨af (by rw[E.out]),HWX⟩
    ·skip
     have E:Hid (bW fmt f=false):=by show _=_;unfold bW;rw[if_neg KN.out,hcf];simp
     simp only[hcf] at *
     go_wp2_with fail
     go_ret
     exact⟨af (by rw[E.out]),HWX⟩
   ·have se2:f.sum.toList.isEmpty=false:=by rw[ah,aT];exact dF s0
    have se:¬ f.sum.toList=[]:=by intro h;rw[h] at se2;simp at se2
    have E:Hid (bW fmt f=false):=by show _=_;unfold bW;rw[if_neg KN.out,dF s0];simp
    clear s0
    go_wp2_with fail
    go_ret
    exact⟨af (by rw[E.out]),HWX⟩
  ·have m5':(f.mode != 511)=true:=by simpa [bne] using m5
   have E:Hid (bW fmt f=false):=by show _=_;unfold bW;rw[if_pos k3,dF m5];simp
   clear k3 m5
   go_wp2_with fail
   go_ret
   exact⟨af (by rw[E.out]),HWX⟩
 ·have k3':(f.kind==3)=false:=by simpa using k3
  by_cases l0:f.link.size=0
  ·have le:f.link.toList=[]:=by rw[ah,bG _ l0]
   have le2:f.link.toList.isEmpty=true:=by rw[le];rfl
   have RL:Hid ((if f.kind=3 then decide (f.mode=511)&&iE (bl f.link)&&decide (f.link.size≤200) else decide (f.link.size=0))=true):=by show _=_;rw[if_neg k3,dT l0]
   by_cases k1:f.kind=1
   ·have k1':(f.kind==1)=true:=by simpa using k1
    have K1:=ae k1;clear k1 k3 l0
    go_wp2_with fail
    refine(rQ fmt hfmt f.sum _ hsm).mono ?_;rintro e w3 ⟨rfl,hb3⟩
    have X3:Hid (Bx w w3 f.cells):=(Bx.start w f.cells _).step hb3
    have x7:=X3.out.cell 7 _ rfl
    clear hb3
    have HWZ:=X3.out.bel
    cases g4:IF fmt f.sum
    ·skip
     have E:Hid (bW fmt f=false):=by show _=_;unfold bW;rw[if_pos K1.out,g4];simp
     clear g4
     go_wp2_with fail
     go_ret
     exact⟨af (by rw[E.out]),HWZ⟩
    have G4:=ae g4;clear g4
    cases hcf:f.conf
    ·skip
     have E:Hid (bW fmt f=true):=by show _=_;unfold bW;rw[RM.out,G1.out,G2.out,RL.out,if_pos K1.out,G4.out,hcf];rfl
     simp only[hcf] at *
     go_wp2_with fail
     go_ret
     exact⟨af (by rw[E.out]),HWZ⟩
    by_cases f3:fmt=3
    ·have f3':(fmt==3)=true:=by simpa using f3
     have f3n:(fmt != 3)=false:=by simpa [bne] using f3
     have E:Hid (bW fmt f=false):=by show _=_;unfold bW;rw[if_pos K1.out,hcf,dF (show ¬ fmt≠3 from fun h=>h f3)];simp
     clear f3
     simp only[hcf] at *
     go_wp2_with fail
     go_ret
     exact⟨af (by rw[E.out]),HWZ⟩
    ·have f3':(fmt==3)=false:=by simpa using f3
     have f3n:(fmt != 3)=true:=by simpa [bne] using f3
     have E:Hid (bW fmt f=true):=by show _=_;unfold bW;rw[RM.out,G1.out,G2.out,RL.out,if_pos K1.out,G4.out,hcf,dT (show fmt≠3 from f3)];rfl
     clear f3
     simp only[hcf] at *
     go_wp2_with fail
     go_ret
     exact⟨af (by rw[E.out]),HWZ⟩
   ·have k1':(f.kind==1)=false:=by simpa using k1
    have KN:uD (f.kind=1):=⟨k1⟩
    clear k1 k3 l0
    by_cases s0:f.sum.size=0
    ·have se:f.sum.toList=[]:=by rw[ah,bG _ s0]
     have se2:f.sum.toList.isEmpty=true:=by rw[se];rfl
     cases hcf:f.conf
     ·skip
      have E:Hid (bW fmt f=true):=by show _=_;unfold bW;rw[RM.out,G1.out,G2.out,RL.out,if_neg KN.out,dT s0,hcf];rfl
      simp only[hcf] at *
      go_wp2_with fail
      go_ret
      exact⟨af (by rw[E.out]),HWX⟩
     ·skip
      have E:Hid (bW fmt f=false):=by show _=_;unfold bW;rw[if_neg KN.out,hcf];simp
      simp only[hcf] at *
      go_wp2_with fail
      go_ret
      exact⟨af (by rw[E.out]),HWX⟩
    ·have se2:f.sum.toList.isEmpty=false:=by rw[ah,aT];exact dF s0
     have se:¬ f.sum.toList=[]:=by intro h;rw[h] at se2;simp at se2
     have E:Hid (bW fmt f=false):=by show _=_;unfold bW;rw[if_neg KN.out,dF s0];simp
     clear s0
     go_wp2_with fail
     go_ret
     exact⟨af (by rw[E.out]),HWX⟩
  ·have le2:f.link.toList.isEmpty=false:=by rw[ah,aT];exact dF l0
   have le:¬ f.link.toList=[]:=by intro h;rw[h] at le2;simp at le2
   have E:Hid (bW fmt f=false):=by show _=_;unfold bW;rw[if_neg k3,dF l0];simp
   clear k3 l0
   go_wp2_with fail
   go_ret
   exact⟨af (by rw[E.out]),HWX⟩
end
section
open Go.RowKit Go.Maps
theorem qn.sameT {w wr:World}{i:Nat}{T T':List BA}{ps:List (BA×BA)}{f g:BA→Option Value}(h:qn w wr i T ps f g)(ht:∀ s,s∈T↔s∈T'):qn w wr i T' ps f g:=
 ⟨h.grp,h.last,⟨fun s v hv=>by
  obtain⟨j,rfl,hj⟩:=h.lst.val s v hv
  exact⟨j,rfl,by rw[←ht s];exact hj⟩,fun s hs=>h.lst.mem s ((ht s).2 hs)⟩,h.bel,h.sz⟩
theorem AL {l:List bJ}(hf:∀ p∈l,p.fits)(s:BA)(hs:s∈(gU l).map (·.1)):s.size≤maxLen:=by
 obtain⟨y,hy,rfl⟩:=List.mem_map.1 hs
 obtain⟨p,hp,hy⟩:=List.mem_flatMap.1 hy
 obtain⟨s2,hs2,rfl⟩:=List.mem_map.1 hy
 obtain⟨x,hx,hxe⟩:=List.mem_map.1 ((Bg s2 (bg p.files)).1 hs2)
 subst hxe
 have:=((hf p hp).files_ x hx).1
 unfold maxLen;omega
theorem cY {w:World}{b:Nat}{x:Obj}(h:w.heap[b]?=some x)(o:Obj):(w.alloc o).heap[b]?=some x:=by
 have hl:b<w.heap.size:=(Array.getElem?_eq_some_iff.1 h).1
 rw[Below.heap_alloc w o b hl];exact h
theorem Ks (w:World):(zeroValue 3).run Tryz.prog w=.ok (.int .i64 0) w:=by kernel_rfl
theorem pJ (w:World):(zeroValue 26).run Tryz.prog w=.ok (.slice none 0 0) w:=by kernel_rfl
theorem xV (A:OA)(c:Nat)(l:List bJ)(w:World)(hd:oO w A l)(hl:l.length≤100000)(hw:(gU l).length≤100000)(hf:∀ p∈l,p.fits):
  Calls Tryz.prog 15 #[.slice A l.length c] w (EF (gU l) w):=by
 have HD:=ae hd;clear hd
 have HF:=ae hf;clear hf
 have HW:=ae hw;clear hw
 obtain⟨i0,hi0,hz0,hz1,hz2⟩:=info_parts jD
 have hmm:=@run_makeMap Tryz.prog
 go_enter Tryz.func15,Tryz.ntmps15
 go_wp2_with fail
 clear hmm
 go_loopw [18] (fun i wr=>∃ (k:Nat) (f g:BA→Option Value),k≤l.length∧i=.int .i64 k∧Hid (qn w wr k [] (gU (l.take k)) f g)) (fun i _=>l.length-(intOf i).toNat)
 case atStart=>exact⟨0,_,_,z0,rfl,qn.start w⟩
 case round=>
  obtain⟨k,f,g,hk,rfl,HR⟩:=hrel
  by_cases hlt:k<l.length
  ·obtain⟨p,hp⟩:∃ p,l[k]?=some p:=⟨_,gG hlt⟩
   have hpm:p∈l:=gM hp
   obtain⟨b,off,hA,he⟩:=(HD.out.row.below HR.out.bel).elem oP k p hp
   have e0:=he 0 _ rfl
   have e1:=he 1 _ rfl
   have e2:=he 2 _ rfl
   have e3:=he 3 _ rfl
   have e4:=he 4 _ rfl
   have e5:=he 5 _ rfl
   have e6:=he 6 _ rfl
   have e7:=he 7 _ rfl
   have e8:=he 8 _ rfl
   simp only[Nat.add_zero] at e0
   have hix:=fun W=>aI (T:=22) (E:=39) (sz:=9) (c:=c) Tryz.underlying22 rfl Tryz.sizeOf39 hA hlt W
   have HP:=ae hp;have HPM:=ae hpm
   clear hp hpm hA he
   have fl:=(HF.out p HPM.out).files
   go_wp2_with fail
   clear e0 e1 e2 e3 e4 e5 e6 e7 e8 hix
   have A0:Hid (qn w (wr.alloc (.cells #[.string p.nm,.string p.ver,.string p.ar,.string p.sm,.slice p.na p.needs.length p.nc,.slice p.ba p.bars.length p.bc,.slice p.ga p.gives.length p.gc,.slice p.fa p.files.length p.fc,.slice p.sa p.scripts.length p.sc] 39)) k [] (gU (l.take k)) f g):=HR.out.alloc _
   have B0:Hid ((wr.alloc (.cells #[.string p.nm,.string p.ver,.string p.ar,.string p.sm,.slice p.na p.needs.length p.nc,.slice p.ba p.bars.length p.bc,.slice p.ga p.gives.length p.gc,.slice p.fa p.files.length p.fc,.slice p.sa p.scripts.length p.sc] 39)).heap[wr.heap.size]?=some (.cells #[.string p.nm,.string p.ver,.string p.ar,.string p.sm,.slice p.na p.needs.length p.nc,.slice p.ba p.bars.length p.bc,.slice p.ga p.gives.length p.gc,.slice p.fa p.files.length p.fc,.slice p.sa p.scripts.length p.sc] 39)):=heap_alloc_new wr _
   generalize hpb:wr.heap.size=pb at *
   have HPB:=ae hpb;clear hpb
   go_loopw [26] (fun i wr=>∃ (m:Nat) (f g:BA→Option Value),m≤p.files.length∧i=.int .i64 m∧Hid (qn w wr k (bg (p.files.take m)) (gU (l.take k)++fE (p.files.take m) p.nm) f g) ∧
    Hid (wr.heap[pb]?=some (.cells #[.string p.nm,.string p.ver,.string p.ar,.string p.sm,.slice p.na p.needs.length p.nc,.slice p.ba p.bars.length p.bc,.slice p.ga p.gives.length p.gc,.slice p.fa p.files.length p.fc,.slice p.sa p.scripts.length p.sc] 39))∧pb<wr.heap.size∧w.heap.size+2≤pb) (fun i _=>p.files.length-(intOf i).toNat)
   case atStart=>exact⟨0,f,g,z0,rfl,ae (by simpa [bg,fE,dd] using A0.out),B0,by rw[←HPB.out];simp,by rw[←HPB.out];exact HR.out.sz⟩
   case round=>
    clear A0 B0 HR HPB
    obtain⟨m,f,g,hm,rfl,HR,HB,hpl,hpw⟩:=hrel
    by_cases hml:m<p.files.length
    ·obtain⟨x,hx⟩:∃ x,p.files[m]?=some x:=⟨_,gG hml⟩
     obtain⟨b,off,hA,he⟩:=((HD.out.all p HPM.out).below HR.out.bel).files.elem iD m x hx
     have e0:=he 0 _ rfl
     have e1:=he 1 _ rfl
     have e2:=he 2 _ rfl
     have e3:=he 3 _ rfl
     have e4:=he 4 _ rfl
     have e5:=he 5 _ rfl
     have e6:=he 6 _ rfl
     have e7:=he 7 _ rfl
     simp only[Nat.add_zero] at e0
     have hix:=fun W=>aI (T:=36) (E:=42) (sz:=8) (c:=p.fc) Tryz.underlying36 rfl Tryz.sizeOf42 hA hml W
     have hxs:x.path.size≤maxLen:=by have:=((HF.out p HPM.out).files_ x (gM hx)).1;unfold maxLen;omega
     have HX:=ae hx
     clear hx hA he
     have a0:Hid (qn w (wr.alloc (.cells #[.string x.path,.int .i64 x.kind,.int .i64 x.mode,.string x.owner,.string x.group,.string x.link,.string x.sum,.bool x.conf] 42)) k (bg (p.files.take m)) (gU (l.take k)++fE (p.files.take m) p.nm) f g):=HR.out.alloc _
     have hlk:=a0.out.last.look_ok Tryz.underlying87 Ks x.path hxs
     by_cases hin:x.path∈bg (p.files.take m)
     ·obtain⟨v,hv⟩:=Option.ne_none_iff_exists'.1 (a0.out.lst.mem _ hin)
      obtain⟨j,rfl,hj⟩:=a0.out.lst.val _ _ hv
      obtain rfl:j=k:=by rcases hj with⟨h,_⟩ | ⟨_,h⟩;exact h;exact absurd hin h
      rw[hv] at hlk
      simp only[Option.getD_some,Option.isSome_some] at hlk
      have HV:=ae hv;have HIN:=ae hin
      clear hv hj hin
      go_wp2_with fail
      clear hlk
      have HPS:Hid (gU (l.take j)++fE (p.files.take (m+1)) p.nm=gU (l.take j)++fE (p.files.take m) p.nm):=by show _=_;rw[oR HX.out,if_pos HIN.out]
      go_roundw
      case rel=>exact⟨m+1,f,g,by omega,by go_num,ae (by rw[HPS.out,kJ HX.out];exact a0.out.sameT (fun s=>by rw[List.mem_append,List.mem_singleton];exact⟨.inl,fun h=>h.elim id (fun h=>h ▸ HIN.out)⟩)),ae (cY HB.out _),by simp;omega,hpw⟩
      case measure=>simp[intOf];omega
     ·have hlk2:∃ (v:Value) (bb:Bool),(Instr.lookup 87 (.map (some (w.heap.size+1))) (.string x.path) true).run Tryz.prog (wr.alloc (.cells #[.string x.path,.int .i64 x.kind,.int .i64 x.mode,.string x.owner,.string x.group,.string x.link,.string x.sum,.bool x.conf] 42))=.ok (.tuple #[v,.bool bb]) (wr.alloc (.cells #[.string x.path,.int .i64 x.kind,.int .i64 x.mode,.string x.owner,.string x.group,.string x.link,.string x.sum,.bool x.conf] 42))∧(bb=false∨bb=true∧∃ j:Nat,v=.int .i64 j∧j<k):=by
       refine⟨_,_,hlk,?_⟩
       cases hv:g x.path with
       | none=>exact .inl rfl
       | some v=>
        obtain⟨j,rfl,hj⟩:=a0.out.lst.val _ _ hv
        refine .inr ⟨rfl,j,rfl,?_⟩
        rcases hj with⟨_,h⟩ | ⟨h,_⟩
        ·exact absurd h hin
        ·exact h
      clear hlk
      obtain⟨lv,bb,hlk,hbb⟩:=hlk2
      have hN:Hid ((gU (l.take k)++fE (p.files.take m) p.nm).length<maxLen):=by
       have h1:=iH l
       have h2:(gU (l.take k)++fE p.files p.nm).length≤(gU l).length:=by rw[←rz HP.out];exact kA l (k+1)
       have h3:(fE (p.files.take m) p.nm).length≤(fE p.files p.nm).length:=jE p.files p.nm m
       have:=HW.out
       show _<_
       unfold maxLen;rw[List.length_append] at *;omega
      obtain⟨w1,hrun1,hm1,hg1⟩:=a0.out.last.put Tryz.underlying87 hN.out x.path hxs (.int .i64 k)
      have HIN:=ae hin;clear hin
      have HM1:=ae hm1;have HG1:=ae hg1
      clear hm1 hg1
      have cF:w1.cell? ⟨wr.heap.size,0,none⟩=some (.string x.path):=HG1.out.cell (by simp) (by simp;omega)
      have cP:w1.cell? ⟨pb,0,none⟩=some (.string p.nm):=HG1.out.cell (by rw[World.cell?_of_block (Below.heap_alloc wr _ pb hpl)];simp[World.cell?,HB.out]) (by simp;omega)
      obtain⟨v0,hv0⟩:∃ v0,v0=(f x.path).getD (.slice none 0 0):=⟨_,rfl⟩
      have MW:Hid (aX w1 w.heap.size (gU (l.take k)++fE (p.files.take m) p.nm).length f):=a0.out.grp.names.kept HG1.out (by simp)
      have OW:Hid (w1.ownsRow (w.heap.size+2) 9 1 v0 (kC (gU (l.take k)++fE (p.files.take m) p.nm) x.path).length (az (kC (gU (l.take k)++fE (p.files.take m) p.nm) x.path))):=by
       have:=a0.out.grp.at_ x.path
       rw[←hv0] at this
       exact this.kept HG1.out (by
        cases hb:v0.ownBlock with
        | none=>exact .inl rfl
        | some q=>right;intro he;injection he with he;have:=(this.lt q hb).1;omega)
      have hl1:(Instr.lookup 97 (.map (some w.heap.size)) (.string x.path) false).run Tryz.prog w1.drew=.ok v0 w1.drew:=by rw[hv0];exact MW.out.drew.look Tryz.underlying97 pJ x.path hxs
      have hl2:(Instr.lookup 97 (.map (some w.heap.size)) (.string x.path) false).run Tryz.prog (w1.alloc (.cells #[.string p.nm] 9)).drew=.ok v0 (w1.alloc (.cells #[.string p.nm] 9)).drew:=by rw[hv0];exact(MW.out.alloc _).drew.look Tryz.underlying97 pJ x.path hxs
      have HV0:=ae hv0;clear hv0
      have hz1w:wr.heap.size+1≤w1.heap.size:=by have:=HG1.out.size;simp at this;exact this
      have nF:some wr.heap.size≠v0.ownBlock:=mJ (fr:=(0,0)) OW.out ((HG1.out.block wr.heap.size (by simp) (by simp;omega)).trans (heap_alloc_new wr _)) (by decide)
      have nP:some pb≠v0.ownBlock:=mJ (fr:=(0,0)) OW.out ((HG1.out.block pb (by simp;omega) (by simp;omega)).trans (cY HB.out _)) (by decide)
      have nM:some w.heap.size≠v0.ownBlock:=by
       intro he
       have:=(OW.out.lt _ he.symm).1;omega
      have CF:Hid ((w1.alloc (.cells #[.string p.nm] 9)).drew.cell? ⟨wr.heap.size,0,none⟩=some (.string x.path)):=(World.cell?_alloc_lt w1 _ ⟨wr.heap.size,0,none⟩ (by show wr.heap.size<w1.heap.size;omega)).trans cF
      have CP:Hid ((w1.alloc (.cells #[.string p.nm] 9)).drew.cell? ⟨pb,0,none⟩=some (.string p.nm)):=(World.cell?_alloc_lt w1 _ ⟨pb,0,none⟩ (by show pb<w1.heap.size;omega)).trans cP
      have NF:=ae nF;have NP:=ae nP;have NM:=ae nM
      clear nF nP nM
      have NL:Hid ((kC (gU (l.take k)++fE (p.files.take m) p.nm) x.path).length+1≤maxLen∧((kC (gU (l.take k)++fE (p.files.take m) p.nm) x.path).length+1)*16≤140737488355328):=by
       have h1:=iH l
       have h2:(gU (l.take k)++fE p.files p.nm).length≤(gU l).length:=by rw[←rz HP.out];exact kA l (k+1)
       have h3:(fE (p.files.take m) p.nm).length≤(fE p.files p.nm).length:=jE p.files p.nm m
       have h4:=Bf (gU (l.take k)++fE (p.files.take m) p.nm) x.path
       have:=HW.out
       show _∧_
       unfold maxLen;rw[List.length_append] at *;omega
      rcases hbb with rfl | ⟨rfl,j,rfl,hj⟩
      ·go_wp2_with fail
       clear hlk hrun1 e0 e1 e2 e3 e4 e5 e6 e7 hix
       go_region_held3 (fun w'=>w'.cell? ⟨wr.heap.size,0,none⟩=some (.string x.path)∧w'.cell? ⟨pb,0,none⟩=some (.string p.nm))
        (first
          | go_keep
          | exact⟨hg2.cell CF.out NF.out,hg2.cell CP.out NP.out⟩
          | exact⟨hg3.cell (hg2.cell CF.out NF.out) (by simp;omega),hg3.cell (hg2.cell CP.out NP.out) (by simp;omega)⟩)
        ((refine cn _ (by rfl) _ _ _ (by rfl) (w.heap.size+2) 9 i0 _ 1 16 Tryz.underlying26 hi0 hz0 hz1 hz2 rfl (by omega) v0 _ _ (by rfl) ((OW.out.alloc _).drew)
           (w1.heap.size+1) (some ⟨w1.heap.size,0,none⟩) 1 1 [.string p.nm] (by rfl) (rA w1 p.nm) (by simp[Value.oneCell']) (NL.out.1) (NL.out.2) (by simp;have:=HR.out.sz;omega) ?_
          intro v1 w2 hown2 hg2 hat2
          obtain⟨w3,hrun3,hm3,hg3⟩:=(((MW.out.alloc (.cells #[.string p.nm] 9)).drew).kept hg2 NM.out).put Tryz.underlying97 hN.out x.path hxs v1))
       all_goals
        have FIN:=qn.step a0.out HM1.out HG1.out (bz (World.grownBy_alloc w1 (.cells #[.string p.nm] 9) none) 1) hown2 (by rw[←HV0.out];exact hg2) (by rw[←HV0.out];exact hat2) hm3 hg3
        have HFIN:=ae FIN
        have HHB:Hid (w3.heap[pb]?=some _):=(hg3.block pb (by have:=hg2.size;simp at this;omega) (by simp;omega)).trans ((hg2.block pb (by simp;omega) NP.out).trans (cY ((HG1.out.block pb (by simp;omega) (by simp;omega)).trans (cY HB.out _)) _))
        have hpl3:pb<w3.heap.size:=by have h1:=hg2.size;have h2:=hg3.size;simp at h1;omega
        clear FIN hown2 hg2 hat2 hrun3 hm3 hg3 hl1 hl2 cF cP
        go_wp2_with fail
        go_roundw
        case rel=>exact⟨m+1,_,_,by omega,by go_num,ae (by rw[oR HX.out,if_neg HIN.out,kJ HX.out,←List.append_assoc];exact HFIN.out),HHB,hpl3,hpw⟩
        case measure=>simp[intOf];omega
      ·have hjk:((j:Int)==(k:Int))=false:=by simp;omega
       go_wp2_with fail
       clear hlk hrun1 e0 e1 e2 e3 e4 e5 e6 e7 hix
       go_region_held3 (fun w'=>w'.cell? ⟨wr.heap.size,0,none⟩=some (.string x.path)∧w'.cell? ⟨pb,0,none⟩=some (.string p.nm))
        (first
          | go_keep
          | exact⟨hg2.cell CF.out NF.out,hg2.cell CP.out NP.out⟩
          | exact⟨hg3.cell (hg2.cell CF.out NF.out) (by simp;omega),hg3.cell (hg2.cell CP.out NP.out) (by simp;omega)⟩)
        ((refine cn _ (by rfl) _ _ _ (by rfl) (w.heap.size+2) 9 i0 _ 1 16 Tryz.underlying26 hi0 hz0 hz1 hz2 rfl (by omega) v0 _ _ (by rfl) ((OW.out.alloc _).drew)
           (w1.heap.size+1) (some ⟨w1.heap.size,0,none⟩) 1 1 [.string p.nm] (by rfl) (rA w1 p.nm) (by simp[Value.oneCell']) (NL.out.1) (NL.out.2) (by simp;have:=HR.out.sz;omega) ?_
          intro v1 w2 hown2 hg2 hat2
          obtain⟨w3,hrun3,hm3,hg3⟩:=(((MW.out.alloc (.cells #[.string p.nm] 9)).drew).kept hg2 NM.out).put Tryz.underlying97 hN.out x.path hxs v1))
       all_goals
        have FIN:=qn.step a0.out HM1.out HG1.out (bz (World.grownBy_alloc w1 (.cells #[.string p.nm] 9) none) 1) hown2 (by rw[←HV0.out];exact hg2) (by rw[←HV0.out];exact hat2) hm3 hg3
        have HFIN:=ae FIN
        have HHB:Hid (w3.heap[pb]?=some _):=(hg3.block pb (by have:=hg2.size;simp at this;omega) (by simp;omega)).trans ((hg2.block pb (by simp;omega) NP.out).trans (cY ((HG1.out.block pb (by simp;omega) (by simp;omega)).trans (cY HB.out _)) _))
        have hpl3:pb<w3.heap.size:=by have h1:=hg2.size;have h2:=hg3.size;simp at h1;omega
        clear FIN hown2 hg2 hat2 hrun3 hm3 hg3 hl1 hl2 cF cP
        go_wp2_with fail
        go_roundw
        case rel=>exact⟨m+1,_,_,by omega,by go_num,ae (by rw[oR HX.out,if_neg HIN.out,kJ HX.out,←List.append_assoc];exact HFIN.out),HHB,hpl3,hpw⟩
        case measure=>simp[intOf];omega
    ·go_wp2_with fail
     go_roundw
     case rel=>exact⟨k+1,f,g,by omega,by go_num,ae (by have:=HR.out.next;rw[tL (l:=p.files) (by omega)] at this;rw[rz HP.out];exact this)⟩
     case measure=>simp[intOf];omega
  ·have hkl:Hid (k=l.length):=by show _=_;omega
   have HR2:Hid (qn w wr k [] (gU l) f g):=by have:=HR.out;rw[tL (by omega)] at this;exact this
   clear HR
   obtain⟨D0,hD,hDs,hDn,hDk,hDm⟩:=HR2.out.grp.names.keys
   have HDn:=ae hDn;have HDk:=ae hDk;have HDm:=ae hDm
   have hps:Hid ((gU l).length≤100000):=by show _≤_;have:=iH l;have:=HW.out;omega
   have hD1:Maps.size D0≤maxLen:=by have:=hps.out;unfold maxLen;omega
   have hD2:Maps.size D0*16≤140737488355328:=by have:=hps.out;omega
   have HDO:=ae hD
   clear hDn hDk hDm hD hDs
   go_wp2_with fail
   refine(callsIn_wide.1 (Tryz.maps_Keys_37 _ _)).mono ?_;rintro e w' ⟨rfl,rfl⟩
   go_wp2_with fail
   refine(callsIn_wide.1 (Tryz.slices_Sorted_keys_36_37 w.heap.size _ D0 RV wr HDO.out hD1 hD2)).mono ?_;rintro e w4 ⟨v,ss,rfl,hS,hrow,hnil,hb⟩
   obtain⟨ks,hks⟩:∃ ks,ks=(ss.mergeSort leB).map yx:=⟨_,rfl⟩
   have hkn:ks.length=ss.length:=by rw[hks];simp
   have HKS:Hid (ks.Pairwise (fun s t=>bl s<bl t)∧∀ s:BA,s∈ks↔bl s∈strKeys D0):=by have:=yy hS HDn.out;rw[←hks] at this;exact this
   have hrow2:w4.ownsRow (wr.alloc (.cells #[.map (some w.heap.size)] 97)).heap.size 9 1 v ks.length (az ks):=by
    have:=hrow;rw[←hkn,uy,←hks] at this;exact this
   obtain⟨Ak,ck,rfl⟩:=aP hrow2
   have HROW:=ae hrow2
   have HB4:Hid (Below wr.heap.size wr w4):=aq (bR.alloc lr _) hb
   have HG4:Hid (Lc w w4 (gU l) f):=HR2.out.grp.below HB4.out
   have HKM:Hid (∀ s,s∈ks→s.size≤maxLen∧∃ u,f s=some u):=by
    intro s hs
    have:=HDk.out _ ((HKS.out.2 s).1 hs)
    refine⟨by have h1:=this.1;rw[ag] at h1;exact h1,?_⟩
    have h2:=this.2
    rw[show(⟨(bl s).toArray⟩:BA)=s from DH s] at h2
    exact Option.isSome_iff_exists.1 h2
   have HKL:Hid (ks.length≤100000):=by
    have:=hps.out
    show _≤_
    have h1:(strKeys D0).length=Maps.size D0:=by
     obtain⟨es,hD,_⟩:=HDO.out.keysOf
     rw[hD];simp[strKeys,Maps.size]
    have h2:=hS.length_eq
    have h3:=HDO.out.size_le
    omega
   have hklen:=HKL.out
   clear hS hrow hnil hb hrow2 hks hkn HDn HDk HKL
   obtain⟨i1,hi1,hy0,hy1,hy2⟩:=info_parts Bi
   go_wp2_with fail
   go_loopw [11,64] (fun o i wr2=>∃ (j:Nat) (out:List me),j≤ks.length∧i=.int .i64 j∧Hid (out.length=j∧wr2.ownsRow w4.heap.size 63 2 o j (out.flatMap me.cells)∧out.map me.path=ks.take j∧(∀ x∈out,f x.path=some x.sl∧x.names=kC (gU l) x.path)∧Below w4.heap.size w4 wr2)) (fun _ i _=>ks.length-(intOf i).toNat)
   case atStart=>exact⟨0,[],z0,rfl,rfl,World.ownsRow_nil _ _ _ _,rfl,by simp,bR⟩
   case round=>
    obtain⟨j,out,hj,rfl,HO⟩:=hrel
    obtain⟨Ao,co,rfl⟩:=aP HO.out.2.1
    by_cases hjl:j<ks.length
    ·obtain⟨s,hs⟩:∃ s,ks[j]?=some s:=⟨_,gG hjl⟩
     obtain⟨b,off,hA,he⟩:=((cH HROW.out).below HO.out.2.2.2.2).str j s hs
     have hix:=fun W=>aI (T:=26) (E:=9) (sz:=1) (c:=ck) Tryz.underlying26 rfl Tryz.sizeOf9 hA hjl W
     simp only[Nat.mul_one] at hix
     obtain⟨hss,u,hu⟩:=HKM.out s (gM hs)
     have hown:=HG4.out.row s u hu
     obtain⟨na,nc,rfl⟩:=aP hown
     have hl1:=(HG4.out.names.below HO.out.2.2.2.2).look Tryz.underlying97 pJ s hss
     rw[hu] at hl1
     simp only[Option.getD_some] at hl1
     have HS:=ae hs;have HU:=ae hu
     clear hs hA hown hu hss
     go_wp2_with (at_builtin;refine aD _ rfl _ _ _ rfl w4.heap.size 63 i1 _ 2 40 Tryz.underlying60 hi1 hy0 hy1 hy2 rfl (by omega) (.slice Ao j co) j _ rfl (HO.out.2.1.alloc _) (wr.heap.size+1) (some ⟨wr.heap.size,0,none⟩) 1 1 [.string s,.slice na (kC (gU l) s).length nc] rfl (Bh wr _ _) (by simp[Value.oneCell']) (by simp only[maxLen];omega) (by omega) (by simp;have:=HO.out.2.2.2.2.size;omega) ?_;intro v1 w5 hown1 hg1 hat1)
     have HFIN:Hid ((out++[({ path:=s,na:=na,nc:=nc,names:=kC (gU l) s }:me)]).length=j+1∧w5.ownsRow w4.heap.size 63 2 v1 (j+1) ((out++[({ path:=s,na:=na,nc:=nc,names:=kC (gU l) s }:me)]).flatMap me.cells)∧(out++[({ path:=s,na:=na,nc:=nc,names:=kC (gU l) s }:me)]).map me.path=ks.take (j+1)∧(∀ x∈out++[({ path:=s,na:=na,nc:=nc,names:=kC (gU l) s }:me)],f x.path=some x.sl∧x.names=kC (gU l) x.path)∧Below w4.heap.size w4 w5):=by
      obtain⟨h1,h2,h3,h4,h5⟩:=HO.out
      obtain⟨hjl',hsx⟩:=gS HS.out
      refine⟨by simp[h1],by rw[List.flatMap_append];exact hown1,by rw[List.map_append,h3,tS hjl',hsx];rfl,fun x hx=>?_,?_⟩
      ·rcases List.mem_append.1 hx with hx | hx
       ·exact h4 x hx
       ·rw[List.mem_singleton.1 hx];exact⟨HU.out,rfl⟩
      ·have b1:Below w4.heap.size w4 (wr.alloc (.cells #[.string s,.slice na (kC (gU l) s).length nc] 63)):=h5.alloc h5.size _
       exact b1.grown hg1 b1.size (fun q hq=>(h2.lt q hq).1)
     clear hown1 hg1 hat1 hl1 he hix
     go_roundw
     case rel=>exact⟨j+1,_,by omega,by go_num,HFIN⟩
     case measure=>simp[intOf];omega
    ·go_wp2_with fail
     go_ret
     obtain⟨h1,h2,h3,h4,h5⟩:=HO.out
     obtain rfl:j=ks.length:=by omega
     rw[tL lr] at h3
     have hb5:Below w.heap.size w wr:=aq (aq HR2.out.bel HB4.out) h5
     refine⟨Ao,co,out,by rw[h1];rfl,by have:=cH h2;rw[←h1] at this;exact this,fun x hx=>?_,⟨?_,?_,?_⟩,hb5⟩
     ·obtain⟨hx1,hx2⟩:=h4 x hx
      have:=HG4.out.row _ _ hx1
      rw[←hx2] at this
      exact(cH this).below h5
     ·rw[List.map_map,show(Prod.fst ∘ me.pair)=me.path from rfl,h3];exact HKS.out.1
     ·intro s
      rw[List.map_map,show(Prod.fst ∘ me.pair)=me.path from rfl,h3]
      constructor
      ·intro hs
       obtain⟨_,u,hu⟩:=HKM.out s hs
       by_cases hn:s∈(gU l).map (·.1)
       ·exact hn
       ·rw[(HG4.out.dom s).2 hn] at hu;cases hu
      ·intro hs
       refine(HKS.out.2 s).2 (HDm.out s (AL HF.out s hs) ?_)
       cases hu:f s with
       | none=>exact absurd hs ((HG4.out.dom s).1 hu)
       | some u=>rfl
     ·intro y hy
      obtain⟨x,hx,rfl⟩:=List.mem_map.1 hy
      exact(h4 x hx).2
end
section
open Go.RowKit Go.Maps Go.Shelf
def xW (l:List Int):LV:=l.map fun x=>.int .i64 x
def OS (x:BA×Int):LV:=[.string x.1,.int .i64 x.2]
theorem Mn (x:BA×Int):(OS x).length=2:=rfl
def AO (ps:List Int)(l:List (BA×Int)):Bool:=l.all fun x=>ps.contains x.2
theorem Kv {ps:List Int}{l:List (BA×Int)}{k:Nat}{x:BA×Int}(h:l[k]?=some x)(hc:ps.contains x.2=false):AO ps l=false:=by
 unfold AO
 rw[List.all_eq_false]
 exact⟨x,gM h,by rw[hc];simp⟩
theorem xX (A:OA)(c:Nat)(ps:List Int)(x:Int)(w:World)(hr:Rd w 1 A ps.length (xW ps))(hl:ps.length≤1000000):
  Calls Tryz.prog 27 #[.slice A ps.length c,.int .i64 x] w fun e w'=>e=.returned (.bool (ps.contains x))∧w'=w:=by
 match ps,hr,hl with
 | [],_,_=>exact Tryz.slices_Contains_int_empty A c x w
 | p::r,hr,hl=>
  obtain⟨b,off,rfl,hc⟩:=hr.2 (by simp)
  refine(Tryz.slices_Contains_int b off (p::r).length c (p::r) x w lr (by omega) (fun j hj=>?_)).mono ?_
  ·refine hc j _ ?_
   unfold xW
   rw[List.getElem?_map,gG hj]
   simp[List.getD,gG hj]
  ·rintro e w' ⟨rfl,rfl⟩
   rw[List.take_length]
   exact⟨rfl,rfl⟩
theorem oK (P A:OA)(pc c:Nat)(ps:List Int)(l:List (BA×Int))(w:World)(hp:Rd w 1 P ps.length (xW ps))(hr:Rd w 2 A l.length (l.flatMap OS))(hpl:ps.length≤1000000)(hl:l.length≤1000000):
  Calls Tryz.prog 9 #[.slice P ps.length pc,.slice A l.length c] w fun e w'=>e=.returned (.bool (AO ps l))∧Below w.heap.size w w':=by
 have HP:=ae hp;have HR:=ae hr;have HPL:=ae hpl
 clear hp hr hpl
 go_enter Tryz.func9,Tryz.ntmps9
 go_wp2_with fail
 go_loopw [9] (fun i wr=>∃ k:Nat,k≤l.length∧i=.int .i64 k∧Hid (Below w.heap.size w wr)∧Hid (∀ y∈l.take k,ps.contains y.2=true)) (fun i _=>l.length-(intOf i).toNat)
 case atStart=>exact⟨0,z0,rfl,bR,by simp[Hid]⟩
 case round=>
  obtain⟨k,hk,rfl,HB,HN⟩:=hrel
  by_cases hlt:k<l.length
  ·obtain⟨x,hx⟩:∃ x,l[k]?=some x:=⟨_,gG hlt⟩
   obtain⟨b,off,hA,he⟩:=(HR.out.below HB.out).elem Mn k x hx
   have e0:=he 0 _ rfl
   have e1:=he 1 _ rfl
   simp only[Nat.add_zero] at e0
   have hix:=fun W=>aI (T:=27) (E:=34) (sz:=2) (c:=c) Tryz.underlying27 rfl Tryz.sizeOf34 hA hlt W
   have HX:=ae hx
   clear hx hA he
   have HB1:Hid (Below w.heap.size w (wr.alloc (.cells #[.string x.1,.int .i64 x.2] 34))):=HB.out.alloc HB.out.size _
   have HC:=ae (xX P pc ps x.2 _ (HP.out.below HB1.out) HPL.out)
   cases hcc:ps.contains x.2
   ·have E:Hid (AO ps l=false):=Kv HX.out hcc
    rw[hcc] at HC
    clear hcc
    go_wp2_with fail
    refine HC.out.mono ?_;rintro e w' ⟨rfl,rfl⟩
    go_wp2_with fail
    go_ret
    exact⟨af E.out.symm,HB1.out⟩
   ·rw[hcc] at HC
    have HCC:=ae hcc
    clear hcc
    go_wp2_with fail
    refine HC.out.mono ?_;rintro e w' ⟨rfl,rfl⟩
    go_wp2_with fail
    clear HC
    go_roundw
    case rel=>exact⟨k+1,by omega,by go_num,HB1,fun y hy=>by
     obtain⟨hk',hf'⟩:=gS HX.out
     rw[tS hk',hf'] at hy
     rcases List.mem_append.1 hy with hy | hy
     ·exact HN.out y hy
     ·rw[List.mem_singleton.1 hy];exact HCC.out⟩
    case measure=>simp[intOf];omega
  ·have E:Hid (AO ps l=true):=by
    show _=_
    unfold AO
    rw[List.all_eq_true]
    intro y hy
    exact HN.out y (by rw[tL (by omega)];exact hy)
   go_wp2_with fail
   go_ret
   exact⟨af E.out.symm,HB.out⟩
end
end Go.Proofs.YtaohgmcbpafdeaaGreatDoor
