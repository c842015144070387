/- A part of the proof. -/
import Derived.Maps.OwnIn
import Derived.Shelf.SlSortCmp.NoneTotal
import Derived.Test.YtaohgmcbpafdeaaGreatDoorA12
import Derived.Test.YtaohgmcbpafdeaaGreatDoorA17
import Derived.Test.YtaohgmcbpafdeaaGreatDoorA18
set_option maxRecDepth 100000
set_option maxHeartbeats 20000000
set_option linter.unusedVariables false
set_option linter.unusedSimpArgs false
namespace Go.Proofs.YtaohgmcbpafdeaaGreatDoor
section
open Go.RowKit Go.Shelf Go.Lib Go.Sort
def wO (x y:Int):Int:=if x=0 then y else x
theorem Lh (b c:Nat)(x y:Int)(W:World)(h0:W.cell? ⟨b,0,none⟩=some (.int .i64 x))(h1:W.cell? ⟨b,1,none⟩=some (.int .i64 y)):
  Calls Tryz.prog 23 #[.slice (some ⟨b,0,none⟩) 2 c] W fun e w'=>e=.returned (.int .i64 (wO x y))∧w'=W:=by
 have i0:∀ W,(Instr.indexAt 50 (.slice (some ⟨b,0,none⟩) 2 c) (.int .i64 0)).run Tryz.prog W=.ok (.pointer (some ⟨b,0,none⟩)) W:=fun W=>by
  have:=aI (T:=50) (E:=3) (sz:=1) (n:=2) (k:=0) (c:=c) (A:=some ⟨b,0,none⟩) (off:=0) (b:=b) Tryz.underlying50 rfl Tryz.sizeOf3 rfl (by omega) W
  simpa using this
 have i1:∀ W,(Instr.indexAt 50 (.slice (some ⟨b,0,none⟩) 2 c) (.int .i64 1)).run Tryz.prog W=.ok (.pointer (some ⟨b,1,none⟩)) W:=fun W=>by
  have:=aI (T:=50) (E:=3) (sz:=1) (n:=2) (k:=1) (c:=c) (A:=some ⟨b,0,none⟩) (off:=0) (b:=b) Tryz.underlying50 rfl Tryz.sizeOf3 rfl (by omega) W
  simpa using this
 by_cases hx:x=0
 ·have qx:(x != 0)=false:=by rw[hx];rfl
  by_cases hy:y=0
  ·have qy:(y != 0)=false:=by rw[hy];rfl
   have E:Hid ((0:Int)=wO x y):=by show _=_;unfold wO;rw[if_pos hx,hy]
   clear hx hy
   go_enter Tryz.func23,Tryz.ntmps23
   go_wp2_with fail
   refine wp_loop_rounds 3 ?_;rw[rounds_succ];go_wp2_with fail
   rw[rounds_succ];go_wp2_with fail
   rw[rounds_succ];go_wp2_with fail
   go_ret
   exact⟨ap E.out,rfl⟩
  ·have qy:(y != 0)=true:=by simpa [bne] using hy
   have E:Hid (y=wO x y):=by show _=_;unfold wO;rw[if_pos hx]
   clear hx hy
   go_enter Tryz.func23,Tryz.ntmps23
   go_wp2_with fail
   refine wp_loop_rounds 3 ?_;rw[rounds_succ];go_wp2_with fail
   rw[rounds_succ];go_wp2_with fail
   go_ret
   exact⟨ap E.out,rfl⟩
 ·have qx:(x != 0)=true:=by simpa [bne] using hx
  have E:Hid (x=wO x y):=by show _=_;unfold wO;rw[if_neg hx]
  clear hx
  go_enter Tryz.func23,Tryz.ntmps23
  go_wp2_with fail
  refine wp_loop_rounds 3 ?_;rw[rounds_succ];go_wp2_with fail
  go_ret
  exact⟨ap E.out,rfl⟩
theorem rG:∀ (a b:LU),Lib.compareBytes a b=if a<b then -1 else if b<a then 1 else 0
 | [],[]=>by simp[Lib.compareBytes]
 | [],_::_=>by simp[Lib.compareBytes]
 | _::_,[]=>by simp[Lib.compareBytes]
 | a::r,b::s=>by
  rw[Lib.compareBytes,rG r s]
  simp only[List.cons_lt_cons_iff]
  by_cases h:a<b
  ·simp[h]
  ·by_cases h2:b<a
   ·have h3:¬ a=b:=fun e=>by subst e;exact h h2
    simp[h,h2,h3]
   ·have h3:a=b:=by
     apply UInt8.toNat_inj.1
     rw[UInt8.lt_iff_toNat_lt] at h h2;omega
    subst h3
    simp
def wP (x:BA×Int):LV:=[.string x.1,.int .i64 x.2]
def wQ (x y:BA×Int):Int:=wO (Lib.compareBytes x.1.data.toList y.1.data.toList) (Lib.compareInt x.2 y.2)
theorem Ip (x y:BA×Int)(W:World):Calls Tryz.prog 22 #[.agg #[.string x.1,.int .i64 x.2],.agg #[.string y.1,.int .i64 y.2]] W fun e w'=>e=.returned (.int .i64 (wQ x y))∧∃ q os',w'=grow (W.drewN q) os':=by
 obtain⟨x1,x2⟩:=x
 obtain⟨y1,y2⟩:=y
 have hS:=fun W=>Tryz.strings_Compare x1 y1 W
 have hC:=fun W=>Tryz.cmp_Compare_int x2 y2 W
 unfold wQ
 dsimp only
 generalize Lib.compareBytes x1.data.toList y1.data.toList=r1 at hS ⊢
 generalize Lib.compareInt x2 y2=r2 at hC ⊢
 obtain⟨W0,hW0⟩:∃ W0,(W.alloc (.cells #[.string x1,.int .i64 x2] 34)).alloc (.cells #[.string y1,.int .i64 y2] 34)=W0:=⟨_,rfl⟩
 have c0:W0.cell? ⟨W.heap.size,0,none⟩=some (.string x1):=by rw[←hW0];simp
 have c1:W0.cell? ⟨W.heap.size,1,none⟩=some (.int .i64 x2):=by rw[←hW0];simp
 have c2:W0.cell? ⟨W.heap.size+1,0,none⟩=some (.string y1):=by rw[←hW0];simp
 have c3:W0.cell? ⟨W.heap.size+1,1,none⟩=some (.int .i64 y2):=by rw[←hW0];simp
 have G0:Hid (W0=grow (W.drewN 0) #[.cells #[.string x1,.int .i64 x2] 34,.cells #[.string y1,.int .i64 y2] 34]):=by
  show _=_
  rw[←hW0,alloc_eq_grow,alloc_eq_grow,grow_grow];rfl
 have HW0:=ae hW0
 clear hW0
 have hO:=fun (W:World)=>Lh W.heap.size 2 r1 r2 (W.alloc (.cells #[.int .i64 r1,.int .i64 r2] 3)) (by simp) (by simp)
 go_enter Tryz.func22,Tryz.ntmps22
 go_wp2_with fail
 rw[HW0.out]
 clear HW0
 go_still_tail 10,(by kernel_rfl)
 still_call (hS _)
 repeat still_step
 still_call (hC _)
 repeat still_step
 refine wpStill_nil ?_
 change wpList _ _ _ _ _ W0.drew
 have G1:Hid (W0.drew=grow (W.drewN 1) #[.cells #[.string x1,.int .i64 x2] 34,.cells #[.string y1,.int .i64 y2] 34]):=by
  show _=_
  rw[G0.out];rfl
 clear c0 c1 c2 c3 hS hC G0
 generalize W0.drew=W2 at *
 go_wp2_with fail
 refine(hO _).mono ?_;rintro e w' ⟨rfl,rfl⟩
 clear hO
 go_wp2_with fail
 go_ret
 exact⟨rfl,1,_,by rw[alloc_eq_grow,G1.out,grow_grow]⟩
def yl (x y:cl):Prop:=bl x.1<bl y.1∨(x.1=y.1∧x.2<y.2)
instance (x y:cl):Decidable (yl x y):=inferInstanceAs (Decidable (_∨_))
theorem Iq (x y:cl):wQ x y<0↔yl x y:=by
 have e1:Lib.compareBytes x.1.data.toList y.1.data.toList=if bl x.1<bl y.1 then -1 else if bl y.1<bl x.1 then 1 else 0:=rG _ _
 unfold wQ wO yl
 rw[e1]
 by_cases h1:bl x.1<bl y.1
 ·simp[h1]
 ·by_cases h2:bl y.1<bl x.1
  ·have h3:¬ x.1=y.1:=fun e=>by rw[e] at h2;exact ke _ h2
   simp[h1,h2,h3]
  ·have h3:x.1=y.1:=by
    by_cases e:x.1=y.1
    ·exact e
    ·exact absurd (lK h1 (fun e'=>e (dY e'))) h2
   simp only[h1,h2,h3,if_false,if_true,false_or,true_and]
   unfold Lib.compareInt
   by_cases h4:x.2<y.2
   ·simp[h4,ke]
   ·by_cases h5:x.2 > y.2<;>simp[h4,h5,ke]
theorem lO (x y:cl):ltOf wQ x y=decide (yl x y):=by
 unfold ltOf
 rw[bI,decide_eq_true_eq,decide_eq_true_eq]
 exact Iq x y
theorem Li (x:cl):¬ yl x x:=by rintro(h | ⟨_,h⟩);exact ke _ h;omega
theorem Ir {x y z:cl}(h1:yl x y)(h2:yl y z):yl x z:=by
 rcases h1 with h1 | ⟨e1,h1⟩<;>rcases h2 with h2 | ⟨e2,h2⟩
 ·exact .inl (Ij h1 h2)
 ·exact .inl (e2 ▸ h1)
 ·exact .inl (e1 ▸ h2)
 ·exact .inr ⟨e1.trans e2,by omega⟩
theorem Lj {x y:cl}(h:¬ yl x y)(hne:x≠y):yl y x:=by
 obtain⟨a,m⟩:=x
 obtain⟨b,n⟩:=y
 unfold yl at *
 simp only at *
 by_cases e:a=b
 ·subst e
  right
  refine⟨rfl,?_⟩
  have h2:¬ m<n:=fun h'=>h (.inr ⟨rfl,h'⟩)
  have h3:m≠n:=fun e=>hne (by rw[e])
  omega
 ·left
  exact lK (fun h'=>h (.inl h')) (fun e'=>e (dY e'))
theorem Is:SWO (ltOf wQ):=by
 refine⟨fun x=>?_,fun x y z h1 h2=>?_,fun x y z h1 h2=>?_⟩
 ·rw[lO];exact dF (Li _)
 ·rw[lO] at *;exact dT (Ir (dO h1) (dO h2))
 ·rw[lO] at *
  have h1:=of_decide_eq_false h1
  have h2:=of_decide_eq_false h2
  apply dF
  intro h3
  by_cases e:x=y
  ·rw[e] at h3;exact h2 h3
  ·exact h2 (Ir (Lj h1 e) h3)
theorem Lk {n:Nat}{d:Array cl}(hn:d.size=n)(h:SortedIn (ltOf wQ) 0 n d):d.toList.Pairwise (fun x y=>¬ yl y x):=by
 rw[List.pairwise_iff_getElem]
 intro i j hi hj hij
 have hi':i<d.size:=by simpa using hi
 have hj':j<d.size:=by simpa using hj
 have:=h i j z0 hij (by omega)
 rw[lO,getElem!_pos d j hj',getElem!_pos d i hi'] at this
 have:=of_decide_eq_false this
 simpa using this
theorem kQ (x:cl):(wP x).length=2:=rfl
theorem EP (A:OA)(cap base n:Nat)(l:List cl)(hn:Hid (l.length=n))(w:World)(h:w.ownsRow base 34 2 (.slice A n cap) n (l.flatMap wP))(hl:n≤100000):
  Calls Tryz.prog 41 #[.slice A n cap,.func (.func 22) #[] #[]] w fun e w'=>e=.returned (.tuple #[])∧∃ l':List cl,l'.Perm l∧l'.Pairwise (fun x y=>¬ yl y x)∧w'.ownsRow base 34 2 (.slice A n cap) n (l'.flatMap wP)∧w.grownBy w' (Value.slice A n cap).ownBlock:=by
 have e:=hn.out
 subst e
 by_cases hn:l=[]
 ·subst hn
  refine(AnyF.slices_SortFunc_none Tryz.sortFnd A cap _ w).mono ?_
  rintro e w' ⟨rfl,rfl⟩
  exact⟨rfl,[],.nil,.nil,h,World.grownBy.refl _ _⟩
 ·have hpos:0<l.length:=List.length_pos_iff.2 hn
  obtain⟨g,hA,hb,hg,_,_⟩:=EO h hpos
  subst hA
  have eg:∀ args w,(callFunc 22 args).run Tryz.prog w=.ok (.enter 22 args) w:=enters_of Tryz.func22 (by kernel_rfl) rfl
  have hcmp:CmpLays Tryz.prog 22 #[] wP 2 wQ g 0 l.toArray.size w:=fun m os dk _ a b=>Ip a b _
  have hH:=Bl kQ h
  have hcon:=AnyQ.slices_SortFunc Tryz.sortFnd 2 Tryz.isAgg34 Tryz.sizeOf34 wP kQ (fun x v hv=>by simp[wP] at hv;rcases hv with rfl | rfl<;>rfl) wQ Is 22 #[] g 0 cap l.toArray w eg hcmp hH hg (by simp;omega)
  refine hcon.mono ?_
  rintro e w' ⟨rfl,d',n,os,hp,hs,rfl⟩
  have hp':=EL (l:=l) rfl (by simpa using hp)
  have hd:d'.size=l.length:=by have:=hp'.length_eq;simpa using this
  obtain⟨h1,h2⟩:=Io kQ h d' hd n os
  exact⟨rfl,d'.toList,hp',Lk hd (by simpa using hs),h1,h2⟩
end
section
open Go.RowKit Go.Shelf
attribute [local go_sem] Oper.semAt_some
theorem Bo (F:Fence)(n:Nat)(hf:F.fn 42)(hro:F.round=none)(hn:1≤n)(Bm b c:Nat)(es:Array MapEntry)(ks:List cl)(w:World)(hBm:Bm<w.heap.size)(hm:w.cell? ⟨Bm,0,none⟩=some (.map (some b)))(hE:ji w b es c ks):
  SeqStopsK F n Tryz.prog 42 #[.pointer (some ⟨Bm,0,none⟩)] Ll KeepsWalks (fun ss=>ss.Perm ks) (fun _=>True) ks.length w:=fun l J Jx W hW hJ _ hY h0=>
 Iu F n hf hro hn l Bm b c es ks J Jx hY W hJ ((hW.cell (p:=⟨Bm,0,none⟩) hBm).trans hm) ⟨(hW.block b (Array.getElem?_eq_some_iff.1 hE.at_).1).trans hE.at_,hE.keys,hE.vals,hE.born,hE.nd,hE.ndk⟩ h0
theorem Ok:(Tryz.prog.info? 34).map (fun i=>(i.zero,i.size,i.bytes))=some (some (.agg #[.string ⟨#[]⟩,.int .i64 0]),2,24):=by kernel_rfl
theorem uC (w:World)(x y:Value)(t:TypeId):∀ j u,[x,y][j]?=some u→(w.alloc (.cells #[x,y] t)).cell? ((⟨w.heap.size,0,none⟩:Addr).add j)=some u:=by
 intro j u hj
 match j,hj with
 | 0,hj=>simp at hj;subst hj;simp[Addr.add]
 | 1,hj=>simp at hj;subst hj;simp[Addr.add]
def pQ (ss:List cl):LV:=ss.flatMap fun x=>[.string x.1,.int .i64 x.2]
theorem Bp (ss:List cl)(x:cl):pQ (ss++[x])=pQ ss++[.string x.1,.int .i64 x.2]:=by simp[pQ]
def Pj (B:Nat)(sv:Value)(x:cl)(a':Act)(W:World):Prop:=
 ∃ Bx,B<Bx∧W.heap[Bx]?=some (.cells #[.string x.1,.int .i64 x.2] 34 (0,0))∧a'={ tmps:=#[.slice none 0 0,sv,.pointer (some ⟨B,0,none⟩),undef,.slice none 0 0,.pointer (some ⟨Bx,0,none⟩),sv,.agg #[.string x.1,.int .i64 x.2],undef,undef,undef,undef,undef],defers:=[] }
theorem Lm (B n:Nat)(sv:Value)(x:cl)(a':Act):OwnFrom n (fun (_:Unit) W=>Pj B sv x a' W):=by
 rintro _ W W' row ⟨Bx,h1,h2,h3⟩ hg hr
 refine⟨Bx,h1,(hg.block Bx (Array.getElem?_eq_some_iff.1 h2).1 (fun e=>?_)).trans h2,h3⟩
 obtain⟨_,o,ho,hc⟩:=hr Bx e.symm
 rw[h2] at ho;cases ho;cases hc
theorem wS (F:Fence)(n:Nat)(hf:F.fn 68)(hk:F.fn 42)(hro:F.round=none)(hn:3≤n)(Bm b c:Nat)(es:Array MapEntry)(ks:List cl)(w:World)(hBm:Bm<w.heap.size)(hm:w.cell? ⟨Bm,0,none⟩=some (.map (some b)))(hE:ji w b es c ks)(hks:ks.length≤1000000):
  CallsIn F n Tryz.prog 68 #[.slice none 0 0,.func (.func 42) #[] #[.pointer (some ⟨Bm,0,none⟩)]] w fun e W'=>∃ v ss,e=.returned v∧ss.Perm ks∧W'.ownsRow w.heap.size 34 2 v ks.length (pQ ss)∧Below w.heap.size w W':=by
 have h1:1≤n:=by omega
 obtain⟨i0,hi,hz0,hz1,hz2⟩:=info_parts Ok
 refine callsIn_of_wp_marks Tryz.func68 rfl hf ?_ hro
 simp only[Tryz.ntmps68,List.size_toArray,List.length_cons,List.length_nil,Nat.reduceAdd,Nat.reduceSub,Array.replicate_succ,Array.replicate_zero,List.push_toArray,List.append_toArray,List.nil_append,List.cons_append]
 gi_wp2
 have bO:=Boxed.new w 27 (.slice none 0 0)
 have hB0:Below w.heap.size w (w.alloc (.cells #[.slice none 0 0] 27)):=(Below.refl _ w).alloc lr _
 refine wpIn_rangeFunc_ownH hro h1 (gf:=42) (lb:=#[.pointer (some ⟨Bm,0,none⟩)]) rfl hk (enters_of Tryz.func42 (by kernel_rfl) rfl)
  (Bo F (n-1) hk hro (by omega) Bm b c es ks w hBm hm hE) walksK_t walksK_b hB0 (fun _=>rfl)
  (fun pre W=>(∃ v,Boxed W w.heap.size 27 v∧W.ownsRow w.heap.size 34 2 v pre.length (pQ pre)∧(v=.slice none 0 0↔pre=[]))∧Below w.heap.size w W)
  (fun _ _ _=>False)
  (OwnFrom.and (Own.from (holdsRow_own w.heap.size w.heap.size 27 34 2 (fun pre=>pre.length) pQ (fun pre v=>v=.slice none 0 0↔pre=[])) _) (ownFrom_below lr (by simp)))
  (fun _ _ _ _ _ hs _ _=>hs)
  ⟨⟨_,bO,World.ownsRow_nil _ _ _ _,by simp⟩,hB0⟩
  (Pj w.heap.size (.func (.func 42) #[] #[.pointer (some ⟨Bm,0,none⟩)])) (fun x a'=>Lm _ _ _ x a') ?assign ?body ?done ?stop
 case assign=>
  rintro l pre x W K ⟨⟨v,hv,hrow,hnil⟩,hB⟩ hK
  unfold Ll
  gi_wp2
  refine hK _ _ ((KeepsOthers.alloc _ _).from _) (KeepsOthers.alloc _ _).walks ⟨⟨v,hv.alloc _,hrow.alloc _,hnil⟩,hB.alloc hB.size _⟩ ⟨W.heap.size,hv.lt,World.alloc_heap_new W _,rfl⟩
 case body=>
  rintro l pre x a' W hl ⟨r,hr⟩ ⟨⟨v,hv,hrow,hnil⟩,hB⟩ ⟨Bx,hBx,hX,rfl⟩ hlt
  have hc:=hv.cell
  have x0:W.cell? ⟨Bx,0,none⟩=some (.string x.1):=by simp[World.cell?,hX]
  have x1:W.cell? ⟨Bx,1,none⟩=some (.int .i64 x.2):=by simp[World.cell?,hX]
  gi_wp2_with (gi_at_builtin;refine wpListIn_append_own _ rfl _ _ 27 rfl w.heap.size 34 i0 _ 2 24 Tryz.underlying27 hi hz0 hz1 hz2 rfl (by decide) _ _ _ rfl (hrow.alloc _) ⟨W.heap.size,0,none⟩ 1 1 [.string x.1,.int .i64 x.2] rfl rfl (uC _ _ _ _) (by simp[Value.oneCell']) (by unfold maxLen;omega) (by omega) (by have:=hB.size;simp;omega) ?_;intro v' w1 hown' hgrow _;obtain⟨g',cap',rfl⟩:=ownsRow_succ hown';obtain⟨hv1,hv2,hr2,hk2,hb2⟩:=hv.appended (by decide) hrow hB.size lr hown' hgrow;have hc1:=hv1.cell;have hf1:=hv1.frozen)
  exact⟨hk2.from _,hk2.walks,⟨_,hv2,by rw[Bp];simpa using hr2,by simp⟩,hB.trans hb2⟩
 case done=>
  rintro D ys W hD hS ⟨⟨v,hv,hrow,hnil⟩,hB⟩ hK
  have hc:=hv.cell
  have hl:ys.length=ks.length:=hS.length_eq
  rw[hl] at hrow
  gi_wp2
  refine⟨by simp,.inl ⟨_,_,rfl,run_takeDeferred hK,?_⟩⟩
  exact⟨_,results_tmp rfl _ _ _,v,ys,rfl,hS,ownsRow_putObj hrow _ hK rfl,hB.trans (belowK_b (w:=w) lr W D _ _ (by simp at hD;omega) hK rfl rfl)⟩
 case stop=>
  rintro D c pre W _ _ h _
  exact h.elim
theorem MT (b:Nat)(w:World):Calls Tryz.prog 21 #[.map (some b)] w fun e w'=>e=.returned (.func (.func 42) #[] #[.pointer (some ⟨w.heap.size,0,none⟩)])∧w'=w.alloc (.cells #[.map (some b)] 55):=by
 go_enter Tryz.func21,Tryz.ntmps21
 go_wp2_with fail
 go_ret
 exact⟨rfl,rfl⟩
theorem yJ (Bm b c:Nat)(es:Array MapEntry)(ks:List cl)(w:World)(hBm:Bm<w.heap.size)(hm:w.cell? ⟨Bm,0,none⟩=some (.map (some b)))(hE:ji w b es c ks)(hks:ks.length≤1000000):
  Calls Tryz.prog 68 #[.slice none 0 0,.func (.func 42) #[] #[.pointer (some ⟨Bm,0,none⟩)]] w fun e W'=>∃ v ss,e=.returned v∧ss.Perm ks∧W'.ownsRow w.heap.size 34 2 v ks.length (pQ ss)∧Below w.heap.size w W':=
 (callsIn_wide (n:=3)).1 (wS _ 3 trivial trivial rfl (Nat.le_refl 3) Bm b c es ks w hBm hm hE hks)
theorem E9 (Bm b c:Nat)(es:Array MapEntry)(ks:List cl)(w:World)(hBm:Bm<w.heap.size)(hm:w.cell? ⟨Bm,0,none⟩=some (.map (some b)))(hE:ji w b es c ks)(hks:ks.length≤1000000):
  Calls Tryz.prog 40 #[.func (.func 42) #[] #[.pointer (some ⟨Bm,0,none⟩)]] w fun e W'=>∃ v ss,e=.returned v∧ss.Perm ks∧W'.ownsRow w.heap.size 34 2 v ks.length (pQ ss)∧Below w.heap.size w W':=by
 have hA:=yJ Bm b c es ks w hBm hm hE hks
 clear hm hE hBm
 go_enter Tryz.func40,Tryz.ntmps40
 go_wp2_with fail
 refine hA.mono ?_;rintro e w' ⟨v,ss,rfl,hB,hO,hb⟩
 have HO:=ae hO
 clear hO hA
 go_wp2_with fail
 go_ret
 exact⟨v,ss,rfl,hB,HO.out,hb⟩
theorem wT (Bm b:Nat)(ks:List cl)(w:World)(hBm:Bm<w.heap.size)(hm:w.cell? ⟨Bm,0,none⟩=some (.map (some b)))(hM:gJ w b ks)(hks:ks.length≤100000):
  Calls Tryz.prog 20 #[.func (.func 42) #[] #[.pointer (some ⟨Bm,0,none⟩)],.func (.func 22) #[] #[]] w fun e W'=>∃ (A:OA) (cap:Nat) (ss:List cl),e=.returned (.slice A ks.length cap)∧ss.Perm ks∧ss.Pairwise (fun x y=>¬ yl y x)∧W'.ownsRow w.heap.size 34 2 (.slice A ks.length cap) ks.length (ss.flatMap wP)∧Below w.heap.size w W':=by
 obtain⟨es,c,hE⟩:=hM
 have hC:=E9 Bm b c es ks w hBm hm hE (by omega)
 clear hm hE hBm
 go_enter Tryz.func20,Tryz.ntmps20
 go_wp2_with fail
 refine hC.mono ?_;rintro e w1 ⟨v,ss,rfl,hP,hO,hb⟩
 obtain⟨A,cap,rfl⟩:=aP hO
 have hS:=EP A cap w.heap.size ks.length ss hP.length_eq w1 hO hks
 have HB:=ae hb;have HP:=ae hP
 have HLT:=ae hO.lt
 clear hC hb hP hO
 go_wp2_with fail
 refine hS.mono ?_;rintro e w2 ⟨rfl,l',hp,hs,hrow,hgr⟩
 have HB2:Hid (Below w.heap.size w w2):=HB.out.grown hgr HB.out.size (fun j hj=>(HLT.out j hj).1)
 have H1:=ae hp;have H2:=ae hs;have H3:=ae hrow
 clear hp hs hrow hgr hS
 go_wp2_with fail
 go_ret
 exact⟨A,cap,l',rfl,H1.out.trans HP.out,H2.out,H3.out,HB2.out⟩
end
section
open Go.RowKit
theorem Nb {c:UInt8}:∀ (l:LU)(k:Nat),(l.take k).contains c=false→l[k]?=some c→Lib.cut l [c]=(l.take k,l.drop (k+1),true):=by
 intro l k h0 h1
 have hk:k<l.length:=(gS h1).1
 have hi:Lib.indexByte l c=k:=by
  have key:∀ (l:LU)(k:Nat),(l.take k).contains c=false→l[k]?=some c→Lib.indexByte l c=k:=by
   intro l
   induction l with
   | nil=>intro k _ h;simp at h
   | cons b r ih=>
    intro k h0 h1
    cases k with
    | zero=>simp at h1;subst h1;simp[Lib.indexByte]
    | succ k=>
     simp at h1
     rw[List.take_succ_cons,List.contains_cons,Bool.or_eq_false_iff] at h0
     have hb:(b==c)=false:=by have:=h0.1;simp at this ⊢;exact fun e=>this e.symm
     have hr:=ih k h0.2 h1
     simp only[Lib.indexByte,hb,hr]
     rw[if_neg (by simp),if_neg (by simp;try omega)];omega
  exact key l k h0 h1
 unfold Lib.cut
 rw[Lib.index_one,hi]
 simp
theorem IT {c:UInt8}(l:LU)(h:l.contains c=false):Lib.cut l [c]=(l,[],false):=by
 have hi:Lib.indexByte l c=-1:=by
  have h1:=rR ⟨l.toArray⟩ c (by simpa [bl] using h)
  simpa [uz,bl] using h1
 unfold Lib.cut
 rw[Lib.index_one,hi]
 simp
end
section
open Go.RowKit Go.Maps
def eU:List am→BA→Int→Int
 | [],_,_=>-1
 | x::r,s,k=>if x.path=s then k else eU r s (k+1)
theorem Km {l:List am}{s:BA}{k:Nat}{x:am}(h:l[k]?=some x)(h0:eU l s 0=eU (l.drop k) s k)(hp:x.path=s):eU l s 0=k:=by
 obtain⟨hk,hf⟩:=gS h
 rw[h0,List.drop_eq_getElem_cons hk,hf,eU,if_pos hp]
theorem Hh {l:List am}{s:BA}{k:Nat}{x:am}(h:l[k]?=some x)(h0:eU l s 0=eU (l.drop k) s k)(hp:¬ x.path=s):eU l s 0=eU (l.drop (k+1)) s ((k+1:Nat):Int):=by
 obtain⟨hk,hf⟩:=gS h
 rw[h0,List.drop_eq_getElem_cons hk,hf,eU,if_neg hp];rfl
theorem Kn {l:List am}{s:BA}{k:Nat}(hk:l.length≤k)(h0:eU l s 0=eU (l.drop k) s k):eU l s 0=-1:=by
 rw[h0,List.drop_of_length_le hk];rfl
theorem uf (A:OA)(c:Nat)(l:List am)(s:BA)(w:World)(hE:dz w A l)(hn:l.length≤100000):
  Calls Tryz.prog 7 #[.slice A l.length c,.string s] w fun e w'=>e=.returned (.int .i64 (eU l s 0))∧w=w':=by
 have HE:=ae hE
 clear hE
 go_enter Tryz.func7,Tryz.ntmps7
 go_wp2_with fail
 go_loop [5] (fun i=>∃ (k:Nat),k≤l.length∧i=.int .i64 k∧Hid (eU l s 0=eU (l.drop k) s k)) (fun i=>l.length-(intOf i).toNat)
 case atStart=>exact⟨0,z0,rfl,rfl⟩
 case round=>
  obtain⟨k,hk,rfl,P⟩:=hrel
  by_cases hlt:k<l.length
  ·obtain⟨x,hx⟩:∃ x,l[k]?=some x:=⟨_,gG hlt⟩
   obtain⟨b,off,hA,hel⟩:=HE.out.row.elem fi k x hx
   have hix:=fun W=>aI (T:=23) (E:=45) (sz:=10) (c:=c) Tryz.underlying23 rfl Tryz.sizeOf45 hA hlt W
   have e0:=hel 0 _ rfl
   simp only[Nat.add_zero] at e0
   have HX:=ae hx
   clear hx hA hel
   by_cases hp:x.path=s
   ·have q:(x.path.toList==s.toList)=true:=by rw[hp];simp
    have R:Hid (eU l s 0=(k:Int)):=Km HX.out P.out hp
    clear hp
    go_wp2_with fail
    go_ret
    exact⟨ap R.out.symm,rfl⟩
   ·have q:(x.path.toList==s.toList)=false:=by rw[dx];exact dF (fun e=>hp e)
    have R:Hid (eU l s 0=eU (l.drop (k+1)) s ((k+1:Nat):Int)):=Hh HX.out P.out hp
    clear hp
    go_wp2_with fail
    go_round
    case rel=>exact⟨k+1,by omega,by go_num,R⟩
    case measure=>simp[intOf];omega
  ·have R:Hid (eU l s 0=-1):=Kn (by omega) P.out
   go_wp2_with fail
   go_ret
   exact⟨ap R.out.symm,rfl⟩
end
end Go.Proofs.YtaohgmcbpafdeaaGreatDoor
