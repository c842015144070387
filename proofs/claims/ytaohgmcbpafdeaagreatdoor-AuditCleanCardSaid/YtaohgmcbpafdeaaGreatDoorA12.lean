/- A part of the proof. -/
import Derived.LoopIn
import Derived.LoopNIn
import Derived.Maps.RangeRun
import Derived.OwnWalkIn
import Derived.RangeFuncBound
import Derived.RangeFuncCalls
import Derived.RangeFuncLeaves
import Derived.RangeFuncNested
import Derived.Shelf.Abstract
import Derived.Shelf.RegionOpen
import Derived.TacticsInMore
import Derived.Test.YtaohgmcbpafdeaaGreatDoorA05
import Derived.Test.YtaohgmcbpafdeaaGreatDoorA11
set_option maxRecDepth 100000
set_option maxHeartbeats 20000000
set_option linter.unusedVariables false
set_option linter.unusedSimpArgs false
namespace Go.Proofs.YtaohgmcbpafdeaaGreatDoor
section
open Go.RowKit Go.Maps Go.MapKept
def ij (k:cl):Value:=.agg #[.string k.1,.int .i64 k.2]
theorem nD (w:World)(em:Bool)(s:BA)(n:Int):(Instr.checkKey em 10000 34 (.agg #[.string s,.int .i64 n])).run Tryz.prog w=.ok () w:=by
 have h:∀ d:Nat,(Instr.checkKey em (d+1+1) 34 (.agg #[.string s,.int .i64 n])).run Tryz.prog w=.ok () w:=by
  intro d
  simp[Instr.checkKey,run_underlying Tryz.underlying34,go_sem]
 exact h 9998
theorem If (w:World)(k m:cl):(Op.equal 34 (ij k) (ij m)).run Tryz.prog w=.ok (decide (k=m)) w:=by
 obtain⟨s,n⟩:=k
 obtain⟨t,m⟩:=m
 unfold ij Op.equal Op.maxDepth
 simp[go_sem,dx]
 by_cases h1:s=t<;>by_cases h2:n=m<;>simp[h1,h2]
theorem qR (w:World)(k:Value)(es:List MapEntry):(Instr.findKey 34 k es).run Tryz.prog w=(Instr.findAsking 34 k es 0).run Tryz.prog w:=by
 cases es with
 | nil=>simp[Instr.findKey,Instr.findAsking,Instr.findNow,run_underlying Tryz.underlying34]
 | cons e r=>simp[Instr.findKey,Instr.findNow,Instr.sameNow,run_underlying Tryz.underlying34]
theorem qS {w:World}(k:cl):∀ (es:List MapEntry)(ks:List cl)(i:Nat),es.map (·.key)=ks.map ij →
  ((Instr.findAsking 34 (ij k) es i).run Tryz.prog w=.ok none w∧k ∉ ks) ∨
  ∃ (j:Nat) (e:MapEntry),es[j]?=some e∧ks[j]?=some k∧(Instr.findAsking 34 (ij k) es i).run Tryz.prog w=.ok (some (i+j,e.val)) w
 | [],[],i,_=>.inl ⟨by simp[Instr.findAsking],by simp⟩
 | [],m::ks,i,h=>by simp at h
 | e::es,[],i,h=>by simp at h
 | e::es,m::ks,i,h=>by
  simp only[List.map_cons,List.cons.injEq] at h
  obtain⟨h1,h3⟩:=h
  have hq:=If w k m
  by_cases he:k=m
  ·right
   refine⟨0,e,rfl,by rw[he];rfl,?_⟩
   rw[dT he] at hq
   simp[Instr.findAsking,h1,hq]
  ·rw[dF he] at hq
   rcases qS (w:=w) k es ks (i+1) h3 with⟨h4,h5⟩ | ⟨j,e',h4,h5,h6⟩
   ·left;exact⟨by simp[Instr.findAsking,h1,hq,h4],by simp[he,h5]⟩
   ·right;exact⟨j+1,e',by simpa using h4,by simpa using h5,by simp[Instr.findAsking,h1,hq,h6];omega⟩
theorem Ey (w:World):(zeroValue 3).run Tryz.prog w=.ok (.int .i64 0) w:=by kernel_rfl
def MS (fs:List cl)(k:cl):Bool:=fs.any fun x=>decide (x=k)
theorem rx {fs:List cl}{k:cl}:MS fs k=true↔k∈fs:=by
 unfold MS;rw[List.any_eq_true]
 exact⟨fun ⟨x,hx,he⟩=>by rw[←dO he];exact hx,fun h=>⟨k,h,dT rfl⟩⟩
def kI (fs:List cl)(k:cl):List cl:=if MS fs k=true then fs else fs++[k]
theorem K9 {fs:List cl}{k:cl}(h:k∈fs):kI fs k=fs:=by unfold kI;rw[if_pos (rx.2 h)]
theorem Ig {fs:List cl}{k:cl}(h:k ∉ fs):kI fs k=fs++[k]:=by unfold kI;rw[if_neg (fun h'=>h (rx.1 h'))]
structure ji (w:World) (b:Nat) (es:Array MapEntry) (c:Nat) (ks:List cl):Prop where
 at_:w.heap[b]?=some (.map es c)
 keys:es.toList.map (·.key)=ks.map ij
 vals:∀ e∈es.toList,∃ n:Int,e.val=.int .i64 n
 born:∀ e∈es.toList,e.born<c
 nd:(es.toList.map (·.born)).Nodup
 ndk:ks.Nodup
def gJ (w:World)(b:Nat)(ks:List cl):Prop:=∃ es c,ji w b es c ks
theorem gJ.made (w:World):gJ (w.alloc (.map #[] 0)) w.heap.size []:=⟨#[],0,heap_alloc_new w _,by simp,by simp,by simp,by simp,by simp⟩
theorem gJ.lt {w:World}{b:Nat}{ks:List cl}(h:gJ w b ks):b<w.heap.size:=by
 obtain⟨es,c,h⟩:=h;exact(Array.getElem?_eq_some_iff.1 h.at_).1
theorem gJ.block {w w':World}{b:Nat}{ks:List cl}(h:gJ w b ks)(hb:w'.heap[b]?=w.heap[b]?):gJ w' b ks:=by
 obtain⟨es,c,h⟩:=h;exact⟨es,c,hb.trans h.at_,h.keys,h.vals,h.born,h.nd,h.ndk⟩
theorem gJ.below {w w':World}{b:Nat}{ks:List cl}(h:gJ w b ks)(hb:Below w.heap.size w w'):gJ w' b ks:=h.block (hb.block b h.lt)
theorem wG {w:World}{b:Nat}{es:Array MapEntry}{c:Nat}(o:Obj)(hb:w.heap[b]?=some (.map es c)):w.grownBy { w with heap:=w.heap.setIfInBounds b o } (some b):=⟨rfl,rfl,rfl,by simp,fun k hk hne=>(heap_set hb).2 k (fun e=>hne (by rw[e]))⟩
theorem ji.look {w:World}{b c j:Nat}{es:Array MapEntry}{ks:List cl}(h:ji w b es c ks){k:cl}{e:MapEntry}{n:Int}(hj:es.toList[j]?=some e)(hk:(Instr.findAsking 34 (ij k) es.toList 0).run Tryz.prog w=.ok (some (j,e.val)) w)(hn:e.val=.int .i64 n):
  (Instr.lookup 55 (.map (some b)) (ij k) false).run Tryz.prog w=.ok (.int .i64 n) w:=by
 unfold ij at hk ⊢
 simp[Instr.lookup,run_underlying Tryz.underlying55,MapKept.run_getObj_map h.at_,nD,qR,hk,hn,go_sem]
theorem Ih (k:cl)(w:World):(Instr.keyThatStays (ij k) (ij k)).run Tryz.prog w=.ok (ij k) w:=by
 have hs:Instr.sameBits 10000 (ij k) (ij k)=true:=by
  unfold ij
  show Instr.sameBits (9999+1) _ _=true
  simp[Instr.sameBits,bytes_beq]
 simp[Instr.keyThatStays,hs]
theorem La {es:Array MapEntry}{j:Nat}{e:MapEntry}(hnd:(es.toList.map (·.born)).Nodup)(hj:es.toList[j]?=some e):es.findIdx? (fun x=>((x.born:Nat):Int)==(e.born:Int))=some j:=by
 rw[show es=es.toList.toArray by simp,List.findIdx?_toArray,List.findIdx?_eq_some_iff_getElem]
 obtain⟨hl,he⟩:=gS hj
 refine⟨hl,by rw[he];simp,fun i hi=>?_⟩
 rw[List.Nodup,List.pairwise_iff_getElem] at hnd
 have hil:i<es.toList.length:=by omega
 have:=hnd i j (by simpa using hil) (by simpa using hl) hi
 simp only[List.getElem_map,he] at this
 simp only[bF,Bool.not_eq_true,ne_eq]
 intro hc
 exact this (by omega)
theorem ji.modify {w:World}{b c j:Nat}{es:Array MapEntry}{ks:List cl}(h:ji w b es c ks)(v:Int):
  ji { w with heap:=w.heap.setIfInBounds b (.map (es.modify j fun e=>{ e with val:=.int .i64 v }) c) } b (es.modify j fun e=>{ e with val:=.int .i64 v }) c ks:=by
 have hl:(es.modify j fun e=>{ e with val:=.int .i64 v }).toList=es.toList.modify j fun e=>{ e with val:=.int .i64 v }:=by simp
 have hmem:∀ e∈es.toList.modify j (fun e=>{ e with val:=.int .i64 v }),∃ e0∈es.toList,e.born=e0.born∧((∃ n:Int,e.val=.int .i64 n)):=by
  intro e he
  obtain⟨i,hi⟩:=List.getElem?_of_mem he
  rw[List.getElem?_modify] at hi
  cases h0:es.toList[i]? with
  | none=>rw[h0] at hi;simp at hi
  | some e0=>
   rw[h0] at hi
   simp at hi
   refine⟨e0,gM h0,?_,?_⟩
   ·rw[←hi];split<;>rfl
   ·rw[←hi];split
    ·exact⟨v,rfl⟩
    ·exact h.vals e0 (gM h0)
 have hmap:∀ {α:Type} (f:MapEntry→α),(∀ e u,f { e with val:=u }=f e)→(es.toList.modify j fun e=>{ e with val:=.int .i64 v }).map f=es.toList.map f:=by
  intro α f hf
  apply List.ext_getElem?
  intro i
  rw[List.getElem?_map,List.getElem?_map,List.getElem?_modify]
  cases es.toList[i]? with
  | none=>rfl
  | some e0=>simp only[Option.map_some];split<;>simp[hf]
 refine⟨(heap_set h.at_).1,?_,?_,?_,?_,h.ndk⟩
 ·rw[hl,hmap (·.key) (fun _ _=>rfl)];exact h.keys
 ·rw[hl];intro e he;obtain⟨_,_,_,h2⟩:=hmem e he;exact h2
 ·rw[hl];intro e he;obtain⟨e0,h0,h1,_⟩:=hmem e he;rw[h1];exact h.born e0 h0
 ·rw[hl,hmap (·.born) (fun _ _=>rfl)];exact h.nd
theorem gJ.incr {w:World}{b:Nat}{ks:List cl}(h:gJ w b ks)(k:cl):
  ∃ (n st:Int) (W1:World) (W2:Int→World),(Instr.lookup 55 (.map (some b)) (ij k) false).run Tryz.prog w=.ok (.int .i64 n) w ∧
   (Instr.mapEntry 55 (.map (some b)) (ij k)).run Tryz.prog w=.ok (.tuple #[.int .i64 n,.int .i64 st]) W1 ∧
   (Instr.lookup 55 (.map (some b)) (ij k) false).run Tryz.prog W1=.ok (.int .i64 n) W1 ∧
   (∀ v:Int,(Instr.entryStore 55 (.map (some b)) (.int .i64 st) (.int .i64 v)).run Tryz.prog W1=.ok () (W2 v)∧gJ (W2 v) b (kI ks k)∧w.grownBy (W2 v) (some b)):=by
 obtain⟨es,c,hE⟩:=h
 have store:∀ (W1:World)(es1:Array MapEntry)(c1 j:Nat)(e:MapEntry)(ks1:List cl),ji W1 b es1 c1 ks1→es1.toList[j]?=some e→w.grownBy W1 (some b)→ks1=kI ks k →
   ∀ v:Int,(Instr.entryStore 55 (.map (some b)) (.int .i64 (e.born:Int)) (.int .i64 v)).run Tryz.prog W1=.ok () { W1 with heap:=W1.heap.setIfInBounds b (.map (es1.modify j fun e=>{ e with val:=.int .i64 v }) c1) } ∧
    gJ { W1 with heap:=W1.heap.setIfInBounds b (.map (es1.modify j fun e=>{ e with val:=.int .i64 v }) c1) } b (kI ks k)∧w.grownBy { W1 with heap:=W1.heap.setIfInBounds b (.map (es1.modify j fun e=>{ e with val:=.int .i64 v }) c1) } (some b):=by
  intro W1 es1 c1 j e ks1 h1 hj hg hks v
  refine⟨?_,⟨_,_,hks ▸ h1.modify v⟩,hg.andThen (wG _ h1.at_) (fun j hj=>.inr hj)⟩
  simp[Instr.entryStore,MapKept.run_getObj_map h1.at_,asInt,asIntOf,La h1.nd hj,MapKept.run_setObj_map _ h1.at_]
 rcases qS (w:=w) k es.toList ks 0 hE.keys with⟨hf,hn⟩ | ⟨j,e,hj,hkj,hf⟩
 ·have h1:ji { w with heap:=w.heap.setIfInBounds b (.map (es.push { key:=ij k,val:=.int .i64 0,born:=c }) (c+1)) } b (es.push { key:=ij k,val:=.int .i64 0,born:=c }) (c+1) (ks++[k]):=by
   refine⟨(heap_set hE.at_).1,?_,?_,?_,?_,?_⟩
   ·simp[hE.keys]
   ·intro e he
    rcases(by simpa using he:e∈es∨e=_) with he | rfl
    ·exact hE.vals e (by simpa using he)
    ·exact⟨0,rfl⟩
   ·intro e he
    rcases(by simpa using he:e∈es∨e=_) with he | rfl
    ·have:=hE.born e (by simpa using he);omega
    ·exact Nat.lt_succ_self c
   ·rw[Array.toList_push,List.map_append,List.nodup_append]
    refine⟨hE.nd,by simp,fun a ha b' hb' hab=>?_⟩
    obtain⟨e,he,rfl⟩:=List.mem_map.1 ha
    simp at hb'
    have:=hE.born e he
    omega
   ·rw[List.nodup_append]
    exact⟨hE.ndk,by simp,fun a ha b' hb' hab=>by rw[List.mem_singleton.1 hb'] at hab;exact hn (hab ▸ ha)⟩
  have hj1:(es.push { key:=ij k,val:=Value.int .i64 0,born:=c }).toList[es.size]?=some { key:=ij k,val:=.int .i64 0,born:=c }:=by simp
  have hlook:(Instr.findAsking 34 (ij k) (es.push { key:=ij k,val:=Value.int .i64 0,born:=c }).toList 0).run Tryz.prog { w with heap:=w.heap.setIfInBounds b (.map (es.push { key:=ij k,val:=.int .i64 0,born:=c }) (c+1)) }=.ok (some (es.size,.int .i64 0)) { w with heap:=w.heap.setIfInBounds b (.map (es.push { key:=ij k,val:=.int .i64 0,born:=c }) (c+1)) }:=by
   rcases qS (w:={ w with heap:=w.heap.setIfInBounds b (.map (es.push { key:=ij k,val:=.int .i64 0,born:=c }) (c+1)) }) k _ (ks++[k]) 0 h1.keys with⟨_,h⟩ | ⟨i,e',hi,hk',hr⟩
   ·exact absurd (List.mem_append_right _ (List.mem_singleton.2 rfl)) h
   ·have hil:=(gS hk').1
    have hlen:ks.length=es.size:=by have:=congrArg List.length hE.keys;simpa using this.symm
    have hie:i=es.size:=by
     rcases Nat.lt_or_ge i ks.length with h | h
     ·rw[List.getElem?_append_left h] at hk'
      exact absurd (gM hk') hn
     ·simp at hil;omega
    subst hie
    rw[hj1] at hi;injection hi with hi
    rw[hr,←hi];simp
  refine⟨0,(c:Int),_,_,?_,?_,h1.look (n:=0) hj1 hlook rfl,store _ _ _ _ _ _ h1 hj1 (wG _ hE.at_) (Ig hn).symm⟩
  ·unfold ij at hf ⊢
   simp[Instr.lookup,run_underlying Tryz.underlying55,MapKept.run_getObj_map hE.at_,nD,qR,hf,go_sem]
  ·unfold ij at hf ⊢
   simp[Instr.mapEntry,run_underlying Tryz.underlying55,MapKept.run_getObj_map hE.at_,nD,qR,hf,Ey,MapKept.run_setObj_map _ hE.at_,goInt]
 ·obtain⟨n,hv⟩:=hE.vals e (gM hj)
  have hf':(Instr.findAsking 34 (ij k) es.toList 0).run Tryz.prog w=.ok (some (j,e.val)) w:=by simpa using hf
  have hin:k∈ks:=gM hkj
  have hlk:=hE.look (n:=n) hj hf' hv
  have hje:es[j]?=some e:=by simpa using hj
  have hek:e.key=ij k:=by
   have h1:=congrArg (fun l:LV=>l[j]?) hE.keys
   simp only[List.getElem?_map,hj,hkj,Option.map_some] at h1
   injection h1
  have hmod:(es.modify j fun e=>{ e with key:=ij k })=es:=by
   apply Array.ext_getElem?
   intro i
   rw[Array.getElem?_modify]
   by_cases hi:j=i
   ·subst hi
    rw[if_pos rfl,hje]
    simp only[Option.map_some]
    rw[←hek]
   ·rw[if_neg hi]
  have h1:ji { w with heap:=w.heap.setIfInBounds b (.map es c) } b es c ks:=⟨(heap_set hE.at_).1,hE.keys,hE.vals,hE.born,hE.nd,hE.ndk⟩
  have hf1:(Instr.findAsking 34 (ij k) es.toList 0).run Tryz.prog { w with heap:=w.heap.setIfInBounds b (.map es c) }=.ok (some (j,e.val)) { w with heap:=w.heap.setIfInBounds b (.map es c) }:=by
   rcases qS (w:={ w with heap:=w.heap.setIfInBounds b (.map es c) }) k es.toList ks 0 hE.keys with⟨_,h⟩ | ⟨i,e',hi,hk',hr⟩
   ·exact absurd hin h
   ·have hij:i=j:=by
     have hnd:=hE.ndk
     rw[List.Nodup,List.pairwise_iff_getElem] at hnd
     obtain⟨hil,ei⟩:=gS hk'
     obtain⟨hjl,ej⟩:=gS hkj
     rcases Nat.lt_trichotomy i j with q | q | q
     ·exact absurd (ei.trans ej.symm) (hnd i j hil hjl q)
     ·exact q
     ·exact absurd (ej.trans ei.symm) (hnd j i hjl hil q)
    subst hij
    rw[hj] at hi;injection hi with hi
    rw[hr,←hi];simp
  refine⟨n,(e.born:Int),{ w with heap:=w.heap.setIfInBounds b (.map es c) },_,hlk,?_,h1.look (n:=n) hj hf1 hv,store _ es c j e ks h1 hj (wG _ hE.at_) (K9 hin).symm⟩
  have hst:=Ih k w
  unfold ij at hf' hst hmod ⊢
  simp[Instr.mapEntry,run_underlying Tryz.underlying55,MapKept.run_getObj_map hE.at_,nD,qR,hf',hv,hje,hek,ij,hst,hmod,MapKept.run_setObj_map _ hE.at_,goInt]
structure yu (w:World) (ab:Nat) (fmt:Int) (m1 m2:Nat) (ks:List cl):Prop where
 blk:ax w ab [.int .i64 fmt,.map (some m1),.map (some m2)]
 map:gJ w m2 ks
theorem yu.below {w w':World}{ab m1 m2:Nat}{fmt:Int}{ks:List cl}(h:yu w ab fmt m1 m2 ks)(hb:Below w.heap.size w w'):yu w' ab fmt m1 m2 ks:=⟨h.blk.below hb,h.map.below hb⟩
theorem jC (ab m1 m2:Nat)(fmt:Int)(ks:List cl)(s:BA)(n:Int)(w:World)(hA:yu w ab fmt m1 m2 ks):
  Calls Tryz.prog 16 #[.pointer (some ⟨ab,0,none⟩),.string s,.int .i64 n] w fun e w'=>e=.returned (.tuple #[])∧gJ w' m2 (kI ks (s,n))∧w.grownBy w' (some m2):=by
 have b0:=hA.blk.cell 2 _ rfl
 have hd:gJ w.drew m2 ks:=hA.map.block rfl
 obtain⟨i,st,W1,W2,hL0,hE,hL1,hS⟩:=hd.incr (s,n)
 have HS:=ae hS
 have hS1:=fun v=>(HS.out v).1
 have G0:Hid (w.grownBy w.drew (some m2)):=⟨rfl,rfl,rfl,lr,fun _ _ _=>rfl⟩
 unfold ij at hL0 hE hL1
 clear hA hd hS
 go_enter Tryz.func16,Tryz.ntmps16
 go_wp2_with fail
 go_region
 all_goals go_wp2_with fail
 all_goals go_end0
 all_goals exact⟨rfl,(HS.out _).2.1,G0.out.andThen (HS.out _).2.2 (fun j hj=>.inr hj)⟩
end
section
open Go.RowKit
def eS (a b:BA)(c:Int):Value:=.agg #[.string a,.string b,.int .i64 c]
theorem aS (what nm:BA)(c:Int)(a:Addr)(w:World)(ha:w.cell? a=some (.string nm))(hs:a.spot=none)(hlt:a.block<w.heap.size):
  Calls Tryz.prog 50 #[.string what,.int .i64 c,.pointer (some a)] w fun e w'=>e=.returned (eS nm what c)∧Below w.heap.size w w':=by
 obtain⟨b,o,sp⟩:=a
 subst hs
 simp only at hlt
 go_enter Tryz.func50,Tryz.ntmps50
 go_wp2
 refine bodyPost_ret (v:=eS nm what c) (by simp[results,Tryz.results50,go_sem,eS]) rfl ⟨rfl,?_⟩
 exact bR.alloc lr _
def kO (n:Int)(x:BA):Bool:=decide (aw n 0=x∨aw n 1=x∨aw n 2=x)
theorem uB (b:Nat)(n:Int)(x:BA)(w:World)(h0:w.cell? ⟨b,0,none⟩=some (.string (aw n 0)))(h1:w.cell? ⟨b,1,none⟩=some (.string (aw n 1)))(h2:w.cell? ⟨b,2,none⟩=some (.string (aw n 2))):
  Calls Tryz.prog 54 #[.slice (some ⟨b,0,none⟩) 3 3,.string x] w fun e w'=>e=.returned (.bool (kO n x))∧w'=w:=
 (Tryz.slices_Contains_string b 0 3 3 [aw n 0,aw n 1,aw n 2] x w (by simp) (by omega) (fun j hj=>by
  simp at hj
  rcases(by omega:j=0∨j=1∨j=2) with rfl | rfl | rfl<;>simpa)).mono fun _ _ ⟨he,hw⟩=>⟨by
   rw[he];congr 2;rw[bI,Lib.containsS_iff];simp only[kO,decide_eq_true_iff,List.take,List.mem_cons,List.not_mem_nil,or_false]
   exact⟨fun h=>by rcases h with h | h | h<;>simp[h],fun h=>by rcases h with h | h | h<;>simp[h]⟩,hw⟩
def jj (nm:BA)(fo no:Bool)(ev:Int)(ao so ndo bo go:Bool)(fw:BA)(fe se:Int):Value:=
 if fo=false then eS nm ⟨#[102,111,114,109,97,116]⟩ 9 else if no=false then eS nm ⟨#[110,97,109,101]⟩ 10 else if ev≠0 then eS nm ⟨#[118,101,114,115,105,111,110]⟩ ev
 else if ao=false then eS nm ⟨#[97,114,99,104]⟩ 1 else if so=false then eS nm ⟨#[115,117,109,109,97,114,121]⟩ 3 else if ndo=false then eS nm ⟨#[110,101,101,100,115]⟩ 3
 else if bo=false then eS nm ⟨#[98,97,114,115]⟩ 3 else if go=false then eS nm ⟨#[103,105,118,101,115]⟩ 3 else if fe≠0 then eS nm fw fe
 else if se≠0 then eS nm ⟨#[115,99,114,105,112,116,115]⟩ se else eS ⟨#[]⟩ ⟨#[]⟩ 0
structure nO (w w1:World) (nm ver ar sm:BA) (nd br gv fs sp:Value):Prop where
 bel:Below w.heap.size w w1
 sz:w.heap.size+1<w1.heap.size
 c0:w1.cell? ⟨w.heap.size,0,none⟩=some (.string nm)
 c1:w1.cell? ⟨w.heap.size,1,none⟩=some (.string ver)
 c2:w1.cell? ⟨w.heap.size,2,none⟩=some (.string ar)
 c3:w1.cell? ⟨w.heap.size,3,none⟩=some (.string sm)
 c4:w1.cell? ⟨w.heap.size,4,none⟩=some nd
 c5:w1.cell? ⟨w.heap.size,5,none⟩=some br
 c6:w1.cell? ⟨w.heap.size,6,none⟩=some gv
 c7:w1.cell? ⟨w.heap.size,7,none⟩=some fs
 c8:w1.cell? ⟨w.heap.size,8,none⟩=some sp
 r0:w1.cell? ⟨w.heap.size+1,0,none⟩=some (.string ⟨#[]⟩)
 r1:w1.cell? ⟨w.heap.size+1,1,none⟩=some (.string ⟨#[]⟩)
 r2:w1.cell? ⟨w.heap.size+1,2,none⟩=some (.int .i64 0)
 f0:w1.frozen? ⟨w.heap.size+1,0,none⟩=false
 f1:w1.frozen? ⟨w.heap.size+1,1,none⟩=false
 f2:w1.frozen? ⟨w.heap.size+1,2,none⟩=false
theorem nO.step {w w1 w2:World}{nm ver ar sm:BA}{nd br gv fs sp:Value}(h:nO w w1 nm ver ar sm nd br gv fs sp)(hb:Below w1.heap.size w1 w2):nO w w2 nm ver ar sm nd br gv fs sp:=by
 have hz:=h.sz
 have k0:∀ o,w2.cell? ⟨w.heap.size,o,none⟩=w1.cell? ⟨w.heap.size,o,none⟩:=fun o=>hb.cell (p:=⟨w.heap.size,o,none⟩) (by show w.heap.size<_;omega)
 have k1:∀ o,w2.cell? ⟨w.heap.size+1,o,none⟩=w1.cell? ⟨w.heap.size+1,o,none⟩:=fun o=>hb.cell (p:=⟨w.heap.size+1,o,none⟩) hz
 have k2:∀ o,w2.frozen? ⟨w.heap.size+1,o,none⟩=w1.frozen? ⟨w.heap.size+1,o,none⟩:=fun o=>hb.frozen (p:=⟨w.heap.size+1,o,none⟩) hz
 exact⟨aq h.bel hb,Nat.lt_of_lt_of_le hz hb.size,(k0 _).trans h.c0,(k0 _).trans h.c1,(k0 _).trans h.c2,(k0 _).trans h.c3,(k0 _).trans h.c4,(k0 _).trans h.c5,(k0 _).trans h.c6,(k0 _).trans h.c7,(k0 _).trans h.c8,
  (k1 _).trans h.r0,(k1 _).trans h.r1,(k1 _).trans h.r2,(k2 _).trans h.f0,(k2 _).trans h.f1,(k2 _).trans h.f2⟩
theorem nO.start (w:World)(nm ver ar sm:BA)(nd br gv fs sp:Value){w1:World}
  (hb:Below ((w.alloc (.cells #[.string nm,.string ver,.string ar,.string sm,nd,br,gv,fs,sp] 39)).alloc (.cells #[.string ⟨#[]⟩,.string ⟨#[]⟩,.int .i64 0] 30)).heap.size ((w.alloc (.cells #[.string nm,.string ver,.string ar,.string sm,nd,br,gv,fs,sp] 39)).alloc (.cells #[.string ⟨#[]⟩,.string ⟨#[]⟩,.int .i64 0] 30)) w1):nO w w1 nm ver ar sm nd br gv fs sp:=by
 have hz:=hb.size
 simp at hz
 have k0:∀ o,w1.cell? ⟨w.heap.size,o,none⟩=_:=fun o=>hb.cell (p:=⟨w.heap.size,o,none⟩) (by simp;omega)
 have k1:∀ o,w1.cell? ⟨w.heap.size+1,o,none⟩=_:=fun o=>hb.cell (p:=⟨w.heap.size+1,o,none⟩) (by simp)
 have k2:∀ o,w1.frozen? ⟨w.heap.size+1,o,none⟩=_:=fun o=>hb.frozen (p:=⟨w.heap.size+1,o,none⟩) (by simp)
 exact⟨((bR.alloc lr _).alloc (by simp) _).trans (hb.mono (by simp;omega)),by omega,(k0 _).trans (by simp),(k0 _).trans (by simp),(k0 _).trans (by simp),(k0 _).trans (by simp),(k0 _).trans (by simp),(k0 _).trans (by simp),(k0 _).trans (by simp),(k0 _).trans (by simp),(k0 _).trans (by simp),
  (k1 _).trans (by simp),(k1 _).trans (by simp),(k1 _).trans (by simp),(k2 _).trans (by simp),(k2 _).trans (by simp),(k2 _).trans (by simp)⟩
theorem cW (tmps:Array Value){w w2:World}{nm ver ar sm:BA}{nd br gv fs sp:Value}(h:nO w w2 nm ver ar sm nd br gv fs sp)(ht:tmps[4]?=some (.pointer (some ⟨w.heap.size+1,0,none⟩)))(a b:BA)(c:Int):
  (results Tryz.f30 tmps).run Tryz.prog (((w2.setCell ⟨w.heap.size+1,0,none⟩ (.string a)).setCell ⟨w.heap.size+1,1,none⟩ (.string b)).setCell ⟨w.heap.size+1,2,none⟩ (.int .i64 c)) =
   .ok (eS a b c) (((w2.setCell ⟨w.heap.size+1,0,none⟩ (.string a)).setCell ⟨w.heap.size+1,1,none⟩ (.string b)).setCell ⟨w.heap.size+1,2,none⟩ (.int .i64 c)):=by
 obtain⟨bel,sz,c0,c1,c2,c3,c4,c5,c6,c7,c8,r0,r1,r2,f0,f1,f2⟩:=h
 simp[results,Tryz.results30,ht,go_sem,eS,r0,r1,r2]
theorem dP {w w2:World}{nm ver ar sm:BA}{nd br gv fs sp:Value}(h:nO w w2 nm ver ar sm nd br gv fs sp)(a b c:Value):
  Below w.heap.size w (((w2.setCell ⟨w.heap.size+1,0,none⟩ a).setCell ⟨w.heap.size+1,1,none⟩ b).setCell ⟨w.heap.size+1,2,none⟩ c):=
 ((h.bel.setCell (p:=⟨w.heap.size+1,0,none⟩) (by simp) a).setCell (p:=⟨w.heap.size+1,1,none⟩) (by simp) b).setCell (p:=⟨w.heap.size+1,2,none⟩) (by simp) c
theorem kP (s:BA)(w:World)(hs:s.size≤9223372036854775807):
  Calls Tryz.prog 55 #[.string s] w fun e w'=>e=.returned (.bool (rE (bl s)))∧Below w.heap.size w w':=
 (mR s w hs).mono fun _ _ ⟨he,hw⟩=>⟨he,by rw[←hw];exact bR⟩
theorem jG (n:Int)(w:World):
  Calls Tryz.prog 29 #[.int .i64 n] w fun e w'=>e=.returned (.bool (jg n))∧Below w.heap.size w w':=
 (kG n w).mono fun _ _ ⟨he,hw⟩=>⟨he,by rw[←hw];exact bR⟩
theorem mS (n:Int)(nm ver ar sm:BA)(na ba ga fa sa:OA)(nl nc bl' bc gl gc fl fc sl sc:Nat)(w:World)
  (ev fe se:Int)(ndo bo go:Bool)(fw:BA)(hs1:nm.size≤9223372036854775807)(hs2:sm.size≤9223372036854775807)
  (hV:Hid (∀ w1,Below w.heap.size w w1→Calls Tryz.prog 52 #[.int .i64 n,.string ver] w1 fun e w2=>e=.returned (.int .i64 ev)∧Below w1.heap.size w1 w2))
  (hN:Hid (∀ w1,Below w.heap.size w w1→Calls Tryz.prog 56 #[.int .i64 n,.slice na nl nc,.bool false] w1 fun e w2=>e=.returned (.bool ndo)∧Below w1.heap.size w1 w2))
  (hB:Hid (∀ w1,Below w.heap.size w w1→Calls Tryz.prog 56 #[.int .i64 n,.slice ba bl' bc,.bool true] w1 fun e w2=>e=.returned (.bool bo)∧Below w1.heap.size w1 w2))
  (hGv:Hid (∀ w1,Below w.heap.size w w1→Calls Tryz.prog 57 #[.int .i64 n,.slice ga gl gc] w1 fun e w2=>e=.returned (.bool go)∧Below w1.heap.size w1 w2))
  (hF:Hid (∀ w1,Below w.heap.size w w1→Calls Tryz.prog 58 #[.int .i64 n,.slice fa fl fc] w1 fun e w2=>e=.returned (.tuple #[.string fw,.int .i64 fe])∧Below w1.heap.size w1 w2))
  (hS:Hid (∀ w1,Below w.heap.size w w1→Calls Tryz.prog 59 #[.int .i64 n,.slice sa sl sc] w1 fun e w2=>e=.returned (.int .i64 se)∧Below w1.heap.size w1 w2)):
  Calls Tryz.prog 30 #[.int .i64 n,.agg #[.string nm,.string ver,.string ar,.string sm,.slice na nl nc,.slice ba bl' bc,.slice ga gl gc,.slice fa fl fc,.slice sa sl sc]] w
   fun e w'=>e=.returned (jj nm (jg n) (dy (bl nm)) ev (kO n ar) (rE (bl sm)) ndo bo go fw fe se)∧Below w.heap.size w w':=by
 go_enter Tryz.func30,Tryz.ntmps30
 go_wp2_with fail
 refine(jG _ _).mono ?_;rintro e w1 ⟨rfl,hb1⟩
 have B1:=nO.start w nm ver ar sm (.slice na nl nc) (.slice ba bl' bc) (.slice ga gl gc) (.slice fa fl fc) (.slice sa sl sc) hb1
 clear hb1
 obtain⟨-,sz,c0,c1,c2,c3,c4,c5,c6,c7,c8,-,-,-,-,-,-⟩:=ae B1
 have HB1:=ae B1;clear B1
 cases h0:jg n
 ·have K0:=ae h0;clear h0
  go_wp2_with fail
  refine(aS _ nm _ _ _ HB1.out.c0 rfl (by have:=HB1.out.sz;show w.heap.size<_;omega)).mono ?_;rintro e wx ⟨rfl,hbx⟩
  have bx:=HB1.out.step hbx
  clear c0 c1 c2 c3 c4 c5 c6 c7 c8 sz
  obtain⟨-,sz,c0,c1,c2,c3,c4,c5,c6,c7,c8,r0,r1,r2,f0,f1,f2⟩:=ae bx
  have HX:=ae bx;clear bx hbx
  unfold eS
  go_wp2_with fail
  refine bodyPost_ret (cW _ HX.out rfl _ _ _) rfl ⟨?_,dP HX.out _ _ _⟩
  congr 1;simp[jj,K0.out]
 have K0:=ae h0;clear h0
 go_wp2_with fail
 refine(lM nm _ hs1).mono ?_;rintro e w1' ⟨rfl,rfl⟩
 cases h1:dy (bl nm)
 ·have K1:=ae h1;clear h1
  go_wp2_with fail
  refine(aS _ nm _ _ _ HB1.out.c0 rfl (by have:=HB1.out.sz;show w.heap.size<_;omega)).mono ?_;rintro e wx ⟨rfl,hbx⟩
  have bx:=HB1.out.step hbx
  clear c0 c1 c2 c3 c4 c5 c6 c7 c8 sz
  obtain⟨-,sz,c0,c1,c2,c3,c4,c5,c6,c7,c8,r0,r1,r2,f0,f1,f2⟩:=ae bx
  have HX:=ae bx;clear bx hbx
  unfold eS
  go_wp2_with fail
  refine bodyPost_ret (cW _ HX.out rfl _ _ _) rfl ⟨?_,dP HX.out _ _ _⟩
  congr 1;simp[jj,K0.out,K1.out]
 have K1:=ae h1;clear h1
 go_wp2_with fail
 refine(hV.out _ HB1.out.bel).mono ?_;rintro e w2 ⟨rfl,hb2⟩
 have B2:=HB1.out.step hb2
 clear hb2;clear c0 c1 c2 c3 c4 c5 c6 c7 c8 sz
 obtain⟨-,sz,c0,c1,c2,c3,c4,c5,c6,c7,c8,-,-,-,-,-,-⟩:=ae B2
 have HB2:=ae B2;clear B2
 by_cases h2:¬ ev=0
 ·have h2':(ev != 0)=true:=by simpa using h2
  have K2:=ae h2;clear h2
  go_wp2_with fail
  refine(aS _ nm _ _ _ HB2.out.c0 rfl (by have:=HB2.out.sz;show w.heap.size<_;omega)).mono ?_;rintro e wx ⟨rfl,hbx⟩
  have bx:=HB2.out.step hbx
  clear c0 c1 c2 c3 c4 c5 c6 c7 c8 sz
  obtain⟨-,sz,c0,c1,c2,c3,c4,c5,c6,c7,c8,r0,r1,r2,f0,f1,f2⟩:=ae bx
  have HX:=ae bx;clear bx hbx
  unfold eS
  go_wp2_with fail
  refine bodyPost_ret (cW _ HX.out rfl _ _ _) rfl ⟨?_,dP HX.out _ _ _⟩
  congr 1;simp[jj,K0.out,K1.out,K2.out]
 obtain rfl:ev=0:=Decidable.not_not.1 h2
 clear h2
 go_wp2_with fail
 refine(yq _ _).mono ?_;rintro e w3 ⟨rfl,hb3⟩
 have B3:=HB2.out.step hb3
 clear hb3;clear c0 c1 c2 c3 c4 c5 c6 c7 c8 sz
 obtain⟨-,sz,c0,c1,c2,c3,c4,c5,c6,c7,c8,-,-,-,-,-,-⟩:=ae B3
 have HB3:=ae B3;clear B3
 have sz0:w.heap.size<w3.heap.size:=by omega
 go_wp2_with fail
 go_quiet ((go_at_call 54;exact Calls.quiet_of_same (uB _ n _ _ (by simp) (by simp) (by simp))))
 cases h3:kO n ar
 ·have K3:=ae h3;clear h3
  go_wp2_with fail
  refine(aS _ nm _ _ _ (by exact(HB3.out.step (an (bR.alloc lr _) _)).c0) rfl (by exact Nat.lt_trans (Nat.lt_succ_self _) (HB3.out.step (an (bR.alloc lr _) _)).sz)).mono ?_;rintro e wx ⟨rfl,hbx⟩
  have bx:=(HB3.out.step (an (bR.alloc lr _) _)).step hbx
  clear c0 c1 c2 c3 c4 c5 c6 c7 c8 sz sz0
  obtain⟨-,sz,c0,c1,c2,c3,c4,c5,c6,c7,c8,r0,r1,r2,f0,f1,f2⟩:=ae bx
  have HX:=ae bx;clear bx hbx
  unfold eS
  go_wp2_with fail
  refine bodyPost_ret (cW _ HX.out rfl _ _ _) rfl ⟨?_,dP HX.out _ _ _⟩
  congr 1;simp[jj,K0.out,K1.out,K3.out]
 have K3:=ae h3;clear h3
 go_wp2_with fail
 refine(kP sm _ hs2).mono ?_;rintro e w4 ⟨rfl,hb4⟩
 have B4:=(HB3.out.step (an (bR.alloc lr _) _)).step hb4
 clear hb4;clear c0 c1 c2 c3 c4 c5 c6 c7 c8 sz sz0
 obtain⟨-,sz,c0,c1,c2,c3,c4,c5,c6,c7,c8,-,-,-,-,-,-⟩:=ae B4
 have HB4:=ae B4;clear B4
 cases h4:rE (bl sm)
 ·have K4:=ae h4;clear h4
  go_wp2_with fail
  refine(aS _ nm _ _ _ HB4.out.c0 rfl (by have:=HB4.out.sz;show w.heap.size<_;omega)).mono ?_;rintro e wx ⟨rfl,hbx⟩
  have bx:=HB4.out.step hbx
  clear c0 c1 c2 c3 c4 c5 c6 c7 c8 sz
  obtain⟨-,sz,c0,c1,c2,c3,c4,c5,c6,c7,c8,r0,r1,r2,f0,f1,f2⟩:=ae bx
  have HX:=ae bx;clear bx hbx
  unfold eS
  go_wp2_with fail
  refine bodyPost_ret (cW _ HX.out rfl _ _ _) rfl ⟨?_,dP HX.out _ _ _⟩
  congr 1;simp[jj,K0.out,K1.out,K3.out,K4.out]
 have K4:=ae h4;clear h4
 go_wp2_with fail
 refine(hN.out _ HB4.out.bel).mono ?_;rintro e w5 ⟨rfl,hb5⟩
 have B5:=HB4.out.step hb5
 clear hb5;clear c0 c1 c2 c3 c4 c5 c6 c7 c8 sz
 obtain⟨-,sz,c0,c1,c2,c3,c4,c5,c6,c7,c8,-,-,-,-,-,-⟩:=ae B5
 have HB5:=ae B5;clear B5
 cases ndo
 ·skip
  go_wp2_with fail
  refine(aS _ nm _ _ _ HB5.out.c0 rfl (by have:=HB5.out.sz;show w.heap.size<_;omega)).mono ?_;rintro e wx ⟨rfl,hbx⟩
  have bx:=HB5.out.step hbx
  clear c0 c1 c2 c3 c4 c5 c6 c7 c8 sz
  obtain⟨-,sz,c0,c1,c2,c3,c4,c5,c6,c7,c8,r0,r1,r2,f0,f1,f2⟩:=ae bx
  have HX:=ae bx;clear bx hbx
  unfold eS
  go_wp2_with fail
  refine bodyPost_ret (cW _ HX.out rfl _ _ _) rfl ⟨?_,dP HX.out _ _ _⟩
  congr 1;simp[jj,K0.out,K1.out,K3.out,K4.out]
 go_wp2_with fail
 refine(hB.out _ HB5.out.bel).mono ?_;rintro e w6 ⟨rfl,hb6⟩
 have B6:=HB5.out.step hb6
 clear hb6;clear c0 c1 c2 c3 c4 c5 c6 c7 c8 sz
 obtain⟨-,sz,c0,c1,c2,c3,c4,c5,c6,c7,c8,-,-,-,-,-,-⟩:=ae B6
 have HB6:=ae B6;clear B6
 cases bo
 ·skip
  go_wp2_with fail
  refine(aS _ nm _ _ _ HB6.out.c0 rfl (by have:=HB6.out.sz;show w.heap.size<_;omega)).mono ?_;rintro e wx ⟨rfl,hbx⟩
  have bx:=HB6.out.step hbx
  clear c0 c1 c2 c3 c4 c5 c6 c7 c8 sz
  obtain⟨-,sz,c0,c1,c2,c3,c4,c5,c6,c7,c8,r0,r1,r2,f0,f1,f2⟩:=ae bx
  have HX:=ae bx;clear bx hbx
  unfold eS
  go_wp2_with fail
  refine bodyPost_ret (cW _ HX.out rfl _ _ _) rfl ⟨?_,dP HX.out _ _ _⟩
  congr 1;simp[jj,K0.out,K1.out,K3.out,K4.out]
 go_wp2_with fail
 refine(hGv.out _ HB6.out.bel).mono ?_;rintro e w7 ⟨rfl,hb7⟩
 have B7:=HB6.out.step hb7
 clear hb7;clear c0 c1 c2 c3 c4 c5 c6 c7 c8 sz
 obtain⟨-,sz,c0,c1,c2,c3,c4,c5,c6,c7,c8,-,-,-,-,-,-⟩:=ae B7
 have HB7:=ae B7;clear B7
 cases go
 ·skip
  go_wp2_with fail
  refine(aS _ nm _ _ _ HB7.out.c0 rfl (by have:=HB7.out.sz;show w.heap.size<_;omega)).mono ?_;rintro e wx ⟨rfl,hbx⟩
  have bx:=HB7.out.step hbx
  clear c0 c1 c2 c3 c4 c5 c6 c7 c8 sz
  obtain⟨-,sz,c0,c1,c2,c3,c4,c5,c6,c7,c8,r0,r1,r2,f0,f1,f2⟩:=ae bx
  have HX:=ae bx;clear bx hbx
  unfold eS
  go_wp2_with fail
  refine bodyPost_ret (cW _ HX.out rfl _ _ _) rfl ⟨?_,dP HX.out _ _ _⟩
  congr 1;simp[jj,K0.out,K1.out,K3.out,K4.out]
 go_wp2_with fail
 refine(hF.out _ HB7.out.bel).mono ?_;rintro e w8 ⟨rfl,hb8⟩
 have B8:=HB7.out.step hb8
 clear hb8;clear c0 c1 c2 c3 c4 c5 c6 c7 c8 sz
 obtain⟨-,sz,c0,c1,c2,c3,c4,c5,c6,c7,c8,-,-,-,-,-,-⟩:=ae B8
 have HB8:=ae B8;clear B8
 by_cases h5:¬ fe=0
 ·have h5':(fe != 0)=true:=by simpa using h5
  have K5:=ae h5;clear h5
  go_wp2_with fail
  refine(aS _ nm _ _ _ HB8.out.c0 rfl (by have:=HB8.out.sz;show w.heap.size<_;omega)).mono ?_;rintro e wx ⟨rfl,hbx⟩
  have bx:=HB8.out.step hbx
  clear c0 c1 c2 c3 c4 c5 c6 c7 c8 sz
  obtain⟨-,sz,c0,c1,c2,c3,c4,c5,c6,c7,c8,r0,r1,r2,f0,f1,f2⟩:=ae bx
  have HX:=ae bx;clear bx hbx
  unfold eS
  go_wp2_with fail
  refine bodyPost_ret (cW _ HX.out rfl _ _ _) rfl ⟨?_,dP HX.out _ _ _⟩
  congr 1;simp[jj,K0.out,K1.out,K3.out,K4.out,K5.out]
 obtain rfl:fe=0:=Decidable.not_not.1 h5
 clear h5
 go_wp2_with fail
 refine(hS.out _ HB8.out.bel).mono ?_;rintro e w9 ⟨rfl,hb9⟩
 have B9:=HB8.out.step hb9
 clear hb9;clear c0 c1 c2 c3 c4 c5 c6 c7 c8 sz
 obtain⟨-,sz,c0,c1,c2,c3,c4,c5,c6,c7,c8,-,-,-,-,-,-⟩:=ae B9
 have HB9:=ae B9;clear B9
 by_cases h6:¬ se=0
 ·have h6':(se != 0)=true:=by simpa using h6
  have K6:=ae h6;clear h6
  go_wp2_with fail
  refine(aS _ nm _ _ _ HB9.out.c0 rfl (by have:=HB9.out.sz;show w.heap.size<_;omega)).mono ?_;rintro e wx ⟨rfl,hbx⟩
  have bx:=HB9.out.step hbx
  clear c0 c1 c2 c3 c4 c5 c6 c7 c8 sz
  obtain⟨-,sz,c0,c1,c2,c3,c4,c5,c6,c7,c8,r0,r1,r2,f0,f1,f2⟩:=ae bx
  have HX:=ae bx;clear bx hbx
  unfold eS
  go_wp2_with fail
  refine bodyPost_ret (cW _ HX.out rfl _ _ _) rfl ⟨?_,dP HX.out _ _ _⟩
  congr 1;simp[jj,K0.out,K1.out,K3.out,K4.out,K6.out]
 obtain rfl:se=0:=Decidable.not_not.1 h6
 clear h6 c0 c1 c2 c3 c4 c5 c6 c7 c8 sz
 have HX:=HB9
 obtain⟨-,sz,c0,c1,c2,c3,c4,c5,c6,c7,c8,r0,r1,r2,f0,f1,f2⟩:=ae HX.out
 go_wp2_with fail
 refine bodyPost_ret (cW _ HX.out rfl _ _ _) rfl ⟨?_,dP HX.out _ _ _⟩
 congr 1;simp[jj,K0.out,K1.out,K3.out,K4.out]
end
section
open Go.RowKit Go.Shelf Go.Maps
open Go.ChangeMaps (setBlock)
attribute [local go_sem] Oper.semAt_some
def Ll (x:cl):Array Value:=#[.agg #[.string x.1,.int .i64 x.2]]
structure rH (es:Array MapEntry) (s:Array Nat) (ss:List cl):Prop where
 nd:ss.Nodup
 mem:∀ k:cl,k∈ss↔∃ e∈es.toList,e.key=ij k∧e.born∈s.toList
theorem rH.start (es:Array MapEntry):rH es #[] []:=⟨by simp,fun k=>by simp⟩
theorem qW {k m:cl}(h:ij k=ij m):k=m:=by
 obtain⟨a,b⟩:=k
 obtain⟨c,d⟩:=m
 unfold ij at h
 simp at h
 rw[h.1,h.2]
theorem wR {es:Array MapEntry}{ks:List cl}(hk:es.toList.map (·.key)=ks.map ij){e:MapEntry}(he:e∈es.toList):∃ k∈ks,e.key=ij k:=by
 have:e.key∈ks.map ij:=hk ▸ List.mem_map.2 ⟨e,he,rfl⟩
 obtain⟨k,hm,hke⟩:=List.mem_map.1 this
 exact⟨k,hm,hke.symm⟩
theorem It {es:Array MapEntry}{ks:List cl}(hk:es.toList.map (·.key)=ks.map ij){k:cl}(h:k∈ks):∃ e∈es.toList,e.key=ij k:=by
 have:ij k∈es.toList.map (·.key):=hk ▸ List.mem_map.2 ⟨k,h,rfl⟩
 obtain⟨e,hm,hke⟩:=List.mem_map.1 this
 exact⟨e,hm,hke⟩
theorem EU {es:Array MapEntry}{ks:List cl}(hk:es.toList.map (·.key)=ks.map ij)(hn:ks.Nodup){e e':MapEntry}(he:e∈es.toList)(he':e'∈es.toList)(h:e.key=e'.key):e=e':=by
 obtain⟨i,hi⟩:=List.getElem?_of_mem he
 obtain⟨j,hj⟩:=List.getElem?_of_mem he'
 have hnd:(es.toList.map (·.key)).Nodup:=by
  rw[hk,List.Nodup,List.pairwise_map]
  exact List.Pairwise.imp (fun hne e=>hne (qW e)) hn
 obtain⟨hil,ei⟩:=gS hi
 obtain⟨hjl,ej⟩:=gS hj
 rw[List.Nodup,List.pairwise_iff_getElem] at hnd
 rcases Nat.lt_trichotomy i j with c | c | c
 ·have hx:=hnd i j (by simpa using hil) (by simpa using hjl) c
  rw[List.getElem_map,List.getElem_map,ei,ej] at hx
  exact absurd h hx
 ·subst c;rw[←ei,←ej]
 ·have hx:=hnd j i (by simpa using hjl) (by simpa using hil) c
  rw[List.getElem_map,List.getElem_map,ei,ej] at hx
  exact absurd h.symm hx
theorem yH {es:Array MapEntry}{s:Array Nat}{e:MapEntry}:e∈(leftOf es s).toList↔e∈es.toList∧e.born ∉ s.toList:=by
 unfold leftOf
 simp
theorem EZ {es:Array MapEntry}{ks:List cl}{s:Array Nat}{ss:List cl}(hk:es.toList.map (·.key)=ks.map ij)(hn:ks.Nodup)(h:rH es s ss)(hl:(leftOf es s).size=0):ss.Perm ks:=by
 refine(List.perm_ext_iff_of_nodup h.nd hn).2 fun k=>?_
 rw[h.mem]
 constructor
 ·rintro⟨e,he,hke,_⟩
  obtain⟨m,hm,hme⟩:=wR hk he
  rw[qW (hke.symm.trans hme)];exact hm
 ·intro hm
  obtain⟨e,he,hke⟩:=It hk hm
  refine⟨e,he,hke,?_⟩
  by_cases hb:e.born∈s.toList
  ·exact hb
  ·have:=yH.2 ⟨he,hb⟩
   rw[Array.eq_empty_of_size_eq_zero hl] at this
   simp at this
theorem yI:∀ (l m:List cl),l.Nodup→(∀ s∈l,s∈m)→l.length≤m.length
 | [],_,_,_=>z0
 | x::r,m,hn,h=>by
  obtain⟨s,t,rfl⟩:=List.append_of_mem (h x (List.mem_cons_self ..))
  have hl:=yI r (s++t) (List.nodup_cons.1 hn).2 fun y hy=>by
   have h1:=h y (List.mem_cons_of_mem _ hy)
   rw[List.mem_append,List.mem_cons] at h1
   rw[List.mem_append]
   rcases h1 with h1 | h1 | h1
   ·exact .inl h1
   ·exact absurd (h1 ▸ hy) (List.nodup_cons.1 hn).1
   ·exact .inr h1
  simp only[List.length_append,List.length_cons] at hl ⊢
  omega
theorem Bn {es:Array MapEntry}{ks:List cl}{s:Array Nat}{ss:List cl}(hk:es.toList.map (·.key)=ks.map ij)(hn:ks.Nodup)(hnb:(es.toList.map (·.born)).Nodup)(h:rH es s ss){e:MapEntry}(he:e∈(leftOf es s).toList):
  ∃ x:cl,e.key=.agg #[.string x.1,.int .i64 x.2]∧rH es (s.push e.born) (ss++[x])∧e∈es.toList∧ss.length<ks.length∧(leftOf es (s.push e.born)).size<(leftOf es s).size:=by
 obtain⟨hm,hb⟩:=yH.1 he
 obtain⟨x,hx,hke⟩:=wR hk hm
 have hxs:x ∉ ss:=fun hxs=>by
  obtain⟨e',he',hk',hb'⟩:=(h.mem x).1 hxs
  have:=EU hk hn hm he' (hke.trans hk'.symm)
  rw[this] at hb
  exact hb hb'
 have bornOne:∀ e'∈es.toList,e'.born=e.born→e'=e:=by
  intro e' he' hbe
  obtain⟨i,hi⟩:=List.getElem?_of_mem he'
  obtain⟨j,hj⟩:=List.getElem?_of_mem hm
  obtain⟨hil,ei⟩:=gS hi
  obtain⟨hjl,ej⟩:=gS hj
  rw[List.Nodup,List.pairwise_iff_getElem] at hnb
  rcases Nat.lt_trichotomy i j with c | c | c
  ·have hx:=hnb i j (by simpa using hil) (by simpa using hjl) c
   rw[List.getElem_map,List.getElem_map,ei,ej] at hx
   exact absurd hbe hx
  ·subst c;rw[←ei,←ej]
  ·have hx:=hnb j i (by simpa using hjl) (by simpa using hil) c
   rw[List.getElem_map,List.getElem_map,ei,ej] at hx
   exact absurd hbe.symm hx
 have nd2:(ss++[x]).Nodup:=by
  rw[List.nodup_append]
  exact⟨h.nd,by simp,fun a ha b hb' hab=>by rw[List.mem_singleton.1 hb'] at hab;exact hxs (hab ▸ ha)⟩
 have hsub:∀ k∈ss++[x],k∈ks:=by
  intro k hk'
  rcases List.mem_append.1 hk' with hk' | hk'
  ·obtain⟨e',he',hke',_⟩:=(h.mem k).1 hk'
   obtain⟨m,hm',hme⟩:=wR hk he'
   rw[qW (hke'.symm.trans hme)];exact hm'
  ·rw[List.mem_singleton.1 hk'];exact hx
 refine⟨x,hke,⟨nd2,fun k=>?_⟩,hm,?_,?_⟩
 ·rw[List.mem_append,List.mem_singleton,h.mem]
  simp only[Array.toList_push,List.mem_append,List.mem_singleton]
  constructor
  ·rintro(⟨e',he',hk',hb'⟩ | rfl)
   ·exact⟨e',he',hk',.inl hb'⟩
   ·exact⟨e,hm,hke,.inr rfl⟩
  ·rintro⟨e',he',hk',hb' | hb'⟩
   ·exact .inl ⟨e',he',hk',hb'⟩
   ·right
    have:=bornOne e' he' hb'
    subst this
    exact qW (hk'.symm.trans hke)
 ·have:=(yI _ _ nd2 hsub)
  simp at this
  omega
 ·have e1:(leftOf es (s.push e.born)).toList=(leftOf es s).toList.filter (fun y=>decide (y.born≠e.born)):=by
   unfold leftOf
   simp only[Array.toList_filter,List.filter_filter]
   congr 1
   funext y
   simp only[Array.contains_push]
   by_cases hy:y.born=e.born<;>simp[hy]
  have e2:(leftOf es (s.push e.born)).size=((leftOf es s).toList.filter (fun y=>decide (y.born≠e.born))).length:=by rw[←e1];simp
  rw[e2,←Array.length_toList]
  exact List.length_filter_lt_length_iff_exists.2 ⟨e,he,by simp⟩
def rI (es:Array MapEntry)(r:Nat)(w:World):Nat:=match w.heap[r]? with
 | some (.mapIter _ _ seen _)=>(leftOf es seen).size
 | _=>0
theorem nQ {es:Array MapEntry}{r:Nat}{w:World}{m:Option Nat}{s c:Nat}{seen:Array Nat}(h:w.heap[r]?=some (.mapIter m s seen c)):rI es r w=(leftOf es seen).size:=by unfold rI;rw[h]
theorem Iu (F:Fence)(n:Nat)(hf:F.fn 42)(hro:F.round=none)(hn:1≤n)(l Bm b c:Nat)(es:Array MapEntry)(ks:List cl)(J Jx:List cl→World→Prop)
  (hY:∀ pre x W,J pre W→pre.length<ks.length→YieldAt F (n-1) Tryz.prog l (Ll x) W fun e W'=>
   (e=.returned (.bool true)∧J (pre++[x]) W'∧KeepsWalks W W')∨(e=.returned (.bool false)∧Jx (pre++[x]) W'))
  (W:World)(hJ:AbidesFrom W.heap.size J)(hm:W.cell? ⟨Bm,0,none⟩=some (.map (some b)))(hE:ji W b es c ks)(h0:J [] W):
  CallsIn F n Tryz.prog 42 #[.func (.yield l) #[] #[],.pointer (some ⟨Bm,0,none⟩)] W fun e W'=>(∃ v,e=.returned v) ∧
   ((∃ ss:List cl,ss.Perm ks∧J ss W')∨(∃ pre:List cl,True∧Jx pre W')):=by
 have hb:=hE.at_
 have HFE:=ae hE
 clear hE
 have hrg:=run_range_map (P:=Tryz.prog) W _ _ _ b es c Tryz.underlying55 hb
 refine callsIn_of_wp Tryz.func42 rfl hf ?_ hro
 simp only[Tryz.ntmps42,List.size_toArray,List.length_cons,List.length_nil,Nat.reduceAdd,Nat.reduceSub,Array.replicate_succ,Array.replicate_zero,List.push_toArray,List.append_toArray,List.nil_append,List.cons_append]
 gi_wp2
 gi_loopw [3] (fun _ wr=>∃ (s:Array Nat) (ss:List cl),wr.heap[W.heap.size]?=some (.mapIter (some b) c s c)∧wr.heap[b]?=some (.map es c)∧rH es s ss∧J ss wr) (fun _ wr=>rI es W.heap.size wr)
 case atStart=>
  exact⟨#[],[],heap_alloc_new W _,(Below.heap_alloc W _ b (Array.getElem?_eq_some_iff.1 hb).1).trans hb,rH.start es,hJ [] W _ none h0 (World.grownBy_alloc W _ none) (fun r e=>by cases e)⟩
 case round=>
  obtain⟨s,ss,hr,hbr,hS,hJs⟩:=hrel
  have hW:=(Array.getElem?_eq_some_iff.1 hr).1
  have hne:W.heap.size≠b:=fun e=>by rw[e,hbr] at hr;cases hr
  rcases run_next_at (P:=Tryz.prog) wr 0 W.heap.size b c c s es c hr hbr (fun x hx=>HFE.out.born x hx) (Nat.le_refl c) with⟨hl,hrun⟩ | ⟨e,he,w1,hal,hrun⟩
  ·have hend:=EZ HFE.out.keys HFE.out.ndk hS hl
   clear hl hS hr hbr
   gi_wp2
   go_end0
   exact⟨⟨_,rfl⟩,.inl ⟨ss,hend,hJs⟩⟩
  ·obtain⟨x,hkey,hS2,hem,hlen,hlt⟩:=Bn HFE.out.keys HFE.out.ndk HFE.out.nd hS he
   have hr1:w1.heap[W.heap.size]?=some (.mapIter (some b) c s c):=by rcases hal with rfl | rfl<;>exact hr
   have hb1:w1.heap[b]?=some (.map es c):=by rcases hal with rfl | rfl<;>exact hbr
   have hset:=Go.MapKept.heap_set (o':=.mapIter (some b) c (s.push e.born) c) hr1
   have hg1:wr.grownBy (setBlock w1 W.heap.size (.mapIter (some b) c (s.push e.born) c)) (some W.heap.size):=by
    rcases hal with rfl | rfl<;>exact⟨rfl,rfl,rfl,by simp[setBlock],fun k _ hk=>hset.2 k (fun e=>hk (by rw[e]))⟩
   obtain⟨w2,hw2⟩:∃ w2,setBlock w1 W.heap.size (.mapIter (some b) c (s.push e.born) c)=w2:=⟨_,rfl⟩
   have hr2:(setBlock w1 W.heap.size (.mapIter (some b) c (s.push e.born) c)).heap[W.heap.size]?=some (.mapIter (some b) c (s.push e.born) c):=hset.1
   have hb2:(setBlock w1 W.heap.size (.mapIter (some b) c (s.push e.born) c)).heap[b]?=some (.map es c):=(hset.2 b (fun e1=>hne e1.symm)).trans hb1
   rw[hw2] at hrun hg1 hr2 hb2
   have hent:=run_entry_at (P:=Tryz.prog) w2 W.heap.size b c s es c e hr2 hb2 hem HFE.out.nd
   rw[hkey] at hent hrun
   have hJ2:J ss w2:=hJ ss wr w2 (some W.heap.size) hJs hg1 (fun r e=>by cases e;exact⟨lr,_,hr,rfl⟩)
   have hJ3:J ss (w2.alloc (.cells #[.string x.1,.int .i64 x.2] 34)):=hJ ss w2 _ none hJ2 (World.grownBy_alloc w2 _ none) (fun r e=>by cases e)
   obtain⟨fn,tmps,assign,body,hy,hR⟩:=hY ss x _ hJ3 hlen
   have hlo:=nQ (es:=es) hr
   have HS2:=ae hS2
   have HLT:=ae hlt
   have HR2:=ae ((Below.heap_alloc w2 (.cells #[.string x.1,.int .i64 x.2] 34) _ (Array.getElem?_eq_some_iff.1 hr2).1).trans hr2)
   have HB2:=ae ((Below.heap_alloc w2 (.cells #[.string x.1,.int .i64 x.2] 34) _ (Array.getElem?_eq_some_iff.1 hb2).1).trans hb2)
   have HLO:=ae hlo
   clear hS2 hlt hr hbr hS hr1 hb1 hset hg1 hr2 hb2 hw2 hJ2 hJ3 hal he hem hlen hkey hlo
   unfold Ll at hy
   gi_wp2
   refine hR.mono ?_
   rintro e' W3 (⟨rfl,hJ3,hk3⟩ | ⟨rfl,hJx3⟩)
   ·have hr3:=hk3.same _ _ HR2.out rfl
    have hb3:=hk3.same _ _ HB2.out rfl
    have HR3:=ae hr3;have HB3:=ae hb3;have HJ3:=ae hJ3
    clear hr3 hb3 hk3 hJ3
    gi_wp2
    go_roundw
    case rel=>exact⟨_,ss++[x],HR3.out,HB3.out,HS2.out,HJ3.out⟩
    case measure=>rw[nQ HR3.out,HLO.out];exact HLT.out
   ·gi_wp2
    refine bodyPost_ret (results_none rfl _ _ _) rfl ?_
    exact⟨⟨_,rfl⟩,.inr ⟨ss++[x],trivial,hJx3⟩⟩
end
section
open Go.RowKit
def jx (c:UInt8):Bool:=jF c||cu c||c==46||c==95||c==47
def gN (c:UInt8):Bool:=jx c||c==43||c==45||c==58||c==64
def cV (l:LU):Bool:=decide (1≤l.length∧l.length≤64)&&(match l with | c::_=>jx c | []=>false)&&l.all gN
theorem jI (p:UInt8→Bool)(h:(List.range 256).all (fun n=>p (UInt8.ofNat n))=true)(c:UInt8):p c=true:=by
 have:=List.all_eq_true.1 h c.toNat (List.mem_range.2 c.toNat_lt)
 simpa using this
theorem IG (c:UInt8)(h1:jF c=false)(h2:cu c=false):(bl ⟨#[46,95,43,45,58,47,64]⟩).contains c=gN c:=by
 simp only[gN,jx,h1,h2,bl]
 rw[bI]
 simp
 grind
theorem II (c:UInt8)(h:gN c=true):(bl ⟨#[45,43,58,64]⟩).contains c=!jx c:=by
 exact jI (fun c=>!gN c||((bl ⟨#[45,43,58,64]⟩).contains c == !jx c)) (by kernel_rfl) c |> fun hh=>by simpa [h] using hh
theorem vx (s:BA)(k:Nat)(h:k<s.size)(h1:gN s[k]=false):cV (bl s)=false:=by
 have:(bl s).all gN=false:=by
  rw[List.all_eq_false]
  exact⟨s[k],gM (cZ s k h),by rw[h1];simp⟩
 unfold cV;rw[this,Bool.and_false]
theorem Br (s:BA)(k:Nat)(h:¬ k<s.size)(h0:0<s.size)(h64:s.size≤64)(hf:(bl ⟨#[45,43,58,64]⟩).contains s[0]=false)(ha:((bl s).take k).all gN=true):cV (bl s)=true:=by
 rw[tL (by rw[ag];omega)] at ha
 have hc:=fG s h0
 have h1:gN s[0]=true:=by rw[hc,List.all_cons,Bool.and_eq_true] at ha;exact ha.1
 have h2:jx s[0]=true:=by have:=II s[0] h1;rw[hf] at this;simpa using this.symm
 unfold cV
 rw[ha,ag,dT ⟨by omega,h64⟩]
 rw[hc]
 simp[h2]
theorem Bs (s:BA)(h0:0<s.size)(hf:(bl ⟨#[45,43,58,64]⟩).contains s[0]=true):cV (bl s)=false:=by
 cases hn:gN s[0] with
 | false=>exact vx s 0 h0 hn
 | true=>
  have h2:jx s[0]=false:=by have:=II s[0] hn;rw[hf] at this;simpa using this.symm
  unfold cV
  rw[fG s h0]
  simp[h2]
theorem rS (s:BA)(h:¬ (1≤s.size∧s.size≤64)):cV (bl s)=false:=by
 unfold cV;rw[ag,dF h];rfl
theorem oY (s:BA)(w:World)(hs:s.size≤9223372036854775807):
  Calls Tryz.prog 118 #[.string s] w fun e w'=>e=.returned (.bool (cV (bl s)))∧w=w':=by
 by_cases h0:s.size=0
 ·have he:s.toList=[]:=by rw[ah,bG s h0]
  have he2:s.toList.isEmpty=true:=by rw[he];rfl
  have E:Hid (cV (bl s)=false):=rS s (by omega)
  go_enter Tryz.func118,Tryz.ntmps118
  go_wp2_with fail
  go_ret
  exact⟨af E.out.symm,rfl⟩
 have hp:0<s.size:=by omega
 have he2:s.toList.isEmpty=false:=by rw[ah,aT];exact dF h0
 have he:¬ s.toList=[]:=by intro h;rw[h] at he2;simp at he2
 by_cases h64:64<s.size
 ·have E:Hid (cV (bl s)=false):=rS s (by omega)
  go_enter Tryz.func118,Tryz.ntmps118
  go_wp2_with fail
  go_ret
  exact⟨af E.out.symm,rfl⟩
 cases hf:(bl ⟨#[45,43,58,64]⟩).contains s[0] with
 | true=>
  have hn:=fH ⟨#[45,43,58,64]⟩ s[0] hf
  have E:Hid (cV (bl s)=false):=Bs s hp hf
  clear hf
  go_enter Tryz.func118,Tryz.ntmps118
  go_wp2_with (go_at_call 107;refine(aM _ s[0] _).mono ?_;rintro e w' ⟨rfl,rfl⟩)
  go_ret
  exact⟨af E.out.symm,rfl⟩
 | false=>
  have hn:=fg ⟨#[45,43,58,64]⟩ s[0] hf
  have HF:=ae hf
  clear hf
  go_enter Tryz.func118,Tryz.ntmps118
  go_wp2_with (go_at_call 107;refine(aM _ s[0] _).mono ?_;rintro e w' ⟨rfl,rfl⟩)
  go_loop [21] (fun i=>∃ k:Nat,k≤s.size∧i=.int .i64 k∧Hid (((bl s).take k).all gN=true)) (fun i=>s.size-(intOf i).toNat)
  case atStart=>exact⟨0,z0,rfl,by simp[Hid]⟩
  case round=>
   obtain⟨k,hk,rfl,HA⟩:=hrel
   by_cases hlt:k<s.size
   ·go_upto_region 7 with(fail)
    go_cut [5] (fun v wx=>v=.bool (jF s[k])∧w=wx)
    case first=>
     go_wp2_with fail
     all_goals go_meet
     all_goals (refine⟨?_,rfl⟩;congr 1;rw[bI];simp[jF,gK,Ld];omega)
    case rest=>
    obtain⟨rfl,rfl⟩:=hcut
    have IB:=fun W=>aM ⟨#[46,95,43,45,58,47,64]⟩ s[k] W
    cases hl:jF s[k] with
    | true=>
     have HN:Hid (gN s[k]=true):=by show _=_;simp[gN,jx,hl]
     clear hl
     go_wp2_with fail
     go_round
     case rel=>exact⟨k+1,by omega,by go_num,by show _=_;rw[de s k hlt,HA.out,HN.out];rfl⟩
     case measure=>simp[intOf];omega
    | false=>
     by_cases hd:48≤s[k].toNat∧s[k].toNat≤57
     ·obtain⟨d1,d2⟩:=hd
      have HN:Hid (gN s[k]=true):=by show _=_;simp[gN,jx,cu,d1,d2]
      clear hl
      go_wp2_with fail
      go_round
      case rel=>exact⟨k+1,by omega,by go_num,by show _=_;rw[de s k hlt,HA.out,HN.out];rfl⟩
      case measure=>simp[intOf];omega
     ·have hdg:cu s[k]=false:=dF hd
      have hco:=IG s[k] hl hdg
      cases hn2:gN s[k] with
      | true=>
       have hx:=fH ⟨#[46,95,43,45,58,47,64]⟩ s[k] (by rw[hco,hn2])
       have HN:=ae hn2
       clear hl hco hn2 hdg IB
       by_cases d1:s[k].toNat<48
       ·clear hd
        go_wp2_with (go_at_call 107;refine(aM _ s[k] _).mono ?_;rintro e w' ⟨rfl,rfl⟩)
        go_round
        case rel=>exact⟨k+1,by omega,by go_num,by show _=_;rw[de s k hlt,HA.out,HN.out];rfl⟩
        case measure=>simp[intOf];omega
       ·have d2:57<s[k].toNat:=by omega
        clear hd
        go_wp2_with (go_at_call 107;refine(aM _ s[k] _).mono ?_;rintro e w' ⟨rfl,rfl⟩)
        go_round
        case rel=>exact⟨k+1,by omega,by go_num,by show _=_;rw[de s k hlt,HA.out,HN.out];rfl⟩
        case measure=>simp[intOf];omega
      | false=>
       have hx:=fg ⟨#[46,95,43,45,58,47,64]⟩ s[k] (by rw[hco,hn2])
       have E:Hid (cV (bl s)=false):=vx s k hlt hn2
       clear hl hco hn2 hdg IB
       by_cases d1:s[k].toNat<48
       ·clear hd
        go_wp2_with (go_at_call 107;refine(aM _ s[k] _).mono ?_;rintro e w' ⟨rfl,rfl⟩)
        go_ret
        exact⟨af E.out.symm,rfl⟩
       ·have d2:57<s[k].toNat:=by omega
        clear hd
        go_wp2_with (go_at_call 107;refine(aM _ s[k] _).mono ?_;rintro e w' ⟨rfl,rfl⟩)
        go_ret
        exact⟨af E.out.symm,rfl⟩
   ·go_wp2_with fail
    go_ret
    exact⟨af (Br s k hlt hp (by omega) HF.out HA.out).symm,rfl⟩
theorem Pe {a:Nat}{b:Int}(h:(a:Int)≠b):((a:Int) != b)=true:=by simp[bne,h]
def Oy:LU→Bool
 | c::_=>jx c
 | []=>false
theorem Fz (l:LU):cV l=(decide (1≤l.length∧l.length≤64)&&Oy l&&l.all gN):=by cases l<;>rfl
def ea (c:UInt8):Bool:=jF c||cu c||c==46||c==95||c==43||c==45||c==47||c==58
def ph (c:UInt8):Bool:=jF c||cu c||c==47
def sD:LU→Bool
 | c::_=>ph c
 | []=>false
def cD (o:Option Nat)(c:UInt8):Option Nat:=match o with
 | none=>none
 | some n=>if c==40 then some (n+1) else if c==41 then (if n=0 then none else some (n-1)) else if ea c then some n else none
def dq (l:LU):Bool:=decide (1≤l.length∧l.length≤64)&&sD l&&decide (l.foldl cD (some 0)=some 0)
theorem sE:∀ l:LU,l.foldl cD none=none
 | []=>rfl
 | _::r=>sE r
theorem sF {α:Type}(f:α→UInt8→α)(z:α)(s:BA)(k:Nat)(h:k<s.size):((bl s).take (k+1)).foldl f z=f (((bl s).take k).foldl f z) s[k]:=by
 rw[tS (by rw[ag];exact h),List.foldl_append,gj s k h];rfl
theorem pi (s:BA)(k n:Nat)(h:k<s.size)(h0:((bl s).take k).foldl cD (some 0)=some n)(h1:cD (some n) s[k]=none):dq (bl s)=false:=by
 have h2:=sF cD (some 0) s k h
 rw[h0,h1] at h2
 have:(bl s).foldl cD (some 0)=none:=by
  rw[←List.take_append_drop (k+1) (bl s),List.foldl_append,h2,sE]
 unfold dq;rw[this];simp
theorem mW (s:BA)(k n m:Nat)(h:k<s.size)(h0:((bl s).take k).foldl cD (some 0)=some n)(h1:cD (some n) s[k]=some m):((bl s).take (k+1)).foldl cD (some 0)=some m:=by
 rw[sF cD (some 0) s k h,h0,h1]
theorem pj (s:BA)(k n:Nat)(h:¬ k<s.size)(h0:((bl s).take k).foldl cD (some 0)=some n)(h1:1≤s.size)(h2:s.size≤64)(h3:sD (bl s)=true):dq (bl s)=decide (n=0):=by
 rw[tL (by rw[ag];omega)] at h0
 unfold dq;rw[h0,h3,ag,dT ⟨h1,h2⟩];simp
theorem mX (s:BA)(h:¬ (1≤s.size∧s.size≤64)):dq (bl s)=false:=by
 unfold dq;rw[ag,dF h];rfl
theorem BL (s:BA)(h:sD (bl s)=false):dq (bl s)=false:=by
 unfold dq;rw[h];simp
theorem FA (s:BA)(h:0<s.size):sD (bl s)=ph s[0]:=by rw[fG s h];rfl
theorem sG (c:UInt8)(h1:jF c=false)(h2:cu c=false):(bl ⟨#[46,95,43,45,47,58]⟩).contains c=ea c:=by
 exact jI (fun c=>jF c||cu c||((bl ⟨#[46,95,43,45,47,58]⟩).contains c==ea c)) (by kernel_rfl) c |> fun hh=>by simpa [h1,h2] using hh
theorem bw (c:UInt8)(w:World):Calls Tryz.prog 167 #[.int .u8 c.toNat] w fun e w'=>e=.returned (.bool (jF c))∧w=w':=by
 go_enter Tryz.func167,Tryz.ntmps167
 go_wp2_with fail
 all_goals go_ret
 all_goals (refine⟨af ?_,rfl⟩;rw[bI];simp[jF,gK,Ld];omega)
theorem cK (c:UInt8)(w:World):Calls Tryz.prog 168 #[.int .u8 c.toNat] w fun e w'=>e=.returned (.bool (cu c))∧w=w':=by
 go_enter Tryz.func168,Tryz.ntmps168
 go_wp2_with fail
 all_goals go_ret
 all_goals (refine⟨af ?_,rfl⟩;rw[bI];simp[cu];omega)
theorem pk (s:BA)(w:World)(hs:s.size≤9223372036854775807):
  Calls Tryz.prog 221 #[.string s] w fun e w'=>e=.returned (.bool (cU (bl s)))∧w=w':=by
 have hb:=ag s
 have HB:=ae hb;clear hb
 by_cases h3:s.size≤32
 ·go_enter Tryz.func221,Tryz.ntmps221
  go_wp2_with (go_at_call 75;refine(vp s _ _ hs).mono ?_;rintro e w' ⟨rfl,rfl⟩)
  go_ret
  exact⟨af (by unfold cU;rw[HB.out,dT h3];simp[bl]),rfl⟩
 ·go_enter Tryz.func221,Tryz.ntmps221
  go_wp2_with fail
  go_ret
  exact⟨af (by unfold cU;rw[HB.out,dF h3];simp),rfl⟩
theorem lW (s:BA)(w:World)(hs:s.size≤9223372036854775807):
  Calls Tryz.prog 117 #[.string s] w fun e w'=>e=.returned (.bool (dq (bl s)))∧w=w':=by
 by_cases h0:s.size=0
 ·have he:s.toList=[]:=by rw[ah,bG s h0]
  have he2:s.toList.isEmpty=true:=by rw[he];rfl
  have E:Hid (dq (bl s)=false):=mX s (by omega)
  go_enter Tryz.func117,Tryz.ntmps117
  go_wp2_with fail
  go_ret
  exact⟨af E.out.symm,rfl⟩
 have hp:0<s.size:=by omega
 have he2:s.toList.isEmpty=false:=by rw[ah,aT];exact dF h0
 have he:¬ s.toList=[]:=by intro h;rw[h] at he2;simp at he2
 by_cases h64:64<s.size
 ·have E:Hid (dq (bl s)=false):=mX s (by omega)
  go_enter Tryz.func117,Tryz.ntmps117
  go_wp2_with fail
  go_ret
  exact⟨af E.out.symm,rfl⟩
 have h64':decide (64<(s.size:Int))=false:=dF (by omega)
 obtain⟨c0,hc0⟩:∃ c0:UInt8,s[0]=c0:=⟨_,rfl⟩
 have HH:=ae (FA s hp)
 rw[hc0] at HH
 cases hl:jF c0 with
 | true=>
  have HD:Hid (sD (bl s)=true):=by show _=_;rw[HH.out];simp[ph,hl]
  have hL:=fun W=>bw c0 W
  rw[hl] at hL
  clear hl
  go_enter Tryz.func117,Tryz.ntmps117
  go_wp2_with fail
  refine(hL _).mono ?_;rintro e w' ⟨rfl,rfl⟩
  go_wp2_with fail
  clear hL
  go_loop [3,32] (fun o i=>∃ k n:Nat,k≤s.size∧n≤k∧o=.int .i64 n∧i=.int .i64 k∧Hid (((bl s).take k).foldl cD (some 0)=some n)) (fun _ i=>s.size-(intOf i).toNat)
  case atStart=>exact⟨0,0,z0,lr,rfl,rfl,by simp[Hid]⟩
  case round=>
   obtain⟨k,n,hk,hn,rfl,rfl,HA⟩:=hrel
   by_cases hlt:k<s.size
   ·obtain⟨c,hc⟩:∃ c:UInt8,s[k]=c:=⟨_,rfl⟩
    have NX:=ae (fun m=>mW s k n m hlt HA.out)
    have BD:=ae (pi s k n hlt HA.out)
    rw[hc] at NX BD
    have hcc:∀ n:UInt8,c=n↔c.toNat=n.toNat:=fun n=>UInt8.toNat_inj.symm
    by_cases c40:c.toNat=40
    ·have e40:(c==40)=true:=by rw[beq_iff_eq,hcc];exact c40
     have HN:=ae (NX.out (n+1) (by simp[cD,e40]))
     clear e40 hcc
     go_wp2_with fail
     go_round
     case rel=>exact⟨k+1,n+1,by omega,by omega,by go_num,by go_num,HN⟩
     case measure=>simp[intOf];omega
    have e40:(c==40)=false:=by rw[bF,ne_eq,hcc];exact c40
    by_cases c41:c.toNat=41
    ·have e41:(c==41)=true:=by rw[beq_iff_eq,hcc];exact c41
     by_cases n0:n=0
     ·have E:=ae (BD.out (by simp[cD,e40,e41,n0]))
      subst n0
      clear e40 e41 hcc
      go_wp2_with fail
      go_ret
      exact⟨af E.out.symm,rfl⟩
     ·have HN:=ae (NX.out (n-1) (by simp[cD,e40,e41,n0]))
      obtain⟨m,rfl⟩:∃ m,n=m+1:=⟨n-1,by omega⟩
      clear e40 e41 hcc
      go_wp2_with fail
      go_round
      case rel=>exact⟨k+1,m,by omega,by omega,by go_num,by go_num,HN⟩
      case measure=>simp[intOf];omega
    have e41:(c==41)=false:=by rw[bF,ne_eq,hcc];exact c41
    cases hl:jF c with
    | true=>
     have ho:ea c=true:=by simp[ea,hl]
     have HN:=ae (NX.out (n) (by simp[cD,e40,e41,ho]))
     have hL:=fun W=>bw c W
     rw[hl] at hL
     clear hl ho e40 e41 hcc
     go_wp2_with fail
     refine(hL _).mono ?_;rintro e w' ⟨rfl,rfl⟩
     go_wp2_with fail
     go_round
     case rel=>exact⟨k+1,n,by omega,by omega,by go_num,by go_num,HN⟩
     case measure=>simp[intOf];omega
    | false=>
     cases hd:cu c with
     | true=>
      have ho:ea c=true:=by simp[ea,hd]
      have HN:=ae (NX.out (n) (by simp[cD,e40,e41,ho]))
      have hL:=fun W=>bw c W
      rw[hl] at hL
      have hD:=fun W=>cK c W
      rw[hd] at hD
      clear hl hd ho e40 e41 hcc
      go_wp2_with fail
      refine(hL _).mono ?_;rintro e w' ⟨rfl,rfl⟩
      go_wp2_with fail
      refine(hD _).mono ?_;rintro e w' ⟨rfl,rfl⟩
      go_wp2_with fail
      go_round
      case rel=>exact⟨k+1,n,by omega,by omega,by go_num,by go_num,HN⟩
      case measure=>simp[intOf];omega
     | false=>
      have hco:=sG c hl hd
      cases ho:ea c with
      | true=>
       have hx:=fH ⟨#[46,95,43,45,47,58]⟩ c (by rw[hco,ho])
       have HN:=ae (NX.out (n) (by simp[cD,e40,e41,ho]))
       have hL:=fun W=>bw c W
       rw[hl] at hL
       have hD:=fun W=>cK c W
       rw[hd] at hD
       clear hl hd ho hco e40 e41 hcc
       go_wp2_with fail
       refine(hL _).mono ?_;rintro e w' ⟨rfl,rfl⟩
       go_wp2_with fail
       refine(hD _).mono ?_;rintro e w' ⟨rfl,rfl⟩
       go_wp2_with fail
       refine(aM _ c _).mono ?_;rintro e w' ⟨rfl,rfl⟩
       go_wp2_with fail
       go_round
       case rel=>exact⟨k+1,n,by omega,by omega,by go_num,by go_num,HN⟩
       case measure=>simp[intOf];omega
      | false=>
       have hx:=fg ⟨#[46,95,43,45,47,58]⟩ c (by rw[hco,ho])
       have E:=ae (BD.out (by simp[cD,e40,e41,ho]))
       have hL:=fun W=>bw c W
       rw[hl] at hL
       have hD:=fun W=>cK c W
       rw[hd] at hD
       clear hl hd ho hco e40 e41 hcc
       go_wp2_with fail
       refine(hL _).mono ?_;rintro e w' ⟨rfl,rfl⟩
       go_wp2_with fail
       refine(hD _).mono ?_;rintro e w' ⟨rfl,rfl⟩
       go_wp2_with fail
       refine(aM _ c _).mono ?_;rintro e w' ⟨rfl,rfl⟩
       go_wp2_with fail
       go_ret
       exact⟨af E.out.symm,rfl⟩
   ·have E:=ae (pj s k n hlt HA.out (by omega) (by omega) HD.out)
    go_wp2_with fail
    go_ret
    exact⟨af (by rw[E.out,bI];simp),rfl⟩
 | false=>
  cases hd:cu c0 with
  | true=>
   have HD:Hid (sD (bl s)=true):=by show _=_;rw[HH.out];simp[ph,hd]
   have hL:=fun W=>bw c0 W
   rw[hl] at hL
   have hD:=fun W=>cK c0 W
   rw[hd] at hD
   clear hl hd
   go_enter Tryz.func117,Tryz.ntmps117
   go_wp2_with fail
   refine(hL _).mono ?_;rintro e w' ⟨rfl,rfl⟩
   go_wp2_with fail
   refine(hD _).mono ?_;rintro e w' ⟨rfl,rfl⟩
   go_wp2_with fail
   clear hL hD
   go_loop [3,32] (fun o i=>∃ k n:Nat,k≤s.size∧n≤k∧o=.int .i64 n∧i=.int .i64 k∧Hid (((bl s).take k).foldl cD (some 0)=some n)) (fun _ i=>s.size-(intOf i).toNat)
   case atStart=>exact⟨0,0,z0,lr,rfl,rfl,by simp[Hid]⟩
   case round=>
    obtain⟨k,n,hk,hn,rfl,rfl,HA⟩:=hrel
    by_cases hlt:k<s.size
    ·obtain⟨c,hc⟩:∃ c:UInt8,s[k]=c:=⟨_,rfl⟩
     have NX:=ae (fun m=>mW s k n m hlt HA.out)
     have BD:=ae (pi s k n hlt HA.out)
     rw[hc] at NX BD
     have hcc:∀ n:UInt8,c=n↔c.toNat=n.toNat:=fun n=>UInt8.toNat_inj.symm
     by_cases c40:c.toNat=40
     ·have e40:(c==40)=true:=by rw[beq_iff_eq,hcc];exact c40
      have HN:=ae (NX.out (n+1) (by simp[cD,e40]))
      clear e40 hcc
      go_wp2_with fail
      go_round
      case rel=>exact⟨k+1,n+1,by omega,by omega,by go_num,by go_num,HN⟩
      case measure=>simp[intOf];omega
     have e40:(c==40)=false:=by rw[bF,ne_eq,hcc];exact c40
     by_cases c41:c.toNat=41
     ·have e41:(c==41)=true:=by rw[beq_iff_eq,hcc];exact c41
      by_cases n0:n=0
      ·have E:=ae (BD.out (by simp[cD,e40,e41,n0]))
       subst n0
       clear e40 e41 hcc
       go_wp2_with fail
       go_ret
       exact⟨af E.out.symm,rfl⟩
      ·have HN:=ae (NX.out (n-1) (by simp[cD,e40,e41,n0]))
       obtain⟨m,rfl⟩:∃ m,n=m+1:=⟨n-1,by omega⟩
       clear e40 e41 hcc
       go_wp2_with fail
       go_round
       case rel=>exact⟨k+1,m,by omega,by omega,by go_num,by go_num,HN⟩
       case measure=>simp[intOf];omega
     have e41:(c==41)=false:=by rw[bF,ne_eq,hcc];exact c41
     cases hl:jF c with
     | true=>
      have ho:ea c=true:=by simp[ea,hl]
      have HN:=ae (NX.out (n) (by simp[cD,e40,e41,ho]))
      have hL:=fun W=>bw c W
      rw[hl] at hL
      clear hl ho e40 e41 hcc
      go_wp2_with fail
      refine(hL _).mono ?_;rintro e w' ⟨rfl,rfl⟩
      go_wp2_with fail
      go_round
      case rel=>exact⟨k+1,n,by omega,by omega,by go_num,by go_num,HN⟩
      case measure=>simp[intOf];omega
     | false=>
      cases hd:cu c with
      | true=>
       have ho:ea c=true:=by simp[ea,hd]
       have HN:=ae (NX.out (n) (by simp[cD,e40,e41,ho]))
       have hL:=fun W=>bw c W
       rw[hl] at hL
       have hD:=fun W=>cK c W
       rw[hd] at hD
       clear hl hd ho e40 e41 hcc
       go_wp2_with fail
       refine(hL _).mono ?_;rintro e w' ⟨rfl,rfl⟩
       go_wp2_with fail
       refine(hD _).mono ?_;rintro e w' ⟨rfl,rfl⟩
       go_wp2_with fail
       go_round
       case rel=>exact⟨k+1,n,by omega,by omega,by go_num,by go_num,HN⟩
       case measure=>simp[intOf];omega
      | false=>
       have hco:=sG c hl hd
       cases ho:ea c with
       | true=>
        have hx:=fH ⟨#[46,95,43,45,47,58]⟩ c (by rw[hco,ho])
        have HN:=ae (NX.out (n) (by simp[cD,e40,e41,ho]))
        have hL:=fun W=>bw c W
        rw[hl] at hL
        have hD:=fun W=>cK c W
        rw[hd] at hD
        clear hl hd ho hco e40 e41 hcc
        go_wp2_with fail
        refine(hL _).mono ?_;rintro e w' ⟨rfl,rfl⟩
        go_wp2_with fail
        refine(hD _).mono ?_;rintro e w' ⟨rfl,rfl⟩
        go_wp2_with fail
        refine(aM _ c _).mono ?_;rintro e w' ⟨rfl,rfl⟩
        go_wp2_with fail
        go_round
        case rel=>exact⟨k+1,n,by omega,by omega,by go_num,by go_num,HN⟩
        case measure=>simp[intOf];omega
       | false=>
        have hx:=fg ⟨#[46,95,43,45,47,58]⟩ c (by rw[hco,ho])
        have E:=ae (BD.out (by simp[cD,e40,e41,ho]))
        have hL:=fun W=>bw c W
        rw[hl] at hL
        have hD:=fun W=>cK c W
        rw[hd] at hD
        clear hl hd ho hco e40 e41 hcc
        go_wp2_with fail
        refine(hL _).mono ?_;rintro e w' ⟨rfl,rfl⟩
        go_wp2_with fail
        refine(hD _).mono ?_;rintro e w' ⟨rfl,rfl⟩
        go_wp2_with fail
        refine(aM _ c _).mono ?_;rintro e w' ⟨rfl,rfl⟩
        go_wp2_with fail
        go_ret
        exact⟨af E.out.symm,rfl⟩
    ·have E:=ae (pj s k n hlt HA.out (by omega) (by omega) HD.out)
     go_wp2_with fail
     go_ret
     exact⟨af (by rw[E.out,bI];simp),rfl⟩
  | false=>
   by_cases h47:c0.toNat=47
   ·have c47:c0=47:=UInt8.toNat_inj.1 h47
    have HD:Hid (sD (bl s)=true):=by show _=_;rw[HH.out];simp[ph,c47]
    clear c47
    have hL:=fun W=>bw c0 W
    rw[hl] at hL
    have hD:=fun W=>cK c0 W
    rw[hd] at hD
    have b47:((c0.toNat:Int) != 47)=false:=by simp[h47]
    clear hl hd h47
    go_enter Tryz.func117,Tryz.ntmps117
    go_wp2_with fail
    refine(hL _).mono ?_;rintro e w' ⟨rfl,rfl⟩
    go_wp2_with fail
    refine(hD _).mono ?_;rintro e w' ⟨rfl,rfl⟩
    go_wp2_with fail
    clear hL hD
    go_loop [3,32] (fun o i=>∃ k n:Nat,k≤s.size∧n≤k∧o=.int .i64 n∧i=.int .i64 k∧Hid (((bl s).take k).foldl cD (some 0)=some n)) (fun _ i=>s.size-(intOf i).toNat)
    case atStart=>exact⟨0,0,z0,lr,rfl,rfl,by simp[Hid]⟩
    case round=>
     obtain⟨k,n,hk,hn,rfl,rfl,HA⟩:=hrel
     by_cases hlt:k<s.size
     ·obtain⟨c,hc⟩:∃ c:UInt8,s[k]=c:=⟨_,rfl⟩
      have NX:=ae (fun m=>mW s k n m hlt HA.out)
      have BD:=ae (pi s k n hlt HA.out)
      rw[hc] at NX BD
      have hcc:∀ n:UInt8,c=n↔c.toNat=n.toNat:=fun n=>UInt8.toNat_inj.symm
      by_cases c40:c.toNat=40
      ·have e40:(c==40)=true:=by rw[beq_iff_eq,hcc];exact c40
       have HN:=ae (NX.out (n+1) (by simp[cD,e40]))
       clear e40 hcc
       go_wp2_with fail
       go_round
       case rel=>exact⟨k+1,n+1,by omega,by omega,by go_num,by go_num,HN⟩
       case measure=>simp[intOf];omega
      have e40:(c==40)=false:=by rw[bF,ne_eq,hcc];exact c40
      by_cases c41:c.toNat=41
      ·have e41:(c==41)=true:=by rw[beq_iff_eq,hcc];exact c41
       by_cases n0:n=0
       ·have E:=ae (BD.out (by simp[cD,e40,e41,n0]))
        subst n0
        clear e40 e41 hcc
        go_wp2_with fail
        go_ret
        exact⟨af E.out.symm,rfl⟩
       ·have HN:=ae (NX.out (n-1) (by simp[cD,e40,e41,n0]))
        obtain⟨m,rfl⟩:∃ m,n=m+1:=⟨n-1,by omega⟩
        clear e40 e41 hcc
        go_wp2_with fail
        go_round
        case rel=>exact⟨k+1,m,by omega,by omega,by go_num,by go_num,HN⟩
        case measure=>simp[intOf];omega
      have e41:(c==41)=false:=by rw[bF,ne_eq,hcc];exact c41
      cases hl:jF c with
      | true=>
       have ho:ea c=true:=by simp[ea,hl]
       have HN:=ae (NX.out (n) (by simp[cD,e40,e41,ho]))
       have hL:=fun W=>bw c W
       rw[hl] at hL
       clear hl ho e40 e41 hcc
       go_wp2_with fail
       refine(hL _).mono ?_;rintro e w' ⟨rfl,rfl⟩
       go_wp2_with fail
       go_round
       case rel=>exact⟨k+1,n,by omega,by omega,by go_num,by go_num,HN⟩
       case measure=>simp[intOf];omega
      | false=>
       cases hd:cu c with
       | true=>
        have ho:ea c=true:=by simp[ea,hd]
        have HN:=ae (NX.out (n) (by simp[cD,e40,e41,ho]))
        have hL:=fun W=>bw c W
        rw[hl] at hL
        have hD:=fun W=>cK c W
        rw[hd] at hD
        clear hl hd ho e40 e41 hcc
        go_wp2_with fail
        refine(hL _).mono ?_;rintro e w' ⟨rfl,rfl⟩
        go_wp2_with fail
        refine(hD _).mono ?_;rintro e w' ⟨rfl,rfl⟩
        go_wp2_with fail
        go_round
        case rel=>exact⟨k+1,n,by omega,by omega,by go_num,by go_num,HN⟩
        case measure=>simp[intOf];omega
       | false=>
        have hco:=sG c hl hd
        cases ho:ea c with
        | true=>
         have hx:=fH ⟨#[46,95,43,45,47,58]⟩ c (by rw[hco,ho])
         have HN:=ae (NX.out (n) (by simp[cD,e40,e41,ho]))
         have hL:=fun W=>bw c W
         rw[hl] at hL
         have hD:=fun W=>cK c W
         rw[hd] at hD
         clear hl hd ho hco e40 e41 hcc
         go_wp2_with fail
         refine(hL _).mono ?_;rintro e w' ⟨rfl,rfl⟩
         go_wp2_with fail
         refine(hD _).mono ?_;rintro e w' ⟨rfl,rfl⟩
         go_wp2_with fail
         refine(aM _ c _).mono ?_;rintro e w' ⟨rfl,rfl⟩
         go_wp2_with fail
         go_round
         case rel=>exact⟨k+1,n,by omega,by omega,by go_num,by go_num,HN⟩
         case measure=>simp[intOf];omega
        | false=>
         have hx:=fg ⟨#[46,95,43,45,47,58]⟩ c (by rw[hco,ho])
         have E:=ae (BD.out (by simp[cD,e40,e41,ho]))
         have hL:=fun W=>bw c W
         rw[hl] at hL
         have hD:=fun W=>cK c W
         rw[hd] at hD
         clear hl hd ho hco e40 e41 hcc
         go_wp2_with fail
         refine(hL _).mono ?_;rintro e w' ⟨rfl,rfl⟩
         go_wp2_with fail
         refine(hD _).mono ?_;rintro e w' ⟨rfl,rfl⟩
         go_wp2_with fail
         refine(aM _ c _).mono ?_;rintro e w' ⟨rfl,rfl⟩
         go_wp2_with fail
         go_ret
         exact⟨af E.out.symm,rfl⟩
     ·have E:=ae (pj s k n hlt HA.out (by omega) (by omega) HD.out)
      go_wp2_with fail
      go_ret
      exact⟨af (by rw[E.out,bI];simp),rfl⟩
   ·have E:Hid (dq (bl s)=false):=BL s (by rw[HH.out];simp only[ph,hl,hd];simp;intro e;exact h47 (by rw[e];rfl))
    have hL:=fun W=>bw c0 W
    rw[hl] at hL
    have hD:=fun W=>cK c0 W
    rw[hd] at hD
    clear hl hd
    have b47:=Pe (b:=47) (by omega:(c0.toNat:Int)≠47)
    go_enter Tryz.func117,Tryz.ntmps117
    go_wp2_with fail
    refine(hL _).mono ?_;rintro e w' ⟨rfl,rfl⟩
    go_wp2_with fail
    refine(hD _).mono ?_;rintro e w' ⟨rfl,rfl⟩
    go_wp2_with fail
    go_ret
    exact⟨af E.out.symm,rfl⟩
end
end Go.Proofs.YtaohgmcbpafdeaaGreatDoor
