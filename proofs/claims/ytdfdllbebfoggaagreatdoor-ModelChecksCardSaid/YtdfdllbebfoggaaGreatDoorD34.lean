/- A part of the proof that ModelChecks holds. No condition. -/
import Derived.Test.YtdfdllbebfoggaaGreatDoorD32
import Derived.Test.YtdfdllbebfoggaaGreatDoorD33
set_option maxRecDepth 100000
set_option maxHeartbeats 20000000
set_option linter.unusedVariables false
set_option linter.unusedSimpArgs false
namespace Go.Proofs.YtdfdllbebfoggaaGreatDoor
section
open Go.RowKit Go.Deep
theorem info_term:(Tryz.prog.info? 157).map (fun i=>(i.zero,i.size,i.bytes))=some (some (.agg #[.string ⟨#[]⟩,.int .i64 0,.string ⟨#[]⟩,.string ⟨#[]⟩,.slice none 0 0]),5,80):=by kernel_rfl
theorem info_grp:(Tryz.prog.info? 155).map (fun i=>(i.zero,i.size,i.bytes))=some (some (.slice none 0 0),1,24):=by kernel_rfl
theorem reads_five (w:World)(t:TypeId)(a b c d e:Value):Reads (w.alloc (.cells #[a,b,c,d,e] t)) (w.heap.size+1) 5 (some ⟨w.heap.size,0,none⟩) 1 [a,b,c,d,e]:=by
 refine⟨rfl,fun _=>⟨_,rfl,by simp,fun j u hu=>?_⟩⟩
 match j,hu with
 | 0,hu=>simp at hu;subst hu;simp[Addr.add]
 | 1,hu=>simp at hu;subst hu;simp[Addr.add]
 | 2,hu=>simp at hu;subst hu;simp[Addr.add]
 | 3,hu=>simp at hu;subst hu;simp[Addr.add]
 | 4,hu=>simp at hu;subst hu;simp[Addr.add]
 | j+5,hu=>simp at hu
theorem kept_other {w w2:World}{lo lo':Nat}{e1 e2:TypeId}{z1 z2 n1 n2:Nat}{v1 v2:Value}{x1 x2:List Value}(h1:w.ownsRow lo e1 z1 v1 n1 x1)(h2:w.ownsRow lo' e2 z2 v2 n2 x2)(hne:e1≠e2)(hg:w.grownBy w2 v2.ownBlock):w2.ownsRow lo e1 z1 v1 n1 x1:=
 h1.kept hg (rows_apart h1 h2 hne)
structure GSt (w wr:World) (a:Nat) (s:BA) (k n:Nat) (c:Int) (ts:List TrmM) (A:Option Addr) (m cc:Nat):Prop where
 len:ts.length=m
 row:wr.ownsRow w.heap.size 157 5 (.slice A m cc) m (ts.flatMap TrmM.cells)
 archs:∀ t∈ts,t.own wr w.heap.size
 dr:DR wr a s k n c
 gr:w.grownBy wr (some a)
 lt:a<w.heap.size
theorem GSt.step {w wr w':World}{a:Nat}{s:BA}{k k' n n':Nat}{c c':Int}{ts:List TrmM}{A:Option Addr}{m cc:Nat}(h:GSt w wr a s k n c ts A m cc)(hg:wr.grownBy w' (some a))(hd:DR w' a s k' n' c'):GSt w w' a s k' n' c' ts A m cc:=
 ⟨h.len,owns_kept h.row h.lt hg,fun t ht=>(h.archs t ht).kept h.lt hg,hd,grown_thru h.gr hg,h.lt⟩
theorem GSt.alloc {w wr:World}{a:Nat}{s:BA}{k n:Nat}{c:Int}{ts:List TrmM}{A:Option Addr}{m cc:Nat}(h:GSt w wr a s k n c ts A m cc)(o:Obj):GSt w (wr.alloc o) a s k n c ts A m cc:=
 ⟨h.len,h.row.alloc o,fun t ht=>(h.archs t ht).below (bR.alloc lr o),h.dr.alloc o,only_alloc h.gr o,h.lt⟩
theorem GSt.grow {w wr w2:World}{a:Nat}{s:BA}{k n:Nat}{c:Int}{ts:List TrmM}{A A1:Option Addr}{m cc c1:Nat}{o1 o2:Obj}{T:TrmM}(h:GSt w wr a s k n c ts A m cc)(hT:T.own wr w.heap.size)
  (hr:w2.ownsRow w.heap.size 157 5 (.slice A1 (m+1) c1) (m+1) (ts.flatMap TrmM.cells++T.cells))
  (hg:((wr.alloc o1).alloc o2).grownBy w2 (Value.slice A m cc).ownBlock):GSt w w2 a s k n c (ts++[T]) A1 (m+1) c1:=by
 have ho:=(h.alloc o1).alloc o2
 have hT':T.own ((wr.alloc o1).alloc o2) w.heap.size:=(hT.below (bR.alloc lr o1)).below (bR.alloc lr o2)
 refine⟨by simp[h.len],by rw[List.flatMap_append];simpa using hr,fun t ht=>?_,ho.dr.kept hg ?_,grown_new ho.gr hg (fun j hj=>(h.row.lt j hj).1),h.lt⟩
 ·rcases List.mem_append.1 ht with ht | ht
  ·exact kept_other (ho.archs t ht) ho.row (by decide) hg
  ·obtain rfl:=List.mem_singleton.1 ht
   exact kept_other hT' ho.row (by decide) hg
 ·intro e;have:=(h.row.lt a e.symm).1;have:=h.lt;omega
def GroupPost (r:Option (List Trm×LU))(a:Nat)(s:BA)(p n:Nat)(c:Int)(w:World)(e:Ending)(w':World):Prop:=
 w.grownBy w' (some a)∧match r with
  | none=>e=.returned (.tuple #[.slice none 0 0,.bool false])∧∃ (p' n':Nat) (c':Int),DR w' a s p' n' c'
  | some (g,r)=>∃ (G:GrpM) (p':Nat) (c':Int),e=.returned (.tuple #[.slice G.ga G.ts.length G.gc,.bool true])∧G.pl=g∧G.own w' w.heap.size∧DR w' a s p' (n+g.length) c'∧p<p'∧(bl s).drop p'=r∧(c'=0↔c=0∧g.all Trm.right=true∧n+g.length≤64)
theorem GroupPost.no {r:Option (List Trm×LU)}{a:Nat}{s:BA}{p n p' n':Nat}{c c':Int}{w w':World}(hr:r=none)(hg:w.grownBy w' (some a))(h:DR w' a s p' n' c'):GroupPost r a s p n c w (.returned (.tuple #[.slice none 0 0,.bool false])) w':=by
 subst hr;exact⟨hg,rfl,p',n',c',h⟩
theorem GroupPost.yes {r:Option (List Trm×LU)}{a:Nat}{s:BA}{p n p':Nat}{c c':Int}{w w':World}{ts:List TrmM}{A:Option Addr}{m cc:Nat}(hr:r=some (ts.map TrmM.pl,(bl s).drop p'))(h:GSt w w' a s p' (n+m) c' ts A m cc)(hp:p<p')(hc:c'=0↔c=0∧(ts.map TrmM.pl).all Trm.right=true∧n+m≤64):GroupPost r a s p n c w (.returned (.tuple #[.slice A m cc,.bool true])) w':=by
 subst hr
 obtain rfl:=h.len
 refine⟨h.gr,⟨A,cc,ts⟩,p',c',rfl,rfl,⟨h.row,h.archs⟩,?_,hp,rfl,?_⟩
 ·rw[List.length_map];exact h.dr
 ·rw[List.length_map];exact hc
theorem ddep_group (F:Nat)(a:Nat)(s:BA)(p n:Nat)(c:Int)(w:World)(hs:s.size≤4294967280)(hF:s.size-p<F)(hG:GlA a w)(h:DR w a s p n c)(hcn:c=0→n≤64):
  Calls Tryz.prog 174 #[.pointer (some ⟨a,0,none⟩)] w (GroupPost (dGroup F ((bl s).drop p)) a s p n c w):=by
 obtain⟨i0,hi0,hz0,hz1,hz2⟩:=info_parts info_term
 have HG:=hid hG
 obtain⟨f0,hf0⟩:∃ f0,F=f0+1:=⟨F-1,by omega⟩
 have E0:Hid (dGroup F ((bl s).drop p)=dGroupT (f0+1) [] ((bl s).drop p)):=by show _=_;rw[dGroupT_start,hf0]
 have HF0:Hid (s.size-p≤f0):=by show _≤_;omega
 have HCN:=hid hcn
 generalize dGroup F ((bl s).drop p)=RR at E0
 have S1:Hid (GSt w w a s p n c [] none 0 0):=⟨rfl,World.ownsRow_nil _ _ _ _,by simp,h,World.grownBy.refl _ _,h.sz⟩
 have hps:=h.le
 clear hG hf0 hF hcn h
 go_enter Tryz.func174,Tryz.ntmps174
 go_wp2_with fail
 go_loopw [2,3,4] (fun s2 s3 l wr=>∃ (k m cc f:Nat) (c':Int) (ts:List TrmM) (A:Option Addr),s2=.slice none 0 0∧s3=.bool false∧l=.slice A m cc∧k≤s.size∧m≤k∧Hid (GSt w wr a s k (n+m) c' ts A m cc)∧Hid (p≤k)∧Hid (RR=dGroupT (f+1) (ts.map TrmM.pl) ((bl s).drop k))∧Hid (s.size-k≤f)∧Hid (c'=0↔c=0∧(ts.map TrmM.pl).all Trm.right=true∧n+m≤64)) (fun _ _ _ wr=>s.size-atOf a wr)
 case atStart=>exact⟨p,0,0,f0,c,[],none,rfl,rfl,rfl,hps,z0,S1,lr,E0,HF0,by have:=HCN.out;show _↔_;simpa using this⟩
 case round=>
  clear S1 E0 HF0 HCN
  obtain⟨k,m,cc,f,c',ts,A,rfl,rfl,rfl,hk,hmk,HS,HP,HE,HF,HC⟩:=hrel
  go_wp2_with fail
  refine(ddep_term a s k (n+m) c' wr hs (HG.out.kept HS.out.gr) HS.out.dr).mono ?_;rintro e w2 ⟨hg,hpost⟩
  cases ht:dTerm ((bl s).drop k) with
  | none=>
   rw[ht] at hpost
   obtain⟨T,p',n',d',rfl,hd⟩:=hpost
   have S2:=hid (HS.out.step hg hd);clear hd hg
   have EN:Hid (RR=none):=by show _=_;rw[HE.out];exact dGroupT_none ht
   clear ht
   unfold TrmM.val
   go_wp2_with fail
   go_ret2
   have:=S2.out.alloc (.cells #[.string T.nm,.int .i64 T.op,.string T.ver,.string T.qual,.slice T.aa T.archs.length T.ac] 157)
   exact GroupPost.no EN.out this.gr this.dr
  | some x=>
   obtain⟨t,r⟩:=x
   rw[ht] at hpost
   obtain⟨T,p',d',rfl,hT,hTo,hd,hpp,hdr,hcc⟩:=hpost
   have S2:=hid (HS.out.step hg hd)
   have HTO:=hid (hTo.base (lo':=w.heap.size) HS.out.gr.size)
   have hps':=hd.le
   have C2:Hid (d'=0↔c=0∧((ts++[T]).map TrmM.pl).all Trm.right=true∧n+(m+1)≤64):=by
    have h1:=HC.out
    show _↔_
    rw[hcc,h1,List.map_append,List.all_append]
    simp only[List.map_cons,List.map_nil,List.all_cons,List.all_nil,Bool.and_true,Bool.and_eq_true,hT]
    constructor
    ·rintro⟨⟨a1,a2,a3⟩,a4,a5⟩;exact⟨a1,⟨a2,a4⟩,by omega⟩
    ·rintro⟨a1,⟨a2,a4⟩,a5⟩;exact⟨⟨a1,a2,by omega⟩,a4,by omega⟩
   have HD:=hid hdr
   have HT:=hid hT
   have HTM:=hid ht
   have hmm:m≤4294967280:=by omega
   have HKK:Hid (k<p'):=hpp
   clear ht hT hTo hd hg hdr hcc hpp
   unfold TrmM.val
   go_wp2_with (at_builtin;refine wpList_append_any _ rfl _ _ _ rfl w.heap.size 157 i0 _ 5 80 Tryz.underlying155 hi0 hz0 hz1 hz2 rfl (by omega) (.slice A m cc) m _ rfl ((S2.out.row.alloc _).alloc _) (w2.heap.size+1+1) (some ⟨w2.heap.size+1,0,none⟩) 1 1 T.cells rfl (by have:=reads_five (w2.alloc (.cells T.cells.toArray 157)) 157 (.string T.nm) (.int .i64 T.op) (.string T.ver) (.string T.qual) (.slice T.aa T.archs.length T.ac);simpa [TrmM.cells] using this) (by simp[Value.oneCell',TrmM.cells]) (by simp only[maxLen];omega) (by omega) (by simp;have:=S2.out.gr.size;omega) ?_;intro v1 w3 o1 g1 a1)
   obtain⟨A3,c3,rfl⟩:=owns_form o1
   have S3:=hid (S2.out.grow (T:=T) HTO.out o1 g1)
   clear o1 g1 a1
   cases hb:head0 124 ((bl s).drop p') with
   | false=>
    have HB:=hid hb
    have EN:Hid (RR=some ((ts++[T]).map TrmM.pl,(bl s).drop p')):=by
     show _=_;rw[HE.out,dGroupT_end HTM.out (by rw[←HD.out];exact hb),List.map_append,HD.out];simp[HT.out]
    have PF:Hid (p<p'):=by have h1:=HP.out;have h2:=HKK.out;show _<_;omega
    clear hb
    go_wp2_with fail
    refine(ddep_sign_no 124 a s p' _ d' w3 hs S3.out.dr HB).mono ?_;rintro e w4 ⟨rfl,hd,hg⟩
    have S4:=hid (S3.out.step hg hd);clear hd hg
    go_wp2_with fail
    go_ret2
    exact GroupPost.yes EN.out S4.out PF.out C2.out
   | true=>
    have HB:=hid hb
    obtain⟨k2,hk2⟩:∃ k2,p'+1+runN blankB ((bl s).drop (p'+1))=k2:=⟨_,rfl⟩
    have EN:Hid (RR=dGroupT (f-1+1) ((ts++[T]).map TrmM.pl) ((bl s).drop k2)):=by
     have hf:=HF.out;have h2:=HKK.out
     show _=_
     rw[HE.out,dGroupT_more HTM.out (by rw[←HD.out];exact hb),←HD.out,List.drop_drop,skip_at,hk2,List.map_append,show f-1+1=f by omega];simp[HT.out]
    have HB2:=hid (fun (W:World) (hD:DR W a s (p'+1) (n+(m+1)) d')=>ddep_blanks a s (p'+1) (n+(m+1)) d' W hs hD)
    rw[hk2] at HB2
    have HK2:Hid (k<k2):=by have:=HKK.out;show _<_;omega
    have HF2:Hid (s.size-k2≤f-1):=by have:=HF.out;have:=HK2.out;show _≤_;omega
    have HP2:Hid (p≤k2):=by have:=HP.out;have:=HK2.out;show _≤_;omega
    have hmk2:m+1≤k2:=by have:=HK2.out;omega
    clear hb hk2
    go_wp2_with fail
    refine(ddep_sign_yes 124 a s p' _ d' w3 hs S3.out.dr HB).mono ?_;rintro e w4 ⟨rfl,hd,hg⟩
    have S4:=hid (S3.out.step hg hd);clear hd hg
    go_wp2_with fail
    refine(HB2.out w4 S4.out.dr).mono ?_;rintro e w5 ⟨rfl,hd,hg⟩
    have S5:=hid (S4.out.step hg hd);clear hd hg
    have hk2s:=S5.out.dr.le
    go_wp2_with fail
    go_roundw
    case rel=>exact⟨k2,m+1,c3,f-1,d',ts++[T],A3,rfl,rfl,rfl,hk2s,hmk2,S5,HP2,EN,HF2,C2⟩
    case measure=>exact DR.dec S5.out.dr HS.out.dr HK2.out
theorem KT.grown_new {a:Nat}{w wr w2:World}{row:Option Nat}(h:KT a w wr)(hg:wr.grownBy w2 row)(hr:∀ j,row=some j→w.heap.size≤j)(ha:a≤w.heap.size):KT a w w2:=by
 refine⟨⟨hg.os.trans h.bel.os,hg.tape.trans h.bel.tape,hg.output.trans h.bel.output,Nat.le_trans h.size hg.size,fun k hk=>?_⟩,fun k cur e fr hk he=>?_⟩
 ·exact(hg.block k (by have:=h.size;omega) (fun e=>by have:=hr k e.symm;omega)).trans (h.bel.block k hk)
 ·have hl:k<w.heap.size:=(Array.getElem?_eq_some_iff.1 hk).1
  exact(hg.block k (by have:=h.size;omega) (fun e=>by have:=hr k e.symm;omega)).trans (h.same k cur e fr hk he)
theorem RS.grown {a:Nat}{w wr w2:World}{s:BA}{p:Nat}{bad:Bool}{ps:List Prt}{gs:List GrpM}{hs:List Int}{row:Option Nat}(h:RS wr a s p bad ps gs hs)(hg0:∀ g∈gs,g.own w (a+1))(K:KT a w w2)(hg:wr.grownBy w2 row)
  (hr:∀ b,row=some b→∃ cur e fr,wr.heap[b]?=some (.cells cur e fr)∧isTS e):RS w2 a s p bad ps gs hs:=by
 obtain⟨PA,LA,HA,pc,lc,hc,k1,k2,k3,k4⟩:=h.blk
 have na:some a≠row:=by
  intro e
  obtain⟨cur,e',fr,h1,h2⟩:=hr a e.symm
  rw[show wr.heap[a]?=_ from k1] at h1
  injection h1 with h1;injection h1 with _ h3 _
  exact notTS_State (h3 ▸ h2)
 have far:∀ {lo:Nat} {e:TypeId} {z n:Nat} {v:Value} {xs:List Value},wr.ownsRow lo e z v n xs→¬ isTS e→w2.ownsRow lo e z v n xs:=by
  intro lo e z n v xs ho he
  refine ho.kept hg ?_
  cases hq:v.ownBlock with
  | none=>exact .inl rfl
  | some q=>
   right
   intro e2
   obtain⟨cur,e',fr,h1,h2⟩:=hr q e2.symm
   exact ownsRow_ne ho h1 (fun e3=>he (e3 ▸ h2)) hq.symm
 exact⟨⟨PA,LA,HA,pc,lc,hc,k1.grownBy hg na,far k2 notTS_Part,far k3 notTS_Grp,far k4 notTS_int⟩,fun g hm=>K.grp (hg0 g hm),h.le,h.pl,h.hl,h.gl,h.pat⟩
def tZeros:List Value:=[.string ⟨#[]⟩,.int .i64 0,.string ⟨#[]⟩,.string ⟨#[]⟩,.slice none 0 0]
structure RT (w wr:World) (a:Nat) (s:BA) (p:Nat) (bad:Bool) (ps:List Prt) (gs:List GrpM) (hs:List Int) (vs:List Value):Prop where
 rb:BT wr w.heap.size 157 tZeros
 tb:BT wr (w.heap.size+1) 157 vs
 rs:RS wr a s p bad ps gs hs
 kt:KT a w wr
 g0:∀ g∈gs,g.own w (a+1)
 lt:a<w.heap.size
theorem RT.step {w wr w':World}{a:Nat}{s:BA}{p p':Nat}{bad bad':Bool}{ps ps':List Prt}{gs:List GrpM}{hs hs':List Int}{vs:List Value}(h:RT w wr a s p bad ps gs hs vs)(hk:KT a wr w')(hr:RS w' a s p' bad' ps' gs hs'):RT w w' a s p' bad' ps' gs hs' vs:=
 ⟨hk.bt h.rb,hk.bt h.tb,hr,h.kt.trans hk,h.g0,h.lt⟩
theorem RT.set {w wr:World}{a:Nat}{s:BA}{p:Nat}{bad:Bool}{ps:List Prt}{gs:List GrpM}{hs:List Int}{vs:List Value}(h:RT w wr a s p bad ps gs hs vs)(j:Nat)(v:Value):RT w (wr.setCell ⟨w.heap.size+1,j,none⟩ v) a s p bad ps gs hs (vs.set j v):=by
 have hg:wr.grownBy (wr.setCell ⟨w.heap.size+1,j,none⟩ v) (some (w.heap.size+1)):=kept_set v
 have K:=h.kt.grown_new hg (fun j hj=>by injection hj with hj;omega) (Nat.le_of_lt h.lt)
 exact⟨h.rb.far (by omega) v,h.tb.set j v,h.rs.grown h.g0 K hg (fun b hb=>by injection hb with hb;subst hb;exact⟨_,_,_,h.tb,.inr rfl⟩),K,h.g0,h.lt⟩
theorem RT.start {w:World}{a:Nat}{s:BA}{p:Nat}{bad:Bool}{ps:List Prt}{gs:List GrpM}{hs:List Int}(h:RS w a s p bad ps gs hs):RT w ((w.alloc (.cells tZeros.toArray 157)).alloc (.cells tZeros.toArray 157)) a s p bad ps gs hs tZeros:=by
 have hb:Below w.heap.size w ((w.alloc (.cells tZeros.toArray 157)).alloc (.cells tZeros.toArray 157)):=(bR.alloc lr _).alloc (by simp) _
 refine⟨(BT.new w _ tZeros).belowW (bR.alloc lr _),?_,h.below hb,KT.of_below hb (Nat.le_of_lt h.sz),h.grp,h.sz⟩
 have:=BT.new (w.alloc (.cells tZeros.toArray 157)) 157 tZeros
 simpa using this
theorem RT.done {w wr:World}{a:Nat}{s:BA}{p:Nat}{bad:Bool}{ps:List Prt}{gs:List GrpM}{hs:List Int}{vs:List Value}(h:RT w wr a s p bad ps gs hs vs)(v0 v1 v2 v3 v4:Value):
  RS (((((wr.setCell ⟨w.heap.size,0,none⟩ v0).setCell ⟨w.heap.size,1,none⟩ v1).setCell ⟨w.heap.size,2,none⟩ v2).setCell ⟨w.heap.size,3,none⟩ v3).setCell ⟨w.heap.size,4,none⟩ v4) a s p bad ps gs hs ∧
  KT a w (((((wr.setCell ⟨w.heap.size,0,none⟩ v0).setCell ⟨w.heap.size,1,none⟩ v1).setCell ⟨w.heap.size,2,none⟩ v2).setCell ⟨w.heap.size,3,none⟩ v3).setCell ⟨w.heap.size,4,none⟩ v4):=by
 have hg:wr.grownBy (((((wr.setCell ⟨w.heap.size,0,none⟩ v0).setCell ⟨w.heap.size,1,none⟩ v1).setCell ⟨w.heap.size,2,none⟩ v2).setCell ⟨w.heap.size,3,none⟩ v3).setCell ⟨w.heap.size,4,none⟩ v4) (some w.heap.size):=
  grown_thru (grown_thru (grown_thru (grown_thru (kept_set _) (kept_set _)) (kept_set _)) (kept_set _)) (kept_set _)
 have K:=h.kt.grown_new hg (fun j hj=>by injection hj with hj;omega) (Nat.le_of_lt h.lt)
 exact⟨h.rs.grown h.g0 K hg (fun b hb=>by injection hb with hb;subst hb;exact⟨_,_,_,h.rb,.inr rfl⟩),K⟩
theorem RT.arch {w wr w2:World}{a:Nat}{s:BA}{p:Nat}{bad:Bool}{ps:List Prt}{gs:List GrpM}{hs:List Int}{v0 v1 v2 v3:Value}{A A1:Option Addr}{m cc c1:Nat}{xs:List BA}{x:BA}{o:Obj}(h:RT w wr a s p bad ps gs hs [v0,v1,v2,v3,.slice A m cc])
  (hr:wr.ownsRow (w.heap.size+2) 9 1 (.slice A m cc) m (strCells xs))(o1:w2.ownsRow (w.heap.size+2) 9 1 (.slice A1 (m+1) c1) (m+1) (strCells xs++[.string x]))(g1:(wr.alloc o).grownBy w2 (Value.slice A m cc).ownBlock):
  RT w (w2.setCell ⟨w.heap.size+1,4,none⟩ (.slice A1 (m+1) c1)) a s p bad ps gs hs [v0,v1,v2,v3,.slice A1 (m+1) c1]∧(w2.setCell ⟨w.heap.size+1,4,none⟩ (.slice A1 (m+1) c1)).ownsRow (w.heap.size+2) 9 1 (.slice A1 (m+1) c1) (m+1) (strCells (xs++[x])):=by
 have hb:Below wr.heap.size wr (wr.alloc o):=bR.alloc lr o
 have r1:=hr.alloc o
 have hrow:∀ b,(Value.slice A m cc).ownBlock=some b→∃ cur e fr,(wr.alloc o).heap[b]?=some (.cells cur e fr)∧isTS e:=by
  intro b hq
  rcases r1.2 with⟨h0,_⟩ | ⟨g,cap,cur,h0,_,h2,_⟩
  ·injection h0 with h0;subst h0;simp[Value.ownBlock] at hq
  ·injection h0 with h0;subst h0;simp[Value.ownBlock] at hq;subst hq;exact⟨_,_,_,h2,.inl rfl⟩
 have K1:KT a w (wr.alloc o):=h.kt.trans (KT.of_below hb (Nat.le_of_lt h.rs.sz))
 have K2:=K1.grown_new g1 (fun j hj=>by have:=(r1.lt j hj).1;omega) (Nat.le_of_lt h.lt)
 have b1:=(h.rb.belowW hb).grownBy g1 (ownsRow_ne r1 (h.rb.belowW hb) (by decide))
 have b2:=(h.tb.belowW hb).grownBy g1 (ownsRow_ne r1 (h.tb.belowW hb) (by decide))
 have R2:=(h.rs.below hb).grown h.g0 K2 g1 hrow
 have T2:RT w w2 a s p bad ps gs hs [v0,v1,v2,v3,.slice A m cc]:=⟨b1,b2,R2,K2,h.g0,h.lt⟩
 refine⟨T2.set 4 _,?_⟩
 rw[show strCells (xs++[x])=strCells xs++[.string x] by simp[strCells]]
 exact owns_kept o1 (Nat.lt_succ_self _) (kept_set _)
theorem info_int14:(Tryz.prog.info? 3).map (fun i=>(i.zero,i.size,i.bytes))=some (some (.int .i64 0),1,8):=by kernel_rfl
theorem reads_one14 (w:World)(t:TypeId)(x:Value):Reads (w.alloc (.cells #[x] t)).drew (w.heap.size+1) 1 (some ⟨w.heap.size,0,none⟩) 1 [x]:=by
 refine⟨rfl,fun _=>⟨_,rfl,by simp,fun j u hu=>?_⟩⟩
 match j,hu with
 | 0,hu=>simp at hu;subst hu;simp[Addr.add]
 | j+1,hu=>simp at hu
theorem RS.head {w w2:World}{a:Nat}{s:BA}{p:Nat}{ps:List Prt}{gs:List GrpM}{hs:List Int}{PA LA HA A1:Option Addr}{pc lc hc c1:Nat}{o:Obj}{x:Int}
  (k1:BT w a 242 [.string s,.int .i64 p,.bool false,.slice PA ps.length pc,.slice LA gs.length lc,.slice HA hs.length hc])
  (k2:w.ownsRow (a+1) 244 3 (.slice PA ps.length pc) ps.length (ps.flatMap Prt.cells))(k3:w.ownsRow (a+1) 155 1 (.slice LA gs.length lc) gs.length (gs.map GrpM.sl))(k4:w.ownsRow (a+1) 3 1 (.slice HA hs.length hc) hs.length (hs.map (Value.int .i64)))
  (h:RS w a s p false ps gs hs)(hpl:hs.length≤p)
  (o2:w2.ownsRow (a+1) 3 1 (.slice A1 (hs.length+1) c1) (hs.length+1) (hs.map (Value.int .i64)++[.int .i64 x]))
  (g2:(w.alloc o).drew.grownBy w2 (Value.slice HA hs.length hc).ownBlock):
  RS (w2.setCell ⟨a,5,none⟩ (.slice A1 (hs.length+1) c1)) a s p false ps gs (hs++[x])∧KT a w (w2.setCell ⟨a,5,none⟩ (.slice A1 (hs.length+1) c1)):=by
 have hb:Below w.heap.size w (w.alloc o).drew:=below_drewN (bR.alloc lr o) 1
 have j1:=k1.belowW hb
 have j2:=owns_below k2 hb
 have j3:=owns_below k3 hb
 have j4:=owns_below k4 hb
 have na:some a≠(Value.slice HA hs.length hc).ownBlock:=by intro e;have:=(k4.lt a e.symm).1;omega
 have m1:=(j1.grownBy g2 na).set 5 (.slice A1 (hs.length+1) c1)
 have hg:w2.grownBy (w2.setCell ⟨a,5,none⟩ (.slice A1 (hs.length+1) c1)) (some a):=kept_set _
 have el:(hs++[x]).length=hs.length+1:=by simp
 have K1:KT a w (w.alloc o).drew:=KT.of_below hb (Nat.le_of_lt h.sz)
 have K2:KT a (w.alloc o).drew w2:=KT.of_row j4 g2 (Nat.le_succ _) (Nat.le_of_lt (h.below hb).sz) notTS_int
 have K3:KT a w2 (w2.setCell ⟨a,5,none⟩ (.slice A1 (hs.length+1) c1)):=KT.of_grown hg lr (j1.grownBy g2 na) notTS_State
 have KK:=(K1.trans K2).trans K3
 refine⟨⟨⟨PA,LA,A1,pc,lc,c1,by rw[el];exact m1,?_,?_,?_⟩,fun g hg'=>KK.grp (h.grp g hg'),h.le,h.pl,by rw[el];omega,h.gl,h.pat⟩,KK⟩
 ·exact owns_kept (kept_other j2 j4 (by decide) g2) (Nat.lt_succ_self _) hg
 ·exact owns_kept (kept_other j3 j4 (by decide) g2) (Nat.lt_succ_self _) hg
 ·rw[el,List.map_append]
  exact owns_kept o2 (Nat.lt_succ_self _) hg
def TermPost14 (r:Option (Trm×LU))(a:Nat)(s:BA)(p:Nat)(ps:List Prt)(gs:List GrpM)(hs:List Int)(w:World)(e:Ending)(w':World):Prop:=
 KT a w w'∧match r with
  | none=>∃ (T:TrmM) (p':Nat) (ps':List Prt) (hs':List Int),e=.returned T.val∧RS w' a s p' true ps' gs hs'
  | some (t,r)=>∃ (T:TrmM) (p':Nat) (nps:List Prt),e=.returned T.val∧T.pl=t∧T.own w' w.heap.size∧RS w' a s p' false (ps++nps) gs (hs++[(p:Int)])∧p<p'∧(bl s).drop p'=r∧(nps.all prtB=true↔t.right=true)
theorem TermPost14.no {r:Option (Trm×LU)}{a:Nat}{s:BA}{p p':Nat}{ps ps':List Prt}{gs:List GrpM}{hs hs':List Int}{w w':World}{T:TrmM}{e:Ending}(hr:r=none)(hk:KT a w w')(h:RS w' a s p' true ps' gs hs')(he:e=.returned T.val):TermPost14 r a s p ps gs hs w e w':=by
 subst hr;exact⟨hk,T,p',ps',hs',he,h⟩
def markB (b:Bool):BA:=if b then ⟨#[33]⟩ else ⟨#[]⟩
theorem bl_mark (b:Bool):bl (markB b)=if b then [33] else []:=by cases b<;>rfl
def midB (r:LU):Bool:=!r.isEmpty && !head0 32 r && !head0 93 r
end
end Go.Proofs.YtdfdllbebfoggaaGreatDoor
