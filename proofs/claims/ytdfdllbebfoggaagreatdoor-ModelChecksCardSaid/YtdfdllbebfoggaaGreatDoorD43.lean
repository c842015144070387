/- A part of the proof that ModelChecks holds. No condition. -/
import Derived.Test.YtdfdllbebfoggaaGreatDoorD35
import Derived.Test.YtdfdllbebfoggaaGreatDoorD42
set_option maxRecDepth 100000
set_option maxHeartbeats 20000000
set_option linter.unusedVariables false
set_option linter.unusedSimpArgs false
namespace Go.Proofs.YtdfdllbebfoggaaGreatDoor
section
open Go.RowKit Go.Deep
structure GT (wo wr:World) (a:Nat) (s:BA) (p:Nat) (ps:List Prt) (gs:List GrpM) (hs:List Int) (ts:List TrmM) (A:Option Addr) (m cc:Nat):Prop where
 rs:RS wr a s p false ps gs hs
 kt:KT a wo wr
 g0:∀ g∈gs,g.own wo (a+1)
 len:ts.length=m
 row:wr.ownsRow wo.heap.size 157 5 (.slice A m cc) m (ts.flatMap TrmM.cells)
 archs:∀ t∈ts,t.own wr wo.heap.size
 lt:a<wo.heap.size
theorem GT.step {wo wr w':World}{a:Nat}{s:BA}{p p':Nat}{ps ps':List Prt}{gs:List GrpM}{hs hs':List Int}{ts:List TrmM}{A:Option Addr}{m cc:Nat}(h:GT wo wr a s p ps gs hs ts A m cc)(hk:KT a wr w')(hr:RS w' a s p' false ps' gs hs'):GT wo w' a s p' ps' gs hs' ts A m cc:=
 ⟨hr,h.kt.trans hk,h.g0,h.len,hk.owns h.row (.inr rfl),fun t ht=>hk.trm (h.archs t ht),h.lt⟩
theorem GT.start {wo:World}{a:Nat}{s:BA}{p:Nat}{ps:List Prt}{gs:List GrpM}{hs:List Int}(h:RS wo a s p false ps gs hs):GT wo wo a s p ps gs hs [] none 0 0:=
 ⟨h,KT.refl _ _,h.grp,rfl,World.ownsRow_nil _ _ _ _,by simp,h.sz⟩
theorem GT.below {wo wr w':World}{a:Nat}{s:BA}{p:Nat}{ps:List Prt}{gs:List GrpM}{hs:List Int}{ts:List TrmM}{A:Option Addr}{m cc:Nat}(h:GT wo wr a s p ps gs hs ts A m cc)(hb:Below wr.heap.size wr w'):GT wo w' a s p ps gs hs ts A m cc:=
 h.step (KT.of_below hb (Nat.le_of_lt h.rs.sz)) (h.rs.below hb)
theorem GT.alloc {wo wr:World}{a:Nat}{s:BA}{p:Nat}{ps:List Prt}{gs:List GrpM}{hs:List Int}{ts:List TrmM}{A:Option Addr}{m cc:Nat}(h:GT wo wr a s p ps gs hs ts A m cc)(o:Obj):GT wo (wr.alloc o) a s p ps gs hs ts A m cc:=h.below (bR.alloc lr o)
theorem row_typed {w:World}{lo:Nat}{e:TypeId}{z n:Nat}{v:Value}{xs:List Value}(h:w.ownsRow lo e z v n xs)(he:isTS e):∀ b,v.ownBlock=some b→∃ cur e' fr,w.heap[b]?=some (.cells cur e' fr)∧isTS e':=by
 intro b hq
 rcases h.2 with⟨rfl,_⟩ | ⟨g,cap,cur,rfl,_,h2,_⟩
 ·simp[Value.ownBlock] at hq
 ·simp[Value.ownBlock] at hq;subst hq;exact⟨_,_,_,h2,he⟩
theorem GT.grow {wo wr w2:World}{a:Nat}{s:BA}{p:Nat}{ps:List Prt}{gs:List GrpM}{hs:List Int}{ts:List TrmM}{A A1:Option Addr}{m cc c1:Nat}{o1 o2:Obj}{T:TrmM}(h:GT wo wr a s p ps gs hs ts A m cc)(hT:T.own wr wo.heap.size)
  (hr:w2.ownsRow wo.heap.size 157 5 (.slice A1 (m+1) c1) (m+1) (ts.flatMap TrmM.cells++T.cells))
  (hg:((wr.alloc o1).alloc o2).grownBy w2 (Value.slice A m cc).ownBlock):GT wo w2 a s p ps gs hs (ts++[T]) A1 (m+1) c1:=by
 have ho:=(h.alloc o1).alloc o2
 have hT':T.own ((wr.alloc o1).alloc o2) wo.heap.size:=(hT.below (bR.alloc lr o1)).below (bR.alloc lr o2)
 have K:=ho.kt.grown_new hg (fun j hj=>(ho.row.lt j hj).1) (Nat.le_of_lt h.lt)
 refine⟨ho.rs.grown h.g0 K hg (row_typed ho.row (.inr rfl)),K,h.g0,by simp[h.len],by rw[List.flatMap_append];simpa using hr,fun t ht=>?_,h.lt⟩
 rcases List.mem_append.1 ht with ht | ht
 ·exact kept_other (ho.archs t ht) ho.row (by decide) hg
 ·obtain rfl:=List.mem_singleton.1 ht
  exact kept_other hT' ho.row (by decide) hg
theorem RS.group {w w2:World}{a:Nat}{s:BA}{p:Nat}{ps:List Prt}{gs:List GrpM}{hs:List Int}{PA LA HA A1:Option Addr}{pc lc hc c1:Nat}{o:Obj}{G:GrpM}
  (k1:BT w a 242 [.string s,.int .i64 p,.bool false,.slice PA ps.length pc,.slice LA gs.length lc,.slice HA hs.length hc])
  (k2:w.ownsRow (a+1) 244 3 (.slice PA ps.length pc) ps.length (ps.flatMap Prt.cells))(k3:w.ownsRow (a+1) 155 1 (.slice LA gs.length lc) gs.length (gs.map GrpM.sl))(k4:w.ownsRow (a+1) 3 1 (.slice HA hs.length hc) hs.length (hs.map (Value.int .i64)))
  (h:RS w a s p false ps gs hs)(hG:G.own w (a+1))(hpl:gs.length<p)
  (o2:w2.ownsRow (a+1) 155 1 (.slice A1 (gs.length+1) c1) (gs.length+1) (gs.map GrpM.sl++[G.sl]))
  (g2:(w.alloc o).grownBy w2 (Value.slice LA gs.length lc).ownBlock):
  RS (w2.setCell ⟨a,4,none⟩ (.slice A1 (gs.length+1) c1)) a s p false ps (gs++[G]) hs∧KT a w (w2.setCell ⟨a,4,none⟩ (.slice A1 (gs.length+1) c1)):=by
 have hb:Below w.heap.size w (w.alloc o):=bR.alloc lr o
 have j1:=k1.belowW hb
 have j2:=owns_below k2 hb
 have j3:=owns_below k3 hb
 have j4:=owns_below k4 hb
 have na:some a≠(Value.slice LA gs.length lc).ownBlock:=by intro e;have:=(k3.lt a e.symm).1;omega
 have m1:=(j1.grownBy g2 na).set 4 (.slice A1 (gs.length+1) c1)
 have hg:w2.grownBy (w2.setCell ⟨a,4,none⟩ (.slice A1 (gs.length+1) c1)) (some a):=kept_set _
 have el:(gs++[G]).length=gs.length+1:=by simp
 have K1:KT a w (w.alloc o):=KT.of_below hb (Nat.le_of_lt h.sz)
 have K2:KT a (w.alloc o) w2:=KT.of_row j3 g2 (Nat.le_succ _) (Nat.le_of_lt (h.below hb).sz) notTS_Grp
 have K3:KT a w2 (w2.setCell ⟨a,4,none⟩ (.slice A1 (gs.length+1) c1)):=KT.of_grown hg lr (j1.grownBy g2 na) notTS_State
 have KK:=(K1.trans K2).trans K3
 refine⟨⟨⟨PA,A1,HA,pc,c1,hc,by rw[el];exact m1,?_,?_,?_⟩,fun g hg'=>?_,h.le,h.pl,h.hl,by rw[el];omega,h.pat⟩,KK⟩
 ·exact owns_kept (kept_other j2 j3 (by decide) g2) (Nat.lt_succ_self _) hg
 ·rw[el,List.map_append]
  exact owns_kept o2 (Nat.lt_succ_self _) hg
 ·exact owns_kept (kept_other j4 j3 (by decide) g2) (Nat.lt_succ_self _) hg
 ·rcases List.mem_append.1 hg' with hg' | hg'
  ·exact KK.grp (h.grp g hg')
  ·obtain rfl:=List.mem_singleton.1 hg';exact KK.grp hG
theorem all_grp (gs:List GrpM)(G:GrpM):((gs++[G]).map GrpM.pl).all (fun g=>g.all Trm.right)=true↔(gs.map GrpM.pl).all (fun g=>g.all Trm.right)=true∧G.pl.all Trm.right=true:=by
 rw[List.map_append,List.all_append];simp only[List.map_cons,List.map_nil,List.all_cons,List.all_nil,Bool.and_true,Bool.and_eq_true]
theorem map_grp (gs:List GrpM)(G:GrpM):(gs++[G]).map GrpM.pl=gs.map GrpM.pl++[G.pl]:=by simp
def FieldPost14 (r:Option (List (List Trm)))(a:Nat)(s:BA)(w:World)(e:Ending)(w':World):Prop:=
 KT a w w'∧e=.returned (.tuple #[])∧match r with
  | none=>∃ (p:Nat) (ps:List Prt) (gs:List GrpM) (hs:List Int),RS w' a s p true ps gs hs
  | some L=>∃ (p:Nat) (ps:List Prt) (gs:List GrpM) (hs:List Int),RS w' a s p false ps gs hs∧gs.map GrpM.pl=L∧(ps.all prtB=true↔L.all (fun g=>g.all Trm.right)=true)∧hs.length=sumL L
theorem FieldPost14.no {r:Option (List (List Trm))}{a:Nat}{s:BA}{p:Nat}{ps:List Prt}{gs:List GrpM}{hs:List Int}{w w':World}(hr:r=none)(hk:KT a w w')(h:RS w' a s p true ps gs hs):FieldPost14 r a s w (.returned (.tuple #[])) w':=by
 subst hr;exact⟨hk,rfl,p,ps,gs,hs,h⟩
theorem FieldPost14.yes {r:Option (List (List Trm))}{a:Nat}{s:BA}{p:Nat}{ps:List Prt}{gs:List GrpM}{hs:List Int}{w w':World}(hr:r=some (gs.map GrpM.pl))(hk:KT a w w')(h:RS w' a s p false ps gs hs)(hp:ps.all prtB=true↔(gs.map GrpM.pl).all (fun g=>g.all Trm.right)=true)(hl:hs.length=sumL (gs.map GrpM.pl)):FieldPost14 r a s w (.returned (.tuple #[])) w':=by
 subst hr;exact⟨hk,rfl,p,ps,gs,hs,h,rfl,hp,hl⟩
theorem r14_field (a:Nat)(s:BA)(w:World)(hz:s.size≤4294967280)(h:RS w a s 0 false [] [] []):
  Calls Tryz.prog 208 #[.pointer (some ⟨a,0,none⟩)] w (FieldPost14 (dForm (bl s)) a s w):=by
 obtain⟨i0,hi0,hz0,hz1,hz2⟩:=info_parts info_term
 obtain⟨j0,hj0,hy0,hy1,hy2⟩:=info_parts info_grp
 obtain⟨q,hq⟩:∃ q,0+runN blankB ((bl s).drop 0)=q:=⟨_,rfl⟩
 have hB:=r14_blanks a s 0 false [] [] [] w hz h
 rw[hq] at hB
 have SK:Hid (skipL (bl s)=(bl s).drop q):=by have:=skip_at s 0;rw[hq,List.drop_zero] at this;exact this
 generalize hRR:dForm (bl s)=RR
 have HRR:=hid hRR
 clear hRR h hq
 go_enter Tryz.func208,Tryz.ntmps208
 go_wp2_with fail
 refine hB.mono ?_;rintro e w1 ⟨rfl,h1,k1⟩
 have R1:=hid h1;have K1:=hid k1
 have hqs:=h1.le
 clear h1 k1 hB
 by_cases hqe:q<s.size
 ·have E0:Hid (RR=dGroupsT (s.size+1) [] (skipL ((bl s).drop q))):=by
   show _=_;rw[←HRR.out];unfold dForm;rw[SK.out,←dGroupsT_start,bl_length,if_neg (by rw[drop_cons s q hqe];simp),←SK.out,skip_idem]
  have HF0:Hid ((skipL ((bl s).drop q)).length≤s.size):=by have:=skipL_le ((bl s).drop q);rw[List.length_drop,bl_length] at this;show _≤_;omega
  go_wp2_with fail
  refine(r14_has_is a s q false [] [] [] w1 hz R1.out true (dT hqe)).mono ?_;rintro e w2 ⟨rfl,h1,k1⟩
  have R2:=hid h1;have K2:=hid (K1.out.trans k1);clear h1 k1 R1 K1
  go_wp2_with fail
  go_loopw [] (fun wr=>∃ (k f:Nat) (ps:List Prt) (gs:List GrpM) (hs:List Int),k≤s.size∧gs.length≤k∧Hid (RS wr a s k false ps gs hs)∧Hid (KT a w wr)∧Hid (RR=dGroupsT (f+1) (gs.map GrpM.pl) (skipL ((bl s).drop k)))∧Hid ((skipL ((bl s).drop k)).length≤f)∧Hid (hs.length≤k)∧Hid (hs.length=sumL (gs.map GrpM.pl))∧Hid (ps.all prtB=true↔(gs.map GrpM.pl).all (fun g=>g.all Trm.right)=true)) (fun wr=>s.size-atOf a wr)
  case atStart=>exact⟨q,s.size,[],[],[],hqs,z0,R2,K2,E0,HF0,z0,rfl,by simp[Hid]⟩
  case round=>
   clear R2 K2 E0 HF0
   obtain⟨k0,f,ps0,gs,hs0,hk0,hgl,R0,K0,HE,HF,HH0,HL0,HC0⟩:=hrel
   obtain⟨wo,rfl⟩:∃ wo:World,wo=wr:=⟨_,rfl⟩
   obtain⟨GR,hGR⟩:∃ GR,dGroup ((skipL ((bl s).drop k0)).length+1) (skipL ((bl s).drop k0))=GR:=⟨_,rfl⟩
   have HGR:=hid hGR
   have G0:Hid (GR=dGroupT ((skipL ((bl s).drop k0)).length+1) [] (skipL ((bl s).drop k0))):=by show _=_;rw[←hGR,dGroupT_start]
   clear hGR
   have S0:=hid (GT.start R0.out)
   go_wp2_with fail
   go_loopw [2] (fun l wr=>∃ (k f2 m cc:Nat) (ps:List Prt) (hs:List Int) (ts:List TrmM) (A:Option Addr),l=.slice A m cc∧k≤s.size∧k0≤k∧m≤k∧Hid (GT wo wr a s k ps gs hs ts A m cc)∧Hid (GR=dGroupT (f2+1) (ts.map TrmM.pl) (skipL ((bl s).drop k)))∧Hid ((skipL ((bl s).drop k)).length≤f2)∧Hid (hs.length≤k)∧Hid (hs.length=sumL (gs.map GrpM.pl)+m)∧Hid (ps.all prtB=true↔(gs.map GrpM.pl).all (fun g=>g.all Trm.right)=true∧(ts.map TrmM.pl).all Trm.right=true)) (fun _ wr=>s.size-atOf a wr)
   case atStart=>exact⟨k0,_,0,0,ps0,hs0,[],none,rfl,hk0,lr,z0,S0,G0,lr,HH0,HL0.out,by have:=HC0.out;show _↔_;simpa using this⟩
   case round=>
    clear S0 G0
    obtain⟨k,f2,m,cc,ps,hs,ts,A,rfl,hk,hk0k,hmk,HS,HGE,HF2,HH,HL,HC⟩:=hrel
    obtain⟨k1,hk1⟩:∃ k1,k+runN blankB ((bl s).drop k)=k1:=⟨_,rfl⟩
    have hBl:=r14_blanks a s k false ps gs hs wr hz HS.out.rs
    rw[hk1] at hBl
    have SKk:Hid (skipL ((bl s).drop k)=(bl s).drop k1):=by show _=_;rw[skip_at,hk1]
    have KK1:Hid (k≤k1):=by show _≤_;omega
    clear hk1
    go_wp2_with fail
    refine hBl.mono ?_;rintro e w2 ⟨rfl,h1,q1⟩
    have S2:=hid (HS.out.step q1 h1);clear h1 q1 hBl
    have hhk:hs.length≤k1:=by have:=HH.out;have:=KK1.out;omega
    have HHK:=hid hhk
    clear hhk
    go_wp2_with fail
    refine(r14_term a s k1 ps gs hs w2 hz S2.out.rs HHK.out).mono ?_;rintro e w3 ⟨q3,hpost⟩
    cases ht:dTerm ((bl s).drop k1) with
    | none=>
     rw[ht] at hpost
     obtain⟨T,p',ps',hs',rfl,hr⟩:=hpost
     have EN:Hid (RR=none):=by
      show _=_;rw[HE.out];exact dGroupsT_none (by rw[HGR.out,HGE.out];exact dGroupT_none (by rw[SKk.out];exact ht))
     have K3:=hid ((K0.out.trans S2.out.kt).trans q3)
     have R3:=hid (hr.alloc (.cells #[.string T.nm,.int .i64 T.op,.string T.ver,.string T.qual,.slice T.aa T.archs.length T.ac] 157))
     have K4:=hid (K3.out.trans (KT.of_below (bR.alloc lr (.cells #[.string T.nm,.int .i64 T.op,.string T.ver,.string T.qual,.slice T.aa T.archs.length T.ac] 157)) (Nat.le_of_lt hr.sz)))
     obtain⟨v3,v4,v5,kk⟩:=R3.out.cells
     have c2:=kk.c2
     have haz:a<w3.heap.size:=hr.sz
     have c2':=(hr.cells).choose_spec.choose_spec.choose_spec.c2
     clear kk hr ht q3
     unfold TrmM.val
     go_wp2_with fail
     go_end0
     exact FieldPost14.no EN.out K4.out R3.out
    | some x=>
     obtain⟨t,r⟩:=x
     rw[ht] at hpost
     obtain⟨T,p',nps,rfl,hT,hTo,hr,hpp,hdr,hnp⟩:=hpost
     have S3:=hid (S2.out.step q3 hr)
     have HTO:=hid (hTo.base (lo':=wo.heap.size) (S2.out.kt.size))
     have HTM:Hid (dTerm (skipL ((bl s).drop k))=some (t,r)):=by show _=_;rw[SKk.out];exact ht
     have HRL:Hid (r.length<(skipL ((bl s).drop k)).length):=by have:=(dTerm_shape HTM.out).2;exact this
     have HTP:=hid hT
     have HDR:=hid hdr
     have hps':=hr.le
     have HKP:Hid (k<p'):=by have:=KK1.out;show _<_;omega
     have HLN:Hid ((hs++[(k1:Int)]).length=sumL (gs.map GrpM.pl)+(m+1)):=by have:=HL.out;show _=_;simp;omega
     have HHN:Hid ((hs++[(k1:Int)]).length≤p'):=by have:=HHK.out;show _≤_;simp;omega
     have C3:Hid ((ps++nps).all prtB=true↔(gs.map GrpM.pl).all (fun g=>g.all Trm.right)=true∧((ts++[T]).map TrmM.pl).all Trm.right=true):=by
      have h1:=HC.out
      show _↔_
      rw[List.all_append,Bool.and_eq_true,h1,hnp,List.map_append,List.all_append]
      simp only[List.map_cons,List.map_nil,List.all_cons,List.all_nil,Bool.and_true,Bool.and_eq_true,hT]
      exact and_assoc
     have hmm:m≤4294967280:=by omega
     have haz:a<w3.heap.size:=hr.sz
     obtain⟨v3,v4,v5,kk⟩:=hr.cells
     have c2:=kk.c2
     clear kk ht hT hTo hr hdr hnp hpp q3 S2
     generalize hs++[(k1:Int)]=hs2 at S3 HLN HHN
     generalize ps++nps=ps2 at S3 C3
     unfold TrmM.val
     go_wp2_with (at_builtin;refine wpList_append_any _ rfl _ _ _ rfl wo.heap.size 157 i0 _ 5 80 Tryz.underlying155 hi0 hz0 hz1 hz2 rfl (by omega) (.slice A m cc) m _ rfl ((S3.out.row.alloc _).alloc _) (w3.heap.size+1+1) (some ⟨w3.heap.size+1,0,none⟩) 1 1 T.cells rfl (by have:=reads_five (w3.alloc (.cells T.cells.toArray 157)) 157 (.string T.nm) (.int .i64 T.op) (.string T.ver) (.string T.qual) (.slice T.aa T.archs.length T.ac);simpa [TrmM.cells] using this) (by simp[Value.oneCell',TrmM.cells]) (by simp only[maxLen];omega) (by omega) (by simp;have:=S3.out.kt.size;omega) ?_;intro v1 w4 o1 g1 a1)
     obtain⟨A4,c4,rfl⟩:=owns_form o1
     have S4:=hid (S3.out.grow (T:=T) HTO.out o1 g1)
     clear o1 g1 a1 c2 S3
     cases hb:head0 124 ((bl s).drop p') with
     | true=>
      have HB:=hid hb
      have EN:Hid (GR=dGroupT (f2-1+1) ((ts++[T]).map TrmM.pl) (skipL ((bl s).drop (p'+1)))):=by
       have hf:=HF2.out;have h2:=HRL.out
       show _=_
       rw[HGE.out,dGroupT_more HTM.out (by rw[←HDR.out];exact hb),←HDR.out,List.drop_drop,List.map_append,show f2-1+1=f2 by omega];simp[HTP.out]
      have HF3:Hid ((skipL ((bl s).drop (p'+1))).length≤f2-1):=by
       have h1:=HF2.out;have h2:=HRL.out;have h3:=HDR.out
       have h4:=skipL_le ((bl s).drop (p'+1))
       have h5:((bl s).drop p').length=r.length:=by rw[h3]
       rw[List.length_drop] at h4 h5
       show _≤_;omega
      have HH2:Hid (hs2.length≤p'+1):=by have:=HHN.out;show _≤_;omega
      have hmk2:m+1≤p'+1:=by have:=HKP.out;omega
      have hk02:k0≤p'+1:=by have:=HKP.out;omega
      clear hb
      go_wp2_with fail
      refine(r14_take 124 a s p' false ps2 gs hs2 w4 hz S4.out.rs true HB).mono ?_;rintro e w5 ⟨rfl,h1,q1⟩
      have S5:Hid (GT wo w5 a s (p'+1) ps2 gs hs2 (ts++[T]) A4 (m+1) c4):=S4.out.step q1 h1
      clear h1 q1
      have hp1s:p'+1≤s.size:=S5.out.rs.le
      go_wp2_with fail
      go_roundw
      case rel=>exact⟨p'+1,f2-1,m+1,c4,ps2,hs2,ts++[T],A4,rfl,hp1s,hk02,hmk2,S5,EN,HF3,HH2,HLN,C3⟩
      case measure=>exact RS.dec S5.out.rs HS.out.rs (by have:=HKP.out;omega)
     | false=>
      have HB:=hid hb
      have EG:Hid (GR=some ((ts++[T]).map TrmM.pl,(bl s).drop p')):=by
       show _=_
       rw[HGE.out,dGroupT_end HTM.out (by rw[←HDR.out];exact hb),List.map_append,HDR.out];simp[HTP.out]
      have HGS:Hid (dGroup ((skipL ((bl s).drop k0)).length+1) (skipL ((bl s).drop k0))=some ((ts++[T]).map TrmM.pl,(bl s).drop p')):=by show _=_;rw[HGR.out,EG.out]
      have HRL2:Hid (((bl s).drop p').length≤(skipL ((bl s).drop k0)).length):=(dGroup_shape _ _ _ _ HGS.out).2.2
      clear hb
      go_wp2_with fail
      refine(r14_take 124 a s p' false ps2 gs hs2 w4 hz S4.out.rs false HB).mono ?_;rintro e w5 ⟨rfl,h1,q1⟩
      have S5:Hid (GT wo w5 a s p' ps2 gs hs2 (ts++[T]) A4 (m+1) c4):=S4.out.step q1 h1
      clear h1 q1
      have GOW:Hid (GrpM.own ⟨A4,c4,ts++[T]⟩ w5 (a+1)):=by
       have hl:=S5.out.len
       refine⟨?_,fun t ht=>(S5.out.archs t ht).base (lo':=a+1) S5.out.lt⟩
       have:=owns_base S5.out.row (base':=a+1) S5.out.lt
       rw[←hl] at this
       exact this
      have GSL:Hid (GrpM.sl ⟨A4,c4,ts++[T]⟩=.slice A4 (m+1) c4):=by have hl:=S5.out.len;show _=_;unfold GrpM.sl;simp only[hl]
      have K5:=hid (K0.out.trans S5.out.kt)
      have N5:Hid (hs2.length=sumL ((gs++[(⟨A4,c4,ts++[T]⟩:GrpM)]).map GrpM.pl)):=by
       have h1:=HLN.out;have h2:=S5.out.len
       show _=_;rw[List.map_append,List.map_cons,List.map_nil,sumL_snoc,h1];unfold GrpM.pl;rw[List.length_map];simp only[h2]
      have C5:Hid (ps2.all prtB=true↔((gs++[(⟨A4,c4,ts++[T]⟩:GrpM)]).map GrpM.pl).all (fun g=>g.all Trm.right)=true):=by
       exact C3.out.trans (all_grp gs ⟨A4,c4,ts++[T]⟩).symm
      obtain⟨PA,LA,HA,pc,lc,hc,b1,b2,b3,b4⟩:=S5.out.rs.blk
      have B1:=hid b1;have B2:=hid b2;have B3:=hid b3;have B4:=hid b4
      obtain⟨c0',c1',c2',c3',c4x,c5',f1',f2',f3',f4x,f5'⟩:=b1.rsc
      clear b1 b2 b3 b4 c0' c1' c2' c3' c5' f1' f2' f3' f5'
      have hgl2:gs.length<p':=by have:=HKP.out;omega
      have NA:Hid (some a≠(Value.slice LA gs.length lc).ownBlock):=by intro e;have:=(B3.out.lt a e.symm).1;omega
      have haz5:a<w5.heap.size:=S5.out.rs.sz
      have hglz:gs.length≤4294967280:=by omega
      have naz5:¬ a=w5.heap.size:=by omega
      have HGL2:=hid hgl2
      obtain⟨gn,hgn⟩:∃ gn,gs.length=gn:=⟨_,rfl⟩
      rw[hgn] at c4x B1 B3 NA hglz
      have HGN:=hid hgn
      clear hgn hgl2 hgl S4
      go_upto_region 9 with(at_builtin;refine wpList_append_any _ rfl _ _ _ rfl (a+1) 155 j0 _ 1 24 Tryz.underlying115 hj0 hy0 hy1 hy2 rfl (by omega) (.slice LA gn lc) gn _ rfl (B3.out.alloc _) (w5.heap.size+1) (some ⟨w5.heap.size,0,none⟩) 1 1 [.slice A4 (m+1) c4] rfl (reads_str w5 _ _) (by simp[Value.oneCell']) (by simp only[maxLen];omega) (by omega) (by simp;omega) ?_;intro v1 w6 o1 g1 a1;obtain⟨A6,c6,rfl⟩:=owns_form o1;have zz4:w6.cell? ⟨a,4,none⟩=some (.slice LA gn lc):=g1.cell (a:=⟨a,4,none⟩) ((World.cell?_alloc_lt w5 _ ⟨a,4,none⟩ haz5).trans c4x) NA.out;have yy4:w6.frozen? ⟨a,4,none⟩=false:=(World.frozen?_of_block (a:=⟨a,4,none⟩) (g1.block a (by simp;omega) NA.out)).trans (((bR.alloc lr _).frozen (p:=⟨a,4,none⟩) haz5).trans f4x))
      obtain rfl:gs.length=gn:=HGN.out
      have MM:=RS.group (G:=⟨A4,c4,ts++[T]⟩) B1.out B2.out B3.out B4.out S5.out.rs GOW.out HGL2.out (by rw[GSL.out];exact o1) g1
      have R6:=hid MM.1
      have K6:=hid (K5.out.trans MM.2)
      clear MM o1 g1 a1 zz4 yy4 c4x f4x B1 B2 B3 B4 S5
      cases hb:head0 44 ((bl s).drop p') with
      | true=>
       have HB2:=hid hb
       have EN:Hid (RR=dGroupsT (f-1+1) ((gs++[(⟨A4,c4,ts++[T]⟩:GrpM)]).map GrpM.pl) (skipL ((bl s).drop (p'+1)))):=by
        have hf:=HF.out;have h2:=HRL2.out
        have h6:0<((bl s).drop p').length:=by rw[head0_yes hb];simp
        show _=_
        rw[HE.out,dGroupsT_more HGS.out hb,List.drop_drop,map_grp,show f-1+1=f by omega];rfl
       have HF3:Hid ((skipL ((bl s).drop (p'+1))).length≤f-1):=by
        have h1:=HF.out;have h2:=HRL2.out
        have h4:=skipL_le ((bl s).drop (p'+1))
        have h6:0<((bl s).drop p').length:=by rw[head0_yes hb];simp
        rw[List.length_drop] at h4 h2 h6
        show _≤_;omega
       have HH2:Hid (hs2.length≤p'+1):=by have:=HHN.out;show _≤_;omega
       have hgl3:(gs++[(⟨A4,c4,ts++[T]⟩:GrpM)]).length≤p'+1:=by have:=HGL2.out;simp;omega
       clear hb
       go_wp2_with fail
       refine(r14_take 44 a s p' false _ _ _ _ hz R6.out true HB2).mono ?_;rintro e w7 ⟨rfl,h1,q1⟩
       have R7:Hid (RS w7 a s (p'+1) false ps2 (gs++[(⟨A4,c4,ts++[T]⟩:GrpM)]) hs2):=h1
       have K7:=hid (K6.out.trans q1);clear h1 q1
       have hp1s:p'+1≤s.size:=R7.out.le
       go_wp2_with fail
       go_roundw
       case rel=>exact⟨p'+1,f-1,ps2,_,hs2,hp1s,hgl3,R7,K7,EN,HF3,HH2,N5,C5⟩
       case measure=>exact RS.dec R7.out R0.out (by have:=HKP.out;omega)
      | false=>
       have HB2:=hid hb
       clear hb
       go_wp2_with fail
       refine(r14_take 44 a s p' false _ _ _ _ hz R6.out false HB2).mono ?_;rintro e w7 ⟨rfl,h1,q1⟩
       have R7:Hid (RS w7 a s p' false ps2 (gs++[(⟨A4,c4,ts++[T]⟩:GrpM)]) hs2):=h1
       have K7:=hid (K6.out.trans q1);clear h1 q1
       by_cases hpe:p'<s.size
       ·have EN:Hid (RR=none):=by
         show _=_;rw[HE.out];exact dGroupsT_bad HGS.out (by rw[drop_cons s p' hpe];rfl) HB2.out
        go_wp2_with fail
        refine(r14_has_is a s p' false _ _ _ _ hz R7.out true (dT hpe)).mono ?_;rintro e w8 ⟨rfl,h1,q1⟩
        have R8:=hid h1;have K8:=hid (K7.out.trans q1);clear h1 q1
        obtain⟨v3,v4,v5,kk⟩:=R8.out.cells
        have c2:=kk.c2
        have f2x:=kk.f2
        clear kk
        go_wp2_with fail
        go_end0
        exact FieldPost14.no EN.out (K8.out.trans (R8.out.kt _)) (R8.out.fail true)
       ·have EN:Hid (RR=some ((gs++[(⟨A4,c4,ts++[T]⟩:GrpM)]).map GrpM.pl)):=by
         show _=_
         have h1:=HGS.out
         rw[drop_end s p' hpe] at h1
         rw[HE.out,dGroupsT_end h1,map_grp];rfl
        go_wp2_with fail
        refine(r14_has_is a s p' false _ _ _ _ hz R7.out false (dF hpe)).mono ?_;rintro e w8 ⟨rfl,h1,q1⟩
        have R8:=hid h1;have K8:=hid (K7.out.trans q1);clear h1 q1
        go_wp2_with fail
        go_end0
        exact FieldPost14.yes EN.out K8.out R8.out C5.out N5.out
 ·have EN:Hid (RR=some (([]:List GrpM).map GrpM.pl)):=by
   show _=_;rw[←HRR.out];unfold dForm;rw[SK.out,drop_end s q hqe];rfl
  go_wp2_with fail
  refine(r14_has_is a s q false [] [] [] w1 hz R1.out false (dF hqe)).mono ?_;rintro e w2 ⟨rfl,h1,k1⟩
  have R2:=hid h1;have K2:=hid (K1.out.trans k1);clear h1 k1
  go_wp2_with fail
  go_end0
  exact FieldPost14.yes EN.out K2.out R2.out (by simp) rfl
end
end Go.Proofs.YtdfdllbebfoggaaGreatDoor
