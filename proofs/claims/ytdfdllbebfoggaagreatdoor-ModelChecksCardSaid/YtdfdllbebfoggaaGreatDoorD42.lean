/- A part of the proof that ModelChecks holds. No condition. -/
import Derived.Test.YtdfdllbebfoggaaGreatDoorD41
set_option maxRecDepth 100000
set_option maxHeartbeats 20000000
set_option linter.unusedVariables false
set_option linter.unusedSimpArgs false
namespace Go.Proofs.YtdfdllbebfoggaaGreatDoor
section
open Go.RowKit Go.Deep
theorem prtB_1 (p:Nat)(t:LU):prtB ⟨1,p,mkB t⟩=dnameB t:=by simp[prtB,bl_of]
theorem prtB_2 (p:Nat)(t:LU):prtB ⟨2,p,mkB t⟩=dwordB t:=by simp[prtB,bl_of]
theorem prtB_3 (p:Nat)(t:LU):prtB ⟨3,p,mkB t⟩=decide (verE 1 (mkB t)=0):=by simp[prtB]
theorem all_snoc (l:List Prt)(x:Prt):(l++[x]).all prtB=true↔l.all prtB=true∧prtB x=true:=by simp
theorem mid_no {s:BA}{k:Nat}(h:¬ k<s.size):midB ((bl s).drop k)=false:=by rw[drop_end s k h];rfl
theorem mid_at {s:BA}{k:Nat}(h:k<s.size):midB ((bl s).drop k)=(!(s[k]==32) && !(s[k]==93)):=by unfold midB;rw[head_at s k 32 h,head_at s k 93 h,drop_cons s k h];rfl
theorem skip_not {r:LU}(h:head0 32 r=false):skipL r=r:=by
 have h1:=blank_head r
 rw[h] at h1
 unfold skipL
 rw[show runN blankB r=0 from by simpa using h1];rfl
theorem arch_mid {f:Nat}{acc:List (LU)}{l x r:LU}(h:dArch1 l=some (x,r))(hm:midB r=true):dArchsT (f+1) acc l=none:=by
 unfold midB at hm
 simp only[Bool.and_eq_true,Bool.not_eq_true'] at hm
 exact dArchsT_bad h (by rw[skip_not hm.1.2];exact hm.2) hm.1.2
theorem arch_on {f:Nat}{acc:List (LU)}{l x r:LU}(h:dArch1 l=some (x,r))(hm:midB r=false)(h93:head0 93 (skipL r)=false)(hf:1≤f):dArchsT (f+1) acc l=dArchsT f (acc++[x]) (skipL r):=by
 cases h32:head0 32 r with
 | true=>exact dArchsT_more h h93 h32
 | false=>
  rw[dArchsT_bad h h93 h32]
  rw[skip_not h32] at h93 ⊢
  have:r=[]:=by
   unfold midB at hm;rw[h32,h93] at hm
   cases r with
   | nil=>rfl
   | cons a t=>simp at hm
  subst this
  obtain⟨g,rfl⟩:∃ g,f=g+1:=⟨f-1,by omega⟩
  exact(dArchsT_none rfl).symm
theorem r14_term (a:Nat)(s:BA)(p:Nat)(ps:List Prt)(gs:List GrpM)(hs:List Int)(w:World)(hz:s.size≤4294967280)(h:RS w a s p false ps gs hs)(hh:hs.length≤p):
  Calls Tryz.prog 252 #[.pointer (some ⟨a,0,none⟩)] w (TermPost14 (dTerm ((bl s).drop p)) a s p ps gs hs w):=by
 obtain⟨i0,hi0,hz0,hz1,hz2⟩:=info_parts info_int14
 obtain⟨j0,hj0,hy0,hy1,hy2⟩:=info_parts info_str
 have T0:Hid (RT w ((w.alloc (.cells #[.string ⟨#[]⟩,.int .i64 0,.string ⟨#[]⟩,.string ⟨#[]⟩,.slice none 0 0] 157)).alloc (.cells #[.string ⟨#[]⟩,.int .i64 0,.string ⟨#[]⟩,.string ⟨#[]⟩,.slice none 0 0] 157)) a s p false ps gs hs tZeros):=RT.start h
 have hsz0:=h.sz
 have naw1:¬ w.heap.size+1=a:=by omega
 have naw2:¬ a=w.heap.size+1:=by omega
 have naw3:¬ w.heap.size=a:=by omega
 have naw4:¬ a=w.heap.size:=by omega
 clear hsz0
 have hps:=h.le
 have hhz:hs.length≤4294967280:=by omega
 clear h
 generalize hRR:dTerm ((bl s).drop p)=RR
 have HRR:=hid hRR
 clear hRR
 go_enter Tryz.func252,Tryz.ntmps252
 go_upto_region 2 with(fail)
 generalize (w.alloc (.cells #[.string ⟨#[]⟩,.int .i64 0,.string ⟨#[]⟩,.string ⟨#[]⟩,.slice none 0 0] 157)).alloc (.cells #[.string ⟨#[]⟩,.int .i64 0,.string ⟨#[]⟩,.string ⟨#[]⟩,.slice none 0 0] 157)=W0 at T0 ⊢
 go_cut [] (fun wx=>Hid (RT w wx a s p false ps gs (hs++[(p:Int)]) tZeros))
 case first=>
  obtain⟨PA,LA,HA,pc,lc,hc,k1,k2,k3,k4⟩:=T0.out.rs.blk
  have B1:=hid k1;have B2:=hid k2;have B3:=hid k3;have B4:=hid k4
  obtain⟨c0,c1,c2,c3,c4,c5,f1,f2,f3,f4,f5⟩:=k1.rsc
  clear k1 k2 k3 k4 c0 c2 c3 c4 f1 f2 f3 f4
  have NA:Hid (some a≠(Value.slice HA hs.length hc).ownBlock):=by intro e;have:=(B4.out.lt a e.symm).1;omega
  have haz:a<W0.heap.size:=T0.out.rs.sz
  have HH:=hid hh
  clear hh
  generalize hpl:hs.length=hn at *
  have HPN:=hid hpl
  clear hpl
  go_wp2_with fail
  have hn3:¬ a=W0.heap.size:=by omega
  go_region_law
   ((refine step_append_any _ (by rfl) _ _ _ (by rfl) (a+1) 3 i0 _ 1 8 Tryz.underlying240 hi0 hz0 hz1 hz2 rfl (by omega) (.slice HA hn hc) hn _ (by rfl) ((B4.out.alloc _).drew)
      (W0.heap.size+1) (some ⟨W0.heap.size,0,none⟩) 1 1 [.int .i64 p] (by rfl) (reads_one14 W0 _ _) (by simp[Value.oneCell']) (by unfold maxLen;omega) (by omega) (by simp;omega) ?_
     intro v1 w2 o2 g2 a2
     obtain⟨A1,c1',rfl⟩:=owns_form o2
     have BB:=(B1.out.belowW (below_drewN (bR.alloc lr (.cells #[.int .i64 p] 3)) 1)).grownBy g2 NA.out
     have d1:=BB.rsc.c1
     have d5:=BB.rsc.c5
     have g5:=BB.rsc.f5))
  all_goals
   obtain rfl:hs.length=hn:=HPN.out
   have MM:=RS.head (x:=(p:Int)) B1.out B2.out B3.out B4.out T0.out.rs HH.out o2 g2
   have MR:=hid (T0.out.step MM.2 MM.1)
   clear MM o2 g2 a2 BB
   go_wp2_with fail
   go_meet
   exact MR
 case rest=>
 have T1:=hcut
 clear T0
 go_wp2_with fail
 refine(r14_part_1 a s p ps gs (hs++[(p:Int)]) wc hz T1.out.rs).mono ?_;rintro e w1 ⟨hk,hpost⟩
 cases ht:tok nendN ((bl s).drop p) with
 | none=>
  rw[ht] at hpost
  obtain⟨rfl,hr⟩:=hpost
  have EN:Hid (RR=none):=by show _=_;rw[←HRR.out];exact dTerm0 ht
  have T2:=hid (T1.out.step hk hr)
  clear hk hr ht T1
  obtain⟨v3,v4,v5,k⟩:=T2.out.rs.cells
  have c2:=k.c2
  clear k
  unfold tZeros at T2
  obtain⟨z0,z1,z2,z3,z4,y0,y1,y2,y3,y4⟩:=T2.out.tb.blk.five
  obtain⟨x0,x1,x2,x3,x4,g0,g1,g2,g3,g4⟩:=T2.out.rb.blk.five
  go_wp2_with fail
  refine bodyPost_ret (v:=.agg #[.string ⟨#[]⟩,.int .i64 0,.string ⟨#[]⟩,.string ⟨#[]⟩,.slice none 0 0]) (by simp(maxDischargeDepth:=6) [results,Tryz.results252,go_sem,x0,x1,x2,x3,x4]) rfl ?_
  have T3:=hid (T2.out.set 0 (.string ⟨#[]⟩))
  have TZ:=T3.out.done (.string ⟨#[]⟩) (.int .i64 0) (.string ⟨#[]⟩) (.string ⟨#[]⟩) (.slice none 0 0)
  exact TermPost14.no (T:=⟨⟨#[]⟩,0,⟨#[]⟩,⟨#[]⟩,none,0,[]⟩) EN.out TZ.2 TZ.1 rfl
 | some x=>
 obtain⟨nm,r⟩:=x
 rw[ht] at hpost
 obtain⟨rfl,hr⟩:=hpost
 have HT0:=hid ht
 obtain⟨t1,t2,t3,t4⟩:=tok_place hps ht
 obtain⟨p1,hp1⟩:∃ p1,p+nm.length=p1:=⟨_,rfl⟩
 rw[hp1] at hr t2 t4
 have PP:Hid (p<p1):=by show _<_;omega
 have DR1:Hid ((bl s).drop p1=r):=t2
 have T2:=hid (T1.out.step hk hr)
 have T3:=hid (T2.out.set 0 (.string (mkB nm)))
 unfold tZeros at T2 T3
 simp only[List.set] at T3
 obtain⟨v3,v4,v5,k⟩:=T2.out.rs.cells
 have c2:=k.c2
 clear k hk hr ht t1 t2 t3 t4 hp1 T1
 obtain⟨z0,z1,z2,z3,z4,y0,y1,y2,y3,y4⟩:=T2.out.tb.blk.five
 obtain⟨b,hb⟩:∃ b,head0 58 ((bl s).drop p1)=b:=⟨_,rfl⟩
 have HB:=hid hb
 clear hb z1 z2 z3 z4 y1 y2 y3 y4 T2
 go_wp2_with fail
 refine(r14_take 58 a s p1 false _ gs _ _ hz T3.out.rs b HB).mono ?_;rintro e w3 ⟨rfl,h1,k1⟩
 have T4:=hid (T3.out.step k1 h1);clear h1 k1 T3 c2 z0 y0
 go_upto_if 30 with(fail)
 go_cut [] (fun wx=>∃ (Q:BA) (p3:Nat) (n3:List Prt),Hid (RT w wx a s p3 false (ps++n3) gs (hs++[(p:Int)]) [.string (mkB nm),.int .i64 0,.string ⟨#[]⟩,.string Q,.slice none 0 0])∧Hid (dQual r=some (bl Q,(bl s).drop p3))∧Hid (p1≤p3)∧Hid (n3.all prtB=true↔dnameB nm=true∧(bl Q=[]∨dwordB (bl Q)=true)))
 case first=>
  cases b with
  | false=>
   have EQ:Hid (dQual r=some (bl ⟨#[]⟩,(bl s).drop p1)):=by show _=_;rw[DR1.out];exact dQual_no (by rw[←DR1.out];exact HB.out)
   go_wp2_with fail
   go_meet
   exact⟨⟨#[]⟩,p1,[⟨1,p,mkB nm⟩],T4.out,EQ,lr,by show _↔_;simp only[List.all_cons,List.all_nil,Bool.and_true,prtB_1];exact⟨fun h=>⟨h,.inl rfl⟩,fun h=>h.1⟩⟩
  | true=>
   go_wp2_with fail
   refine(r14_part_2 a s (p1+1) _ gs _ _ hz T4.out.rs).mono ?_;rintro e w4 ⟨hk,hpost⟩
   cases ht:tok nendW ((bl s).drop (p1+1)) with
   | none=>
    rw[ht] at hpost
    obtain⟨rfl,hr⟩:=hpost
    have EN:Hid (RR=none):=by show _=_;rw[←HRR.out];exact dTerm1 HT0.out (by rw[dQual_yes (by rw[←DR1.out];exact HB.out),←DR1.out,List.drop_drop];exact ht)
    have T5:=hid (T4.out.step hk hr)
    clear hk hr ht T4
    obtain⟨v3,v4,v5,k⟩:=T5.out.rs.cells
    have c2:=k.c2
    clear k
    obtain⟨z0,z1,z2,z3,z4,y0,y1,y2,y3,y4⟩:=T5.out.tb.blk.five
    obtain⟨x0,x1,x2,x3,x4,g0,g1,g2,g3,g4⟩:=T5.out.rb.blk.five
    go_wp2_with fail
    refine bodyPost_ret (v:=.agg #[.string (mkB nm),.int .i64 0,.string ⟨#[]⟩,.string ⟨#[]⟩,.slice none 0 0]) (by simp(maxDischargeDepth:=6) [results,Tryz.results252,go_sem,x0,x1,x2,x3,x4]) rfl ?_
    have T6:=hid (T5.out.set 3 (.string ⟨#[]⟩))
    have TZ:=T6.out.done (.string (mkB nm)) (.int .i64 0) (.string ⟨#[]⟩) (.string ⟨#[]⟩) (.slice none 0 0)
    exact TermPost14.no (T:=⟨mkB nm,0,⟨#[]⟩,⟨#[]⟩,none,0,[]⟩) EN.out TZ.2 TZ.1 rfl
   | some x=>
    obtain⟨q,r1⟩:=x
    rw[ht] at hpost
    obtain⟨rfl,hr⟩:=hpost
    have hp2:=T4.out.rs.le
    obtain⟨t1,t2,t3,t4⟩:=tok_place (p:=p1+1) hp2 ht
    have EQ:Hid (dQual r=some (bl (mkB q),(bl s).drop (p1+1+q.length))):=by show _=_;rw[dQual_yes (by rw[←DR1.out];exact HB.out),←DR1.out,List.drop_drop,bl_of,t2];exact ht
    have Q0:Hid (q≠[]):=by intro e;rw[e] at t3;simp at t3
    have T5:=hid (T4.out.step hk hr)
    clear hk hr ht t1 t2 t3 t4 hp2 T4
    obtain⟨v3,v4,v5,k⟩:=T5.out.rs.cells
    have c2:=k.c2
    clear k
    obtain⟨z0,z1,z2,z3,z4,y0,y1,y2,y3,y4⟩:=T5.out.tb.blk.five
    go_wp2_with fail
    go_meet
    have T6:=T5.out.set 3 (.string (mkB q))
    rw[List.append_assoc] at T6
    refine⟨mkB q,p1+1+q.length,_,T6,EQ,(by show _≤_;omega),?_⟩
    have h2:=Q0.out
    show _↔_
    rw[all_snoc,prtB_2,bl_of]
    simp only[List.all_cons,List.all_nil,Bool.and_true,prtB_1]
    exact⟨fun h=>⟨h.1,.inr h.2⟩,fun h=>⟨h.1,h.2.resolve_left h2⟩⟩
 case rest=>
 obtain⟨Q,p3,n3,T7,EQ,P3,C3⟩:=hcut
 clear T4 HB
 obtain⟨p4,hp4⟩:∃ p4,p3+runN blankB ((bl s).drop p3)=p4:=⟨_,rfl⟩
 have SK4:Hid (skipL ((bl s).drop p3)=(bl s).drop p4):=by show _=_;rw[skip_at,hp4]
 have P4:Hid (p1≤p4):=by have:=P3.out;show _≤_;omega
 have hB4:=r14_blanks a s p3 false _ gs _ wc hz T7.out.rs
 rw[hp4] at hB4
 clear hp4
 obtain⟨b,hb⟩:∃ b,head0 40 ((bl s).drop p4)=b:=⟨_,rfl⟩
 have HB:=hid hb
 clear hb
 go_wp2_with fail
 refine hB4.mono ?_;rintro e w7 ⟨rfl,h1,k1⟩
 have T8:=hid (T7.out.step k1 h1);clear h1 k1 hB4 T7
 go_wp2_with fail
 refine(r14_take 40 a s p4 false _ gs _ _ hz T8.out.rs b HB).mono ?_;rintro e w8 ⟨rfl,h1,k1⟩
 have T9:=hid (T8.out.step k1 h1);clear h1 k1 T8
 go_upto_if 42 with(fail)
 go_cut [] (fun wx=>∃ (op:Nat) (V:BA) (p5:Nat) (n5:List Prt),Hid (RT w wx a s p5 false (ps++n5) gs (hs++[(p:Int)]) [.string (mkB nm),.int .i64 op,.string V,.string Q,.slice none 0 0])∧Hid (dRelO ((bl s).drop p4)=some (op,bl V,(bl s).drop p5))∧Hid (p4≤p5)∧Hid (n5.all prtB=true↔n3.all prtB=true∧(op=0∨verE 1 V=0)))
 case first=>
  cases b with
  | false=>
   have ER:Hid (dRelO ((bl s).drop p4)=some (0,bl ⟨#[]⟩,(bl s).drop p4)):=dRelO_no HB.out
   go_wp2_with fail
   go_meet
   exact⟨0,⟨#[]⟩,p4,n3,T9.out,ER,lr,by simp[Hid]⟩
  | true=>
   have ER:Hid (dRelO ((bl s).drop p4)=dRel ((bl s).drop (p4+1))):=by show _=_;rw[dRelO_yes HB.out,List.drop_drop]
   obtain⟨q1,hq1⟩:∃ q1,p4+1+runN blankB ((bl s).drop (p4+1))=q1:=⟨_,rfl⟩
   have hBa:=r14_blanks a s (p4+1) false _ gs _ _ hz T9.out.rs
   rw[hq1] at hBa
   have SKa:Hid (skipL ((bl s).drop (p4+1))=(bl s).drop q1):=by show _=_;rw[skip_at,hq1]
   have Q1:Hid (p4≤q1):=by show _≤_;omega
   clear hq1
   go_wp2_with fail
   refine hBa.mono ?_;rintro e w9 ⟨rfl,h1,k1⟩
   have T10:=hid (T9.out.step k1 h1);clear h1 k1 hBa T9
   go_wp2_with fail
   refine(r14_op a s q1 false _ gs _ _ hz T10.out.rs).mono ?_;rintro e w10 ⟨op,q2,rfl,h1,k1,hq2,hop⟩
   have T11:=hid (T10.out.step k1 h1);clear h1 k1 T10
   have DV:Hid (dRel ((bl s).drop (p4+1))=dRelV op ((bl s).drop q2)):=by show _=_;unfold dRel;rw[SKa.out,hop]
   have HOP:Hid (op≤5):=by have:=dOp_le ((bl s).drop q1);rw[hop] at this;exact this
   have Q2:Hid (p4≤q2):=by have:=Q1.out;show _≤_;omega
   clear hop hq2
   obtain⟨z0,z1,z2,z3,z4,y0,y1,y2,y3,y4⟩:=T11.out.tb.blk.five
   have T12:Hid (RT w (w10.setCell ⟨w.heap.size+1,1,none⟩ (.int .i64 op)) a s q2 false (ps++n3) gs (hs++[(p:Int)]) [.string (mkB nm),.int .i64 op,.string ⟨#[]⟩,.string Q,.slice none 0 0]):=T11.out.set 1 (.int .i64 op)
   by_cases op0:op=0
   ·subst op0
    have EN:Hid (RR=none):=by show _=_;rw[←HRR.out];exact dTerm2 HT0.out EQ.out (by rw[SK4.out,ER.out,DV.out];unfold dRelV;rfl)
    obtain⟨v3,v4,v5,k⟩:=T11.out.rs.cells
    have c2:=k.c2
    have f2:=k.f2
    clear k
    have T13:=hid (T12.out.step (T12.out.rs.kt (j:=2) (.bool true)) (T12.out.rs.fail true))
    obtain⟨x0,x1,x2,x3,x4,g0,g1,g2,g3,g4⟩:=T11.out.rb.blk.five
    go_wp2_with fail
    refine bodyPost_ret (v:=.agg #[.string (mkB nm),.int .i64 0,.string ⟨#[]⟩,.string Q,.slice none 0 0]) (by simp(maxDischargeDepth:=6) [results,Tryz.results252,go_sem,x0,x1,x2,x3,x4]) rfl ?_
    have TZ:=T13.out.done (.string (mkB nm)) (.int .i64 0) (.string ⟨#[]⟩) (.string Q) (.slice none 0 0)
    exact TermPost14.no (T:=⟨mkB nm,0,⟨#[]⟩,Q,none,0,[]⟩) EN.out TZ.2 TZ.1 rfl
   ·have o1:((op:Int)==0)=false:=by simp;omega
    obtain⟨q3,hq3⟩:∃ q3,q2+runN blankB ((bl s).drop q2)=q3:=⟨_,rfl⟩
    have hBb:=r14_blanks a s q2 false _ gs _ _ hz T12.out.rs
    rw[hq3] at hBb
    have SKb:Hid (skipL ((bl s).drop q2)=(bl s).drop q3):=by show _=_;rw[skip_at,hq3]
    have Q3:Hid (p4≤q3):=by have:=Q2.out;show _≤_;omega
    have OP0:=HidN.mk op0
    clear hq3 op0
    go_wp2_with fail
    refine hBb.mono ?_;rintro e w11 ⟨rfl,h1,k1⟩
    have T13:=hid (T12.out.step k1 h1);clear h1 k1 hBb T12 T11 z0 z1 z2 z3 z4 y0 y1 y2 y3 y4 o1
    go_wp2_with fail
    refine(r14_part_3 a s q3 _ gs _ _ hz T13.out.rs).mono ?_;rintro e w12 ⟨hk,hpost⟩
    cases ht:tok nendV ((bl s).drop q3) with
    | none=>
     rw[ht] at hpost
     obtain⟨rfl,hr⟩:=hpost
     have EN:Hid (RR=none):=by show _=_;rw[←HRR.out];exact dTerm2 HT0.out EQ.out (by rw[SK4.out,ER.out,DV.out];exact relV_none (by rw[SKb.out];exact ht))
     have T14:=hid (T13.out.step hk hr)
     clear hk hr ht T13
     obtain⟨v3,v4,v5,k⟩:=T14.out.rs.cells
     have c2:=k.c2
     clear k
     obtain⟨z0,z1,z2,z3,z4,y0,y1,y2,y3,y4⟩:=T14.out.tb.blk.five
     obtain⟨x0,x1,x2,x3,x4,g0,g1,g2,g3,g4⟩:=T14.out.rb.blk.five
     go_wp2_with fail
     refine bodyPost_ret (v:=.agg #[.string (mkB nm),.int .i64 op,.string ⟨#[]⟩,.string Q,.slice none 0 0]) (by simp(maxDischargeDepth:=6) [results,Tryz.results252,go_sem,x0,x1,x2,x3,x4]) rfl ?_
     have T15:=hid (T14.out.set 2 (.string ⟨#[]⟩))
     have TZ:=T15.out.done (.string (mkB nm)) (.int .i64 op) (.string ⟨#[]⟩) (.string Q) (.slice none 0 0)
     exact TermPost14.no (T:=⟨mkB nm,op,⟨#[]⟩,Q,none,0,[]⟩) EN.out TZ.2 TZ.1 rfl
    | some x=>
     obtain⟨v,r2⟩:=x
     rw[ht] at hpost
     obtain⟨rfl,hr⟩:=hpost
     obtain⟨t1,t2,t3,t4⟩:=tok_place T13.out.rs.le ht
     have EV:Hid (dRel ((bl s).drop (p4+1))=dRelE op v r2):=by show _=_;rw[DV.out];exact relV_some OP0.out (by rw[SKb.out];exact ht)
     obtain⟨q4,hq4⟩:∃ q4,q3+v.length+runN blankB ((bl s).drop (q3+v.length))=q4:=⟨_,rfl⟩
     have SKc:Hid (skipL r2=(bl s).drop q4):=by show _=_;rw[←t2,skip_at,hq4]
     have Q4:Hid (p4≤q4):=by have:=Q3.out;show _≤_;omega
     have T14:=hid (T13.out.step hk hr)
     have T15:Hid (RT w (w12.setCell ⟨w.heap.size+1,2,none⟩ (.string (mkB v))) a s (q3+v.length) false (ps++(n3++[⟨3,q3,mkB v⟩])) gs (hs++[(p:Int)]) [.string (mkB nm),.int .i64 op,.string (mkB v),.string Q,.slice none 0 0]):=by
      have:=T14.out.set 2 (.string (mkB v));rw[List.append_assoc] at this;exact this
     obtain⟨v3,v4,v5,k⟩:=T14.out.rs.cells
     have c2:=k.c2
     clear k hk hr ht t1 t2 t3 t4 T13
     obtain⟨z0,z1,z2,z3,z4,y0,y1,y2,y3,y4⟩:=T14.out.tb.blk.five
     have hBc:=r14_blanks a s (q3+v.length) false _ gs _ _ hz T15.out.rs
     rw[hq4] at hBc
     obtain⟨b2,hb2⟩:∃ b2,head0 41 ((bl s).drop q4)=b2:=⟨_,rfl⟩
     have HB2:=hid hb2
     clear hq4 hb2
     go_wp2_with fail
     refine hBc.mono ?_;rintro e w13 ⟨rfl,h1,k1⟩
     have T16:=hid (T15.out.step k1 h1);clear h1 k1 hBc T15 T14 z0 z1 z2 z3 z4 y0 y1 y2 y3 y4 c2
     go_wp2_with fail
     refine(r14_take 41 a s q4 false _ gs _ _ hz T16.out.rs b2 HB2).mono ?_;rintro e w14 ⟨rfl,h1,k1⟩
     have T17:=hid (T16.out.step k1 h1);clear h1 k1 T16
     cases b2 with
     | false=>
      have EN:Hid (RR=none):=by show _=_;rw[←HRR.out];exact dTerm2 HT0.out EQ.out (by rw[SK4.out,ER.out,EV.out];exact relE_no (by rw[SKc.out];exact HB2.out))
      obtain⟨v3,v4,v5,k⟩:=T17.out.rs.cells
      have c2:=k.c2
      have f2:=k.f2
      clear k
      have T18:=hid (T17.out.step (T17.out.rs.kt (j:=2) (.bool true)) (T17.out.rs.fail true))
      obtain⟨x0,x1,x2,x3,x4,g0,g1,g2,g3,g4⟩:=T18.out.rb.blk.five
      obtain⟨zz0,zz1,zz2,zz3,zz4,yy0,yy1,yy2,yy3,yy4⟩:=T18.out.tb.blk.five
      go_wp2_with fail
      refine bodyPost_ret (v:=.agg #[.string (mkB nm),.int .i64 op,.string (mkB v),.string Q,.slice none 0 0]) (by simp(maxDischargeDepth:=6) [results,Tryz.results252,go_sem,x0,x1,x2,x3,x4]) rfl ?_
      have TZ:=T18.out.done (.string (mkB nm)) (.int .i64 op) (.string (mkB v)) (.string Q) (.slice none 0 0)
      exact TermPost14.no (T:=⟨mkB nm,op,mkB v,Q,none,0,[]⟩) EN.out TZ.2 TZ.1 rfl
     | true=>
      obtain⟨q5,hq5⟩:∃ q5,q4+1+runN blankB ((bl s).drop (q4+1))=q5:=⟨_,rfl⟩
      have ER2:Hid (dRelO ((bl s).drop p4)=some (op,bl (mkB v),(bl s).drop q5)):=by
       show _=_;rw[ER.out,EV.out,relE_yes (by rw[SKc.out];exact HB2.out),SKc.out,List.drop_drop,skip_at,hq5,bl_of]
      have hBd:=r14_blanks a s (q4+1) false _ gs _ _ hz T17.out.rs
      rw[hq5] at hBd
      have Q5:Hid (p4≤q5):=by have:=Q4.out;show _≤_;omega
      clear hq5
      go_wp2_with fail
      refine hBd.mono ?_;rintro e w15 ⟨rfl,h1,k1⟩
      have T18:=hid (T17.out.step k1 h1);clear h1 k1 hBd T17
      go_wp2_with fail
      go_meet
      refine⟨op,mkB v,q5,_,T18,ER2,Q5,?_⟩
      have h2:=OP0.out
      show _↔_
      rw[all_snoc,prtB_3]
      simp[h2]
 case rest=>
 obtain⟨op,V,p5,n5,T10,ER,P5,C5⟩:=hcut
 clear T9 HB
 obtain⟨b,hb⟩:∃ b,head0 91 ((bl s).drop p5)=b:=⟨_,rfl⟩
 have HB:=hid hb
 clear hb
 go_wp2_with fail
 refine(r14_take 91 a s p5 false _ gs _ _ hz T10.out.rs b HB).mono ?_;rintro e w10 ⟨rfl,h1,k1⟩
 have T11:=hid (T10.out.step k1 h1);clear h1 k1 T10
 go_upto_if 80 with(fail)
 go_cut [] (fun wx=>∃ (A:Option Addr) (xs:List BA) (m cc p6:Nat) (n6:List Prt),Hid (RT w wx a s p6 false (ps++n6) gs (hs++[(p:Int)]) [.string (mkB nm),.int .i64 op,.string V,.string Q,.slice A m cc])∧Hid (xs.length=m)∧Hid (wx.ownsRow (w.heap.size+2) 9 1 (.slice A m cc) m (strCells xs))∧Hid (dArchO ((bl s).drop p5)=some (xs.map bl,(bl s).drop p6))∧Hid (p5≤p6)∧Hid (n6.all prtB=true↔n5.all prtB=true∧((xs.map bl).all fun x=>dwordB (aBare x))=true))
 case first=>
  cases b with
  | false=>
   have EA:Hid (dArchO ((bl s).drop p5)=some (([]:List BA).map bl,(bl s).drop p5)):=dArchO_no HB.out
   go_wp2_with fail
   go_meet
   exact⟨none,[],0,0,p5,n5,T11.out,rfl,World.ownsRow_nil _ _ _ _,EA,lr,by simp[Hid]⟩
  | true=>
   obtain⟨q1,hq1⟩:∃ q1,p5+1+runN blankB ((bl s).drop (p5+1))=q1:=⟨_,rfl⟩
   have hBa:=r14_blanks a s (p5+1) false _ gs _ _ hz T11.out.rs
   rw[hq1] at hBa
   obtain⟨AR,hAR⟩:∃ AR,dArchO ((bl s).drop p5)=AR:=⟨_,rfl⟩
   have E0:Hid (AR=dArchsT (s.size-p5+1) [] ((bl s).drop q1)):=by
    show _=_;rw[←hAR,dArchO_yes HB.out,List.drop_drop,skip_at,hq1,dArchsT_start,List.length_drop,bl_length]
   have HF0:Hid (s.size-q1≤s.size-p5):=by show _≤_;omega
   have Q1:Hid (p5≤q1):=by show _≤_;omega
   have HAR:=hid hAR
   clear hq1 hAR
   go_wp2_with fail
   refine hBa.mono ?_;rintro e w11 ⟨rfl,h1,k1⟩
   have T12:=hid (T11.out.step k1 h1);clear h1 k1 hBa T11
   have hq1s:=T12.out.rs.le
   go_wp2_with fail
   go_loopw [] (fun wr=>∃ (k m cc f:Nat) (xs:List BA) (A:Option Addr) (n6:List Prt),k≤s.size∧m≤k∧Hid (RT w wr a s k false (ps++n6) gs (hs++[(p:Int)]) [.string (mkB nm),.int .i64 op,.string V,.string Q,.slice A m cc])∧Hid (xs.length=m)∧Hid (wr.ownsRow (w.heap.size+2) 9 1 (.slice A m cc) m (strCells xs))∧Hid (p5≤k)∧Hid (AR=dArchsT (f+1) (xs.map bl) ((bl s).drop k))∧Hid (s.size-k≤f)∧Hid (n6.all prtB=true↔n5.all prtB=true∧((xs.map bl).all fun x=>dwordB (aBare x))=true)) (fun wr=>s.size-atOf a wr)
   case atStart=>exact⟨q1,0,0,s.size-p5,[],none,n5,hq1s,z0,T12,rfl,World.ownsRow_nil _ _ _ _,Q1,E0,HF0,by simp[Hid]⟩
   case round=>
    clear T12 hq1s E0 HF0 Q1
    obtain⟨k,m,cc,f,xs,A,n6,hk,hmk,HT,HXL,HRW,HPK,HE,HF,HC⟩:=hrel
    obtain⟨bm,hbm⟩:∃ bm,head0 33 ((bl s).drop k)=bm:=⟨_,rfl⟩
    have HBM:=hid hbm
    obtain⟨km,hkm⟩:∃ km,(if bm then k+1 else k)=km:=⟨_,rfl⟩
    have hTK:=r14_take 33 a s k false _ gs _ _ hz HT.out.rs bm HBM
    rw[hkm] at hTK
    have HKM:=hid hkm
    have KM1:Hid (k≤km):=by show _≤_;rw[←hkm];split<;>omega
    clear hbm hkm
    go_wp2_with fail
    refine hTK.mono ?_;rintro e w2 ⟨rfl,h1,k1⟩
    have T2:=hid (HT.out.step k1 h1)
    have RW2:=hid (k1.owns HRW.out (.inl rfl))
    clear h1 k1 hTK
    go_upto_if 84 with(fail)
    go_cut [4] (fun v wx=>v=.string (markB bm)∧w2=wx)
    case first=>
     cases bm with
     | true=>
      go_wp2_with fail
      go_meet
      exact⟨rfl,rfl⟩
     | false=>
      go_wp2_with fail
      go_meet
      exact⟨rfl,rfl⟩
    case rest=>
    obtain⟨rfl,rfl⟩:=hcut
    go_wp2_with fail
    refine(r14_part_2 a s km _ gs _ _ hz T2.out.rs).mono ?_;rintro e w3 ⟨hk3,hpost⟩
    cases ht:tok nendW ((bl s).drop km) with
    | none=>
     rw[ht] at hpost
     obtain⟨rfl,hr⟩:=hpost
     have EN:Hid (RR=none):=by
      show _=_;rw[←HRR.out];exact dTerm3 HT0.out EQ.out (by rw[SK4.out];exact ER.out) (by rw[HAR.out,HE.out];exact dArchsT_none (arch_none HBM.out HKM.out.symm ht))
     have T3:=hid (T2.out.step hk3 hr)
     clear hk3 hr ht T2
     obtain⟨v3,v4,v5,kk⟩:=T3.out.rs.cells
     have c2:=kk.c2
     clear kk
     obtain⟨z0,z1,z2,z3,z4,y0,y1,y2,y3,y4⟩:=T3.out.tb.blk.five
     obtain⟨x0,x1,x2,x3,x4,g0,g1,g2,g3,g4⟩:=T3.out.rb.blk.five
     obtain rfl:xs.length=m:=HXL.out
     go_wp2_with fail
     refine bodyPost_ret (v:=.agg #[.string (mkB nm),.int .i64 op,.string V,.string Q,.slice A xs.length cc]) (by simp(maxDischargeDepth:=6) [results,Tryz.results252,go_sem,x0,x1,x2,x3,x4]) rfl ?_
     have TZ:=T3.out.done (.string (mkB nm)) (.int .i64 op) (.string V) (.string Q) (.slice A xs.length cc)
     exact TermPost14.no (T:=⟨mkB nm,op,V,Q,A,cc,xs⟩) EN.out TZ.2 TZ.1 rfl
    | some xr=>
     obtain⟨x,r⟩:=xr
     rw[ht] at hpost
     obtain⟨rfl,hr⟩:=hpost
     obtain⟨t1,t2,t3,t4⟩:=tok_place T2.out.rs.le ht
     have A1:=hid (arch_some HBM.out HKM.out.symm ht)
     have AB:=hid (arch_bare A1.out rfl HBM.out)
     obtain⟨ke,hke⟩:∃ ke,km+x.length=ke:=⟨_,rfl⟩
     rw[hke] at hr t2 t4
     have DRE:Hid ((bl s).drop ke=r):=t2
     have KE:Hid (k<ke):=by have:=KM1.out;show _<_;omega
     have hxz:(mkB x).size≤4294967280:=by rw[mk_size];omega
     have hmm:m≤4294967280:=by omega
     have hmz:(markB bm).size≤1:=by cases bm<;>exact by decide
     obtain⟨Y,hY⟩:∃ Y,markB bm++mkB x=Y:=⟨_,rfl⟩
     have HY:Hid (bl Y=(if bm then [33] else [])++x):=by show _=_;rw[←hY,bl_append,bl_mark,bl_of]
     have T3:=hid (T2.out.step hk3 hr)
     have RW3:=hid (hk3.owns RW2.out (.inl rfl))
     have N7:Hid ((n6++[(⟨2,km,mkB x⟩:Prt)]).all prtB=true↔n5.all prtB=true∧(((xs++[Y]).map bl).all fun x=>dwordB (aBare x))=true):=by
      have h1:=HC.out;have h2:=HY.out;have h3:=AB.out
      show _↔_
      rw[all_snoc,prtB_2,h1,List.map_append,List.all_append]
      simp only[List.map_cons,List.map_nil,List.all_cons,List.all_nil,Bool.and_true,Bool.and_eq_true]
      rw[h2,h3];exact and_assoc
     have hkes:=hr.le
     clear hk3 hr ht t1 t2 t3 t4 hke T2 RW2
     obtain⟨v3,v4,v5,kk⟩:=T3.out.rs.cells
     have c2:=kk.c2
     clear kk
     obtain⟨z0,z1,z2,z3,z4,y0,y1,y2,y3,y4⟩:=T3.out.tb.blk.five
     have hw2:w.heap.size+1<w3.heap.size:=T3.out.tb.sz
     have HSZ:Hid (w.heap.size+2≤w3.heap.size):=by show _≤_;omega
     have naz:¬ w.heap.size+1=w3.heap.size:=by omega
     clear z0 z1 z2 z3 y0 y1 y2 y3
     have NTB:Hid (some (w.heap.size+1)≠(Value.slice A m cc).ownBlock):=by intro e;have:=(RW3.out.lt _ e.symm).1;omega
     go_upto_region 35 with(at_builtin;refine wpList_append_any _ rfl _ _ _ rfl (w.heap.size+2) 9 j0 _ 1 16 Tryz.underlying22 hj0 hy0 hy1 hy2 rfl (by omega) (.slice A m cc) m _ rfl (RW3.out.alloc _) (w3.heap.size+1) (some ⟨w3.heap.size,0,none⟩) 1 1 [.string Y] rfl (reads_str w3 _ _) (by simp[Value.oneCell']) (by simp only[maxLen];omega) (by omega) (by simp;have:=HSZ.out;omega) ?_;intro v1 w4 o1 g1 a1;obtain⟨A4,c4',rfl⟩:=owns_form o1;have zz4:w4.cell? ⟨w.heap.size+1,4,none⟩=some (.slice A m cc):=g1.cell (a:=⟨w.heap.size+1,4,none⟩) ((World.cell?_alloc_lt w3 _ ⟨w.heap.size+1,4,none⟩ hw2).trans z4) NTB.out;have yy4:w4.frozen? ⟨w.heap.size+1,4,none⟩=false:=(World.frozen?_of_block (a:=⟨w.heap.size+1,4,none⟩) (g1.block (w.heap.size+1) (by simp;omega) NTB.out)).trans (((bR.alloc lr _).frozen (p:=⟨w.heap.size+1,4,none⟩) hw2).trans y4))
     have MM:=T3.out.arch (xs:=xs) (x:=Y) RW3.out o1 g1
     have T4:=hid MM.1
     have RW4:=hid MM.2
     have XL2:Hid ((xs++[Y]).length=m+1):=by have:=HXL.out;show _=_;simp[this]
     rw[List.append_assoc] at T4
     clear o1 g1 a1 MM z4 y4 naz T3 RW3 c2
     obtain⟨bb,hbb⟩:∃ bb,midB r=bb:=⟨_,rfl⟩
     have HBB:=hid hbb
     clear hbb zz4 yy4
     go_cut [111] (fun v wx=>v=.bool bb∧Hid (RT w wx a s ke false (ps++(n6++[⟨2,km,mkB x⟩])) gs (hs++[(p:Int)]) [.string (mkB nm),.int .i64 op,.string V,.string Q,.slice A4 (m+1) c4'])∧Hid (wx.ownsRow (w.heap.size+2) 9 1 (.slice A4 (m+1) c4') (m+1) (strCells (xs++[Y]))))
     case first=>
      by_cases hlt:ke<s.size
      ·obtain⟨d,hd⟩:∃ d:UInt8,s[ke]=d:=⟨_,rfl⟩
       have HD:=hid hd
       have MD:Hid (bb=(!(d==32) && !(d==93))):=by show _=_;rw[←HBB.out,←DRE.out,mid_at hlt,hd]
       clear hd
       cases h32:(d==32) with
       | true=>
        have e32:((d.toNat:Int) != 32)=false:=by rw[bne,show((d.toNat:Int)==32)=true from(toNat_beq d 32).trans h32];rfl
        have EB:Hid (bb=false):=by show _=_;rw[MD.out,h32];rfl
        clear h32
        go_wp2_with fail
        refine(r14_has_is a s ke false _ gs _ _ hz T4.out.rs true (dT hlt)).mono ?_;rintro e w5 ⟨rfl,h1,k1⟩
        have T5:=hid (T4.out.step k1 h1);have RW5:=hid (k1.owns RW4.out (.inl rfl));clear h1 k1
        go_wp2_with fail
        refine(r14_next_is a s ke false _ gs _ _ hz T5.out.rs hlt d HD).mono ?_;rintro e w6 ⟨rfl,h1,k1⟩
        have T6:=hid (T5.out.step k1 h1);have RW6:=hid (k1.owns RW5.out (.inl rfl));clear h1 k1
        go_wp2_with fail
        go_meet
        exact⟨by rw[EB.out],T6,RW6⟩
       | false=>
        have e32:((d.toNat:Int) != 32)=true:=by rw[bne,show((d.toNat:Int)==32)=false from(toNat_beq d 32).trans h32];rfl
        obtain⟨b93,hb93⟩:∃ b93,(d==93)=b93:=⟨_,rfl⟩
        have e93:((d.toNat:Int) != 93)=!b93:=by rw[bne,show((d.toNat:Int)==93)=b93 from(toNat_beq d 93).trans hb93]
        have EB:Hid (bb=!b93):=by show _=_;rw[MD.out,h32,hb93];rfl
        clear h32 hb93
        go_wp2_with fail
        refine(r14_has_is a s ke false _ gs _ _ hz T4.out.rs true (dT hlt)).mono ?_;rintro e w5 ⟨rfl,h1,k1⟩
        have T5:=hid (T4.out.step k1 h1);have RW5:=hid (k1.owns RW4.out (.inl rfl));clear h1 k1
        go_wp2_with fail
        refine(r14_next_is a s ke false _ gs _ _ hz T5.out.rs hlt d HD).mono ?_;rintro e w6 ⟨rfl,h1,k1⟩
        have T6:=hid (T5.out.step k1 h1);have RW6:=hid (k1.owns RW5.out (.inl rfl));clear h1 k1
        go_wp2_with fail
        refine(r14_next_is a s ke false _ gs _ _ hz T6.out.rs hlt d HD).mono ?_;rintro e w7 ⟨rfl,h1,k1⟩
        have T7:=hid (T6.out.step k1 h1);have RW7:=hid (k1.owns RW6.out (.inl rfl));clear h1 k1
        go_wp2_with fail
        go_meet
        exact⟨by rw[EB.out],T7,RW7⟩
      ·have EB:Hid (bb=false):=by show _=_;rw[←HBB.out,←DRE.out];exact mid_no hlt
       go_wp2_with fail
       refine(r14_has_is a s ke false _ gs _ _ hz T4.out.rs false (dF hlt)).mono ?_;rintro e w5 ⟨rfl,h1,k1⟩
       have T5:=hid (T4.out.step k1 h1);have RW5:=hid (k1.owns RW4.out (.inl rfl));clear h1 k1
       go_wp2_with fail
       go_meet
       exact⟨by rw[EB.out],T5,RW5⟩
     case rest=>
     obtain⟨rfl,T5,RW5⟩:=hcut
     clear T4 RW4
     cases bb with
     | true=>
      have EN:Hid (RR=none):=by
       show _=_;rw[←HRR.out];exact dTerm3 HT0.out EQ.out (by rw[SK4.out];exact ER.out) (by rw[HAR.out,HE.out];exact arch_mid A1.out HBB.out)
      obtain⟨v3,v4,v5,kk⟩:=T5.out.rs.cells
      have c2:=kk.c2
      have f2:=kk.f2
      clear kk
      have T6:=hid (T5.out.step (T5.out.rs.kt (j:=2) (.bool true)) (T5.out.rs.fail true))
      obtain⟨x0,x1,x2,x3,x4,g0,g1,g2,g3,g4⟩:=T6.out.rb.blk.five
      obtain⟨zz0,zz1,zz2,zz3,zz4,yy0,yy1,yy2,yy3,yy4⟩:=T6.out.tb.blk.five
      have TT:Hid (TrmM.val ⟨mkB nm,op,V,Q,A4,c4',xs++[Y]⟩=.agg #[.string (mkB nm),.int .i64 op,.string V,.string Q,.slice A4 (m+1) c4']):=by have:=XL2.out;show _=_;unfold TrmM.val;simp only[this]
      go_wp2_with fail
      refine bodyPost_ret (v:=.agg #[.string (mkB nm),.int .i64 op,.string V,.string Q,.slice A4 (m+1) c4']) (by simp(maxDischargeDepth:=6) [results,Tryz.results252,go_sem,x0,x1,x2,x3,x4]) rfl ?_
      have TZ:=T6.out.done (.string (mkB nm)) (.int .i64 op) (.string V) (.string Q) (.slice A4 (m+1) c4')
      exact TermPost14.no (T:=⟨mkB nm,op,V,Q,A4,c4',xs++[Y]⟩) EN.out TZ.2 TZ.1 (by rw[TT.out])
     | false=>
      obtain⟨k2,hk2⟩:∃ k2,ke+runN blankB ((bl s).drop ke)=k2:=⟨_,rfl⟩
      have SKe:Hid (skipL r=(bl s).drop k2):=by show _=_;rw[←DRE.out,skip_at,hk2]
      have hBe:=r14_blanks a s ke false _ gs _ _ hz T5.out.rs
      rw[hk2] at hBe
      have HK2:Hid (k<k2):=by have:=KE.out;show _<_;omega
      obtain⟨b93,hb93⟩:∃ b93,head0 93 ((bl s).drop k2)=b93:=⟨_,rfl⟩
      have HB93:=hid hb93
      clear hk2 hb93
      go_wp2_with fail
      refine hBe.mono ?_;rintro e w6 ⟨rfl,h1,k1⟩
      have T6:=hid (T5.out.step k1 h1);have RW6:=hid (k1.owns RW5.out (.inl rfl));clear h1 k1 hBe T5 RW5
      have hk2s:=T6.out.rs.le
      go_wp2_with fail
      refine(r14_take 93 a s k2 false _ gs _ _ hz T6.out.rs b93 HB93).mono ?_;rintro e w7 ⟨rfl,h1,k1⟩
      have T7:=hid (T6.out.step k1 h1);have RW7:=hid (k1.owns RW6.out (.inl rfl));clear h1 k1 T6 RW6
      cases b93 with
      | true=>
       obtain⟨k3,hk3⟩:∃ k3,k2+1+runN blankB ((bl s).drop (k2+1))=k3:=⟨_,rfl⟩
       have EA2:Hid (dArchO ((bl s).drop p5)=some ((xs++[Y]).map bl,(bl s).drop k3)):=by
        show _=_
        rw[HAR.out,HE.out,dArchsT_end A1.out (by rw[SKe.out];exact HB93.out),SKe.out,List.drop_drop,skip_at,hk3,List.map_append,List.map_cons,List.map_nil,HY.out]
       have hBf:=r14_blanks a s (k2+1) false _ gs _ _ hz T7.out.rs
       rw[hk3] at hBf
       have HP3:Hid (p5≤k3):=by have:=HPK.out;have:=HK2.out;show _≤_;omega
       clear hk3
       go_wp2_with fail
       refine hBf.mono ?_;rintro e w8 ⟨rfl,h1,k1⟩
       have T8:=hid (T7.out.step k1 h1);have RW8:=hid (k1.owns RW7.out (.inl rfl));clear h1 k1 hBf T7 RW7
       go_wp2_with fail
       go_meet
       exact⟨A4,xs++[Y],m+1,c4',k3,_,T8,XL2,RW8,EA2,HP3,N7⟩
      | false=>
       have EN:Hid (AR=dArchsT (f-1+1) ((xs++[Y]).map bl) ((bl s).drop k2)):=by
        have hf:=HF.out;have hk':=HK2.out
        show _=_
        rw[HE.out,arch_on A1.out HBB.out (by rw[SKe.out];exact HB93.out) (by omega),SKe.out,List.map_append,List.map_cons,List.map_nil,HY.out,show f-1+1=f by omega]
       have HF2:Hid (s.size-k2≤f-1):=by have:=HF.out;have:=HK2.out;show _≤_;omega
       have HP2:Hid (p5≤k2):=by have:=HPK.out;have:=HK2.out;show _≤_;omega
       have hmk2:m+1≤k2:=by have:=HK2.out;omega
       go_wp2_with fail
       go_roundw
       case rel=>exact⟨k2,m+1,c4',f-1,xs++[Y],A4,_,hk2s,hmk2,T7,XL2,RW7,HP2,EN,HF2,N7⟩
       case measure=>exact RS.dec T7.out.rs HT.out.rs HK2.out
 case rest=>
 obtain⟨A,xs,m,cc,p6,n6,T12,XL,R12,EA,P6,C6⟩:=hcut
 clear T11 HB
 have EN:Hid (RR=some (⟨nm,bl Q,op,bl V,xs.map bl⟩,(bl s).drop p6)):=by show _=_;rw[←HRR.out];exact dTerm4 HT0.out EQ.out (by rw[SK4.out];exact ER.out) EA.out
 have CF:Hid (n6.all prtB=true↔Trm.right ⟨nm,bl Q,op,bl V,xs.map bl⟩=true):=by
  have h3:=C3.out;have h5:=C5.out;have h6:=C6.out
  show _↔_
  rw[right_of,h6,h5,h3]
  simp only[mk_bl]
  constructor
  ·rintro⟨⟨⟨a3,a4⟩,a5⟩,a6⟩;exact⟨a3,a4,a6,a5⟩
  ·rintro⟨a3,a4,a6,a5⟩;exact⟨⟨⟨a3,a4⟩,a5⟩,a6⟩
 have PF:Hid (p<p6):=by have h1:=PP.out;have h2:=P4.out;have h3:=P5.out;have h4:=P6.out;show _<_;omega
 clear C3 C5 C6
 obtain rfl:xs.length=m:=XL.out
 obtain⟨z0,z1,z2,z3,z4,y0,y1,y2,y3,y4⟩:=T12.out.tb.blk.five
 obtain⟨x0,x1,x2,x3,x4,g0,g1,g2,g3,g4⟩:=T12.out.rb.blk.five
 go_wp2_with fail
 refine bodyPost_ret (v:=.agg #[.string (mkB nm),.int .i64 op,.string V,.string Q,.slice A xs.length cc]) (by simp(maxDischargeDepth:=6) [results,Tryz.results252,go_sem,x0,x1,x2,x3,x4]) rfl ?_
 have TZ:=T12.out.done (.string (mkB nm)) (.int .i64 op) (.string V) (.string Q) (.slice A xs.length cc)
 have hlt0:w.heap.size<w.heap.size+2:=by omega
 have RZ:=owns_set (j:=4) (v:=.slice A xs.length cc) (owns_set (j:=3) (v:=.string Q) (owns_set (j:=2) (v:=.string V) (owns_set (j:=1) (v:=.int .i64 op) (owns_set (j:=0) (v:=.string (mkB nm)) R12.out hlt0) hlt0) hlt0) hlt0) hlt0
 rw[EN.out]
 refine⟨TZ.2,⟨mkB nm,op,V,Q,A,cc,xs⟩,p6,n6,rfl,by simp only[TrmM.pl,bl_of],owns_base RZ (by omega),TZ.1,PF.out,rfl,CF.out⟩
end
end Go.Proofs.YtdfdllbebfoggaaGreatDoor
