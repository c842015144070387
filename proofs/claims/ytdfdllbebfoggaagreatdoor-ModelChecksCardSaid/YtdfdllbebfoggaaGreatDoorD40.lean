/- A part of the proof that ModelChecks holds. No condition. -/
import Derived.Test.YtdfdllbebfoggaaGreatDoorD34
set_option maxRecDepth 100000
set_option maxHeartbeats 20000000
set_option linter.unusedVariables false
set_option linter.unusedSimpArgs false
namespace Go.Proofs.YtdfdllbebfoggaaGreatDoor
section
open Go.RowKit Go.Deep
theorem info_prt:(Tryz.prog.info? 244).map (fun i=>(i.zero,i.size,i.bytes))=some (some (.agg #[.int .i64 0,.int .i64 0,.string ⟨#[]⟩]),3,32):=by kernel_rfl
theorem reads_three (w:World)(t:TypeId)(x y z:Value):Reads (w.alloc (.cells #[x,y,z] t)).drew (w.heap.size+1) 3 (some ⟨w.heap.size,0,none⟩) 1 [x,y,z]:=by
 refine⟨rfl,fun _=>⟨_,rfl,by simp,fun j u hu=>?_⟩⟩
 match j,hu with
 | 0,hu=>simp at hu;subst hu;simp[Addr.add]
 | 1,hu=>simp at hu;subst hu;simp[Addr.add]
 | 2,hu=>simp at hu;subst hu;simp[Addr.add]
 | j+3,hu=>simp at hu
theorem RS.more {w w2:World}{a:Nat}{s:BA}{p:Nat}{ps:List Prt}{gs:List GrpM}{hs:List Int}{PA LA HA A1:Option Addr}{pc lc hc c1:Nat}{o:Obj}{x:Prt}
  (k1:BT w a 242 [.string s,.int .i64 p,.bool false,.slice PA ps.length pc,.slice LA gs.length lc,.slice HA hs.length hc])
  (k2:w.ownsRow (a+1) 244 3 (.slice PA ps.length pc) ps.length (ps.flatMap Prt.cells))(k3:w.ownsRow (a+1) 155 1 (.slice LA gs.length lc) gs.length (gs.map GrpM.sl))(k4:w.ownsRow (a+1) 3 1 (.slice HA hs.length hc) hs.length (hs.map (Value.int .i64)))
  (h:RS w a s p false ps gs hs)(hx:x.at_≤s.size∧x.text.size≤4294967280∧1≤x.kind∧x.kind≤3)(hpl:ps.length<p)
  (o2:w2.ownsRow (a+1) 244 3 (.slice A1 (ps.length+1) c1) (ps.length+1) (ps.flatMap Prt.cells++x.cells))
  (g2:(w.alloc o).drew.grownBy w2 (Value.slice PA ps.length pc).ownBlock):
  RS (w2.setCell ⟨a,3,none⟩ (.slice A1 (ps.length+1) c1)) a s p false (ps++[x]) gs hs∧KT a w (w2.setCell ⟨a,3,none⟩ (.slice A1 (ps.length+1) c1)):=by
 have hb:Below w.heap.size w (w.alloc o).drew:=below_drewN (bR.alloc lr o) 1
 have j1:=k1.belowW hb
 have j2:=owns_below k2 hb
 have j3:=owns_below k3 hb
 have j4:=owns_below k4 hb
 have na:some a≠(Value.slice PA ps.length pc).ownBlock:=by intro e;have:=(k2.lt a e.symm).1;omega
 have m1:=(j1.grownBy g2 na).set 3 (.slice A1 (ps.length+1) c1)
 have hg:w2.grownBy (w2.setCell ⟨a,3,none⟩ (.slice A1 (ps.length+1) c1)) (some a):=kept_set _
 have el:(ps++[x]).length=ps.length+1:=by simp
 have K1:KT a w (w.alloc o).drew:=KT.of_below hb (Nat.le_of_lt h.sz)
 have K2:KT a (w.alloc o).drew w2:=KT.of_row j2 g2 (Nat.le_succ _) (Nat.le_of_lt (h.below hb).sz) notTS_Part
 have K3:KT a w2 (w2.setCell ⟨a,3,none⟩ (.slice A1 (ps.length+1) c1)):=KT.of_grown hg lr (j1.grownBy g2 na) notTS_State
 have KK:=(K1.trans K2).trans K3
 refine⟨⟨⟨A1,LA,HA,c1,lc,hc,by rw[el];exact m1,?_,?_,?_⟩,fun g hg'=>KK.grp (h.grp g hg'),h.le,by rw[el];omega,h.hl,h.gl,fun y hy=>?_⟩,KK⟩
 ·rw[el,List.flatMap_append]
  simpa using owns_kept o2 (Nat.lt_succ_self _) hg
 ·exact owns_kept (kept_other j3 j2 (by decide) g2) (Nat.lt_succ_self _) hg
 ·exact owns_kept (kept_other j4 j2 (by decide) g2) (Nat.lt_succ_self _) hg
 ·rcases List.mem_append.1 hy with hy | hy
  ·exact h.pat y hy
  ·obtain rfl:=List.mem_singleton.1 hy;exact hx
def PartPost14 (kd:Nat)(r:Option (LU×LU))(a:Nat)(s:BA)(p:Nat)(ps:List Prt)(gs:List GrpM)(hs:List Int)(w:World)(e:Ending)(w':World):Prop:=
 KT a w w'∧match r with
  | none=>e=.returned (.string ⟨#[]⟩)∧RS w' a s p true ps gs hs
  | some (t,_)=>e=.returned (.string (mkB t))∧RS w' a s (p+t.length) false (ps++[⟨kd,p,mkB t⟩]) gs hs
theorem r14_part_1 (a:Nat)(s:BA)(p:Nat)(ps:List Prt)(gs:List GrpM)(hs:List Int)(w:World)(hz:s.size≤4294967280)(h:RS w a s p false ps gs hs):
  Calls Tryz.prog 278 #[.pointer (some ⟨a,0,none⟩),.int .i64 1] w (PartPost14 1 (tok nendN ((bl s).drop p)) a s p ps gs hs w):=by
 obtain⟨i0,hi0,hz0,hz1,hz2⟩:=info_parts info_prt
 have HR:=hid h
 have hp:=h.le
 have HPL:=hid h.pl
 obtain⟨v3,v4,v5,k⟩:=h.cells
 have c1:=k.c1
 clear h k
 generalize hRR:tok nendN ((bl s).drop p)=RR
 have HRR:=hid hRR
 clear hRR
 go_enter Tryz.func278,Tryz.ntmps278
 go_upto_block 0 with(fail)
 clear c1
 go_cut [] (fun wx=>∃ k:Nat,k≤s.size∧Hid (RS wx a s k false ps gs hs)∧Hid (KT a w wx)∧Hid (p+runN nendN ((bl s).drop p)=k))
 case first=>
  go_wp2_with fail
  go_loopw [] (fun wr=>∃ k:Nat,k≤s.size∧Hid (RS wr a s k false ps gs hs)∧Hid (KT a w wr)∧Hid (p+runN nendN ((bl s).drop p)=k+runN nendN ((bl s).drop k))) (fun wr=>s.size-atOf a wr)
  case atStart=>exact⟨p,hp,HR,KT.refl _ _,rfl⟩
  case round=>
   obtain⟨k,hk,R0,K0,HN⟩:=hrel
   by_cases hlt:k<s.size
   ·obtain⟨d,hd⟩:∃ d:UInt8,s[k]=d:=⟨_,rfl⟩
    have HD:=hid hd
    clear hd
    go_wp2_with fail
    refine(r14_has_is a s k false ps gs hs wr hz R0.out true (dT hlt)).mono ?_;rintro e w1 ⟨rfl,h1,k1⟩
    have R1:=hid h1;have K1:=hid (K0.out.trans k1);clear h1 k1
    go_wp2_with fail
    refine(r14_next_is a s k false ps gs hs w1 hz R1.out hlt d HD).mono ?_;rintro e w2 ⟨rfl,h1,k1⟩
    have R2:=hid h1;have K2:=hid (K1.out.trans k1);clear h1 k1
    go_upto_region 4 with(fail)
    go_cut [56] (fun v wx=>v=.bool (!nendN d)∧w2=wx)
    case first=>
     cases h0:(d==32) with
     | true=>
      have e0:((d.toNat:Int)==32)=true:=(toNat_beq d 32).trans h0
      have E:Hid (nendN d=false):=by show _=_;simp only[nendN,endN,endV,h0,Bool.true_or,Bool.or_true,Bool.false_or,Bool.or_false,Bool.not_true]
      clear h0
      go_wp2_with fail
      go_meet
      exact⟨by rw[E.out];rfl,rfl⟩
     | false=>
     have e0:((d.toNat:Int)==32)=false:=(toNat_beq d 32).trans h0
     cases h1:(d==44) with
     | true=>
      have e1:((d.toNat:Int)==44)=true:=(toNat_beq d 44).trans h1
      have E:Hid (nendN d=false):=by show _=_;simp only[nendN,endN,endV,h0,h1,Bool.true_or,Bool.or_true,Bool.false_or,Bool.or_false,Bool.not_true]
      clear h0 h1
      go_wp2_with fail
      go_meet
      exact⟨by rw[E.out];rfl,rfl⟩
     | false=>
     have e1:((d.toNat:Int)==44)=false:=(toNat_beq d 44).trans h1
     cases h2:(d==124) with
     | true=>
      have e2:((d.toNat:Int)==124)=true:=(toNat_beq d 124).trans h2
      have E:Hid (nendN d=false):=by show _=_;simp only[nendN,endN,endV,h0,h1,h2,Bool.true_or,Bool.or_true,Bool.false_or,Bool.or_false,Bool.not_true]
      clear h0 h1 h2
      go_wp2_with fail
      go_meet
      exact⟨by rw[E.out];rfl,rfl⟩
     | false=>
     have e2:((d.toNat:Int)==124)=false:=(toNat_beq d 124).trans h2
     cases h3:(d==40) with
     | true=>
      have e3:((d.toNat:Int)==40)=true:=(toNat_beq d 40).trans h3
      have E:Hid (nendN d=false):=by show _=_;simp only[nendN,endN,endV,h0,h1,h2,h3,Bool.true_or,Bool.or_true,Bool.false_or,Bool.or_false,Bool.not_true]
      clear h0 h1 h2 h3
      go_wp2_with fail
      go_meet
      exact⟨by rw[E.out];rfl,rfl⟩
     | false=>
     have e3:((d.toNat:Int)==40)=false:=(toNat_beq d 40).trans h3
     cases h4:(d==41) with
     | true=>
      have e4:((d.toNat:Int)==41)=true:=(toNat_beq d 41).trans h4
      have E:Hid (nendN d=false):=by show _=_;simp only[nendN,endN,endV,h0,h1,h2,h3,h4,Bool.true_or,Bool.or_true,Bool.false_or,Bool.or_false,Bool.not_true]
      clear h0 h1 h2 h3 h4
      go_wp2_with fail
      go_meet
      exact⟨by rw[E.out];rfl,rfl⟩
     | false=>
     have e4:((d.toNat:Int)==41)=false:=(toNat_beq d 41).trans h4
     cases h5:(d==91) with
     | true=>
      have e5:((d.toNat:Int)==91)=true:=(toNat_beq d 91).trans h5
      have E:Hid (nendN d=false):=by show _=_;simp only[nendN,endN,endV,h0,h1,h2,h3,h4,h5,Bool.true_or,Bool.or_true,Bool.false_or,Bool.or_false,Bool.not_true]
      clear h0 h1 h2 h3 h4 h5
      go_wp2_with fail
      go_meet
      exact⟨by rw[E.out];rfl,rfl⟩
     | false=>
     have e5:((d.toNat:Int)==91)=false:=(toNat_beq d 91).trans h5
     cases h6:(d==93) with
     | true=>
      have e6:((d.toNat:Int)==93)=true:=(toNat_beq d 93).trans h6
      have E:Hid (nendN d=false):=by show _=_;simp only[nendN,endN,endV,h0,h1,h2,h3,h4,h5,h6,Bool.true_or,Bool.or_true,Bool.false_or,Bool.or_false,Bool.not_true]
      clear h0 h1 h2 h3 h4 h5 h6
      go_wp2_with fail
      go_meet
      exact⟨by rw[E.out];rfl,rfl⟩
     | false=>
     have e6:((d.toNat:Int)==93)=false:=(toNat_beq d 93).trans h6
     cases h7:(d==58) with
     | true=>
      have e7:((d.toNat:Int)==58)=true:=(toNat_beq d 58).trans h7
      have E:Hid (nendN d=false):=by show _=_;simp only[nendN,endN,endV,h0,h1,h2,h3,h4,h5,h6,h7,Bool.true_or,Bool.or_true,Bool.false_or,Bool.or_false,Bool.not_true]
      clear h0 h1 h2 h3 h4 h5 h6 h7
      go_wp2_with fail
      go_meet
      exact⟨by rw[E.out];rfl,rfl⟩
     | false=>
     have e7:((d.toNat:Int)==58)=false:=(toNat_beq d 58).trans h7
     have E:Hid (nendN d=true):=by show _=_;simp only[nendN,endN,endV,h0,h1,h2,h3,h4,h5,h6,h7,Bool.or_false,Bool.not_false]
     clear h0 h1 h2 h3 h4 h5 h6 h7
     go_wp2_with fail
     go_meet
     exact⟨by rw[E.out];rfl,rfl⟩
    case rest=>
    obtain⟨rfl,rfl⟩:=hcut
    cases hq:nendN d with
    | true=>
     have HN2:Hid (p+runN nendN ((bl s).drop p)=(k+1)+runN nendN ((bl s).drop (k+1))):=by
      have:=HN.out;rw[runN_step s k hlt (by rw[HD.out];exact hq)] at this;show _=_;omega
     obtain⟨v3,v4,v5,q⟩:=R2.out.cells
     have c1:=q.c1
     have f1:=q.f1
     clear q hq
     have R3:=hid (R2.out.move (q:=k+1) (by omega) (by omega))
     have K3:=hid (K2.out.trans (R2.out.kt (j:=1) (.int .i64 ((k+1:Nat):Int))))
     go_wp2_with fail
     go_roundw
     case rel=>exact⟨k+1,by omega,R3,K3,HN2⟩
     case measure=>exact RS.dec R3.out R0.out (Nat.lt_succ_self _)
    | false=>
     have HE:Hid (p+runN nendN ((bl s).drop p)=k):=by
      have:=HN.out;rw[runN_halt s k hlt (by rw[HD.out];exact hq)] at this;exact this
     clear hq
     go_wp2_with fail
     go_meet
     exact⟨k,hk,R2,K2,HE⟩
   ·have HE:Hid (p+runN nendN ((bl s).drop p)=k):=by
     have:=HN.out;rw[runN_end _ s k hlt] at this;exact this
    go_wp2_with fail
    refine(r14_has_is a s k false ps gs hs wr hz R0.out false (dF hlt)).mono ?_;rintro e w1 ⟨rfl,h1,k1⟩
    have R1:=hid h1;have K1:=hid (K0.out.trans k1);clear h1 k1
    go_wp2_with fail
    go_meet
    exact⟨k,hk,R1,K1,HE⟩
 case rest=>
 obtain⟨k,hk,R1,K1,HE⟩:=hcut
 clear HR
 obtain⟨PA,LA,HA,pc,lc,hc,k1,k2,k3,k4⟩:=R1.out.blk
 have B1:=hid k1;have B2:=hid k2;have B3:=hid k3;have B4:=hid k4
 obtain⟨c0,c1,c2,c3,c4,c5,f1,f2,f3,f4,f5⟩:=k1.rsc
 clear k1 k2 k3 k4 c4 c5 f1 f4 f5
 by_cases h0:k=p
 ·have EN:Hid (RR=none):=by have:=HE.out;show _=_;rw[←HRR.out];exact tok_no (by omega)
  subst h0
  go_wp2_with fail
  go_ret
  exact⟨K1.out.trans (R1.out.kt _),by rw[EN.out];exact⟨rfl,R1.out.fail true⟩⟩
 ·have hk0:((k:Int)==(p:Int))=false:=by simp;omega
  obtain⟨t,ht⟩:∃ t,((bl s).drop p).take (runN nendN ((bl s).drop p))=t:=⟨_,rfl⟩
  have htl:t.length=k-p:=by
   have:=HE.out;rw[←ht,List.length_take];have:=runN_le nendN ((bl s).drop p);omega
  have EN:Hid (RR=some (t,(bl s).drop k)):=by
   have h2:=HE.out
   show _=_;rw[←HRR.out,tok_is (by omega),ht,List.drop_drop,h2]
  have hpk:p<k:=by have:=HE.out;omega
  have hX:s.extract p k=mkB t:=by rw[←ht];exact ext_run nendN s p k HE.out
  have hplk:ps.length<k:=by have:=HPL.out;omega
  have HKT:Hid (p+t.length=k):=by show _=_;omega
  have hpk1:(p:Int)≤(k:Int):=by omega
  have hpk2:(k:Int)≤(s.size:Int):=by omega
  have NA:Hid (some a≠(Value.slice PA ps.length pc).ownBlock):=by intro e;have:=(B2.out.lt a e.symm).1;omega
  have haz:a<wc.heap.size:=R1.out.sz
  have hplz:ps.length≤4294967280:=by omega
  clear ht htl h0
  clear c2 f2
  generalize hpl:ps.length=pn at *
  have HPN:=hid hpl
  clear hpl
  go_wp2_with fail
  have hn3:¬ a=wc.heap.size:=by omega
  go_region_law
   ((refine step_append_any _ (by rfl) _ _ _ (by rfl) (a+1) 244 i0 _ 3 32 Tryz.underlying239 hi0 hz0 hz1 hz2 rfl (by omega) (.slice PA pn pc) pn _ (by rfl) ((B2.out.alloc _).drew)
      (wc.heap.size+1) (some ⟨wc.heap.size,0,none⟩) 1 1 [.int .i64 1,.int .i64 p,.string (mkB t)] (by rfl) (reads_three wc _ _ _ _) (by simp[Value.oneCell']) (by unfold maxLen;omega) (by omega) (by simp;omega) ?_
     intro v1 w2 o2 g2 a2
     obtain⟨A1,c1',rfl⟩:=owns_form o2
     have BB:=(B1.out.belowW (below_drewN (bR.alloc lr (.cells #[.int .i64 1,.int .i64 p,.string (mkB t)] 244)) 1)).grownBy g2 NA.out
     have d0:=BB.rsc.c0
     have d1:=BB.rsc.c1
     have d3:=BB.rsc.c3
     have g3:=BB.rsc.f3))
  all_goals
   obtain rfl:ps.length=pn:=HPN.out
   have MM:=RS.more (x:=⟨1,p,mkB t⟩) B1.out B2.out B3.out B4.out R1.out ⟨by show p≤s.size;omega,by show(mkB t).size≤4294967280;rw[mk_size];have:=HKT.out;omega,by show 1≤1;omega,by show 1≤3;omega⟩ hplk o2 g2
   have MR:=hid MM.1
   have MK:=hid (K1.out.trans MM.2)
   clear MM o2 g2 a2 BB
   go_wp2_with fail
   go_quiet (fail)
   go_wp2_with fail
   go_ret
   refine⟨MK.out.drewN _,?_⟩
   rw[EN.out]
   exact⟨rfl,by rw[HKT.out];exact MR.out.drewN _⟩
theorem r14_part_3 (a:Nat)(s:BA)(p:Nat)(ps:List Prt)(gs:List GrpM)(hs:List Int)(w:World)(hz:s.size≤4294967280)(h:RS w a s p false ps gs hs):
  Calls Tryz.prog 278 #[.pointer (some ⟨a,0,none⟩),.int .i64 3] w (PartPost14 3 (tok nendV ((bl s).drop p)) a s p ps gs hs w):=by
 obtain⟨i0,hi0,hz0,hz1,hz2⟩:=info_parts info_prt
 have HR:=hid h
 have hp:=h.le
 have HPL:=hid h.pl
 obtain⟨v3,v4,v5,k⟩:=h.cells
 have c1:=k.c1
 clear h k
 generalize hRR:tok nendV ((bl s).drop p)=RR
 have HRR:=hid hRR
 clear hRR
 go_enter Tryz.func278,Tryz.ntmps278
 go_upto_block 0 with(fail)
 clear c1
 go_cut [] (fun wx=>∃ k:Nat,k≤s.size∧Hid (RS wx a s k false ps gs hs)∧Hid (KT a w wx)∧Hid (p+runN nendV ((bl s).drop p)=k))
 case first=>
  go_wp2_with fail
  go_loopw [] (fun wr=>∃ k:Nat,k≤s.size∧Hid (RS wr a s k false ps gs hs)∧Hid (KT a w wr)∧Hid (p+runN nendV ((bl s).drop p)=k+runN nendV ((bl s).drop k))) (fun wr=>s.size-atOf a wr)
  case atStart=>exact⟨p,hp,HR,KT.refl _ _,rfl⟩
  case round=>
   obtain⟨k,hk,R0,K0,HN⟩:=hrel
   by_cases hlt:k<s.size
   ·obtain⟨d,hd⟩:∃ d:UInt8,s[k]=d:=⟨_,rfl⟩
    have HD:=hid hd
    clear hd
    go_wp2_with fail
    refine(r14_has_is a s k false ps gs hs wr hz R0.out true (dT hlt)).mono ?_;rintro e w1 ⟨rfl,h1,k1⟩
    have R1:=hid h1;have K1:=hid (K0.out.trans k1);clear h1 k1
    go_wp2_with fail
    refine(r14_next_is a s k false ps gs hs w1 hz R1.out hlt d HD).mono ?_;rintro e w2 ⟨rfl,h1,k1⟩
    have R2:=hid h1;have K2:=hid (K1.out.trans k1);clear h1 k1
    go_upto_region 4 with(fail)
    go_cut [56] (fun v wx=>v=.bool (!nendV d)∧w2=wx)
    case first=>
     cases h0:(d==32) with
     | true=>
      have e0:((d.toNat:Int)==32)=true:=(toNat_beq d 32).trans h0
      have E:Hid (nendV d=false):=by show _=_;simp only[nendV,endV,h0,Bool.true_or,Bool.or_true,Bool.false_or,Bool.or_false,Bool.not_true]
      clear h0
      go_wp2_with fail
      go_meet
      exact⟨by rw[E.out];rfl,rfl⟩
     | false=>
     have e0:((d.toNat:Int)==32)=false:=(toNat_beq d 32).trans h0
     cases h1:(d==44) with
     | true=>
      have e1:((d.toNat:Int)==44)=true:=(toNat_beq d 44).trans h1
      have E:Hid (nendV d=false):=by show _=_;simp only[nendV,endV,h0,h1,Bool.true_or,Bool.or_true,Bool.false_or,Bool.or_false,Bool.not_true]
      clear h0 h1
      go_wp2_with fail
      go_meet
      exact⟨by rw[E.out];rfl,rfl⟩
     | false=>
     have e1:((d.toNat:Int)==44)=false:=(toNat_beq d 44).trans h1
     cases h2:(d==124) with
     | true=>
      have e2:((d.toNat:Int)==124)=true:=(toNat_beq d 124).trans h2
      have E:Hid (nendV d=false):=by show _=_;simp only[nendV,endV,h0,h1,h2,Bool.true_or,Bool.or_true,Bool.false_or,Bool.or_false,Bool.not_true]
      clear h0 h1 h2
      go_wp2_with fail
      go_meet
      exact⟨by rw[E.out];rfl,rfl⟩
     | false=>
     have e2:((d.toNat:Int)==124)=false:=(toNat_beq d 124).trans h2
     cases h3:(d==40) with
     | true=>
      have e3:((d.toNat:Int)==40)=true:=(toNat_beq d 40).trans h3
      have E:Hid (nendV d=false):=by show _=_;simp only[nendV,endV,h0,h1,h2,h3,Bool.true_or,Bool.or_true,Bool.false_or,Bool.or_false,Bool.not_true]
      clear h0 h1 h2 h3
      go_wp2_with fail
      go_meet
      exact⟨by rw[E.out];rfl,rfl⟩
     | false=>
     have e3:((d.toNat:Int)==40)=false:=(toNat_beq d 40).trans h3
     cases h4:(d==41) with
     | true=>
      have e4:((d.toNat:Int)==41)=true:=(toNat_beq d 41).trans h4
      have E:Hid (nendV d=false):=by show _=_;simp only[nendV,endV,h0,h1,h2,h3,h4,Bool.true_or,Bool.or_true,Bool.false_or,Bool.or_false,Bool.not_true]
      clear h0 h1 h2 h3 h4
      go_wp2_with fail
      go_meet
      exact⟨by rw[E.out];rfl,rfl⟩
     | false=>
     have e4:((d.toNat:Int)==41)=false:=(toNat_beq d 41).trans h4
     cases h5:(d==91) with
     | true=>
      have e5:((d.toNat:Int)==91)=true:=(toNat_beq d 91).trans h5
      have E:Hid (nendV d=false):=by show _=_;simp only[nendV,endV,h0,h1,h2,h3,h4,h5,Bool.true_or,Bool.or_true,Bool.false_or,Bool.or_false,Bool.not_true]
      clear h0 h1 h2 h3 h4 h5
      go_wp2_with fail
      go_meet
      exact⟨by rw[E.out];rfl,rfl⟩
     | false=>
     have e5:((d.toNat:Int)==91)=false:=(toNat_beq d 91).trans h5
     cases h6:(d==93) with
     | true=>
      have e6:((d.toNat:Int)==93)=true:=(toNat_beq d 93).trans h6
      have E:Hid (nendV d=false):=by show _=_;simp only[nendV,endV,h0,h1,h2,h3,h4,h5,h6,Bool.true_or,Bool.or_true,Bool.false_or,Bool.or_false,Bool.not_true]
      clear h0 h1 h2 h3 h4 h5 h6
      go_wp2_with fail
      go_meet
      exact⟨by rw[E.out];rfl,rfl⟩
     | false=>
     have e6:((d.toNat:Int)==93)=false:=(toNat_beq d 93).trans h6
     have E:Hid (nendV d=true):=by show _=_;simp only[nendV,endV,h0,h1,h2,h3,h4,h5,h6,Bool.or_false,Bool.not_false]
     clear h0 h1 h2 h3 h4 h5 h6
     go_wp2_with fail
     go_meet
     exact⟨by rw[E.out];rfl,rfl⟩
    case rest=>
    obtain⟨rfl,rfl⟩:=hcut
    cases hq:nendV d with
    | true=>
     have HN2:Hid (p+runN nendV ((bl s).drop p)=(k+1)+runN nendV ((bl s).drop (k+1))):=by
      have:=HN.out;rw[runN_step s k hlt (by rw[HD.out];exact hq)] at this;show _=_;omega
     obtain⟨v3,v4,v5,q⟩:=R2.out.cells
     have c1:=q.c1
     have f1:=q.f1
     clear q hq
     have R3:=hid (R2.out.move (q:=k+1) (by omega) (by omega))
     have K3:=hid (K2.out.trans (R2.out.kt (j:=1) (.int .i64 ((k+1:Nat):Int))))
     go_wp2_with fail
     go_roundw
     case rel=>exact⟨k+1,by omega,R3,K3,HN2⟩
     case measure=>exact RS.dec R3.out R0.out (Nat.lt_succ_self _)
    | false=>
     have HE:Hid (p+runN nendV ((bl s).drop p)=k):=by
      have:=HN.out;rw[runN_halt s k hlt (by rw[HD.out];exact hq)] at this;exact this
     clear hq
     go_wp2_with fail
     go_meet
     exact⟨k,hk,R2,K2,HE⟩
   ·have HE:Hid (p+runN nendV ((bl s).drop p)=k):=by
     have:=HN.out;rw[runN_end _ s k hlt] at this;exact this
    go_wp2_with fail
    refine(r14_has_is a s k false ps gs hs wr hz R0.out false (dF hlt)).mono ?_;rintro e w1 ⟨rfl,h1,k1⟩
    have R1:=hid h1;have K1:=hid (K0.out.trans k1);clear h1 k1
    go_wp2_with fail
    go_meet
    exact⟨k,hk,R1,K1,HE⟩
 case rest=>
 obtain⟨k,hk,R1,K1,HE⟩:=hcut
 clear HR
 obtain⟨PA,LA,HA,pc,lc,hc,k1,k2,k3,k4⟩:=R1.out.blk
 have B1:=hid k1;have B2:=hid k2;have B3:=hid k3;have B4:=hid k4
 obtain⟨c0,c1,c2,c3,c4,c5,f1,f2,f3,f4,f5⟩:=k1.rsc
 clear k1 k2 k3 k4 c4 c5 f1 f4 f5
 by_cases h0:k=p
 ·have EN:Hid (RR=none):=by have:=HE.out;show _=_;rw[←HRR.out];exact tok_no (by omega)
  subst h0
  go_wp2_with fail
  go_ret
  exact⟨K1.out.trans (R1.out.kt _),by rw[EN.out];exact⟨rfl,R1.out.fail true⟩⟩
 ·have hk0:((k:Int)==(p:Int))=false:=by simp;omega
  obtain⟨t,ht⟩:∃ t,((bl s).drop p).take (runN nendV ((bl s).drop p))=t:=⟨_,rfl⟩
  have htl:t.length=k-p:=by
   have:=HE.out;rw[←ht,List.length_take];have:=runN_le nendV ((bl s).drop p);omega
  have EN:Hid (RR=some (t,(bl s).drop k)):=by
   have h2:=HE.out
   show _=_;rw[←HRR.out,tok_is (by omega),ht,List.drop_drop,h2]
  have hpk:p<k:=by have:=HE.out;omega
  have hX:s.extract p k=mkB t:=by rw[←ht];exact ext_run nendV s p k HE.out
  have hplk:ps.length<k:=by have:=HPL.out;omega
  have HKT:Hid (p+t.length=k):=by show _=_;omega
  have hpk1:(p:Int)≤(k:Int):=by omega
  have hpk2:(k:Int)≤(s.size:Int):=by omega
  have NA:Hid (some a≠(Value.slice PA ps.length pc).ownBlock):=by intro e;have:=(B2.out.lt a e.symm).1;omega
  have haz:a<wc.heap.size:=R1.out.sz
  have hplz:ps.length≤4294967280:=by omega
  clear ht htl h0
  clear c2 f2
  generalize hpl:ps.length=pn at *
  have HPN:=hid hpl
  clear hpl
  go_wp2_with fail
  have hn3:¬ a=wc.heap.size:=by omega
  go_region_law
   ((refine step_append_any _ (by rfl) _ _ _ (by rfl) (a+1) 244 i0 _ 3 32 Tryz.underlying239 hi0 hz0 hz1 hz2 rfl (by omega) (.slice PA pn pc) pn _ (by rfl) ((B2.out.alloc _).drew)
      (wc.heap.size+1) (some ⟨wc.heap.size,0,none⟩) 1 1 [.int .i64 3,.int .i64 p,.string (mkB t)] (by rfl) (reads_three wc _ _ _ _) (by simp[Value.oneCell']) (by unfold maxLen;omega) (by omega) (by simp;omega) ?_
     intro v1 w2 o2 g2 a2
     obtain⟨A1,c1',rfl⟩:=owns_form o2
     have BB:=(B1.out.belowW (below_drewN (bR.alloc lr (.cells #[.int .i64 3,.int .i64 p,.string (mkB t)] 244)) 1)).grownBy g2 NA.out
     have d0:=BB.rsc.c0
     have d1:=BB.rsc.c1
     have d3:=BB.rsc.c3
     have g3:=BB.rsc.f3))
  all_goals
   obtain rfl:ps.length=pn:=HPN.out
   have MM:=RS.more (x:=⟨3,p,mkB t⟩) B1.out B2.out B3.out B4.out R1.out ⟨by show p≤s.size;omega,by show(mkB t).size≤4294967280;rw[mk_size];have:=HKT.out;omega,by show 1≤3;omega,by show 3≤3;omega⟩ hplk o2 g2
   have MR:=hid MM.1
   have MK:=hid (K1.out.trans MM.2)
   clear MM o2 g2 a2 BB
   go_wp2_with fail
   go_quiet (fail)
   go_wp2_with fail
   go_ret
   refine⟨MK.out.drewN _,?_⟩
   rw[EN.out]
   exact⟨rfl,by rw[HKT.out];exact MR.out.drewN _⟩
end
end Go.Proofs.YtdfdllbebfoggaaGreatDoor
