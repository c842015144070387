/- A part of the proof that ModelChecks holds. No condition. -/
import Derived.Test.YtdfdllbebfoggaaGreatDoorD43
set_option maxRecDepth 100000
set_option maxHeartbeats 20000000
set_option linter.unusedVariables false
set_option linter.unusedSimpArgs false
namespace Go.Proofs.YtdfdllbebfoggaaGreatDoor
section
open Go.RowKit Go.Deep
theorem take_all {l:List Prt}{i:Nat}{x:Prt}(h:l[i]?=some x)(h0:(l.take i).all prtB=true)(hx:prtB x=true):(l.take (i+1)).all prtB=true:=by
 obtain⟨hi,he⟩:=gS h
 rw[tS hi,he,List.all_append,h0];simp[hx]
theorem all_no {l:List Prt}{i:Nat}{x:Prt}(h:l[i]?=some x)(hx:prtB x=false):¬ l.all prtB=true:=by
 intro ha
 rw[List.all_eq_true] at ha
 have:=ha x (gM h)
 rw[hx] at this;cases this
theorem prt_kinds (x:Prt)(h:1≤x.kind∧x.kind≤3):x.kind=1∧prtB x=dnameB (bl x.text)∨x.kind=2∧prtB x=dwordB (bl x.text)∨x.kind=3∧prtB x=decide (verE 1 x.text=0):=by
 rcases(by omega:x.kind=1∨x.kind=2∨x.kind=3) with h | h | h
 ·exact .inl ⟨h,by simp[prtB,h]⟩
 ·exact .inr (.inl ⟨h,by simp[prtB,h]⟩)
 ·exact .inr (.inr ⟨h,by simp[prtB,h]⟩)
theorem r14_Parse (s:BA)(w:World)(hs:s.size≤4294967280):
  Calls Tryz.prog 148 #[.string s] w (DParsePost (dParse (bl s)) w):=by
 obtain⟨W1,hW1⟩:∃ W1,(w.alloc (.cells #[.string ⟨#[]⟩,.int .i64 0,.int .i64 0] 114)).alloc (.cells #[.string s,.int .i64 0,.bool false,.slice none 0 0,.slice none 0 0,.slice none 0 0] 242)=W1:=⟨_,rfl⟩
 have B1:Hid (Below w.heap.size w W1):=by rw[←hW1];exact(bR.alloc lr _).alloc (by simp) _
 have K1:Hid (Blk W1 w.heap.size [.string ⟨#[]⟩,.int .i64 0,.int .i64 0]):=by rw[←hW1];exact(Blk.new w [.string ⟨#[]⟩,.int .i64 0,.int .i64 0] _).alloc _
 have D1:Hid (RS W1 (w.heap.size+1) s 0 false [] [] []):=by
  refine⟨⟨none,none,none,0,0,0,?_,World.ownsRow_nil _ _ _ _,World.ownsRow_nil _ _ _ _,World.ownsRow_nil _ _ _ _⟩,by simp,z0,lr,z0,lr,by simp⟩
  have:=BT.new (w.alloc (.cells #[.string ⟨#[]⟩,.int .i64 0,.int .i64 0] 114)) 242 [.string s,.int .i64 0,.bool false,.slice none 0 0,.slice none 0 0,.slice none 0 0]
  rw[←hW1];simpa using this
 go_enter Tryz.func148,Tryz.ntmps148
 go_wp2_with fail
 clear hW1
 refine(r14_field (w.heap.size+1) s W1 hs D1.out).mono ?_;rintro e w2 ⟨hk,rfl,hpost⟩
 have K2:=hid (K1.out.belowN hk.bel (Nat.lt_succ_self _))
 have B2:Hid (Below w.heap.size w w2):=B1.out.trans (hk.bel.mono (Nat.le_succ _))
 clear hk K1 B1 D1
 obtain⟨r0,r1,r2⟩:w2.cell? ⟨w.heap.size,0,none⟩=some (.string ⟨#[]⟩)∧w2.cell? ⟨w.heap.size,1,none⟩=some (.int .i64 0)∧w2.cell? ⟨w.heap.size,2,none⟩=some (.int .i64 0):=⟨K2.out.cell 0 _ rfl,K2.out.cell 1 _ rfl,K2.out.cell 2 _ rfl⟩
 obtain⟨fr0,fr1,fr2⟩:w2.frozen? ⟨w.heap.size,0,none⟩=false∧w2.frozen? ⟨w.heap.size,1,none⟩=false∧w2.frozen? ⟨w.heap.size,2,none⟩=false:=⟨K2.out.free 0 (by simp),K2.out.free 1 (by simp),K2.out.free 2 (by simp)⟩
 cases hf:dForm (bl s) with
 | none=>
  rw[hf] at hpost
  obtain⟨p',ps,gs,hh,hr⟩:=hpost
  have EN:=hid (dParse_none hf)
  obtain⟨v3,v4,v5,k⟩:=hr.cells
  have c1:=k.c1
  have c2:=k.c2
  clear hf hr k
  go_wp2_with fail
  go_region
  go_wp2_with fail
  refine bodyPost_ret (v:=.tuple #[.slice none 0 0,.agg #[.string ⟨#[]⟩,.int .i64 p',.int .i64 3]]) (by simp[results,Tryz.results148,go_sem,r0,r1,r2]) rfl ?_
  refine⟨none,0,0,⟨#[]⟩,p',3,rfl,?_,by rw[EN.out];exact⟨by decide,rfl,rfl⟩⟩
  exact(below_set (below_set (below_set B2.out lr _) lr _) lr _).drew
 | some L=>
  rw[hf] at hpost
  obtain⟨p',ps,gs,hh,hr,hL,hps,hhl⟩:=hpost
  have HR:=hid hr
  have DG:Hid (hh.length≤64→ps.all prtB=true→dParse (bl s)=some L):=fun h1 h2=>dParse_good hf ((dAll_iff L).2 ⟨hps.1 h2,by rw[←hhl];exact h1⟩)
  have DB1:Hid (¬ ps.all prtB=true→dParse (bl s)=none):=fun h1=>dParse_bad hf (fun h=>h1 (hps.2 ((dAll_iff L).1 h).1))
  have DB2:Hid (64<hh.length→dParse (bl s)=none):=fun h1=>dParse_bad hf (fun h=>by have:=((dAll_iff L).1 h).2;rw[←hhl] at this;omega)
  obtain⟨PA,LA,HA,pc,lc,hc,k1,k2,k3,k4⟩:=hr.blk
  have KA:=hid k1;have RP:=hid k2;have RL:=hid k3;have RH:=hid k4
  obtain⟨c0,c1,c2,c3,c4,c5,f1,f2,f3,f4,f5⟩:=k1.rsc
  have hpz:ps.length≤4294967280:=by have:=hr.pl;have:=hr.le;omega
  have hhz:hh.length≤4294967281:=by have:=hr.hl;have:=hr.le;omega
  have HPT:=hid hr.pat
  have HL:=hid hL
  generalize dParse (bl s)=RR at *
  clear hf hr hL hps hhl k1 k2 k3 k4 f1 f2 f3 f4 f5 c0 c1
  obtain⟨hn,hhn⟩:∃ hn,hh.length=hn:=⟨_,rfl⟩
  have HHN:=hid hhn
  rw[hhn] at c5 KA RH DG DB2 hhz
  obtain⟨pn,hpn⟩:∃ pn,ps.length=pn:=⟨_,rfl⟩
  have HPN:=hid hpn
  rw[hpn] at c3 KA RP hpz
  clear hhn hpn
  go_upto_if 31 with(fail)
  go_cut [5] (fun v wx=>∃ lg:Int,v=.int .i64 lg∧w2=wx∧Hid (hn≤64→lg=(s.size:Int)+1))
  case first=>
   by_cases h64:64<hn
   ·have e64:decide ((64:Int)<(hn:Int))=true:=dT (by omega)
    have e64':decide (64<hn)=true:=dT h64
    have hlt:64<hh.length:=by rw[HHN.out];exact h64
    obtain⟨x,hx⟩:∃ x,hh[64]?=some x:=⟨_,gG hlt⟩
    obtain⟨b,off,hA,he⟩:=(owns_rd RH.out).one 64 (.int .i64 x) (by rw[List.getElem?_map,hx];rfl) h64
    have hix:=fun W=>idx_of (T:=240) (E:=3) (sz:=1) (c:=hc) Tryz.underlying240 rfl Tryz.sizeOf3 hA h64 W
    simp only[Nat.mul_one] at hix
    have hix2:∀ W,(Instr.indexAt 240 (.slice HA hn hc) (.int .i64 64)).run Tryz.prog W=_:=hix
    clear hix
    have NL:Hid (hn≤64→x=(s.size:Int)+1):=fun h=>by omega
    clear hlt hx hA
    go_wp2_with fail
    go_meet
    exact⟨x,rfl,rfl,NL⟩
   ·have e64:decide ((64:Int)<(hn:Int))=false:=dF (by omega)
    have e64':decide (64<hn)=false:=dF h64
    go_wp2_with fail
    go_meet
    exact⟨_,rfl,rfl,fun _=>rfl⟩
  case rest=>
  obtain⟨lg,rfl,rfl,HLG⟩:=hcut
  go_upto_block 0 with(fail)
  go_cut [2] (fun v wx=>v=.slice none 0 0∧Hid (Below w2.heap.size w2 wx)∧Hid (hn≤64→ps.all prtB=true))
  case first=>
   go_wp2_with fail
   go_loopw [2,6] (fun v i wr=>∃ k:Nat,v=.slice none 0 0∧i=.int .i64 k∧k≤pn∧Hid (Below w2.heap.size w2 wr)∧Hid (hn≤64→(ps.take k).all prtB=true)) (fun _ i _=>pn-(intOf i).toNat)
   case atStart=>exact⟨0,rfl,rfl,z0,bR,fun _=>by simp⟩
   case round=>
    clear c2 c3 c4 c5 r0 r1 r2 fr0 fr1 fr2
    obtain⟨k,rfl,rfl,hk,HB,HA0⟩:=hrel
    have c3:=(KA.out.belowW HB.out).rsc.c3
    by_cases hlt:k<pn
    ·have hlt':k<ps.length:=by rw[HPN.out];exact hlt
     obtain⟨x,hx⟩:∃ x,ps[k]?=some x:=⟨_,gG hlt'⟩
     have RPE:Hid (Rd wr 3 PA ps.length (ps.flatMap Prt.cells)):=by have:=(owns_rd RP.out).below HB.out;rw[←HPN.out] at this;exact this
     obtain⟨b,off,hA,he⟩:=RPE.out.elem prt_len k x hx
     have e0:=he 0 _ rfl
     have e1:=he 1 _ rfl
     have e2:=he 2 _ rfl
     simp only[Nat.add_zero] at e0
     have hix:=fun W=>idx_of (T:=239) (E:=244) (sz:=3) (n:=pn) (c:=pc) Tryz.underlying239 rfl Tryz.sizeOf244 hA hlt W
     obtain⟨hxa,hxz,hxk⟩:=HPT.out x (gM hx)
     have HX:=hid hx
     have HXK:=hid (prt_kinds x hxk)
     obtain⟨W3,hW3⟩:∃ W3,wr.alloc (.cells #[.int .i64 x.kind,.int .i64 x.at_,.string x.text] 244)=W3:=⟨_,rfl⟩
     have B3:Hid (Below w2.heap.size w2 W3):=by rw[←hW3];exact HB.out.alloc HB.out.size _
     have NX:Hid (prtB x=true→hn≤64→(ps.take (k+1)).all prtB=true):=fun h1 h2=>take_all hx (HA0.out h2) h1
     have NN:Hid (prtB x=false→RR=none):=fun h1=>DB1.out (all_no hx h1)
     clear hx he hA hxk hlt'
     by_cases hbr:lg≤(x.at_:Int)
     ·have NF:Hid (hn≤64→ps.all prtB=true):=fun h=>by have:=HLG.out h;omega
      clear hW3
      have B3':=hid (HB.out.alloc HB.out.size (.cells #[.int .i64 x.kind,.int .i64 x.at_,.string x.text] 244))
      go_wp2_with fail
      go_meet
      exact⟨rfl,B3',NF⟩
     ·have hbr':decide (lg≤(x.at_:Int))=false:=dF hbr
      obtain⟨xk,xa,xt⟩:=x
      simp only at *
      rcases HXK.out with⟨hkd,hpb⟩ | ⟨hkd,hpb⟩ | ⟨hkd,hpb⟩
      ·subst hkd
       have BX:Hid (Below w2.heap.size w2 (wr.alloc (.cells #[.int .i64 1,.int .i64 xa,.string xt] 244))):=HB.out.alloc HB.out.size _
       have hC:=fun W=>r14_Name xt W (by omega)
       have r0:=(K2.out.below BX.out).cell 0 _ rfl
       have r1:=(K2.out.below BX.out).cell 1 _ rfl
       have r2:=(K2.out.below BX.out).cell 2 _ rfl
       have fr0:=(K2.out.below BX.out).free 0 (by simp)
       have fr1:=(K2.out.below BX.out).free 1 (by simp)
       have fr2:=(K2.out.below BX.out).free 2 (by simp)
       cases hv:dnameB (bl xt) with
       | true=>
        have E:prtB ⟨1,xa,xt⟩=true:=by rw[hpb,hv]
        have HEE:=hid E
        rw[hv] at hC
        clear hv hpb E
        go_wp2_with fail
        refine(hC _).mono ?_;rintro e w' ⟨rfl,rfl⟩
        go_wp2_with fail
        go_roundw
        case rel=>exact⟨k+1,rfl,by go_num,by omega,BX,NX.out HEE.out⟩
        case measure=>simp[intOf];omega
       | false=>
        have EN:Hid (RR=none):=NN.out (by rw[hpb,hv])
        rw[hv] at hC
        clear hv hpb
        go_wp2_with fail
        refine(hC _).mono ?_;rintro e w' ⟨rfl,rfl⟩
        go_wp2_with fail
        go_region
        go_wp2_with fail
        refine bodyPost_ret (v:=.tuple #[.slice none 0 0,.agg #[.string ⟨#[]⟩,.int .i64 xa,.int .i64 10]]) (by simp[results,Tryz.results148,go_sem,r0,r1,r2]) rfl ?_
        refine⟨none,0,0,⟨#[]⟩,xa,10,rfl,?_,by rw[EN.out];exact⟨by decide,rfl,rfl⟩⟩
        exact(below_set (below_set (below_set (bthen B2.out BX.out) lr _) lr _) lr _).drew
      ·subst hkd
       have BX:Hid (Below w2.heap.size w2 (wr.alloc (.cells #[.int .i64 2,.int .i64 xa,.string xt] 244))):=HB.out.alloc HB.out.size _
       have hC:=fun W=>r14_Word xt W (by omega)
       have r0:=(K2.out.below BX.out).cell 0 _ rfl
       have r1:=(K2.out.below BX.out).cell 1 _ rfl
       have r2:=(K2.out.below BX.out).cell 2 _ rfl
       have fr0:=(K2.out.below BX.out).free 0 (by simp)
       have fr1:=(K2.out.below BX.out).free 1 (by simp)
       have fr2:=(K2.out.below BX.out).free 2 (by simp)
       cases hv:dwordB (bl xt) with
       | true=>
        have E:prtB ⟨2,xa,xt⟩=true:=by rw[hpb,hv]
        have HEE:=hid E
        rw[hv] at hC
        clear hv hpb E
        go_wp2_with fail
        refine(hC _).mono ?_;rintro e w' ⟨rfl,rfl⟩
        go_wp2_with fail
        go_roundw
        case rel=>exact⟨k+1,rfl,by go_num,by omega,BX,NX.out HEE.out⟩
        case measure=>simp[intOf];omega
       | false=>
        have EN:Hid (RR=none):=NN.out (by rw[hpb,hv])
        rw[hv] at hC
        clear hv hpb
        go_wp2_with fail
        refine(hC _).mono ?_;rintro e w' ⟨rfl,rfl⟩
        go_wp2_with fail
        go_region
        go_wp2_with fail
        refine bodyPost_ret (v:=.tuple #[.slice none 0 0,.agg #[.string ⟨#[]⟩,.int .i64 xa,.int .i64 10]]) (by simp[results,Tryz.results148,go_sem,r0,r1,r2]) rfl ?_
        refine⟨none,0,0,⟨#[]⟩,xa,10,rfl,?_,by rw[EN.out];exact⟨by decide,rfl,rfl⟩⟩
        exact(below_set (below_set (below_set (bthen B2.out BX.out) lr _) lr _) lr _).drew
      ·subst hkd
       have BX0:Hid (Below w2.heap.size w2 (wr.alloc (.cells #[.int .i64 3,.int .i64 xa,.string xt] 244))):=HB.out.alloc HB.out.size _
       have hC:=fun W=>r12_Check 1 xt W (by omega)
       have KP:Hid (Blk (wr.alloc (.cells #[.int .i64 3,.int .i64 xa,.string xt] 244)) wr.heap.size [.int .i64 3,.int .i64 xa,.string xt]):=Blk.new wr _ _
       by_cases hv:verE 1 xt=0
       ·have E:prtB ⟨3,xa,xt⟩=true:=by rw[hpb];simp[hv]
        have HEE:=hid E
        rw[hv] at hC
        clear hv hpb E
        go_wp2_with fail
        refine(hC _).mono ?_;rintro e w4 ⟨rfl,hb4⟩
        have BX:Hid (Below w2.heap.size w2 w4):=bthen BX0.out hb4
        clear hb4
        go_wp2_with fail
        go_roundw
        case rel=>exact⟨k+1,rfl,by go_num,by omega,BX,NX.out HEE.out⟩
        case measure=>simp[intOf];omega
       ·have EN:Hid (RR=none):=NN.out (by rw[hpb];simp[hv])
        have HV:=HidN.mk hv
        have hv1:(verE 1 xt != 0)=true:=by simp[hv]
        clear hv hpb
        go_wp2_with fail
        refine(hC _).mono ?_;rintro e w4 ⟨rfl,hb4⟩
        have BX:Hid (Below w2.heap.size w2 w4):=bthen BX0.out hb4
        have d1:=(KP.out.below hb4).cell 1 _ rfl
        clear hb4
        have r0:=(K2.out.below BX.out).cell 0 _ rfl
        have r1:=(K2.out.below BX.out).cell 1 _ rfl
        have r2:=(K2.out.below BX.out).cell 2 _ rfl
        have fr0:=(K2.out.below BX.out).free 0 (by simp)
        have fr1:=(K2.out.below BX.out).free 1 (by simp)
        have fr2:=(K2.out.below BX.out).free 2 (by simp)
        go_wp2_with fail
        go_region
        go_wp2_with fail
        refine bodyPost_ret (v:=.tuple #[.slice none 0 0,.agg #[.string ⟨#[]⟩,.int .i64 xa,.int .i64 (verE 1 xt)]]) (by simp[results,Tryz.results148,go_sem,r0,r1,r2]) rfl ?_
        refine⟨none,0,0,⟨#[]⟩,xa,(verE 1 xt),rfl,?_,by rw[EN.out];exact⟨HV.out,rfl,rfl⟩⟩
        exact(below_set (below_set (below_set (bthen B2.out BX.out) lr _) lr _) lr _).drew
    ·have NF:Hid (hn≤64→ps.all prtB=true):=fun h=>by have:=HA0.out h;rw[tL (by rw[HPN.out];omega)] at this;exact this
     go_wp2_with fail
     go_meet
     exact⟨rfl,HB,NF⟩
  case rest=>
  obtain⟨rfl,HB,HA0⟩:=hcut
  have r0:=(K2.out.below HB.out).cell 0 _ rfl
  have r1:=(K2.out.below HB.out).cell 1 _ rfl
  have r2:=(K2.out.below HB.out).cell 2 _ rfl
  have fr0:=(K2.out.below HB.out).free 0 (by simp)
  have fr1:=(K2.out.below HB.out).free 1 (by simp)
  have fr2:=(K2.out.below HB.out).free 2 (by simp)
  have c4:=(KA.out.belowW HB.out).rsc.c4
  have c5:=(KA.out.belowW HB.out).rsc.c5
  by_cases h64:64<hn
  ·have e64:decide ((64:Int)<(hn:Int))=true:=dT (by omega)
   have e64':decide (64<hn)=true:=dT h64
   have EN:Hid (RR=none):=DB2.out h64
   go_wp2_with fail
   refine bodyPost_ret (v:=.tuple #[.slice none 0 0,.agg #[.string ⟨#[]⟩,.int .i64 lg,.int .i64 4]]) (by simp[results,Tryz.results148,go_sem,r0,r1,r2]) rfl ?_
   refine⟨none,0,0,⟨#[]⟩,lg,4,rfl,?_,by rw[EN.out];exact⟨by decide,rfl,rfl⟩⟩
   exact below_set (below_set (below_set (bthen B2.out HB.out) lr _) lr _) lr _
  ·have e64:decide ((64:Int)<(hn:Int))=false:=dF (by omega)
   have e64':decide (64<hn)=false:=dF h64
   have EN:Hid (RR=some L):=DG.out (by omega) (HA0.out (by omega))
   have hz1:w.heap.size<w.heap.size+1+1:=by omega
   have F3:Hid (FldOwn (((wc.setCell ⟨w.heap.size,0,none⟩ (.string ⟨#[]⟩)).setCell ⟨w.heap.size,1,none⟩ (.int .i64 0)).setCell ⟨w.heap.size,2,none⟩ (.int .i64 0)) w.heap.size LA gs.length lc gs):=by
    refine⟨rfl,?_,?_⟩
    ·exact owns_base (owns_kept (owns_kept (owns_kept (owns_below RL.out HB.out) hz1 (kept_set _)) hz1 (kept_set _)) hz1 (kept_set _)) (by omega)
    ·exact fun g hg=>(((((HR.out.grp g hg).below HB.out).kept hz1 (kept_set _)).kept hz1 (kept_set _)).kept hz1 (kept_set _)).base (by omega)
   go_wp2_with fail
   refine bodyPost_ret (v:=.tuple #[.slice LA gs.length lc,.agg #[.string ⟨#[]⟩,.int .i64 0,.int .i64 0]]) (by simp[results,Tryz.results148,go_sem,r0,r1,r2]) rfl ?_
   refine⟨LA,gs.length,lc,⟨#[]⟩,0,0,rfl,?_,?_⟩
   ·exact below_set (below_set (below_set (bthen B2.out HB.out) lr _) lr _) lr _
   ·rw[EN.out];exact⟨rfl,gs,HL.out,F3.out⟩
end
end Go.Proofs.YtdfdllbebfoggaaGreatDoor
