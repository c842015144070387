/- A part of the proof. -/
import Derived.Test.YtaohgmcbpafdeaaGreatDoorA21
set_option maxRecDepth 100000
set_option maxHeartbeats 20000000
set_option linter.unusedVariables false
set_option linter.unusedSimpArgs false
namespace Go.Proofs.YtaohgmcbpafdeaaGreatDoor
section
open Go.RowKit
theorem JW {x:Nat}(h:x<4294967296):nv (BitVec.ofNat 32 x)=(x:Int):=by
 unfold nv
 rw[BitVec.toNat_ofNat,Nat.mod_eq_of_lt h]
theorem Mf (l:LU)(h:l.length=4):wm l<4294967296:=by have:=C9 l;rw[h] at this;exact this
theorem JX (l:LU)(h:l.length=4):Id l<4294967296:=by have:=Da l;rw[h] at this;exact this
def bi (kd:Nat)(st:List bX)(tl:LU)(n:Nat):LV:=.int .i64 kd::(st.map vw++(tl.map vb++[.int .u64 n]))
theorem ma {kd:Nat}{st:List bX}{tl:LU}{n:Nat}(hs:st.length=8)(ht:tl.length=64):(bi kd st tl n).length=74:=by simp[bi,hs,ht]
theorem tZ {kd:Nat}{st:List bX}{tl:LU}{n i:Nat}(hi:i<st.length):(bi kd st tl n)[1+i]?=some (vw (st.getD i 0)):=by
 unfold bi
 rw[Nat.add_comm,List.getElem?_cons_succ,List.getElem?_append_left (by simpa using hi),List.getElem?_map,gG hi,List.getD_eq_getElem?_getD,gG hi]
 rfl
theorem ua {kd:Nat}{st:List bX}{tl:LU}{n i:Nat}(hs:st.length=8)(hi:i<tl.length):(bi kd st tl n)[9+i]?=(tl.map vb)[i]?:=by
 unfold bi
 rw[show 9+i=(8+i)+1 by omega,List.getElem?_cons_succ,List.getElem?_append_right (by simp[hs]),List.length_map,hs,show 8+i-8=i by omega,List.getElem?_append_left (by simpa using hi)]
theorem eK {kd:Nat}{st:List bX}{tl:LU}{n:Nat}(hs:st.length=8)(ht:tl.length=64):(bi kd st tl n)[73]?=some (.int .u64 n):=by
 unfold bi
 rw[List.getElem?_cons_succ,List.getElem?_append_right (by simp[hs]),List.length_map,hs,List.getElem?_append_right (by simp[ht]),List.length_map,ht]
 rfl
theorem Av {kd:Nat}{p r:List bX}{x y:bX}{tl:LU}{n:Nat}:(bi kd (p++x::r) tl n).set (1+p.length) (vw y)=bi kd (p++y::r) tl n:=by
 unfold bi
 rw[Nat.add_comm,List.set_cons_succ,List.set_append_left _ _ (by simp),List.map_append,List.set_append_right _ _ (by simp)]
 simp
theorem GZ {w:World}{hb kd n:Nat}{st:List bX}{tl:LU}(h:ax w hb (bi kd st tl n))(hs:st.length=8)(ht:tl.length=64):Rd w 1 (some ⟨hb,9,none⟩) 64 (tl.map vb):=by
 refine⟨by simp[ht],fun _=>⟨hb,9,rfl,fun j u hu=>h.cell _ _ ?_⟩⟩
 have hj:j<tl.length:=by have:=(gS hu).1;simpa using this
 rw[ua hs hj,hu]
theorem Mg {l:List bX}(h:l.length=16):∃ y0 y1 y2 y3 y4 y5 y6 y7 y8 y9 y10 y11 y12 y13 y14 y15,l=[y0,y1,y2,y3,y4,y5,y6,y7,y8,y9,y10,y11,y12,y13,y14,y15]:=by
 match l,h with
 | [y0,y1,y2,y3,y4,y5,y6,y7,y8,y9,y10,y11,y12,y13,y14,y15],_=>exact⟨y0,y1,y2,y3,y4,y5,y6,y7,y8,y9,y10,y11,y12,y13,y14,y15,rfl⟩
theorem Nu {l:List bX}(h:l.length=8):∃ a b c d e f g i,l=[a,b,c,d,e,f,g,i]:=by
 match l,h with
 | [a,b,c,d,e,f,g,i],_=>exact⟨a,b,c,d,e,f,g,i,rfl⟩
theorem Dc {vs:LV}(hl:vs.length=8){i:Nat}(hi:i<8){v:Value}(hv:vs[i]?=some v)(ho:v.oneCell'=true)(W:World):(Instr.index 147 (.agg vs.toArray) (.int .i64 (i:Int))).run Tryz.prog W=.ok v W:=by
 match vs,hl with
 | [a,b,c,d,e,f,g,h],_=>
  rcases(show i=0∨i=1∨i=2∨i=3∨i=4∨i=5∨i=6∨i=7 by omega) with rfl | rfl | rfl | rfl | rfl | rfl | rfl | rfl<;>(simp at hv;subst hv;simp[Instr.index,part,asIntOf,run_underlying Tryz.underlying147,Tryz.isAgg146,Tryz.sizeOf146,go_sem])
theorem pF {w w':World}{b g:Nat}{vs:LV}(h:ax w b vs)(hg:w.grownBy w' (some g))(hne:¬ b=g):ax w' b vs:=
 have hb:=hg.block b h.sz (fun e=>hne (Option.some.inj e))
 ⟨Nat.lt_of_lt_of_le h.sz hg.size,fun j u hu=>(World.cell?_of_block (a:=⟨b,j,none⟩) hb).trans (h.cell j u hu),fun j hj=>(World.frozen?_of_block (a:=⟨b,j,none⟩) hb).trans (h.free j hj)⟩
def xS (low:Bool)(F:FuncId):Prop:=(∀ (args:Array Value)(w:World),(callFunc F args).run Tryz.prog w=.ok (.enter F args) w) ∧
 ∀ (b o m:Nat)(l:LU)(w:World),Rd w 1 (some ⟨b,o,none⟩) 64 (l.map vb)→m+4≤64 →
  Calls Tryz.prog F #[.slice (some ⟨b,o,none⟩) 64 64,.int .i64 m,.int .i64 4] w fun e w'=>e=.returned (.tuple #[.int .u64 ((if low then Id ((l.drop m).take 4) else wm ((l.drop m).take 4):Nat)),.bool true])∧w'=w
theorem Dd:xS false 125:=⟨fun args w=>by kernel_rfl,fun b o m l w hr hm=>At (some ⟨b,o,none⟩) 64 64 m 4 l w hr (by decide) (by decide) hm (by decide) (by decide)⟩
theorem De:xS true 126:=⟨fun args w=>by kernel_rfl,fun b o m l w hr hm=>Au (some ⟨b,o,none⟩) 64 64 m 4 l w hr (by decide) (by decide) hm (by decide) (by decide)⟩
theorem nt (a b:Nat):((a:Int)==(b:Int))=(a==b):=by
 by_cases h:a=b
 ·subst h;simp
 ·have:¬ (a:Int)=(b:Int):=by omega
  rw[beq_eq_false_iff_ne.2 h,beq_eq_false_iff_ne.2 this]
theorem Df (hb kd n:Nat)(hk:1≤kd∧kd≤3)(st:List bX)(tl:LU)(w:World)(hG:rn w)(hs:st.length=8)(ht:tl.length=64)(hB:ax w hb (bi kd st tl n)):
  Calls Tryz.prog 90 #[.pointer (some ⟨hb,0,none⟩)] w fun e w'=>e=.returned (.tuple #[])∧ax w' hb (bi kd (fU kd st tl) tl n)∧w.grownBy w' (some hb):=by
 have b0:=hB.cell 0 _ rfl
 have k1:((kd:Int)==1)=(kd==1):=nt kd 1
 have HB:=ae hB
 have HG:=ae hG
 have HS:=ae hs
 have HT:=ae ht
 obtain⟨low,hlow⟩:∃ low,(kd==1)=low:=⟨_,rfl⟩
 rw[hlow] at k1
 have HLOW:=ae hlow
 clear hB hG hs ht hlow
 go_enter Tryz.func90,Tryz.ntmps90
 go_upto_if 14 with(fail)
 go_cut [2] (fun s wx=>wx=w∧∃ F:FuncId,s=.func (Fn.func F) #[] #[]∧Hid (xS low F))
 case first=>
  cases low
  ·go_wp2_with fail
   go_meet
   exact⟨rfl,_,rfl,Dd⟩
  ·go_wp2_with fail
   go_meet
   exact⟨rfl,_,rfl,De⟩
 case rest=>
  obtain⟨rfl,F,rfl,HF⟩:=hcut
  have hcall:=HF.out.1
  obtain⟨W1,hW1⟩:∃ W1,wc.alloc (.cells #[.int .u32 0,.int .u32 0,.int .u32 0,.int .u32 0,.int .u32 0,.int .u32 0,.int .u32 0,.int .u32 0,.int .u32 0,.int .u32 0,.int .u32 0,.int .u32 0,.int .u32 0,.int .u32 0,.int .u32 0,.int .u32 0] 189)=W1:=⟨_,rfl⟩
  have X1:Hid (ax W1 wc.heap.size (jf 16 [])):=by show ax _ _ _;rw[←hW1];exact ax.new wc (jf 16 []) _
  have L1:Hid (Below wc.heap.size wc W1):=by show Below _ _ _;rw[←hW1];exact bR.alloc lr _
  have HBL:Hid (hb<wc.heap.size):=HB.out.sz
  have HB1:=ae (HB.out.below L1.out)
  obtain⟨wf,hwf⟩:∃ wf,Db low tl=wf:=⟨_,rfl⟩
  have HWF:=ae hwf
  clear hwf
  go_wp2_with fail
  clear hW1
  go_loopw [15] (fun s15 wr=>∃ i:Nat,i≤16∧s15=.int .i64 i∧Hid (ax wr wc.heap.size (jf 16 ((List.range i).map wf)))∧Hid (ax wr hb (bi kd st tl n))∧Hid (Below wc.heap.size wc wr)) (fun s15 _=>16-(intOf s15).toNat)
  case atStart=>exact⟨0,by omega,rfl,X1,HB1,L1⟩
  case round=>
   obtain⟨i,hi,rfl,HX,HH,HBel⟩:=hrel
   by_cases hlt:i<16
   ·obtain⟨m,hm⟩:∃ m,4*i=m:=⟨_,rfl⟩
    have hmi:(4:Int)*(i:Int)=(m:Int):=by omega
    have hii:(i:Int)<16:=by omega
    have hm4:m+4≤64:=by omega
    have RT:=ae (GZ HH.out HS.out HT.out)
    obtain⟨x,hx⟩:∃ x:Nat,(if low then Id ((tl.drop m).take 4) else wm ((tl.drop m).take 4))=x:=⟨_,rfl⟩
    have h4:((tl.drop m).take 4).length=4:=by rw[List.length_take,List.length_drop,HT.out];omega
    have hxl:x<4294967296:=by rw[←hx];split;exact JX _ h4;exact Mf _ h4
    obtain⟨y,hy⟩:∃ y,wf i=y:=⟨_,rfl⟩
    have hv:(x:Int)=nv y:=by rw[←hy,←HWF.out,Db,hm,hx,JW hxl]
    have hvw:vw y=.int .u32 (x:Int):=by unfold vw;rw[←hv]
    have ck:=HX.out.cell i _ (by have:=tX (n:=16) (l:=(List.range i).map wf) (by simpa using hlt);rwa [List.length_map,List.length_range] at this)
    have fk:=HX.out.free i (by rw[jU (by simpa using hi)];exact hlt)
    have HX2:Hid (ax (wr.setCell ⟨wc.heap.size,i,none⟩ (vw y)) wc.heap.size (jf 16 ((List.range (i+1)).map wf))):=by
     have:=HX.out.set i (by rw[jU (by simpa using hi)];exact hlt) (vw y)
     have e:=tY (n:=16) (l:=(List.range i).map wf) (by simpa using hlt) y
     rw[List.length_map,List.length_range] at e
     rw[e] at this
     show ax _ _ _
     rw[List.range_succ,List.map_append,List.map_singleton,hy]
     exact this
    have HH2:Hid (ax (wr.setCell ⟨wc.heap.size,i,none⟩ (vw y)) hb (bi kd st tl n)):=HH.out.far (by have:=HBL.out;omega) _
    have HB5:Hid (Below wc.heap.size wc (wr.setCell ⟨wc.heap.size,i,none⟩ (vw y))):=ak HBel.out lr _
    have HV:=ae hv
    have HX0:=ae hx
    rw[hvw] at HX2 HH2 HB5
    unfold vw at ck
    clear hm hx hy hv h4 hvw
    go_wp2_with fail
    refine(HF.out.2 hb 9 m tl _ RT.out hm4).mono ?_;rintro e w' ⟨rfl,rfl⟩
    rw[HX0.out]
    go_wp2_with fail
    go_roundw
    case rel=>exact⟨i+1,by omega,by go_num,HX2,HH2,HB5⟩
    case measure=>simp[intOf];omega
   ·have HK:Hid (i=16):=by show _=_;omega
    obtain⟨W3,hW3⟩:∃ W3,wr=W3:=⟨_,rfl⟩
    obtain⟨ws,hws⟩:∃ ws,rk low tl=ws:=⟨_,rfl⟩
    have HX16:Hid (ax W3 wc.heap.size (ws.map vw)):=by
     have:=HX.out
     rw[HK.out,hW3] at this
     show ax _ _ _
     rw[←hws,rk,HWF.out]
     simpa [jf] using this
    obtain⟨y0,y1,y2,y3,y4,y5,y6,y7,y8,y9,y10,y11,y12,y13,y14,y15,hyl⟩:=Mg (l:=ws) (by rw[←hws];simp[rk])
    obtain⟨a,b,c,d,e0,f0,g0,h0,hst⟩:=Nu HS.out
    obtain⟨rest,hrest⟩:∃ rest,tl.map vb++[.int .u64 n]=rest:=⟨_,rfl⟩
    have HC:Hid (bi kd st tl n=.int .i64 kd::vw a::vw b::vw c::vw d::vw e0::vw f0::vw g0::vw h0::rest):=by show _=_;rw[hst,←hrest];rfl
    have HH2:Hid (ax W3 hb (.int .i64 kd::vw a::vw b::vw c::vw d::vw e0::vw f0::vw g0::vw h0::rest)):=by rw[←HC.out,←hW3];exact HH.out
    rw[hyl] at HX16
    have r1:=HH2.out.cell 1 _ rfl
    have r2:=HH2.out.cell 2 _ rfl
    have r3:=HH2.out.cell 3 _ rfl
    have r4:=HH2.out.cell 4 _ rfl
    have r5:=HH2.out.cell 5 _ rfl
    have r6:=HH2.out.cell 6 _ rfl
    have r7:=HH2.out.cell 7 _ rfl
    have r8:=HH2.out.cell 8 _ rfl
    rw[hW3] at HBel ⊢
    have HST:=ae hst
    have HWS:=ae hws
    have HWY:=ae hyl
    have HRE:=ae hrest
    unfold vw at r1 r2 r3 r4 r5 r6 r7 r8
    clear hW3 hst hws hyl hrest HX HH HB1 HB X1 L1
    obtain⟨W4,hW4⟩:∃ W4,W3.alloc (.cells #[vw a,vw b,vw c,vw d,vw e0,vw f0,vw g0,vw h0] 147)=W4:=⟨_,rfl⟩
    have L4:Hid (Below W3.heap.size W3 W4):=by show Below _ _ _;rw[←hW4];exact bR.alloc lr _
    have HO4:Hid (ax W4 W3.heap.size [vw a,vw b,vw c,vw d,vw e0,vw f0,vw g0,vw h0]):=by show ax _ _ _;rw[←hW4];exact ax.new W3 [vw a,vw b,vw c,vw d,vw e0,vw f0,vw g0,vw h0] _
    have HH4:=ae (HH2.out.below L4.out)
    have HX4:=ae (HX16.out.below L4.out)
    obtain⟨w0,hw0⟩:∃ w0,wc=w0:=⟨_,rfl⟩
    have HG4:Hid (w0.grownBy W4 (some hb)):=by show World.grownBy _ _ _;rw[←hw0];exact cJ (cJ (World.grownBy.refl wc _) HBel.out) L4.out
    have GT4:Hid (rn W4):=(HG.out.below HBel.out).below L4.out
    have h3:hb<W3.heap.size:=HH2.out.sz
    have q0:=HX4.out.cell 0 _ rfl
    have q1:=HX4.out.cell 1 _ rfl
    have q2:=HX4.out.cell 2 _ rfl
    have q3:=HX4.out.cell 3 _ rfl
    have q4:=HX4.out.cell 4 _ rfl
    have q5:=HX4.out.cell 5 _ rfl
    have q6:=HX4.out.cell 6 _ rfl
    have q7:=HX4.out.cell 7 _ rfl
    have q8:=HX4.out.cell 8 _ rfl
    have q9:=HX4.out.cell 9 _ rfl
    have q10:=HX4.out.cell 10 _ rfl
    have q11:=HX4.out.cell 11 _ rfl
    have q12:=HX4.out.cell 12 _ rfl
    have q13:=HX4.out.cell 13 _ rfl
    have q14:=HX4.out.cell 14 _ rfl
    have q15:=HX4.out.cell 15 _ rfl
    have h0c:=HH4.out.cell 0 _ rfl
    obtain⟨lo2,hlo2⟩:∃ lo2,(kd==2)=lo2:=⟨_,rfl⟩
    have k2:((kd:Int)==2)=lo2:=(nt kd 2).trans hlo2
    have HLO2:=ae hlo2
    have HW0:=ae hw0
    clear hlo2 hw0
    unfold vw at hW4 q0 q1 q2 q3 q4 q5 q6 q7 q8 q9 q10 q11 q12 q13 q14 q15
    go_upto_block 2 with(fail)
    clear hW4 r1 r2 r3 r4 r5 r6 r7 r8
    go_cut [] (fun wx=>Hid (ax wx hb (bi kd (lD kd ws st) tl n))∧Hid (ax wx W3.heap.size [vw a,vw b,vw c,vw d,vw e0,vw f0,vw g0,vw h0])∧Hid (w0.grownBy wx (some hb)))
    case first=>
     cases low with
     | true=>
      have HK1:Hid (kd=1):=by have:=HLOW.out;show _=_;simpa using this
      go_wp2_with fail
      refine(JS hb y0 y1 y2 y3 y4 y5 y6 y7 y8 y9 y10 y11 y12 y13 y14 y15 a b c d (.int .i64 kd) (vw e0::vw f0::vw g0::vw h0::rest) _ GT4.out HH4.out).mono ?_;rintro e w' ⟨rfl,hb1,hg1⟩
      have R1:Hid (ax w' hb (bi kd (lD kd ws st) tl n)):=by
       rw[←HWY.out] at hb1
       show ax _ _ _
       rw[HST.out,HK1.out]
       rw[HK1.out] at hb1
       unfold bi
       rw[HRE.out]
       exact hb1
      have R2:=ae (pF HO4.out hg1 (by omega))
      have R3:=ae (ai HG4.out hg1)
      clear hb1 hg1
      go_wp2_with fail
      go_meet
      exact⟨R1,R2,R3⟩
     | false=>
      cases lo2 with
      | true=>
       have HK1:Hid (kd=2):=by have:=HLO2.out;show _=_;simpa using this
       go_wp2_with fail
       refine(GW hb y0 y1 y2 y3 y4 y5 y6 y7 y8 y9 y10 y11 y12 y13 y14 y15 a b c d e0 (.int .i64 kd) (vw f0::vw g0::vw h0::rest) _ HH4.out).mono ?_;rintro e w' ⟨rfl,hb1,hg1⟩
       have R1:Hid (ax w' hb (bi kd (lD kd ws st) tl n)):=by
        rw[←HWY.out] at hb1
        show ax _ _ _
        rw[HST.out,HK1.out]
        rw[HK1.out] at hb1
        unfold bi
        rw[HRE.out]
        exact hb1
       have R2:=ae (pF HO4.out hg1 (by omega))
       have R3:=ae (ai HG4.out hg1)
       clear hb1 hg1
       go_wp2_with fail
       go_meet
       exact⟨R1,R2,R3⟩
      | false=>
       have HK1:Hid (kd=3):=by
        have h1:=HLO2.out
        have h2:=HLOW.out
        show _=_
        simp at h1 h2
        omega
       go_wp2_with fail
       refine(As hb y0 y1 y2 y3 y4 y5 y6 y7 y8 y9 y10 y11 y12 y13 y14 y15 a b c d e0 f0 g0 h0 (.int .i64 kd) rest _ GT4.out HH4.out).mono ?_;rintro e w' ⟨rfl,hb1,hg1⟩
       have R1:Hid (ax w' hb (bi kd (lD kd ws st) tl n)):=by
        rw[←HWY.out] at hb1
        show ax _ _ _
        rw[HST.out,HK1.out]
        rw[HK1.out] at hb1
        unfold bi
        rw[HRE.out]
        exact hb1
       have R2:=ae (pF HO4.out hg1 (by omega))
       have R3:=ae (ai HG4.out hg1)
       clear hb1 hg1
       go_wp2_with fail
       go_meet
       exact⟨R1,R2,R3⟩
    case rest=>
     obtain⟨R1,R2,R3⟩:=hcut
     obtain⟨al,hal⟩:∃ al,lD kd ws st=al:=⟨_,rfl⟩
     have hall:al.length=8:=by rw[←hal];exact tU kd ws HS.out
     obtain⟨zl,hzl⟩:∃ zl,List.zipWith (· + ·) al st=zl:=⟨_,rfl⟩
     have hzll:zl.length=8:=by rw[←hzl,List.length_zipWith,hall,HS.out];rfl
     rw[hal] at R1
     have HZ:Hid (fU kd st tl=zl):=by
      show _=_
      rw[←hzl,←hal,fU,HLOW.out]
      rw[HWS.out]
     have o0:=R2.out.cell 0 _ rfl
     have o1:=R2.out.cell 1 _ rfl
     have o2:=R2.out.cell 2 _ rfl
     have o3:=R2.out.cell 3 _ rfl
     have o4:=R2.out.cell 4 _ rfl
     have o5:=R2.out.cell 5 _ rfl
     have o6:=R2.out.cell 6 _ rfl
     have o7:=R2.out.cell 7 _ rfl
     unfold vw at o0 o1 o2 o3 o4 o5 o6 o7
     have HAL:=ae hall
     have HZL:=ae hzll
     have HZQ:=ae hzl
     clear hall hzll hzl hal k1 k2 hcall
     go_wp2_with fail
     clear o0 o1 o2 o3 o4 o5 o6 o7
     go_loopw [56] (fun s56 wr=>∃ i:Nat,i≤8∧s56=.int .i64 i∧Hid (ax wr hb (bi kd (zl.take i++al.drop i) tl n))∧Hid (w0.grownBy wr (some hb))) (fun s56 _=>8-(intOf s56).toNat)
     case atStart=>exact⟨0,by omega,rfl,by simpa using R1,R3⟩
     case round=>
      obtain⟨i,hi,rfl,HR,HGr⟩:=hrel
      by_cases hlt:i<8
      ·have hii:(i:Int)<8:=by omega
       obtain⟨x,hx⟩:∃ x,al[i]?=some x:=⟨_,gG (by rw[HAL.out];exact hlt)⟩
       obtain⟨o,ho⟩:∃ o,st[i]?=some o:=⟨_,gG (by rw[HS.out];exact hlt)⟩
       have hz:zl[i]?=some (x+o):=by rw[←HZQ.out,List.getElem?_zipWith,hx,ho]
       have hidx:=fun W=>Dc (vs:=[vw a,vw b,vw c,vw d,vw e0,vw f0,vw g0,vw h0]) rfl hlt (v:=vw o) (by
        have:([vw a,vw b,vw c,vw d,vw e0,vw f0,vw g0,vw h0]:LV)=st.map vw:=by rw[HST.out];rfl
        rw[this,List.getElem?_map,ho];rfl) rfl W
       have hd:al.drop i=x::al.drop (i+1):=by rw[List.drop_eq_getElem_cons (by rw[HAL.out];exact hlt)];congr 1;exact(gS hx).2
       have htl:(zl.take i).length=i:=by rw[List.length_take,HZL.out];omega
       have hR:=HR.out
       rw[hd] at hR
       have c1:=hR.cell (1+i) (vw x) (by
        have:=tZ (kd:=kd) (st:=zl.take i++x::al.drop (i+1)) (tl:=tl) (n:=n) (i:=i) (by rw[List.length_append,htl];simp)
        rw[this,List.getD_eq_getElem?_getD,List.getElem?_append_right (by omega),htl,Nat.sub_self]
        rfl)
       have f1:=hR.free (1+i) (by rw[ma (by rw[List.length_append,List.length_cons,List.length_drop,htl,HAL.out];omega) HT.out];omega)
       obtain⟨v,hv1,hv2,HV⟩:=gn x o
       have HR2:Hid (ax (wr.setCell ⟨hb,1+i,none⟩ (vw v)) hb (bi kd (zl.take (i+1)++al.drop (i+1)) tl n)):=by
        have h1:=hR.set (1+i) (by rw[ma (by rw[List.length_append,List.length_cons,List.length_drop,htl,HAL.out];omega) HT.out];omega) (vw v)
        have h2:=Av (kd:=kd) (p:=zl.take i) (r:=al.drop (i+1)) (x:=x) (y:=v) (tl:=tl) (n:=n)
        rw[htl] at h2
        rw[h2] at h1
        show ax _ _ _
        rw[List.take_add_one,hz,←HV.out,List.append_assoc]
        exact h1
       have HG2:Hid (w0.grownBy (wr.setCell ⟨hb,1+i,none⟩ (vw v)) (some hb)):=aY HGr.out (.inl rfl) _
       unfold vw at c1 hidx HR2 HG2
       clear hx ho hz hd htl hR
       go_wp2_with fail
       go_region
       all_goals go_wp2_with fail
       all_goals go_roundw
       case rel=>exact⟨i+1,by omega,by go_num,ae HR2.out.drew,ae (bz HG2.out 1)⟩
       case measure=>simp[intOf];omega
      ·have HK8:Hid (i=8):=by show _=_;omega
       go_wp2_with fail
       go_end0
       refine⟨rfl,?_,?_⟩
       ·have:=HR.out
        rw[HK8.out,tL (by rw[HZL.out];exact Nat.le_refl _),List.drop_eq_nil_of_le (by rw[HAL.out];exact Nat.le_refl _),List.append_nil] at this
        rw[HZ.out]
        exact this
       ·rw[HW0.out]
        exact HGr.out
def bM (w:World)(hb kd:Nat)(m:LU):Prop:=∃ tl,ig m tl∧ax w hb (bi kd (cI kd m) tl m.length)
def NT (b:Nat):Prop:=¬ 2=b∧¬ 3=b∧¬ 4=b
theorem rn.new {w:World}(h:rn w){b:Nat}(hb:w.heap.size≤b):NT b:=
 ⟨fun e=>by have:=World.block_lt_of_cell? _ _ (h.t5 0 (by decide));simp at this;omega,fun e=>by have:=World.block_lt_of_cell? _ _ (h.tu 0 (by decide));simp at this;omega,fun e=>by have:=World.block_lt_of_cell? _ _ (h.ts 0 (by decide));simp at this;omega⟩
theorem rn.grown {w w':World}{g:Nat}(h:rn w)(hg:w.grownBy w' (some g))(hn:NT g):rn w':=by
 have key:∀ (b j:Nat)(v:Value),¬ b=g→w.cell? ⟨b,j,none⟩=some v→w'.cell? ⟨b,j,none⟩=some v:=fun b j v hne hc=>
  (World.cell?_of_block (a:=⟨b,j,none⟩) (hg.block b (World.block_lt_of_cell? _ _ hc) (fun e=>hne (Option.some.inj e)))).trans hc
 exact⟨fun i hi=>key _ _ _ hn.1 (h.t5 i hi),fun i hi=>key _ _ _ hn.2.1 (h.tu i hi),fun i hi=>key _ _ _ hn.2.2 (h.ts i hi)⟩
theorem Aw {w w':World}{sz n g:Nat}{A:OA}{xs:LV}(h:Rd w sz A n xs)(hg:w.grownBy w' (some g))(hA:0<n→∀ b o,A=some ⟨b,o,none⟩→¬ b=g):Rd w' sz A n xs:=
 ⟨h.1,fun hn=>by
  obtain⟨b,off,e,hc⟩:=h.2 hn
  exact⟨b,off,e,fun j u hu=>(World.cell?_of_block (a:=⟨b,off+j,none⟩) (hg.block b (World.block_lt_of_cell? _ _ (hc j u hu)) (fun e2=>hA hn b off e (Option.some.inj e2)))).trans (hc j u hu)⟩⟩
def Nv:Value→Nat
 | .slice _ l _=>l
 | _=>0
theorem G7 {T E:TypeId}{N:Nat}(hA:Tryz.prog.underlying T=some (.array N E))(hs:∀ w,(sizeOf E).run Tryz.prog w=.ok 1 w){b o off:Nat}(ho:off<N)(w:World):
  (Instr.sliceAt T (.pointer (some ⟨b,o,none⟩)) (some (.int .u64 off)) none none).run Tryz.prog w=.ok (.slice (some ⟨b,o+off,none⟩) (N-off) (N-off)) w:=by
 have hb:(Instr.sliceBounds false N N (some (.int .u64 off)) none none).run Tryz.prog w=.ok (off,N,N) w:=by
  simp[Instr.sliceBounds,run_sliceBound (k:=.u64) (i:=(off:Int)) (y:=N) (h0:=by omega) (h1:=by omega)]
 have hne:¬ N=off:=by omega
 simp[Instr.sliceAt,run_underlying hA,hb,hs,Instr.sureAddr,asAddr,hne,jq]
theorem Ax (kd:Nat)(st:List bX)(tl:LU)(n off k:Nat):bi kd st tl n=(.int .i64 kd::(st.map vw++(tl.take off).map vb))++(((tl.drop off).take k).map vb++((tl.drop (off+k)).map vb++[.int .u64 n])):=by
 unfold bi
 have e:tl=tl.take off++((tl.drop off).take k++tl.drop (off+k)):=by
  rw[←List.drop_drop,List.take_append_drop,List.take_append_drop]
 rw[List.cons_append,List.append_assoc,←List.append_assoc (((tl.drop off).take k).map vb),←List.map_append,←List.append_assoc ((tl.take off).map vb),←List.map_append,←e]
theorem G8 (kd:Nat)(st:List bX)(m tl r:LU)(n:Nat):(.int .i64 kd::(st.map vw++(tl.take (m.length % 64)).map vb))++(r.map vb++((tl.drop (m.length % 64+r.length)).map vb++[.int .u64 n]))=bi kd st (dN m tl r) n:=by
 simp[bi,dN]
theorem Dg {kd:Nat}{st:List bX}{tl:LU}{n n':Nat}(hs:st.length=8)(ht:tl.length=64):(bi kd st tl n).set 73 (.int .u64 n')=bi kd st tl n':=by
 unfold bi
 rw[List.set_cons_succ,List.set_append_right _ _ (by simp[hs]),List.set_append_right _ _ (by simp[hs,ht])]
 simp[hs,ht]
theorem ky (hb kd n c:Nat)(hk:1≤kd∧kd≤3)(m bs:LU)(A:OA)(w:World)(hG:rn w)(hN:NT hb)(hH:bM w hb kd m)(hr:Rd w 1 A n (bs.map vb))(hA:0<n→∀ b o,A=some ⟨b,o,none⟩→¬ b=hb)(hc:n≤c)(hc2:c≤9223372036854775807)(hm:m.length+n≤1152921504606846976):
  Calls Tryz.prog 63 #[.pointer (some ⟨hb,0,none⟩),.slice A n c] w fun e w'=>e=.returned (.tuple #[])∧bM w' hb kd (m++bs)∧w.grownBy w' (some hb):=by
 have HBN:Hid (bs.length=n):=ft hr
 have HR:=ae hr
 have HA:=ae hA
 have HH:=ae hH
 have HG:=ae hG
 have HNT:=ae hN
 have HM:=ae hm
 clear hr hA hH hG hN hm
 go_enter Tryz.func63,Tryz.ntmps63
 go_wp2_with fail
 go_loopw [1] (fun s1 wr=>∃ (j r:Nat) (A1:OA) (c1:Nat),s1=.slice A1 r c1∧r≤c1∧c1≤9223372036854775807∧Hid (j+r=n)∧Hid (Rd wr 1 A1 r ((bs.drop j).map vb))∧Hid (0<r→∀ b o,A1=some ⟨b,o,none⟩→¬ b=hb)∧Hid (bM wr hb kd (m++bs.take j))∧Hid (w.grownBy wr (some hb))) (fun s1 _=>Nv s1)
 case atStart=>exact⟨0,n,A,c,rfl,hc,hc2,by simp[Hid],by simpa using HR,HA,by simpa using HH,World.grownBy.refl w _⟩
 case round=>
  obtain⟨j,r,A1,c1,rfl,hrc,hc1,HJ,HRr,HAr,HHr,HGr⟩:=hrel
  by_cases hr0:0<r
  ·obtain⟨tl,hT,hB⟩:=HHr.out
   obtain⟨L,hL⟩:∃ L,m++bs.take j=L:=⟨_,rfl⟩
   rw[hL] at hT hB
   have hjn:=HJ.out
   have hLl:L.length=m.length+j:=by rw[←hL,List.length_append,List.length_take,HBN.out];omega
   obtain⟨sz,hsz⟩:∃ sz,L.length=sz:=⟨_,rfl⟩
   obtain⟨off,hoff⟩:∃ off,sz % 64=off:=⟨_,rfl⟩
   obtain⟨cnt,hcnt⟩:∃ cnt,Nat.min r (64-off)=cnt:=⟨_,rfl⟩
   obtain⟨rm,hrm⟩:∃ rm,64-off=rm:=⟨_,rfl⟩
   have ho64:off<64:=by omega
   have hcr:cnt≤r:=by rw[←hcnt];exact Nat.min_le_left _ _
   have hcm:cnt≤rm:=by rw[←hcnt,hrm];exact Nat.min_le_right _ _
   have hc0:0<cnt:=by rw[←hcnt];exact Nat.lt_min.2 ⟨hr0,by omega⟩
   obtain⟨sz2,hsz2⟩:∃ sz2,sz+cnt=sz2:=⟨_,rfl⟩
   have hmM:=HM.out
   have hszM:sz2≤1152921504606846976:=by omega
   obtain⟨ch,hch⟩:∃ ch,(bs.drop j).take cnt=ch:=⟨_,rfl⟩
   have hchl:ch.length=cnt:=by rw[←hch,List.length_take,List.length_drop,HBN.out];omega
   obtain⟨b1,o1,hA1,hcell⟩:=HRr.out.2 hr0
   have hb1:¬ b1=hb:=HAr.out hr0 b1 o1 hA1
   have hst:=gQ kd L
   -- the copy
   have hsl:=fun W=>G7 (T:=148) (E:=5) (N:=64) Tryz.underlying148 Tryz.sizeOf5 (b:=hb) (o:=9) (off:=off) ho64 W
   rw[hrm] at hsl
   have hB1:=hB
   rw[Ax kd _ tl L.length off cnt] at hB1
   have hpl:(.int .i64 (kd:Int)::((cI kd L).map vw++(tl.take off).map vb):LV).length=9+off:=by
    simp[hst,hT.1];omega
   have hcp:∀ ty,(Builtin.copy_ #[43,43] ty #[.slice (some ⟨hb,9+off,none⟩) rm rm,.slice (some ⟨b1,o1,none⟩) r c1]).run Tryz.prog wr.drew=.ok (.int .i64 cnt) (wr.drew.setCells hb (9+off) (ch.map vb)):=fun ty=>
    iA hB1.drew ty Tryz.underlying43 (by kernel_rfl) hpl.symm (ch.map vb) (by rw[List.length_map,hchl,←hcnt,hrm]) (by simp[hchl,hT.1];omega) (by rw[List.length_map,hchl]) (fun q v hq=>by
     rw[jq]
     refine hcell q v ?_
     rw[←hch,List.map_take] at hq
     exact(List.getElem?_take_of_lt (by have:=(gS hq).1;simp at this;omega)).symm.trans hq) (fun v hv=>by obtain⟨x,_,rfl⟩:=List.mem_map.1 hv;rfl)
   obtain⟨W2,hW2⟩:∃ W2,wr.drew.setCells hb (9+off) (ch.map vb)=W2:=⟨_,rfl⟩
   have hmo:L.length % 64=off:=by rw[hsz,hoff]
   have B2:Hid (ax W2 hb (bi kd (cI kd L) (dN L tl ch) sz)):=by
    have:=ax.setN ((tl.drop (off+cnt)).map vb++[.int .u64 L.length]) (ch.map vb) (((tl.drop off).take cnt).map vb) _ wr.drew (by simp[hchl,hT.1];omega) hB1.drew
    rw[hpl,hW2] at this
    show ax _ _ _
    rw[←G8,hmo,hchl,←hsz]
    exact this
   rw[hW2] at hcp
   have G2:Hid (w.grownBy W2 (some hb)):=by rw[←hW2];exact dX _ _ _ _ (bz HGr.out 1)
   have htp:(dN L tl ch).length=64:=qh hT.1 (by rw[hmo,hchl];omega)
   have k73:=B2.out.cell 73 _ (eK hst htp)
   have f73:=B2.out.free 73 (by rw[ma hst htp];decide)
   obtain⟨W3,hW3⟩:∃ W3,W2.setCell ⟨hb,73,none⟩ (.int .u64 sz2)=W3:=⟨_,rfl⟩
   have B3:Hid (ax W3 hb (bi kd (cI kd L) (dN L tl ch) sz2)):=by
    have:=B2.out.set 73 (by rw[ma hst htp];decide) (.int .u64 sz2)
    rw[Dg hst htp,hW3] at this
    exact this
   have G3:Hid (w.grownBy W3 (some hb)):=by rw[←hW3];exact aY G2.out (.inl rfl) _
   have q73:=B3.out.cell 73 _ (eK hst htp)
   have k73a:=hB.drew.cell 73 _ (eK hst hT.1)
   rw[hsz] at k73a
   have w73:wr.cell? ⟨hb,73,none⟩=some (.int .u64 sz):=k73a
   -- what is left
   have hsf:=fun W=>Me (T:=43) (E:=5) (sz:=1) Tryz.underlying43 rfl Tryz.sizeOf5 (A:=some ⟨b1,o1,none⟩) (n:=r) (c:=c1) (k:=cnt) hcr W
   obtain⟨A2,hA2⟩:∃ A2,(if c1=cnt then (some ⟨b1,o1,none⟩:OA) else (some ⟨b1,o1,none⟩:OA).map (·.add (cnt*1)))=A2:=⟨_,rfl⟩
   obtain⟨r2,hr2⟩:∃ r2,r-cnt=r2:=⟨_,rfl⟩
   obtain⟨c2,hc2'⟩:∃ c2,c1-cnt=c2:=⟨_,rfl⟩
   rw[hA2,hr2,hc2'] at hsf
   subst hA1
   have R2:Hid (Rd wr 1 A2 r2 ((bs.drop (j+cnt)).map vb)):=by
    have:=HRr.out.cut (i:=cnt) (j:=r) (c:=c1) hcr lr hrc
    rw[hA2,hr2,←List.map_drop,List.drop_drop,tL (by rw[List.length_map,List.length_drop,HBN.out];omega)] at this
    exact this
   have A2':Hid (0<r2→∀ b o,A2=some ⟨b,o,none⟩→¬ b=hb):=by
    show 0<r2→∀ b o,A2=some ⟨b,o,none⟩→¬ b=hb
    intro _ b o e
    rw[←hA2] at e
    split at e
    ·injection e with e;injection e with e _;rw[←e];exact hb1
    ·rw[Option.map_some,jq] at e;injection e with e;injection e with e _;rw[←e];exact hb1
   have HL2:Hid (m++bs.take (j+cnt)=L++ch):=by show _=_;rw[List.take_add,←hL,←hch,List.append_assoc]
   have HLc:Hid ((L++ch).length=sz2):=by show _=_;rw[List.length_append,hsz,hchl,hsz2]
   have HJ2:Hid (j+cnt+r2=n):=by show _=_;omega
   have hrc2:r2≤c2:=by omega
   have hc22:c2≤9223372036854775807:=by omega
   have hr2lt:r2<r:=by omega
   have e1:(sz:Int) % 64=(off:Int):=by omega
   have e1t:(sz:Int).tmod 64=(off:Int):=by rw[Int.tmod_eq_emod_of_nonneg (by omega)];omega
   have e1w:IntKind.u64.wrap (off:Int)=(off:Int):=IntWalk.u64_in _ (by omega)
   have e2:IntKind.u64.wrap (cnt:Int)=(cnt:Int):=IntWalk.u64_in _ (by omega)
   have e3:(sz:Int)+(cnt:Int)=(sz2:Int):=by omega
   have e3w:IntKind.u64.wrap (sz2:Int)=(sz2:Int):=IntWalk.u64_in _ (by omega)
   obtain⟨ful,hful⟩:∃ ful,(sz2 % 64==0)=ful:=⟨_,rfl⟩
   have e4:((sz2:Int) % 64==0)=ful:=by rw[←hful];exact nt (sz2 % 64) 0
   have HF:Hid ((sz2 % 64==0)=ful):=hful
   have HHN:Hid (ful=false→bM W3 hb kd (m++bs.take (j+cnt))):=by
    show _→_
    intro hf
    have h64:¬ sz2 % 64=0:=by rw[hf] at hful;simpa using hful
    have hlt:L.length % 64+ch.length<64:=by rw[hmo,hchl];omega
    rw[HL2.out]
    refine⟨_,hT.part hlt,?_⟩
    rw[xQ kd hlt,HLc.out]
    exact B3.out
   have HBK:Hid (ful=true→cI kd (L++ch)=fU kd (cI kd L) (dN L tl ch)∧ig (L++ch) (dN L tl ch)):=by
    show _→_
    intro hf
    have h64:sz2 % 64=0:=by rw[hf] at hful;simpa using hful
    have heq:L.length % 64+ch.length=64:=by rw[hmo,hchl];omega
    exact⟨vi kd hT heq,ig.zero htp (by rw[HLc.out];exact h64)⟩
   have HST:=ae hst
   have HTP:=ae htp
   have HGG:=ae (HG.out.grown G3.out HNT.out)
   have HRW:=ae (Aw R2.out (w':=W3) (g:=hb) (by rw[←hW3,←hW2];exact aY (dX _ _ _ _ (bz (World.grownBy.refl wr _) 1)) (.inl rfl) _) A2'.out)
   have rm0:(0:Int)≤(rm:Int):=by omega
   have HCR:=ae hcr
   clear hT hB hL hjn hLl hsz hoff hcnt hrm hsz2 hmM hch hchl hcell hb1 hst hB1 hpl hmo htp k73a hA2 hr2 hc2' hful HRr hW2 hcm
   go_wp2_with fail
   go_region_law (refine kx rfl (.tmp 16) (.tmp 17) 43 43 rfl _ _ rfl rfl hcp ?_)
   clear hcp w73
   cases ful with
   | false=>
    go_wp2_with fail
    go_roundw
    case rel=>exact⟨j+cnt,r2,A2,c2,rfl,hrc2,hc22,HJ2,HRW,A2',ae (HHN.out rfl),G3⟩
    case measure=>simp[Nv];omega
   | true=>
    go_wp2_with fail
    refine(Df hb kd sz2 hk (cI kd L) (dN L tl ch) _ HGG.out HST.out HTP.out B3.out).mono ?_;rintro e w' ⟨rfl,hb5,hg5⟩
    have HH5:Hid (bM w' hb kd (m++bs.take (j+cnt))):=by
     show bM _ _ _ _
     rw[HL2.out]
     refine⟨_,(HBK.out (by first | trivial | rfl)).2,?_⟩
     rw[(HBK.out (by first | trivial | rfl)).1,HLc.out]
     exact hb5
    have HR5:=ae (Aw HRW.out hg5 A2'.out)
    have HG5:=ae (ai G3.out hg5)
    clear hb5 hg5
    go_wp2_with fail
    go_roundw
    case rel=>exact⟨j+cnt,r2,A2,c2,rfl,hrc2,hc22,HJ2,HR5,A2',HH5,HG5⟩
    case measure=>simp[Nv];omega
  ·obtain rfl:r=0:=by omega
   have HJ0:Hid (j=n):=by have:=HJ.out;show _=_;omega
   go_wp2_with fail
   go_end0
   refine⟨rfl,?_,HGr.out⟩
   have:=HHr.out
   rw[tL (by rw[HBN.out,HJ0.out];exact Nat.le_refl _)] at this
   exact this
theorem G9:Tryz.zeroCells151=(bi 0 (List.replicate 8 0) (List.replicate 64 0) 0).toArray:=by kernel_rfl
theorem J0 (kd n:Nat):(Tryz.zeroCells151.setIfInBounds 0 (.int .i64 (kd:Int))).setIfInBounds 73 (.int .u64 (n:Int))=(bi kd (List.replicate 8 0) (List.replicate 64 0) n).toArray:=by
 rw[G9,List.setIfInBounds_toArray,List.setIfInBounds_toArray]
 congr 1
theorem Dh {w W1:World}{hb kd n:Nat}{st:List bX}{tl:LU}(hs:st.length=8)(ht:tl.length=64)(hB:ax w hb (bi kd st tl n))(hW:(w.alloc (.cells ((Tryz.zeroCells151.setIfInBounds 0 (.int .i64 (kd:Int))).setIfInBounds 73 (.int .u64 (n:Int))) 151)).drew=W1):
  ∃ W2 W3,(∀ ty,(Builtin.copy_ #[152,152] ty #[.slice (some ⟨w.heap.size,1,none⟩) 8 8,.slice (some ⟨hb,1,none⟩) 8 8]).run Tryz.prog W1.drew=.ok (.int .i64 (8:Nat)) W2) ∧
   (∀ ty,(Builtin.copy_ #[43,43] ty #[.slice (some ⟨w.heap.size,9,none⟩) 64 64,.slice (some ⟨hb,9,none⟩) 64 64]).run Tryz.prog W2.drew=.ok (.int .i64 (64:Nat)) W3) ∧
   Hid (ax W3 w.heap.size (bi kd st tl n))∧Hid (ax W3 hb (bi kd st tl n))∧Hid (Below w.heap.size w W3):=by
 rw[J0] at hW
 have hlt:=hB.sz
 have E1:ax W1.drew w.heap.size (bi kd (List.replicate 8 0) (List.replicate 64 0) n):=by rw[←hW];exact(ax.new w _ _).drew.drew
 have L1:Below w.heap.size w W1.drew:=by rw[←hW];exact an (an (bR.alloc lr _) 1) 1
 have H1:=hB.below L1
 have L2:Below w.heap.size w (W1.drew.setCells w.heap.size 1 (st.map vw)):=cg _ _ L1 lr
 have e1:bi kd (List.replicate 8 0) (List.replicate 64 0) n=[.int .i64 (kd:Int)]++(List.replicate 8 (vw 0)++(List.replicate 64 (vb 0)++[.int .u64 n])):=by simp[bi]
 have E2:ax (W1.drew.setCells w.heap.size 1 (st.map vw)) w.heap.size (bi kd st (List.replicate 64 0) n):=by
  have:=ax.setN (List.replicate 64 (vb 0)++[.int .u64 n]) (st.map vw) (List.replicate 8 (vw 0)) [.int .i64 (kd:Int)] W1.drew (by simp[hs]) (by rw[←e1];exact E1)
  simpa [bi] using this
 have e2:bi kd st (List.replicate 64 0) n=(.int .i64 (kd:Int)::st.map vw)++(List.replicate 64 (vb 0)++[.int .u64 n]):=by simp[bi]
 have hl9:(.int .i64 (kd:Int)::st.map vw:LV).length=9:=by simp[hs]
 refine⟨W1.drew.setCells w.heap.size 1 (st.map vw),(W1.drew.setCells w.heap.size 1 (st.map vw)).drew.setCells w.heap.size 9 (tl.map vb),fun ty=>?_,fun ty=>?_,?_,?_,?_⟩
 ·refine iA (pre:=[.int .i64 (kd:Int)]) (old:=List.replicate 8 (vw 0)) (post:=List.replicate 64 (vb 0)++[.int .u64 n]) (by rw[←e1];exact E1) ty Tryz.underlying152 (by kernel_rfl) rfl (st.map vw) (by rw[List.length_map,hs];rfl) (by rw[List.length_map,hs];rfl) (by rw[List.length_map,hs]) (fun j v hj=>?_) (fun v hv=>by obtain⟨x,_,rfl⟩:=List.mem_map.1 hv;rfl)
  rw[jq]
  have hj8:j<st.length:=by have:=(gS hj).1;simpa using this
  refine H1.cell _ _ ?_
  rw[tZ hj8]
  rw[List.getElem?_map,gG hj8] at hj
  rw[List.getD_eq_getElem?_getD,gG hj8]
  exact hj
 ·refine iA (pre:=.int .i64 (kd:Int)::st.map vw) (old:=List.replicate 64 (vb 0)) (post:=[.int .u64 n]) (by rw[←e2];exact E2.drew) ty Tryz.underlying43 (by kernel_rfl) hl9.symm (tl.map vb) (by rw[List.length_map,ht];rfl) (by rw[List.length_map,ht,List.length_replicate]) (by rw[List.length_map,ht]) (fun j v hj=>?_) (fun v hv=>by obtain⟨x,_,rfl⟩:=List.mem_map.1 hv;rfl)
  rw[jq]
  have hj8:j<tl.length:=by have:=(gS hj).1;simpa using this
  refine(hB.below L2).drew.cell _ _ ?_
  rw[ua hs hj8]
  exact hj
 ·have:=ax.setN [.int .u64 n] (tl.map vb) (List.replicate 64 (vb 0)) (.int .i64 (kd:Int)::st.map vw) (W1.drew.setCells w.heap.size 1 (st.map vw)).drew (by simp[ht]) (by rw[←e2];exact E2.drew)
  rw[hl9] at this
  simpa [Hid,bi] using this
 ·exact hB.below (cg _ _ (an L2 1) lr)
 ·exact cg _ _ (an L2 1) lr
def xT (kd:Nat)(F:FuncId):Prop:=(∀ (args:Array Value)(w:World),(callFunc F args).run Tryz.prog w=.ok (.enter F args) w) ∧
 ∀ (x k:Nat)(w:World),x<18446744073709551616→1≤k→k≤8→Calls Tryz.prog F #[.int .u64 x,.int .i64 k] w fun e w'=>∃ g,e=.returned (.slice (some ⟨g,0,none⟩) k k)∧w'.ownsRow w.heap.size 5 1 (.slice (some ⟨g,0,none⟩) k k) k (Lib.byteCells (kF kd x k))∧Below w.heap.size w w'
theorem Di {kd:Nat}(h:(kd==1)=false):xT kd 91:=⟨fun args w=>by kernel_rfl,fun x k w hx h1 h8=>by
 have h':¬ kd=1:=by simpa using h
 unfold kF
 rw[if_neg h']
 exact JY x k w hx h1 h8⟩
theorem Dj {kd:Nat}(h:(kd==1)=true):xT kd 92:=⟨fun args w=>by kernel_rfl,fun x k w hx h1 h8=>by
 have h':kd=1:=by simpa using h
 unfold kF
 rw[if_pos h']
 exact JZ x k w hx h1 h8⟩
theorem bM.below {w w':World}{hb kd:Nat}{m:LU}(h:bM w hb kd m)(hb':Below w.heap.size w w'):bM w' hb kd m:=by
 obtain⟨tl,h1,h2⟩:=h
 exact⟨tl,h1,h2.below hb'⟩
def Kc (b:Nat)(w:World):Nat:=match w.cell? ⟨b,73,none⟩ with
 | some (.int _ n)=>n.toNat
 | _=>0
theorem bM.size {w:World}{hb kd:Nat}{m:LU}(h:bM w hb kd m):Kc hb w=m.length:=by
 obtain⟨tl,h1,h2⟩:=h
 unfold Kc
 rw[h2.cell 73 _ (eK (gQ kd m) h1.1)]
 simp
theorem bM.c73 {w:World}{hb kd:Nat}{m:LU}(h:bM w hb kd m):w.cell? ⟨hb,73,none⟩=some (.int .u64 m.length):=by
 obtain⟨tl,h1,h2⟩:=h
 exact h2.cell 73 _ (eK (gQ kd m) h1.1)
theorem bM.lt {w:World}{hb kd:Nat}{m:LU}(h:bM w hb kd m):hb<w.heap.size:=by
 obtain⟨tl,h1,h2⟩:=h
 exact h2.sz
theorem Dk {m:LU}{i s:Nat}(hi:i≤jA m)(hs:m.length+1+i=s):((s:Int) % 64 != 56)=decide (i<jA m):=by
 have e:((s:Int) % 64==56)=(s % 64==56):=nt (s % 64) 56
 show(!((s:Int) % 64==56))=_
 rw[e]
 unfold jA at *
 by_cases h:i<(119-m.length % 64) % 64
 ·have:¬ s % 64=56:=by omega
  simp[h,this]
 ·have:s % 64=56:=by omega
  simp[h,this]
theorem nu {w a b:World}(h:Below w.heap.size w a)(k:Below a.heap.size a b):Below w.heap.size w b:=
 h.trans ⟨k.os,k.tape,k.output,k.size,fun i hi=>k.block i (Nat.lt_of_lt_of_le hi h.size)⟩
theorem Ha (kd:Nat)(m:LU){i x:Nat}(hi:i=jA m)(hx:8*m.length=x):m++[128]++List.replicate i 0++kF kd x 8=np kd m:=by rw[hi,←hx];rfl
theorem xU {T E:TypeId}{N:Nat}(hA:Tryz.prog.underlying T=some (.array N E))(hs:∀ w,(sizeOf E).run Tryz.prog w=.ok 1 w){b o k:Nat}(hk:k≤N)(hN:0<N)(w:World):
  (Instr.sliceAt T (.pointer (some ⟨b,o,none⟩)) none (some (.int .i64 k)) none).run Tryz.prog w=.ok (.slice (some ⟨b,o,none⟩) k N) w:=by
 have hb:(Instr.sliceBounds false N N none (some (.int .i64 k)) none).run Tryz.prog w=.ok (0,k,N) w:=by
  simp[Instr.sliceBounds,run_sliceBound (k:=.i64) (i:=(k:Int)) (y:=N) (h0:=by omega) (h1:=by omega)]
 have hne:¬ N=0:=by omega
 simp[Instr.sliceAt,run_underlying hA,hb,hs,Instr.sureAddr,asAddr,hne,jq]
theorem Az (kd x k:Nat):(kF kd x k).length=k:=by unfold kF;split;exact lY _ _;exact rj _ _
theorem Kd {w:World}{b g n:Nat}{l:LU}(h:w.ownsRow b 5 1 (.slice (some ⟨g,0,none⟩) n n) n (Lib.byteCells l))(hl:l.length=n):Rd w 1 (some ⟨g,0,none⟩) n (l.map vb):=by
 refine⟨by simp[hl],fun _=>⟨g,0,rfl,fun j u hu=>?_⟩⟩
 have:=h.cells (g:=g) rfl j u hu
 rw[tV] at this
 rw[Nat.zero_add]
 exact this
theorem Em (w:World)(c:UInt8)(t:TypeId):Rd (w.alloc (.cells #[.int .u8 c.toNat] t)) 1 (some ⟨w.heap.size,0,none⟩) 1 ([c].map vb):=by
 refine⟨rfl,fun _=>⟨_,0,rfl,fun j u hu=>?_⟩⟩
 have:=(ax.new w [vb c] t).cell j u hu
 rw[Nat.zero_add]
 exact this
theorem Ke (m:LU):jA m<64:=Nat.mod_lt _ (by decide)
theorem Kg (hb kd:Nat)(hk:1≤kd∧kd≤3)(m:LU)(w:World)(hG:rn w)(hH:bM w hb kd m)(hm:m.length≤1125899906842624):
  Calls Tryz.prog 64 #[.pointer (some ⟨hb,0,none⟩)] w fun e w'=>∃ v,e=.returned v∧w'.ownsRow w.heap.size 5 1 v (fV kd m).length (Lib.byteCells (fV kd m))∧Below w.heap.size w w':=by
 obtain⟨tl,hT,hB⟩:=hH
 have hst:=gQ kd m
 have b0:=hB.cell 0 _ rfl
 have b73:=hB.cell 73 _ (eK hst hT.1)
 obtain⟨low,hlow⟩:∃ low,(kd==1)=low:=⟨_,rfl⟩
 have k1:((kd:Int)==1)=low:=(nt kd 1).trans hlow
 have HLOW:=ae hlow
 obtain⟨sz,hsz⟩:∃ sz,m.length=sz:=⟨_,rfl⟩
 rw[hsz] at hB b73 hm
 have HB:=ae hB
 have HSZ:=ae hsz
 have HT:=ae hT
 have HS:=ae hst
 have HG:=ae hG
 clear hlow hsz hT hst hG
 go_enter Tryz.func64,Tryz.ntmps64
 go_wp2_with fail
 go_region
 generalize hW1:(w.alloc (.cells ((Tryz.zeroCells151.setIfInBounds 0 (.int .i64 (kd:Int))).setIfInBounds 73 (.int .u64 (sz:Int))) 151)).drew=W1
 obtain⟨W2,W3,hcp2,hcp3,E3,H3,L3⟩:=Dh HS.out HT.out.1 HB.out hW1
 clear hW1 b0 b73 hB
 go_wp2_with fail
 go_region_law (fail)
 clear hcp2
 go_wp2_with fail
 go_region_law (fail)
 clear hcp3
 have b0:=H3.out.cell 0 _ rfl
 have b73:=H3.out.cell 73 _ (eK HS.out HT.out.1)
 go_upto_if 41 with(fail)
 go_cut [4] (fun s wx=>wx=W3∧∃ F:FuncId,s=.func (Fn.func F) #[] #[]∧Hid (xT kd F))
 case first=>
  cases low
  ·go_wp2_with fail
   go_meet
   exact⟨rfl,_,rfl,Di HLOW.out⟩
  ·go_wp2_with fail
   go_meet
   exact⟨rfl,_,rfl,Dj HLOW.out⟩
 case rest=>
  obtain⟨rfl,F,rfl,HF⟩:=hcut
  have hcall:=HF.out.1
  obtain⟨W4,hW4⟩:∃ W4,wc.alloc (.cells #[.int .u8 (128:Int)] 5)=W4:=⟨_,rfl⟩
  have L4:Hid (Below w.heap.size w W4):=by show Below _ _ _;rw[←hW4];exact L3.out.alloc L3.out.size _
  have hez:w.heap.size<wc.heap.size:=E3.out.sz
  have HA4:Hid (bM W4 w.heap.size kd m):=by
   show bM _ _ _ _
   refine⟨tl,HT.out,?_⟩
   rw[←hW4,HSZ.out]
   exact E3.out.alloc _
  have RD4:Hid (Rd W4 1 (some ⟨wc.heap.size,0,none⟩) 1 ([128].map vb)):=by rw[←hW4];exact Em wc 128 _
  have NTe:Hid (NT w.heap.size):=HG.out.new lr
  go_wp2_with fail
  refine(ky w.heap.size kd 1 1 hk m [128] (some ⟨wc.heap.size,0,none⟩) W4 (HG.out.below L4.out) NTe.out HA4.out RD4.out (by intro _ b o e;injection e with e;injection e with e _;omega) lr (by decide) (by rw[HSZ.out];omega)).mono ?_;rintro e w5 ⟨rfl,h5,g5⟩
  have H5:=ae h5
  have L5:Hid (Below w.heap.size w w5):=L4.out.grown g5 L4.out.size (fun q hq=>by have:=Option.some.inj hq;omega)
  clear h5 g5 hW4 RD4 HA4 L4 k1 b0 b73 hez
  go_wp2_with fail
  go_loopw [] (fun wr=>∃ i:Nat,i≤jA m∧Hid (bM wr w.heap.size kd (m++[128]++List.replicate i 0))∧Hid (Below w.heap.size w wr)) (fun wr=>sz+66-Kc w.heap.size wr)
  case atStart=>exact⟨0,z0,by simpa using H5,L5⟩
  case round=>
   obtain⟨i,hi,HH,HL⟩:=hrel
   obtain⟨s2,hs2⟩:∃ s2,(m++[128]++List.replicate i (0:UInt8)).length=s2:=⟨_,rfl⟩
   have c73:=HH.out.c73
   rw[hs2] at c73
   have hs3:m.length+1+i=s2:=by rw[←hs2];simp;omega
   obtain⟨bt,hbt⟩:∃ bt,((s2:Int) % 64 != 56)=bt:=⟨_,rfl⟩
   have HBT:Hid (decide (i<jA m)=bt):=by show _=_;rw[←hbt];exact(Dk hi hs3).symm
   have HS2:=ae hs2
   have HS3:=ae hs3
   have hez:w.heap.size<wr.heap.size:=HH.out.lt
   have HZ64:=ae (Ke m)
   clear hs2 hs3
   cases bt with
   | true=>
    have hlt:i<jA m:=dO HBT.out
    obtain⟨W4,hW4⟩:∃ W4,wr.alloc (.cells #[.int .u8 (0:Int)] 5)=W4:=⟨_,rfl⟩
    have L4:Hid (Below w.heap.size w W4):=by show Below _ _ _;rw[←hW4];exact HL.out.alloc HL.out.size _
    have HA4:Hid (bM W4 w.heap.size kd (m++[128]++List.replicate i 0)):=by show bM _ _ _ _;rw[←hW4];exact HH.out.below (bR.alloc lr _)
    have RD4:Hid (Rd W4 1 (some ⟨wr.heap.size,0,none⟩) 1 ([0].map vb)):=by rw[←hW4];exact Em wr 0 _
    go_wp2_with fail
    refine(ky w.heap.size kd 1 1 hk (m++[128]++List.replicate i 0) [0] (some ⟨wr.heap.size,0,none⟩) W4 (HG.out.below L4.out) NTe.out HA4.out RD4.out (by intro _ b o e;injection e with e;injection e with e _;omega) lr (by decide) (by rw[HS2.out];have:=HS3.out;have:=HSZ.out;have:=HZ64.out;omega)).mono ?_;rintro e w5 ⟨rfl,h5,g5⟩
    have H5:Hid (bM w5 w.heap.size kd (m++[128]++List.replicate (i+1) 0)):=by
     show bM _ _ _ _
     rw[List.replicate_succ',←List.append_assoc]
     exact h5
    have L5:Hid (Below w.heap.size w w5):=L4.out.grown g5 L4.out.size (fun q hq=>by have:=Option.some.inj hq;omega)
    have M1:Hid (Kc w.heap.size w5=s2+1):=by show _=_;rw[H5.out.size,←HS3.out];simp;omega
    have M2:Hid (Kc w.heap.size wr=s2):=by show _=_;rw[HH.out.size,HS2.out]
    clear h5 g5 hW4
    go_wp2_with fail
    go_roundw
    case rel=>exact⟨i+1,hlt,H5,L5⟩
    case measure=>
     rw[M1.out,M2.out]
     have:=HS3.out;have:=HSZ.out;have:=HZ64.out
     omega
   | false=>
    have hiz:Hid (i=jA m):=by have:=of_decide_eq_false HBT.out;show _=_;omega
    have HBr:Hid (ax wr hb (bi kd (cI kd m) tl sz)):=HB.out.below HL.out
    have q73:=HBr.out.cell 73 _ (eK HS.out HT.out.1)
    obtain⟨x8,hx8⟩:∃ x8,sz*8=x8:=⟨_,rfl⟩
    have e8:(sz:Int)*8=(x8:Int):=by omega
    have e8w:IntKind.u64.wrap (x8:Int)=(x8:Int):=IntWalk.u64_in _ (by omega)
    have HX8:=ae hx8
    have hx8l:x8<18446744073709551616:=by omega
    clear hx8
    go_wp2_with fail
    refine(HF.out.2 x8 8 wr hx8l (by decide) (by decide)).mono ?_;rintro e w7 ⟨g,rfl,row,hb7⟩
    have hg:=row.lt g rfl
    have H7:Hid (bM w7 w.heap.size kd (m++[128]++List.replicate i 0)):=HH.out.below hb7
    have L7:Hid (Below w.heap.size w w7):=nu HL.out hb7
    have RD7:=ae (Kd row (Az kd x8 8))
    clear row hb7
    go_wp2_with fail
    refine(ky w.heap.size kd 8 8 hk (m++[128]++List.replicate i 0) (kF kd x8 8) (some ⟨g,0,none⟩) w7 (HG.out.below L7.out) NTe.out H7.out RD7.out (by intro _ b o e;injection e with e;injection e with e _;omega) lr (by decide) (by rw[HS2.out];have:=HS3.out;have:=HSZ.out;have:=HZ64.out;omega)).mono ?_;rintro e w8 ⟨rfl,h8,g8⟩
    have H8:Hid (bM w8 w.heap.size kd (np kd m)):=by
     rw[Ha kd m hiz.out (by rw[HSZ.out,←HX8.out,Nat.mul_comm])] at h8
     exact h8
    have L8:Hid (Below w.heap.size w w8):=L7.out.grown g8 L7.out.size (fun q hq=>by have:=Option.some.inj hq;omega)
    clear h8 g8 H7 L7 RD7 H5 L5
    have HB8:Hid (ax w8 hb (bi kd (cI kd m) tl sz)):=HB.out.below L8.out
    have q0:=HB8.out.cell 0 _ rfl
    obtain⟨lo1,hlo1⟩:∃ lo1,(kd==1)=lo1:=⟨_,rfl⟩
    have k1:((kd:Int)==1)=lo1:=(nt kd 1).trans hlo1
    have HLO1:=ae hlo1
    obtain⟨lo2,hlo2⟩:∃ lo2,(kd==2)=lo2:=⟨_,rfl⟩
    have k2:((kd:Int)==2)=lo2:=(nt kd 2).trans hlo2
    have HLO2:=ae hlo2
    clear hlo1 hlo2
    go_upto_block 2 with(fail)
    go_cut [5] (fun s wx=>wx=w8∧s=.int .i64 (je kd))
    case first=>
     have HW:Hid ((if lo1 then 4 else if lo2 then 5 else 8:Nat)=je kd):=by
      show _=_
      rw[←HLO1.out,←HLO2.out]
      unfold je
      by_cases h1:kd=1
      ·simp[h1]
      ·by_cases h2:kd=2<;>simp[h1,h2]
     cases lo1 with
     | true=>
      have HW4:Hid ((4:Nat)=je kd):=HW.out
      go_wp2_with fail
      go_meet
      exact⟨rfl,by rw[←HW4.out];rfl⟩
     | false=>
      cases lo2 with
      | true=>
       have HW4:Hid ((5:Nat)=je kd):=HW.out
       go_wp2_with fail
       go_meet
       exact⟨rfl,by rw[←HW4.out];rfl⟩
      | false=>
       have HW4:Hid ((8:Nat)=je kd):=HW.out
       go_wp2_with fail
       go_meet
       exact⟨rfl,by rw[←HW4.out];rfl⟩
    case rest=>
     obtain⟨rfl,rfl⟩:=hcut
     obtain⟨i0,hi0,hz0,hz1,hz2⟩:=info_parts oI
     obtain⟨nw,hnw⟩:∃ nw,je kd=nw:=⟨_,rfl⟩
     have hnw8:nw≤8:=by rw[←hnw];unfold je;split;decide;split<;>decide
     obtain⟨sl,hsl⟩:∃ sl,cI kd (np kd m)=sl:=⟨_,rfl⟩
     have HSL:Hid (sl.length=8):=by rw[←hsl];exact gQ _ _
     have HD:Hid (fV kd m=(sl.take nw).flatMap fun x=>kF kd x.toNat 4):=by show _=_;rw[←hsl,←hnw];rfl
     have HE:=ae hsl
     have hto:=fun W=>xU (T:=147) (E:=146) (N:=8) Tryz.underlying147 Tryz.sizeOf146 (b:=w.heap.size) (o:=1) (k:=nw) hnw8 (by decide) W
     rw[hnw]
     clear hsl hnw q0 q73 c73 k1 k2
     go_wp2_with fail
     go_loopw [77,6] (fun s77 s6 wr=>∃ (i q:Nat) (Ao:OA) (co:Nat),i≤nw∧s77=.int .i64 i∧s6=.slice Ao q co∧q≤32∧Hid (q=4*i)∧Hid (wr.ownsRow (w.heap.size+1) 5 1 (.slice Ao q co) q (Lib.byteCells ((sl.take i).flatMap fun x=>kF kd x.toNat 4)))∧Hid (bM wr w.heap.size kd (np kd m))∧Hid (Below w.heap.size w wr)) (fun s77 _ _=>nw-(intOf s77).toNat)
     case atStart=>exact⟨0,0,none,0,by omega,rfl,rfl,by omega,rfl,World.ownsRow_nil _ _ _ _,H8,L8⟩
     case round=>
      obtain⟨i,q,Ao,co,hi,rfl,rfl,hq,HQ,HO,HHr,HLr⟩:=hrel
      by_cases hlt:i<nw
      ·obtain⟨x,hx⟩:∃ x,sl[i]?=some x:=⟨_,gG (by rw[HSL.out];omega)⟩
       obtain⟨xn,hxn⟩:∃ xn,x.toNat=xn:=⟨_,rfl⟩
       have hxl:xn<4294967296:=by rw[←hxn];exact x.isLt
       have cx:wr.cell? ⟨w.heap.size,1+i,none⟩=some (.int .u32 xn):=by
        obtain⟨tl9,_,hb9⟩:=HHr.out
        rw[HE.out] at hb9
        have:=hb9.cell (1+i) _ (tZ (by rw[HSL.out];omega))
        rw[this,List.getD_eq_getElem?_getD,hx,←hxn]
        rfl
       have ew:IntKind.u64.wrap (xn:Int)=(xn:Int):=IntWalk.u64_in _ (by omega)
       have hii:(i:Int)<(nw:Int):=by omega
       have HN:Hid ((sl.take (i+1)).flatMap (fun x=>kF kd x.toNat 4)=(sl.take i).flatMap (fun x=>kF kd x.toNat 4)++kF kd xn 4):=by
        show _=_
        rw[List.take_add_one,hx,List.flatMap_append,←hxn]
        simp
       have hez:w.heap.size+1≤wr.heap.size:=HHr.out.lt
       have hq28:q≤28:=by have:=HQ.out;omega
       clear hx hxn
       go_wp2_with fail
       refine(HF.out.2 xn 4 wr (by omega) (by decide) (by decide)).mono ?_;rintro e w5 ⟨g,rfl,row,hb5⟩
       have O5:=ae (cR HO.out hb5)
       have HH5:Hid (bM w5 w.heap.size kd (np kd m)):=HHr.out.below hb5
       have L5:Hid (Below w.heap.size w w5):=nu HLr.out hb5
       have RL:=ae ((Kd row (Az kd xn 4)).reads (by decide))
       have h5z:w.heap.size+1≤w5.heap.size:=Nat.le_trans hez hb5.size
       clear row hb5
       go_wp2_with (
        at_builtin
        refine aD _ rfl _ _ 43 rfl (w.heap.size+1) 5 i0 _ 1 1 Tryz.underlying43 hi0 hz0 hz1 hz2 rfl (by omega) (.slice Ao q co) q _ rfl O5.out _ (some ⟨g,0,none⟩) 4 4 _ rfl RL.out (fun u hu=>by obtain⟨x,_,rfl⟩:=List.mem_map.1 hu;rfl) (by first | (simp only[maxLen];omega) | omega) (by omega) (by first | omega | (simp;omega)) ?_
        intro v1 w6 hown1 hg1 hat1
        obtain⟨A1,c1,rfl⟩:=aP hown1)
       have O6:Hid (w6.ownsRow (w.heap.size+1) 5 1 (.slice A1 (q+4) c1) (q+4) (Lib.byteCells ((sl.take (i+1)).flatMap fun x=>kF kd x.toNat 4))):=by
        have h2:=hown1
        show World.ownsRow _ _ _ _ _ _ _
        rw[HN.out]
        unfold Lib.byteCells
        rw[List.map_append]
        exact h2
       have hgo:∀ p,(Value.slice Ao q co).ownBlock=some p→w.heap.size+1≤p:=fun p hp=>(O5.out.lt p hp).1
       have HH6:Hid (bM w6 w.heap.size kd (np kd m)):=by
        obtain⟨tl9,h91,h92⟩:=HH5.out
        refine⟨tl9,h91,?_⟩
        have hb:=hg1.block w.heap.size h92.sz (fun e=>by have:=hgo _ e.symm;omega)
        exact⟨Nat.lt_of_lt_of_le h92.sz hg1.size,fun j u hu=>(World.cell?_of_block (a:=⟨_,j,none⟩) hb).trans (h92.cell j u hu),fun j hj=>(World.frozen?_of_block (a:=⟨_,j,none⟩) hb).trans (h92.free j hj)⟩
       have L6:Hid (Below w.heap.size w w6):=L5.out.grown hg1 L5.out.size (fun p hp=>by have:=hgo _ hp;omega)
       have HQ6:Hid (q+4=4*(i+1)):=by have:=HQ.out;show _=_;omega
       have hq32:q+4≤32:=by omega
       clear hown1 hg1 hat1 hgo
       go_wp2_with fail
       go_roundw
       case rel=>exact⟨i+1,q+4,A1,c1,by omega,by go_num,rfl,hq32,HQ6,O6,HH6,L6⟩
       case measure=>simp[intOf];omega
      ·have HI:Hid (i=nw):=by show _=_;omega
       go_wp2_with fail
       go_ret
       have hO:=HO.out
       rw[HI.out,←HD.out] at hO
       have hlen:(fV kd m).length=q:=by have:=hO.1;simpa [Lib.byteCells] using this
       rw[hlen]
       exact⟨_,rfl,dV hO (by omega),HLr.out⟩
theorem Kh {kd:Nat}{w:World}{Z:Array Value}(h:Z=(bi kd (Ek kd) (List.replicate 64 0) 0).toArray):bM (w.alloc (.cells Z 151)) w.heap.size kd []:=
 ⟨List.replicate 64 0,ig.zero (by simp) (by simp),by rw[h];exact ax.new w _ _⟩
theorem Ki (kd:Nat)(hk:1≤kd∧kd≤3)(w:World):
  Calls Tryz.prog 62 #[.int .i64 kd] w fun e w'=>∃ g,e=.returned (.tuple #[.pointer (some ⟨g,0,none⟩),.int .i64 0])∧w.heap.size≤g∧bM w' g kd []∧Below w.heap.size w w':=by
 rcases(show kd=1∨kd=2∨kd=3 by omega) with rfl | rfl | rfl
 all_goals
  go_enter Tryz.func62,Tryz.ntmps62
  go_wp2_with fail
  go_ret2
  exact⟨_,rfl,lr,Kh (by kernel_rfl),bR.alloc lr _⟩
def Kj (kd:Nat)(m:LU)(w:World)(e:Ending)(w':World):Prop:=∃ v,e=.returned v∧w'.ownsRow w.heap.size 5 1 v (fV kd m).length (Lib.byteCells (fV kd m))∧Below w.heap.size w w'
theorem Hf (kd n c:Nat)(hk:1≤kd∧kd≤3)(A:OA)(bs:LU)(w:World)(hG:rn w)(hr:Rd w 1 A n (bs.map vb))(hc:n≤c)(hc2:c≤9223372036854775807)(hn:n≤1125899906842624):
  Calls Tryz.prog 34 #[.int .i64 kd,.slice A n c] w (Kj kd bs w):=by
 have HG:=ae hG
 have HR:=ae hr
 have HBL:Hid (bs.length=n):=ft hr
 clear hG hr
 go_enter Tryz.func34,Tryz.ntmps34
 go_wp2_with fail
 refine(Ki kd hk w).mono ?_;rintro e w1 ⟨g,rfl,hg,h1,hb1⟩
 have H1:=ae h1
 have L1:=ae hb1
 have R1:=ae (HR.out.below hb1)
 have G1:=ae (HG.out.below hb1)
 have N1:Hid (NT g):=HG.out.new hg
 have HA1:Hid (0<n→∀ b o,A=some ⟨b,o,none⟩→¬ b=g):=fun hn b o e=>by
  obtain⟨b',o',e',hc'⟩:=HR.out.2 hn
  rw[e'] at e
  injection e with e
  injection e with e _
  have h0:0<(bs.map vb).length:=by rw[List.length_map,HBL.out];exact hn
  have:=World.block_lt_of_cell? _ _ (hc' 0 _ (gG h0))
  simp only at this
  omega
 clear h1 hb1
 go_wp2_with fail
 refine(ky g kd n c hk [] bs A w1 G1.out N1.out H1.out R1.out HA1.out hc hc2 (by simp;omega)).mono ?_;rintro e w2 ⟨rfl,h2,g2⟩
 have H2:Hid (bM w2 g kd bs):=by rw[List.nil_append] at h2;exact h2
 have L2:Hid (Below w.heap.size w w2):=L1.out.grown g2 L1.out.size (fun q hq=>by have:=Option.some.inj hq;omega)
 clear h2 g2
 go_wp2_with fail
 refine(Kg g kd hk bs w2 (HG.out.below L2.out) H2.out (by rw[HBL.out];exact hn)).mono ?_;rintro e w3 ⟨v,rfl,hrow,hb3⟩
 have HP:Hid (Kj kd bs w (.returned v) w3):=⟨v,rfl,dV hrow L2.out.size,nu L2.out hb3⟩
 clear hrow hb3
 go_wp2_with fail
 go_ret
 exact HP.out
end
end Go.Proofs.YtaohgmcbpafdeaaGreatDoor
