/- A part of the proof. -/
import Derived.Test.YtaohgmcbpafdeaaGreatDoorA11
set_option maxRecDepth 100000
set_option maxHeartbeats 20000000
set_option linter.unusedVariables false
set_option linter.unusedSimpArgs false
namespace Go.Proofs.YtaohgmcbpafdeaaGreatDoor
section
open Go.RowKit Go.Deep
theorem IJ {B:Nat}{w w1 w2:World}(h1:Below B w w1)(h2:Below w1.heap.size w1 w2)(h:B≤w1.heap.size:=by exact Nat.le_trans (by assumption) (Below.size (by assumption))):Below B w w2:=h1.trans (h2.mono h)
theorem nT (s:BA)(j:Nat)(b:UInt8)(h:(bl s)[j]?=some b):s.get! j=b:=by
 unfold bl at h
 show s.data[j]! = b
 have h2:s.data[j]?=some b:=by simpa using h
 obtain⟨hlt,he⟩:=Array.getElem?_eq_some_iff.1 h2
 rw[getElem!_pos s.data j hlt,he]
theorem rT (s:BA)(i:Nat)(h:i<s.size)(ha:¬ (s[i]'h).toNat<128):
  (128≤(Utf8.decode s i).1∧(Utf8.decode s i).1≤1114111)∧(1≤(Utf8.decode s i).2∧i+(Utf8.decode s i).2≤s.size)∧∀ (j:Nat)(b:UInt8),i≤j→j<i+(Utf8.decode s i).2→(bl s)[j]?=some b→128≤b.toNat:=by
 have e0:=nT s i _ (cZ s i h)
 rw[Lib.decode_at,e0]
 have l1:=(s.get! (i+1)).toNat_lt
 have l2:=(s.get! (i+2)).toNat_lt
 have l3:=(s.get! (i+3)).toNat_lt
 have l0:=(s[i]'h).toNat_lt
 have g1:∀ b,(bl s)[i+1]?=some b→b.toNat=(s.get! (i+1)).toNat:=fun b hb=>by rw[nT s _ b hb]
 have g2:∀ b,(bl s)[i+2]?=some b→b.toNat=(s.get! (i+2)).toNat:=fun b hb=>by rw[nT s _ b hb]
 have g3:∀ b,(bl s)[i+3]?=some b→b.toNat=(s.get! (i+3)).toNat:=fun b hb=>by rw[nT s _ b hb]
 have g0:∀ b,(bl s)[i]?=some b→b.toNat=(s[i]'h).toNat:=fun b hb=>by rw[cZ s i h] at hb;injection hb with hb;rw[hb]
 generalize (s.get! (i+1)).toNat=b1 at *
 generalize (s.get! (i+2)).toNat=b2 at *
 generalize (s.get! (i+3)).toNat=b3 at *
 generalize (s[i]'h).toNat=b0 at *
 unfold Lib.decodeN
 rw[if_neg ha]
 have key:∀ (r w:Nat),1≤w→w≤4→(1<w→128≤b1)→(2<w→128≤b2)→(3<w→128≤b3)→∀ (j:Nat)(b:UInt8),i≤j→j<i+w→(bl s)[j]?=some b→128≤b.toNat:=by
  intro r w h1 h4 k1 k2 k3 j b hj hjw hb
  obtain hj | hj | hj | hj:j=i∨j=i+1∨j=i+2∨j=i+3:=by omega
  ·subst hj;rw[g0 b hb];omega
  ·subst hj;rw[g1 b hb];exact k1 (by omega)
  ·subst hj;rw[g2 b hb];exact k2 (by omega)
  ·subst hj;rw[g3 b hb];exact k3 (by omega)
 repeat' split
 all_goals (refine⟨by simp only;omega,by simp only;omega,key 0 _ ?_ ?_ ?_ ?_ ?_⟩<;>(simp only;omega))
theorem rU (r:Int)(h0:128≤r)(h1:r≤1114111):2≤(Utf8.encode r).size∧(Utf8.encode r).size≤4∧∃ c:UInt8,(bl (Utf8.encode r))[(Utf8.encode r).size-1]?=some c∧128≤c.toNat:=by
 unfold Utf8.encode
 have hc:128≤(if Utf8.valid r then r.toNat else Utf8.runeError):=by
  split
  ·omega
  ·simp[Utf8.runeError]
 generalize (if Utf8.valid r then r.toNat else Utf8.runeError)=c at hc
 simp only
 rw[if_neg (by omega)]
 have k:(UInt8.ofNat (128+c % 64)).toNat=128+c % 64:=by simp[UInt8.toNat_ofNat'];omega
 repeat' split
 all_goals exact⟨by simp[ByteArray.size],by simp[ByteArray.size],_,rfl,by rw[k];omega⟩
def ge:BA:=⟨#[60,61,62,126]⟩
theorem rV:ge.size=4:=rfl
theorem nU (j:Nat)(b:UInt8)(h:(bl ge)[j]?=some b):b.toNat<128:=by
 have hm:=gM h
 simp[ge,bl] at hm
 rcases hm with rfl | rfl | rfl | rfl<;>decide
theorem uE (w:World):Calls Tryz.prog 216 #[.string ge,.int .i32 65533] w fun e w'=>e=.returned (.int .i64 (-1))∧Below w.heap.size w w':=by
 go_enter Tryz.func216,Tryz.ntmps216
 go_wp2_with fail
 go_loopg [5,6] 4 (fun g _ _ wx=>∃ i:Nat,i+g=4∧wx=w.iter ge i)
 case atStart=>exact⟨0,by omega,rfl⟩
 case round=>
  obtain⟨i,hig,rfl⟩:=hrel
  cases gk with
  | zero=>
   obtain rfl:i=4:=by omega
   have hnx:=fun ty=>run_next_end (P:=Tryz.prog) w ge 4 ty (by rw[rV];omega)
   go_wp2_with fail
   go_ret
   exact⟨rfl,bR.alloc lr _⟩
  | succ g=>
   have hi:i<ge.size:=by rw[rV];omega
   obtain⟨x,hx⟩:∃ x:UInt8,ge[i]'hi=x:=⟨_,rfl⟩
   have hx128:x.toNat<128:=nU i x (by rw[←hx];exact cZ ge i hi)
   have hnx:=fun ty=>run_next_ascii (P:=Tryz.prog) w ge i ty hi (by rw[hx];exact hx128)
   rw[hx] at hnx
   clear hx
   have hx3:((x.toNat:Int)==65533)=false:=beq_eq_false_iff_ne.2 (by omega)
   go_wp2_with fail
   go_roundg g
   case measure=>omega
   case rel=>exact⟨i+1,by omega,rfl⟩
theorem uF (r:Int)(w:World)(h0:128≤r)(h1:r≤1114111)(hne:r≠65533)(hv:Lib.validRune r=false):Calls Tryz.prog 216 #[.string ge,.int .i32 r] w fun e w'=>e=.returned (.int .i64 (-1))∧Below w.heap.size w w':=by
 have hx3:(r==65533)=false:=beq_eq_false_iff_ne.2 hne
 go_enter Tryz.func216,Tryz.ntmps216
 go_wp2_with (go_at_call 240;refine(Tryz.utf8_ValidRune _ _).mono ?_;rintro e w' ⟨rfl,hw⟩;rw[hw,hv])
 go_ret
 exact⟨rfl,bR⟩
theorem rW (r:Int)(w:World)(h0:128≤r)(h1:r≤1114111)(hne:r≠65533)(hv:Lib.validRune r=true):Calls Tryz.prog 216 #[.string ge,.int .i32 r] w fun e w'=>e=.returned (.int .i64 (-1))∧Below w.heap.size w w':=by
 have hx3:(r==65533)=false:=beq_eq_false_iff_ne.2 hne
 obtain⟨z0,z1,c,hc,c0⟩:=rU r h0 h1
 obtain⟨rs,hrs⟩:∃ rs,Utf8.encode r=rs:=⟨_,rfl⟩
 rw[hrs] at z0 z1 hc
 obtain⟨m,hm⟩:∃ m,rs.size=m+1:=⟨rs.size-1,by omega⟩
 have hlt:m<rs.size:=by omega
 have hc2:rs[m]'hlt=c:=by
  rw[show rs.size-1=m by omega,cZ rs _ hlt] at hc;injection hc
 have hss:=rV
 have hlt2:m<ge.size:=by omega
 obtain⟨x,hx⟩:∃ x:UInt8,ge[m]'hlt2=x:=⟨_,rfl⟩
 have hx128:x.toNat<128:=nU _ x (by rw[←hx];exact cZ ge _ hlt2)
 have hxc:((x.toNat:Int) != (c.toNat:Int))=true:=by simp;omega
 have hm4:(m:Int)<(ge.size:Int):=by omega
 have hm5:(m:Int)+1≤(ge.size:Int):=by omega
 have hm6:m+1≤ge.size:=by omega
 clear hss
 have hI:∀ W:World,Calls Tryz.prog 107 #[.string (ge.extract (m+1) ge.size),.int .u8 c.toNat] W fun e w'=>e=.returned (.int .i64 (-1))∧w'=W:=by
  intro W
  refine(aM _ c W).mono ?_
  rintro e w' ⟨rfl,rfl⟩
  refine⟨ap ?_,rfl⟩
  show Lib.indexByte (bl (ge.extract (m+1) ge.size)) c=-1
  have hno:(bl (ge.extract (m+1) ge.size)).contains c=false:=by
   rw[cv]
   cases hcc:((bl ge).drop (m+1)).contains c with
   | false=>rfl
   | true=>
    have hmm:c∈(bl ge).drop (m+1):=by simpa using hcc
    obtain⟨j,hj⟩:=List.getElem?_of_mem (List.mem_of_mem_drop hmm)
    have:=nU j c hj;omega
  exact rR _ _ hno
 have iw:IntKind.i64.wrap ((m:Int)+1)=(m:Int)+1:=IntWalk.i64_in _ (by omega)
 have hsl:∀ W:World,(Instr.slice 9 (.string ge) (some (.int .i64 ((m:Int)+1))) none none).run Tryz.prog W=.ok (.string (ge.extract (m+1) ge.size)) W:=fun W=>run_slice_string_l W 9 ge Tryz.underlying9 .i64 ((m:Int)+1) (by omega) hm5
 have hid1:∀ W:World,(Instr.index 9 (.string rs) (.int .i64 (m:Int))).run Tryz.prog W=.ok (.int .u8 c.toNat) W:=fun W=>by
  rw[run_index_string W 9 rs .i64 (m:Int) Tryz.underlying9,dif_pos ⟨by omega,by omega⟩]
  simp[hc2]
 have hid2:∀ W:World,(Instr.index 9 (.string ge) (.int .i64 (m:Int))).run Tryz.prog W=.ok (.int .u8 x.toNat) W:=fun W=>by
  rw[run_index_string W 9 ge .i64 (m:Int) Tryz.underlying9,dif_pos ⟨by omega,by omega⟩]
  simp[hx]
 clear hc
 go_enter Tryz.func216,Tryz.ntmps216
 go_wp2_with (go_at_call 240;refine(Tryz.utf8_ValidRune _ _).mono ?_;rintro e w' ⟨rfl,hw⟩;rw[hw,hv])
 go_step3
 go_wp2_with fail
 refine wp_loop_rounds 1 ?_
 rw[rounds_succ]
 go_wp2_with fail
 go_step3
 go_wp2_with fail
 go_quiet (fail)
 go_wp2_with fail
 have HB:=fun n=>an (Below.refl w.heap.size w) n
 generalize hW:w.drewN _=W2
 have HW:Below w.heap.size w W2:=by rw[←hW];exact HB _
 clear hW HB
 go_quiet ((go_at_call 107;exact Calls.quiet_of_same (hI _)))
 go_wp2_with fail
 rw[Exit.noGoto_ret]
 go_wp2_with fail
 rw[Exit.noGoto_ret]
 go_ret
 exact⟨rfl,an HW _⟩
theorem uG (r:Int)(w:World)(h0:128≤r)(h1:r≤1114111):Calls Tryz.prog 216 #[.string ge,.int .i32 r] w fun e w'=>e=.returned (.int .i64 (-1))∧Below w.heap.size w w':=by
 by_cases hne:r=65533
 ·subst hne;exact uE w
 ·cases hv:Lib.validRune r with
  | false=>exact uF r w h0 h1 hne hv
  | true=>exact rW r w h0 h1 hne hv
theorem rX (s:BA)(w:World)(h8:s.size≤8):
  Calls Tryz.prog 174 #[.string s,.string ge] w fun e w'=>e=.returned (.int .i64 (Lib.indexAny (bl s) (bl ge)))∧Below w.heap.size w w':=by
 have hemp:ge.toList.isEmpty=false:=by rw[ah];rfl
 have hemp2:¬ ge.toList=[]:=by rw[ah];intro h;exact absurd (congrArg List.length h) (by decide)
 have hn1:((ge.size:Int)==1)=false:=rfl
 have h8z:decide ((8:Int)<(s.size:Int))=false:=dF (by omega)
 go_enter Tryz.func174,Tryz.ntmps174
 go_wp2_with (go_at_call 217;refine(Tryz.strings_shouldUseASCIISet _ _).mono ?_;rintro e w' ⟨rfl,hw⟩;rw[hw,h8z])
 go_loopg [9,10] s.size (fun g _ _ wx=>∃ i:Nat,i+g=s.size∧Hid (wx.heap[w.heap.size]?=some (.stringIter s i))∧Hid (Below w.heap.size w wx)∧Hid (Lib.NoAny (bl s) (bl ge) i))
 case atStart=>exact⟨0,by omega,World.iter_heap w s 0,bR.alloc lr _,Lib.NoAny.zero _ _⟩
 case round=>
  obtain⟨i,hig,HH,HB,HN⟩:=hrel
  cases gk with
  | zero=>
   obtain rfl:i=s.size:=by omega
   have hnx:=fun ty=>Lib.run_next_end_at (P:=Tryz.prog) wr w.heap.size s s.size ty HH.out (by omega)
   go_wp2_with fail
   go_ret
   exact⟨ap (by rw[Lib.indexAny_none (by rw[ag];exact HN.out)]),HB.out⟩
  | succ g=>
   have hi:i<s.size:=by omega
   have hxl:=cZ s i hi
   by_cases ha:(s[i]'hi).toNat<128
   ·have hnx:=fun ty=>Lib.run_next_ascii_at (P:=Tryz.prog) wr w.heap.size s i ty HH.out hi ha
    obtain⟨x,hx⟩:∃ x:UInt8,s[i]'hi=x:=⟨_,rfl⟩
    rw[hx] at hnx ha hxl
    have HX:=ae hxl
    clear hxl hx
    have hback:((x.toNat:Int)).toNat.toUInt8=x:=by simp
    have HB2:Hid (Below w.heap.size w (wr.iterAt w.heap.size s (i+1))):=Lib.below_iterAt HB.out lr _ _
    have HH2:Hid ((wr.iterAt w.heap.size s (i+1)).heap[w.heap.size]?=some (.stringIter s (i+1))):=Lib.iterAt_heap _ _ _ _ _ HH.out
    cases hin:(bl ge).contains x with
    | false=>
     have hlt:=fg ge x hin
     unfold uz bl at hlt
     have HI:=ae hin;clear hin
     go_wp2_with (go_at_call 216;refine(Tryz.strings_IndexRune_ascii _ _ _ (by omega) (by omega)).mono ?_;rintro e w' ⟨rfl,hw⟩;rw[hw,hback])
     go_roundg g
     case measure=>omega
     case rel=>exact⟨i+1,by omega,HH2,HB2,HN.out.succ HX.out HI.out⟩
    | true=>
     have hge:=fH ge x hin
     unfold uz bl at hge
     have HI:=ae hin;clear hin
     go_wp2_with (go_at_call 216;refine(Tryz.strings_IndexRune_ascii _ _ _ (by omega) (by omega)).mono ?_;rintro e w' ⟨rfl,hw⟩;rw[hw,hback])
     go_ret
     exact⟨ap (Lib.indexAny_hit HN.out HX.out HI.out).symm,HB2.out⟩
   ·obtain⟨⟨d1,d2⟩,⟨d3,d4⟩,d5⟩:=rT s i hi ha
    have hnx:=fun ty=>Lib.run_next_any_at (P:=Tryz.prog) wr w.heap.size s i ty HH.out hi
    have HD:=ae d5
    clear d5 hxl
    generalize Utf8.decode s i=D at *
    obtain⟨r,n⟩:=D
    simp only at d1 d2 d3 d4 hnx
    have HB2:Hid (Below w.heap.size w (wr.iterAt w.heap.size s (i+n))):=Lib.below_iterAt HB.out lr _ _
    have HH2:Hid ((wr.iterAt w.heap.size s (i+n)).heap[w.heap.size]?=some (.stringIter s (i+n))):=Lib.iterAt_heap _ _ _ _ _ HH.out
    have HN2:Hid (Lib.NoAny (bl s) (bl ge) (i+n)):=by
     intro j b hj hb
     by_cases hji:j<i
     ·exact HN.out j b hji hb
     ·have h1:=HD.out j b (by omega) hj hb
      cases hc:(bl ge).contains b with
      | false=>rfl
      | true=>
       have hm:b∈bl ge:=by simpa using hc
       obtain⟨k,hk⟩:=List.getElem?_of_mem hm
       have:=nU k b hk
       omega
    clear HD
    go_wp2_with fail
    refine(uG (r:Int) _ (by omega) (by omega)).mono ?_;rintro e w' ⟨rfl,hb⟩
    have HS:w.heap.size<(wr.iterAt w.heap.size s (i+n)).heap.size:=(Array.getElem?_eq_some_iff.1 HH2.out).1
    have HB3:Hid (Below w.heap.size w w'):=IJ HB2.out hb HB2.out.size
    have HH3:Hid (w'.heap[w.heap.size]?=some (.stringIter s (i+n))):=(hb.block _ HS).trans HH2.out
    clear hb
    go_wp2_with fail
    go_roundg (g+1-n)
    case measure=>omega
    case rel=>exact⟨i+n,by omega,HH3,HB3,HN2⟩
theorem wX (s:BA)(w:World)(hs:s.size≤4294967280):
  Calls Tryz.prog 174 #[.string s,.string ge] w fun e w'=>e=.returned (.int .i64 (Lib.indexAny (bl s) (bl ge)))∧Below w.heap.size w w':=by
 by_cases h8:s.size≤8
 ·exact rX s w h8
 ·refine(Tryz.strings_IndexAny_long (by intro w;kernel_rfl) s ge w (by decide) (by omega) (by omega) (by decide) (fun j b h=>nU j b h)).mono ?_
  rintro e w' ⟨rfl,rfl⟩
  refine⟨rfl,?_⟩
  have h1:Below w.heap.size w (w.alloc (.cells (Lib.setCells ge.data.toList) 284)):=bR.alloc lr _
  exact h1.alloc (by simp) _
structure kV (st:BA):Prop where
 two:2≤st.size
 four:st.size≤4
 low:∀ (j:Nat)(b:UInt8),(bl st)[j]?=some b→b.toNat<128
theorem rY (st:BA)(hL:kV st)(w:World):Calls Tryz.prog 216 #[.string st,.int .i32 65533] w fun e w'=>e=.returned (.int .i64 (-1))∧Below w.heap.size w w':=by
 have HL:=ae hL;clear hL
 go_enter Tryz.func216,Tryz.ntmps216
 go_wp2_with fail
 go_loopg [5,6] st.size (fun g _ _ wx=>∃ i:Nat,i+g=st.size∧wx=w.iter st i)
 case atStart=>exact⟨0,by omega,rfl⟩
 case round=>
  obtain⟨i,hig,rfl⟩:=hrel
  cases gk with
  | zero=>
   obtain rfl:i=st.size:=by omega
   have hnx:=fun ty=>run_next_end (P:=Tryz.prog) w st st.size ty (by omega)
   go_wp2_with fail
   go_ret
   exact⟨rfl,bR.alloc lr _⟩
  | succ g=>
   have hi:i<st.size:=by omega
   obtain⟨x,hx⟩:∃ x:UInt8,st[i]'hi=x:=⟨_,rfl⟩
   have hx128:x.toNat<128:=HL.out.low i x (by rw[←hx];exact cZ st i hi)
   have hnx:=fun ty=>run_next_ascii (P:=Tryz.prog) w st i ty hi (by rw[hx];exact hx128)
   rw[hx] at hnx
   clear hx
   have hx3:((x.toNat:Int)==65533)=false:=beq_eq_false_iff_ne.2 (by omega)
   go_wp2_with fail
   go_roundg g
   case measure=>omega
   case rel=>exact⟨i+1,by omega,rfl⟩
theorem rZ (st:BA)(r:Int)(w:World)(h0:128≤r)(h1:r≤1114111)(hne:r≠65533)(hv:Lib.validRune r=false):Calls Tryz.prog 216 #[.string st,.int .i32 r] w fun e w'=>e=.returned (.int .i64 (-1))∧Below w.heap.size w w':=by
 have hx3:(r==65533)=false:=beq_eq_false_iff_ne.2 hne
 go_enter Tryz.func216,Tryz.ntmps216
 go_wp2_with (go_at_call 240;refine(Tryz.utf8_ValidRune _ _).mono ?_;rintro e w' ⟨rfl,hw⟩;rw[hw,hv])
 go_ret
 exact⟨rfl,bR⟩
theorem qp (st:BA)(hL:kV st)(r:Int)(w:World)(h0:128≤r)(h1:r≤1114111)(hne:r≠65533)(hv:Lib.validRune r=true):Calls Tryz.prog 216 #[.string st,.int .i32 r] w fun e w'=>e=.returned (.int .i64 (-1))∧Below w.heap.size w w':=by
 have hx3:(r==65533)=false:=beq_eq_false_iff_ne.2 hne
 obtain⟨z0,z1,c,hc,c0⟩:=rU r h0 h1
 obtain⟨rs,hrs⟩:∃ rs,Utf8.encode r=rs:=⟨_,rfl⟩
 rw[hrs] at z0 z1 hc
 obtain⟨m,hm⟩:∃ m,rs.size=m+1:=⟨rs.size-1,by omega⟩
 have hlt:m<rs.size:=by omega
 have hc2:rs[m]'hlt=c:=by
  rw[show rs.size-1=m by omega,cZ rs _ hlt] at hc;injection hc
 have hs4:=hL.four
 by_cases hlt2:m<st.size
 ·obtain⟨x,hx⟩:∃ x:UInt8,st[m]'hlt2=x:=⟨_,rfl⟩
  have hx128:x.toNat<128:=hL.low _ x (by rw[←hx];exact cZ st _ hlt2)
  have hxc:((x.toNat:Int) != (c.toNat:Int))=true:=by simp;omega
  have hm4:(m:Int)<(st.size:Int):=by omega
  have hm5:(m:Int)+1≤(st.size:Int):=by omega
  have hm6:m+1≤st.size:=by omega
  have hI:∀ W:World,Calls Tryz.prog 107 #[.string (st.extract (m+1) st.size),.int .u8 c.toNat] W fun e w'=>e=.returned (.int .i64 (-1))∧w'=W:=by
   intro W
   refine(aM _ c W).mono ?_
   rintro e w' ⟨rfl,rfl⟩
   refine⟨ap ?_,rfl⟩
   show Lib.indexByte (bl (st.extract (m+1) st.size)) c=-1
   have hno:(bl (st.extract (m+1) st.size)).contains c=false:=by
    rw[cv]
    cases hcc:((bl st).drop (m+1)).contains c with
    | false=>rfl
    | true=>
     have hmm:c∈(bl st).drop (m+1):=by simpa using hcc
     obtain⟨j,hj⟩:=List.getElem?_of_mem (List.mem_of_mem_drop hmm)
     have:=hL.low j c hj;omega
   exact rR _ _ hno
  have iw:IntKind.i64.wrap ((m:Int)+1)=(m:Int)+1:=IntWalk.i64_in _ (by omega)
  have hsl:∀ W:World,(Instr.slice 9 (.string st) (some (.int .i64 ((m:Int)+1))) none none).run Tryz.prog W=.ok (.string (st.extract (m+1) st.size)) W:=fun W=>run_slice_string_l W 9 st Tryz.underlying9 .i64 ((m:Int)+1) (by omega) hm5
  have hid1:∀ W:World,(Instr.index 9 (.string rs) (.int .i64 (m:Int))).run Tryz.prog W=.ok (.int .u8 c.toNat) W:=fun W=>by
   rw[run_index_string W 9 rs .i64 (m:Int) Tryz.underlying9,dif_pos ⟨by omega,by omega⟩]
   simp[hc2]
  have hid2:∀ W:World,(Instr.index 9 (.string st) (.int .i64 (m:Int))).run Tryz.prog W=.ok (.int .u8 x.toNat) W:=fun W=>by
   rw[run_index_string W 9 st .i64 (m:Int) Tryz.underlying9,dif_pos ⟨by omega,by omega⟩]
   simp[hx]
  clear hc hL
  go_enter Tryz.func216,Tryz.ntmps216
  go_wp2_with (go_at_call 240;refine(Tryz.utf8_ValidRune _ _).mono ?_;rintro e w' ⟨rfl,hw⟩;rw[hw,hv])
  go_step3
  go_wp2_with fail
  refine wp_loop_rounds 1 ?_
  rw[rounds_succ]
  go_wp2_with fail
  go_step3
  go_wp2_with fail
  go_quiet (fail)
  go_wp2_with fail
  have HB:=fun n=>an (Below.refl w.heap.size w) n
  generalize hW:w.drewN _=W2
  have HW:Below w.heap.size w W2:=by rw[←hW];exact HB _
  clear hW HB
  go_quiet ((go_at_call 107;exact Calls.quiet_of_same (hI _)))
  go_wp2_with fail
  rw[Exit.noGoto_ret]
  go_wp2_with fail
  rw[Exit.noGoto_ret]
  go_ret
  exact⟨rfl,an HW _⟩
 ·have hm4:¬ (m:Int)<(st.size:Int):=by omega
  clear hc hL
  go_enter Tryz.func216,Tryz.ntmps216
  go_wp2_with (go_at_call 240;refine(Tryz.utf8_ValidRune _ _).mono ?_;rintro e w' ⟨rfl,hw⟩;rw[hw,hv])
  go_step3
  go_wp2_with fail
  refine wp_loop_rounds 1 ?_
  rw[rounds_succ]
  go_wp2_with fail
  rw[Exit.noGoto_ret]
  go_ret
  exact⟨rfl,bR⟩
theorem sf (st:BA)(hL:kV st)(r:Int)(w:World)(h0:128≤r)(h1:r≤1114111):Calls Tryz.prog 216 #[.string st,.int .i32 r] w fun e w'=>e=.returned (.int .i64 (-1))∧Below w.heap.size w w':=by
 by_cases hne:r=65533
 ·subst hne;exact rY st hL w
 ·cases hv:Lib.validRune r with
  | false=>exact rZ st r w h0 h1 hne hv
  | true=>exact qp st hL r w h0 h1 hne hv
theorem qq (st:BA)(hL:kV st)(s:BA)(w:World)(h8:s.size≤8):
  Calls Tryz.prog 174 #[.string s,.string st] w fun e w'=>e=.returned (.int .i64 (Lib.indexAny (bl s) (bl st)))∧Below w.heap.size w w':=by
 have hs2:=hL.two
 have hemp2:¬ st.toList=[]:=by rw[ah];intro h;have:=congrArg List.length h;rw[ag,List.length_nil] at this;omega
 have hemp:st.toList.isEmpty=false:=by cases h:st.toList with | nil=>exact absurd h hemp2 | cons a r=>rfl
 have hn1:((st.size:Int)==1)=false:=beq_eq_false_iff_ne.2 (by omega)
 clear hs2
 have HL:=ae hL;clear hL
 have h8z:decide ((8:Int)<(s.size:Int))=false:=dF (by omega)
 go_enter Tryz.func174,Tryz.ntmps174
 go_wp2_with (go_at_call 217;refine(Tryz.strings_shouldUseASCIISet _ _).mono ?_;rintro e w' ⟨rfl,hw⟩;rw[hw,h8z])
 go_loopg [9,10] s.size (fun g _ _ wx=>∃ i:Nat,i+g=s.size∧Hid (wx.heap[w.heap.size]?=some (.stringIter s i))∧Hid (Below w.heap.size w wx)∧Hid (Lib.NoAny (bl s) (bl st) i))
 case atStart=>exact⟨0,by omega,World.iter_heap w s 0,bR.alloc lr _,Lib.NoAny.zero _ _⟩
 case round=>
  obtain⟨i,hig,HH,HB,HN⟩:=hrel
  cases gk with
  | zero=>
   obtain rfl:i=s.size:=by omega
   have hnx:=fun ty=>Lib.run_next_end_at (P:=Tryz.prog) wr w.heap.size s s.size ty HH.out (by omega)
   go_wp2_with fail
   go_ret
   exact⟨ap (by rw[Lib.indexAny_none (by rw[ag];exact HN.out)]),HB.out⟩
  | succ g=>
   have hi:i<s.size:=by omega
   have hxl:=cZ s i hi
   by_cases ha:(s[i]'hi).toNat<128
   ·have hnx:=fun ty=>Lib.run_next_ascii_at (P:=Tryz.prog) wr w.heap.size s i ty HH.out hi ha
    obtain⟨x,hx⟩:∃ x:UInt8,s[i]'hi=x:=⟨_,rfl⟩
    rw[hx] at hnx ha hxl
    have HX:=ae hxl
    clear hxl hx
    have hback:((x.toNat:Int)).toNat.toUInt8=x:=by simp
    have HB2:Hid (Below w.heap.size w (wr.iterAt w.heap.size s (i+1))):=Lib.below_iterAt HB.out lr _ _
    have HH2:Hid ((wr.iterAt w.heap.size s (i+1)).heap[w.heap.size]?=some (.stringIter s (i+1))):=Lib.iterAt_heap _ _ _ _ _ HH.out
    cases hin:(bl st).contains x with
    | false=>
     have hlt:=fg st x hin
     unfold uz bl at hlt
     have HI:=ae hin;clear hin
     go_wp2_with (go_at_call 216;refine(Tryz.strings_IndexRune_ascii _ _ _ (by omega) (by omega)).mono ?_;rintro e w' ⟨rfl,hw⟩;rw[hw,hback])
     go_roundg g
     case measure=>omega
     case rel=>exact⟨i+1,by omega,HH2,HB2,HN.out.succ HX.out HI.out⟩
    | true=>
     have hge:=fH st x hin
     unfold uz bl at hge
     have HI:=ae hin;clear hin
     go_wp2_with (go_at_call 216;refine(Tryz.strings_IndexRune_ascii _ _ _ (by omega) (by omega)).mono ?_;rintro e w' ⟨rfl,hw⟩;rw[hw,hback])
     go_ret
     exact⟨ap (Lib.indexAny_hit HN.out HX.out HI.out).symm,HB2.out⟩
   ·obtain⟨⟨d1,d2⟩,⟨d3,d4⟩,d5⟩:=rT s i hi ha
    have hnx:=fun ty=>Lib.run_next_any_at (P:=Tryz.prog) wr w.heap.size s i ty HH.out hi
    have HD:=ae d5
    clear d5 hxl
    generalize Utf8.decode s i=D at *
    obtain⟨r,n⟩:=D
    simp only at d1 d2 d3 d4 hnx
    have HB2:Hid (Below w.heap.size w (wr.iterAt w.heap.size s (i+n))):=Lib.below_iterAt HB.out lr _ _
    have HH2:Hid ((wr.iterAt w.heap.size s (i+n)).heap[w.heap.size]?=some (.stringIter s (i+n))):=Lib.iterAt_heap _ _ _ _ _ HH.out
    have HN2:Hid (Lib.NoAny (bl s) (bl st) (i+n)):=by
     intro j b hj hb
     by_cases hji:j<i
     ·exact HN.out j b hji hb
     ·have h1:=HD.out j b (by omega) hj hb
      cases hc:(bl st).contains b with
      | false=>rfl
      | true=>
       have hm:b∈bl st:=by simpa using hc
       obtain⟨k,hk⟩:=List.getElem?_of_mem hm
       have:=HL.out.low k b hk
       omega
    clear HD
    go_wp2_with fail
    refine(sf st HL.out (r:Int) _ (by omega) (by omega)).mono ?_;rintro e w' ⟨rfl,hb⟩
    have HS:w.heap.size<(wr.iterAt w.heap.size s (i+n)).heap.size:=(Array.getElem?_eq_some_iff.1 HH2.out).1
    have HB3:Hid (Below w.heap.size w w'):=IJ HB2.out hb HB2.out.size
    have HH3:Hid (w'.heap[w.heap.size]?=some (.stringIter s (i+n))):=(hb.block _ HS).trans HH2.out
    clear hb
    go_wp2_with fail
    go_roundg (g+1-n)
    case measure=>omega
    case rel=>exact⟨i+n,by omega,HH3,HB3,HN2⟩
theorem Fj (st:BA)(hL:kV st)(s:BA)(w:World)(hs:s.size≤4294967280):
  Calls Tryz.prog 174 #[.string s,.string st] w fun e w'=>e=.returned (.int .i64 (Lib.indexAny (bl s) (bl st)))∧Below w.heap.size w w':=by
 by_cases h8:s.size≤8
 ·exact qq st hL s w h8
 ·refine(Tryz.strings_IndexAny_long (by intro w;kernel_rfl) s st w (by have:=hL.two;omega) (by omega) (by omega) (by have:=hL.four;omega) (fun j b h=>hL.low j b h)).mono ?_
  rintro e w' ⟨rfl,rfl⟩
  refine⟨rfl,?_⟩
  have h1:Below w.heap.size w (w.alloc (.cells (Lib.setCells st.data.toList) 284)):=bR.alloc lr _
  exact h1.alloc (by simp) _
theorem nV (st:BA)(hL:kV st)(s:BA)(w:World)(hs:s.size≤4294967280):
  Calls Tryz.prog 124 #[.string s,.string st] w fun e w'=>e=.returned (.bool (Lib.containsAny (bl s) (bl st)))∧Below w.heap.size w w':=by
 obtain⟨v,hv⟩:∃ v:Int,Lib.indexAny (bl s) (bl st)=v:=⟨_,rfl⟩
 have E:Hid (Lib.containsAny (bl s) (bl st)=decide (0≤v)):=by show _=_;unfold Lib.containsAny;rw[hv]
 have hI:=fun W=>Fj st hL s W hs
 rw[hv] at hI
 have HI:=ae hI
 clear hv hI
 go_enter Tryz.func124,Tryz.ntmps124
 go_wp2_with fail
 refine(HI.out _).mono ?_;rintro e w' ⟨rfl,hb⟩
 by_cases h:0≤v
 ·go_wp2_with fail
  go_ret
  exact⟨af (by rw[E.out]<;>simp[h]),hb⟩
 ·go_wp2_with fail
  go_ret
  exact⟨af (by rw[E.out]<;>simp[h]),hb⟩
end
section
open Go.RowKit
def gF:LU→Bool
 | a::_::_=>a==48
 | _=>false
theorem uH (s:BA)(h:¬ 1<s.size):gF (bl s)=false:=by
 have hl:=ag s
 cases hb:bl s with
 | nil=>rfl
 | cons a r=>cases r with
  | nil=>rfl
  | cons b r=>rw[hb] at hl;simp at hl;omega
theorem wZ (s:BA)(h:1<s.size):gF (bl s)=(s[0]==48):=by
 have hl:=ag s
 have h0:=fG s (by omega)
 cases hb:(bl s).tail with
 | nil=>rw[h0,hb] at hl;simp at hl;omega
 | cons b r=>rw[h0,hb];rfl
theorem Ou (a:UInt8):(((a.toNat:Nat):Int)==48)=(a==48):=by
 rw[bI];simp[←UInt8.toNat_inj];omega
theorem sk (s:BA)(w:World)(hs:s.size≤9223372036854775807):
  Calls Tryz.prog 149 #[.string s] w fun e w'=>e=.returned (.bool (gF (bl s)))∧w=w':=by
 by_cases h:1<s.size
 ·have h0:0<s.size:=by omega
  have HN:=ae (wZ s h)
  go_enter Tryz.func149,Tryz.ntmps149
  go_wp2
  go_ret
  exact⟨af (by rw[HN.out,Ou]),rfl⟩
 ·have HN:=ae (uH s h)
  go_enter Tryz.func149,Tryz.ntmps149
  go_wp2
  go_ret
  exact⟨af HN.out.symm,rfl⟩
theorem ee (s:BA)(b:Bool)(w:World)(hs:s.size≤9223372036854775807)(h:Hid (gF (bl s)=b)):
  Calls Tryz.prog 149 #[.string s] w fun e w'=>e=.returned (.bool b)∧w=w':=by rw[←h.out];exact sk s w hs
def rO:LU:=[46,95,43,126,94]
def xa (l:LU):Option (LU×LU):=
 if (Lib.cut l [58]).2.2=true then (if kf (Lib.cut l [58]).1=true∧(Lib.cut l [58]).1.length≤9∧gF (Lib.cut l [58]).1=false then some ((Lib.cut l [58]).1,(Lib.cut l [58]).2.1) else none) else some ([],l)
def yY (p:LU):Option (LU×LU):=
 if (bm rO (Lib.cut p [45]).1&&bm rO (Lib.cut p [45]).2.1)=true then some ((Lib.cut p [45]).1,(Lib.cut p [45]).2.1) else none
def gX (l:LU):Option (LU×LU×LU):=
 match xa l with
 | none=>none
 | some (ep,p)=>(yY p).map fun r=>(ep,r.1,r.2)
theorem jK (ep p:LU)(a b:Bool)(ha:bm rO (Lib.cut p [45]).1=a)(hb:bm rO (Lib.cut p [45]).2.1=b):
  (yY p).map (fun r=>(ep,r.1,r.2))=if (a&&b)=true then some (ep,(Lib.cut p [45]).1,(Lib.cut p [45]).2.1) else none:=by
 unfold yY;rw[ha,hb];split<;>rfl
theorem nZ (s:BA)(w:World)(hG:Gl w)(hs:s.size≤64)(hk:wK s ⟨#[58]⟩=false):
  Calls Tryz.prog 109 #[.string s] w (bP (gX (bl s)) w):=by
 have HG:=ae hG;clear hG
 have HE:Hid (gX (bl s)=(yY (bl s)).map fun r=>([],r.1,r.2)):=by
  show _=_;unfold gX xa;rw[show(Lib.cut (bl s) [58]).2.2=false from hk];rfl
 have z1:=qU s ⟨#[45]⟩
 have z2:=qV s ⟨#[45]⟩
 cases ha:bm rO (bl (fX s ⟨#[45]⟩))
 ·have HA:=ae ha;clear ha
  go_enter Tryz.func109,Tryz.ntmps109
  go_wp2_with fail
  refine(bD s ⟨#[58]⟩ _ HG.out (by omega)).mono ?_;rintro e w1 ⟨rfl,hb1⟩
  go_wp2_with fail
  refine(bD s ⟨#[45]⟩ _ (by exact HG.out.below hb1) (by omega)).mono ?_;rintro e w2 ⟨rfl,hb2⟩
  go_wp2_with fail
  refine(aB (fX s ⟨#[45]⟩) ⟨#[46,95,43,126,94]⟩ false _ (by omega) (by exact HA)).mono ?_;rintro e w3 ⟨rfl,hb3⟩
  go_wp2_with fail
  refine bodyPost_ret (aE rfl _ _ _) rfl ?_
  exact⟨⟨#[]⟩,fX s ⟨#[45]⟩,ki s ⟨#[45]⟩,false,rfl,by rw[HE.out,jK _ _ false (bm rO (bl (ki s ⟨#[45]⟩))) (by rw[←HA.out,dJ];rfl) (by rw[fJ];rfl)];rfl,by decide,by omega,by omega,aq (aq hb1 hb2) hb3⟩
 ·have HA:=ae ha;clear ha
  cases hb:bm rO (bl (ki s ⟨#[45]⟩))
  ·have HV:=ae hb;clear hb
   go_enter Tryz.func109,Tryz.ntmps109
   go_wp2_with fail
   refine(bD s ⟨#[58]⟩ _ HG.out (by omega)).mono ?_;rintro e w1 ⟨rfl,hb1⟩
   go_wp2_with fail
   refine(bD s ⟨#[45]⟩ _ (by exact HG.out.below hb1) (by omega)).mono ?_;rintro e w2 ⟨rfl,hb2⟩
   go_wp2_with fail
   refine(aB (fX s ⟨#[45]⟩) ⟨#[46,95,43,126,94]⟩ true _ (by omega) (by exact HA)).mono ?_;rintro e w3 ⟨rfl,hb3⟩
   go_wp2_with fail
   refine(aB (ki s ⟨#[45]⟩) ⟨#[46,95,43,126,94]⟩ false _ (by omega) (by exact HV)).mono ?_;rintro e w4 ⟨rfl,hb4⟩
   go_wp2_with fail
   refine bodyPost_ret (aE rfl _ _ _) rfl ?_
   exact⟨⟨#[]⟩,fX s ⟨#[45]⟩,ki s ⟨#[45]⟩,false,rfl,by rw[HE.out,jK _ _ true false (by rw[←HA.out,dJ];rfl) (by rw[←HV.out,fJ];rfl)];rfl,by decide,by omega,by omega,aq (aq (aq hb1 hb2) hb3) hb4⟩
  ·have HV:=ae hb;clear hb
   go_enter Tryz.func109,Tryz.ntmps109
   go_wp2_with fail
   refine(bD s ⟨#[58]⟩ _ HG.out (by omega)).mono ?_;rintro e w1 ⟨rfl,hb1⟩
   go_wp2_with fail
   refine(bD s ⟨#[45]⟩ _ (by exact HG.out.below hb1) (by omega)).mono ?_;rintro e w2 ⟨rfl,hb2⟩
   go_wp2_with fail
   refine(aB (fX s ⟨#[45]⟩) ⟨#[46,95,43,126,94]⟩ true _ (by omega) (by exact HA)).mono ?_;rintro e w3 ⟨rfl,hb3⟩
   go_wp2_with fail
   refine(aB (ki s ⟨#[45]⟩) ⟨#[46,95,43,126,94]⟩ true _ (by omega) (by exact HV)).mono ?_;rintro e w4 ⟨rfl,hb4⟩
   go_wp2_with fail
   refine bodyPost_ret (aE rfl _ _ _) rfl ?_
   exact⟨⟨#[]⟩,fX s ⟨#[45]⟩,ki s ⟨#[45]⟩,true,rfl,by rw[HE.out,jK _ _ true true (by rw[←HA.out,dJ];rfl) (by rw[←HV.out,fJ];rfl)];simp only[Bool.and_self,if_true,dJ,fJ];rfl,by decide,by omega,by omega,aq (aq (aq hb1 hb2) hb3) hb4⟩
theorem oa (s t u:BA)(w:World)(hG:Gl w)(hs:s.size≤64)(hk:wK s ⟨#[58]⟩=true)(ht:t=ki s ⟨#[58]⟩)(hu:u=fX s ⟨#[58]⟩)
  (hn:kf (bl u)=true)(hl:u.size≤9)(ho:gF (bl u)=false):
  Calls Tryz.prog 109 #[.string s] w (bP (gX (bl s)) w):=by
 have HG:=ae hG;clear hG
 have HE:Hid (gX (bl s)=(yY (bl t)).map fun r=>(bl u,r.1,r.2)):=by
  show _=_;unfold gX xa
  have e1:bl u=(Lib.cut (bl s) [58]).1:=by rw[hu,dJ];rfl
  have e2:bl t=(Lib.cut (bl s) [58]).2.1:=by rw[ht,fJ];rfl
  rw[show(Lib.cut (bl s) [58]).2.2=true from hk,if_pos rfl,←e1,←e2,if_pos ⟨hn,by rw[ag];exact hl,ho⟩]
 have hts:t.size≤64:=by have:=qV s ⟨#[58]⟩;rw[ht];omega
 have HN:=ae hn;have HO:=ae ho;clear hn ho
 have ht':=ht.symm;have hu':=hu.symm;clear ht hu
 have z1:=qU t ⟨#[45]⟩
 have z2:=qV t ⟨#[45]⟩
 cases ha:bm rO (bl (fX t ⟨#[45]⟩))
 ·have HA:=ae ha;clear ha
  go_enter Tryz.func109,Tryz.ntmps109
  go_wp2_with fail
  refine(bD s ⟨#[58]⟩ _ HG.out (by omega)).mono ?_;rintro e w1 ⟨rfl,hb1⟩
  go_wp2_with fail
  refine(aK _ _ _ (by omega) HN).mono ?_;rintro e w1' ⟨rfl,rfl⟩
  go_wp2_with fail
  refine(ee _ _ _ (by omega) HO).mono ?_;rintro e w1' ⟨rfl,rfl⟩
  go_wp2_with fail
  refine(bD t ⟨#[45]⟩ _ (by exact HG.out.below hb1) (by omega)).mono ?_;rintro e w2 ⟨rfl,hb2⟩
  go_wp2_with fail
  refine(aB (fX t ⟨#[45]⟩) ⟨#[46,95,43,126,94]⟩ false _ (by omega) (by exact HA)).mono ?_;rintro e w3 ⟨rfl,hb3⟩
  go_wp2_with fail
  refine bodyPost_ret (aE rfl _ _ _) rfl ?_
  exact⟨u,fX t ⟨#[45]⟩,ki t ⟨#[45]⟩,false,rfl,by rw[HE.out,jK _ _ false (bm rO (bl (ki t ⟨#[45]⟩))) (by rw[←HA.out,dJ];rfl) (by rw[fJ];rfl)];rfl,by omega,by omega,by omega,aq (aq hb1 hb2) hb3⟩
 ·have HA:=ae ha;clear ha
  cases hb:bm rO (bl (ki t ⟨#[45]⟩))
  ·have HV:=ae hb;clear hb
   go_enter Tryz.func109,Tryz.ntmps109
   go_wp2_with fail
   refine(bD s ⟨#[58]⟩ _ HG.out (by omega)).mono ?_;rintro e w1 ⟨rfl,hb1⟩
   go_wp2_with fail
   refine(aK _ _ _ (by omega) HN).mono ?_;rintro e w1' ⟨rfl,rfl⟩
   go_wp2_with fail
   refine(ee _ _ _ (by omega) HO).mono ?_;rintro e w1' ⟨rfl,rfl⟩
   go_wp2_with fail
   refine(bD t ⟨#[45]⟩ _ (by exact HG.out.below hb1) (by omega)).mono ?_;rintro e w2 ⟨rfl,hb2⟩
   go_wp2_with fail
   refine(aB (fX t ⟨#[45]⟩) ⟨#[46,95,43,126,94]⟩ true _ (by omega) (by exact HA)).mono ?_;rintro e w3 ⟨rfl,hb3⟩
   go_wp2_with fail
   refine(aB (ki t ⟨#[45]⟩) ⟨#[46,95,43,126,94]⟩ false _ (by omega) (by exact HV)).mono ?_;rintro e w4 ⟨rfl,hb4⟩
   go_wp2_with fail
   refine bodyPost_ret (aE rfl _ _ _) rfl ?_
   exact⟨u,fX t ⟨#[45]⟩,ki t ⟨#[45]⟩,false,rfl,by rw[HE.out,jK _ _ true false (by rw[←HA.out,dJ];rfl) (by rw[←HV.out,fJ];rfl)];rfl,by omega,by omega,by omega,aq (aq (aq hb1 hb2) hb3) hb4⟩
  ·have HV:=ae hb;clear hb
   go_enter Tryz.func109,Tryz.ntmps109
   go_wp2_with fail
   refine(bD s ⟨#[58]⟩ _ HG.out (by omega)).mono ?_;rintro e w1 ⟨rfl,hb1⟩
   go_wp2_with fail
   refine(aK _ _ _ (by omega) HN).mono ?_;rintro e w1' ⟨rfl,rfl⟩
   go_wp2_with fail
   refine(ee _ _ _ (by omega) HO).mono ?_;rintro e w1' ⟨rfl,rfl⟩
   go_wp2_with fail
   refine(bD t ⟨#[45]⟩ _ (by exact HG.out.below hb1) (by omega)).mono ?_;rintro e w2 ⟨rfl,hb2⟩
   go_wp2_with fail
   refine(aB (fX t ⟨#[45]⟩) ⟨#[46,95,43,126,94]⟩ true _ (by omega) (by exact HA)).mono ?_;rintro e w3 ⟨rfl,hb3⟩
   go_wp2_with fail
   refine(aB (ki t ⟨#[45]⟩) ⟨#[46,95,43,126,94]⟩ true _ (by omega) (by exact HV)).mono ?_;rintro e w4 ⟨rfl,hb4⟩
   go_wp2_with fail
   refine bodyPost_ret (aE rfl _ _ _) rfl ?_
   exact⟨u,fX t ⟨#[45]⟩,ki t ⟨#[45]⟩,true,rfl,by rw[HE.out,jK _ _ true true (by rw[←HA.out,dJ];rfl) (by rw[←HV.out,fJ];rfl)];simp only[Bool.and_self,if_true,dJ,fJ];rfl,by omega,by omega,by omega,aq (aq (aq hb1 hb2) hb3) hb4⟩
theorem ob (s u:BA)(w:World)(hG:Gl w)(hs:s.size≤64)(hk:wK s ⟨#[58]⟩=true)(hu:u=fX s ⟨#[58]⟩)
  (hn:¬ (kf (bl u)=true∧u.size≤9∧gF (bl u)=false)):
  Calls Tryz.prog 109 #[.string s] w (bP (gX (bl s)) w):=by
 have HG:=ae hG;clear hG
 have HE:Hid (gX (bl s)=none):=by
  show _=_;unfold gX xa
  have e1:bl u=(Lib.cut (bl s) [58]).1:=by rw[hu,dJ];rfl
  rw[show(Lib.cut (bl s) [58]).2.2=true from hk,if_pos rfl,←e1,if_neg (by rw[ag];exact hn)]
 have hus:u.size≤64:=by have:=qU s ⟨#[58]⟩;rw[hu];omega
 have hu':=hu.symm;clear hu
 cases hb:kf (bl u)
 ·have HN:=ae hb;clear hb hn
  go_enter Tryz.func109,Tryz.ntmps109
  go_wp2_with fail
  refine(bD s ⟨#[58]⟩ _ HG.out (by omega)).mono ?_;rintro e w1 ⟨rfl,hb1⟩
  go_wp2_with fail
  refine(aK _ _ _ (by omega) HN).mono ?_;rintro e w1' ⟨rfl,rfl⟩
  go_wp2_with fail
  refine bodyPost_ret (aE rfl _ _ _) rfl ?_
  exact bP.no HE.out hb1
 ·by_cases hl:u.size≤9
  ·have ho:gF (bl u)=true:=by cases h:gF (bl u) with | true=>rfl | false=>exact absurd ⟨hb,hl,h⟩ hn
   have HN:=ae hb;have HO:=ae ho;clear hb hn ho
   go_enter Tryz.func109,Tryz.ntmps109
   go_wp2_with fail
   refine(bD s ⟨#[58]⟩ _ HG.out (by omega)).mono ?_;rintro e w1 ⟨rfl,hb1⟩
   go_wp2_with fail
   refine(aK _ _ _ (by omega) HN).mono ?_;rintro e w1' ⟨rfl,rfl⟩
   go_wp2_with fail
   refine(ee _ _ _ (by omega) HO).mono ?_;rintro e w1' ⟨rfl,rfl⟩
   go_wp2_with fail
   refine bodyPost_ret (aE rfl _ _ _) rfl ?_
   exact bP.no HE.out hb1
  ·have HN:=ae hb;clear hb hn
   go_enter Tryz.func109,Tryz.ntmps109
   go_wp2_with fail
   refine(bD s ⟨#[58]⟩ _ HG.out (by omega)).mono ?_;rintro e w1 ⟨rfl,hb1⟩
   go_wp2_with fail
   refine(aK _ _ _ (by omega) HN).mono ?_;rintro e w1' ⟨rfl,rfl⟩
   go_wp2_with fail
   refine bodyPost_ret (aE rfl _ _ _) rfl ?_
   exact bP.no HE.out hb1
theorem pd (s:BA)(w:World)(hG:Gl w)(hs:s.size≤64):
  Calls Tryz.prog 109 #[.string s] w (bP (gX (bl s)) w):=by
 cases hk:wK s ⟨#[58]⟩
 ·exact nZ s w hG hs hk
 ·by_cases hn:kf (bl (fX s ⟨#[58]⟩))=true∧(fX s ⟨#[58]⟩).size≤9∧gF (bl (fX s ⟨#[58]⟩))=false
  ·exact oa s _ _ w hG hs hk rfl rfl hn.1 hn.2.1 hn.2.2
  ·exact ob s _ w hG hs hk rfl hn
theorem oc (s:BA)(w:World)(hG:Gl w)(hs:s.size≤64):
  Calls Tryz.prog 76 #[.int .i64 2,.string s] w (nN (gX (bl s)) w):=by
 have HG:=ae hG;clear hG
 go_enter Tryz.func76,Tryz.ntmps76
 go_wp2_with fail
 refine(pd s _ HG.out hs).mono ?_
 rintro e w1 ⟨ep,pr,rv,ok,rfl,hr,h1,h2,h3,hb1⟩
 have HR:=ae hr;clear hr
 cases ok
 ·go_wp2_with fail
  refine bodyPost_ret (aE rfl _ _ _) rfl ?_
  exact⟨⟨#[]⟩,⟨#[]⟩,⟨#[]⟩,3,rfl,by rw[HR.out];exact⟨rfl,rfl,rfl,rfl⟩,hb1⟩
 ·go_wp2_with fail
  refine bodyPost_ret (aE rfl _ _ _) rfl ?_
  exact⟨ep,pr,rv,0,rfl,by rw[HR.out];exact⟨rfl,rfl,rfl,rfl⟩,hb1⟩
end
end Go.Proofs.YtaohgmcbpafdeaaGreatDoor
