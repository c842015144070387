/- A part of the proof that ModelPackages holds. No condition. -/
import Derived.Test.YtdfdllbebfoggaaGreatDoorC10
import Derived.Test.YtdfdllbebfoggaaGreatDoorC15
import Derived.Test.YtdfdllbebfoggaaGreatDoorC16
import Derived.Test.YtdfdllbebfoggaaGreatDoorC18
set_option maxRecDepth 100000
set_option maxHeartbeats 20000000
set_option linter.unusedVariables false
set_option linter.unusedSimpArgs false
namespace Go.Proofs.YtdfdllbebfoggaaGreatDoor
section
open Go.RowKit Go.Deep
theorem bthen' {B:Nat}{w w1 w2:World}(h1:Below B w w1)(h2:Below w1.heap.size w1 w2)(h:B≤w1.heap.size:=by exact Nat.le_trans (by assumption) (Below.size (by assumption))):Below B w w2:=h1.trans (h2.mono h)
theorem get_bang (s:ByteArray)(j:Nat)(b:UInt8)(h:(bl s)[j]?=some b):s.get! j=b:=by
 unfold bl at h
 show s.data[j]! = b
 have h2:s.data[j]?=some b:=by simpa using h
 obtain⟨hlt,he⟩:=Array.getElem?_eq_some_iff.1 h2
 rw[getElem!_pos s.data j hlt,he]
theorem decode_far (s:ByteArray)(i:Nat)(h:i<s.size)(ha:¬ (s[i]'h).toNat<128):
  (128≤(Utf8.decode s i).1∧(Utf8.decode s i).1≤1114111)∧(1≤(Utf8.decode s i).2∧i+(Utf8.decode s i).2≤s.size)∧∀ (j:Nat)(b:UInt8),i≤j→j<i+(Utf8.decode s i).2→(bl s)[j]?=some b→128≤b.toNat:=by
 have e0:=get_bang s i _ (bl_get? s i h)
 rw[Lib.decode_at,e0]
 have l1:=(s.get! (i+1)).toNat_lt
 have l2:=(s.get! (i+2)).toNat_lt
 have l3:=(s.get! (i+3)).toNat_lt
 have l0:=(s[i]'h).toNat_lt
 have g1:∀ b,(bl s)[i+1]?=some b→b.toNat=(s.get! (i+1)).toNat:=fun b hb=>by rw[get_bang s _ b hb]
 have g2:∀ b,(bl s)[i+2]?=some b→b.toNat=(s.get! (i+2)).toNat:=fun b hb=>by rw[get_bang s _ b hb]
 have g3:∀ b,(bl s)[i+3]?=some b→b.toNat=(s.get! (i+3)).toNat:=fun b hb=>by rw[get_bang s _ b hb]
 have g0:∀ b,(bl s)[i]?=some b→b.toNat=(s[i]'h).toNat:=fun b hb=>by rw[bl_get? s i h] at hb;injection hb with hb;rw[hb]
 generalize (s.get! (i+1)).toNat=b1 at *
 generalize (s.get! (i+2)).toNat=b2 at *
 generalize (s.get! (i+3)).toNat=b3 at *
 generalize (s[i]'h).toNat=b0 at *
 unfold Lib.decodeN
 rw[if_neg ha]
 have key:∀ (r w:Nat),1≤w→w≤4→(1<w→128≤b1)→(2<w→128≤b2)→(3<w→128≤b3)→∀ (j:Nat)(b:UInt8),i≤j→j<i+w→(bl s)[j]?=some b→128≤b.toNat:=by
  intro r w h1 h4 k1 k2 k3 j b hj hjw hb
  obtain hj | hj | hj | hj:j=i∨j=i+1∨j=i+2∨j=i+3:=by omega
  ·subst hj;rw[g0 b hb];omega
  ·subst hj;rw[g1 b hb];exact k1 (by omega)
  ·subst hj;rw[g2 b hb];exact k2 (by omega)
  ·subst hj;rw[g3 b hb];exact k3 (by omega)
 repeat' split
 all_goals (refine⟨by simp only;omega,by simp only;omega,key 0 _ ?_ ?_ ?_ ?_ ?_⟩<;>(simp only;omega))
theorem encode_far (r:Int)(h0:128≤r)(h1:r≤1114111):2≤(Utf8.encode r).size∧(Utf8.encode r).size≤4∧∃ c:UInt8,(bl (Utf8.encode r))[(Utf8.encode r).size-1]?=some c∧128≤c.toNat:=by
 unfold Utf8.encode
 have hc:128≤(if Utf8.valid r then r.toNat else Utf8.runeError):=by
  split
  ·omega
  ·simp[Utf8.runeError]
 generalize (if Utf8.valid r then r.toNat else Utf8.runeError)=c at hc
 simp only
 rw[if_neg (by omega)]
 have k:(UInt8.ofNat (128+c % 64)).toNat=128+c % 64:=by simp[UInt8.toNat_ofNat'];omega
 repeat' split
 all_goals exact⟨by simp[ByteArray.size],by simp[ByteArray.size],_,rfl,by rw[k];omega⟩
def sgs:ByteArray:=⟨#[60,61,62,126]⟩
theorem sgs_size:sgs.size=4:=rfl
theorem sgs_low (j:Nat)(b:UInt8)(h:(bl sgs)[j]?=some b):b.toNat<128:=by
 have hm:=List.mem_of_getElem? h
 simp[sgs,bl] at hm
 rcases hm with rfl | rfl | rfl | rfl<;>decide
theorem IndexRune_err (w:World):Calls Tryz.prog 237 #[.string sgs,.int .i32 65533] w fun e w'=>e=.returned (.int .i64 (-1))∧Below w.heap.size w w':=by
 go_enter Tryz.func237,Tryz.ntmps237
 go_wp2_with fail
 go_loopg [5,6] 4 (fun g _ _ wx=>∃ i:Nat,i+g=4∧wx=w.iter sgs i)
 case atStart=>exact⟨0,by omega,rfl⟩
 case round=>
  obtain⟨i,hig,rfl⟩:=hrel
  cases gk with
  | zero=>
   obtain rfl:i=4:=by omega
   have hnx:=fun ty=>run_next_end (P:=Tryz.prog) w sgs 4 ty (by rw[sgs_size];omega)
   go_wp2_with fail
   go_ret
   exact⟨rfl,(Below.refl _ _).alloc lr _⟩
  | succ g=>
   have hi:i<sgs.size:=by rw[sgs_size];omega
   obtain⟨x,hx⟩:∃ x:UInt8,sgs[i]'hi=x:=⟨_,rfl⟩
   have hx128:x.toNat<128:=sgs_low i x (by rw[←hx];exact bl_get? sgs i hi)
   have hnx:=fun ty=>run_next_ascii (P:=Tryz.prog) w sgs i ty hi (by rw[hx];exact hx128)
   rw[hx] at hnx
   clear hx
   have hx3:((x.toNat:Int)==65533)=false:=beq_eq_false_iff_ne.2 (by omega)
   go_wp2_with fail
   go_roundg g
   case measure=>omega
   case rel=>exact⟨i+1,by omega,rfl⟩
theorem IndexRune_bad (r:Int)(w:World)(h0:128≤r)(h1:r≤1114111)(hne:r≠65533)(hv:Lib.validRune r=false):Calls Tryz.prog 237 #[.string sgs,.int .i32 r] w fun e w'=>e=.returned (.int .i64 (-1))∧Below w.heap.size w w':=by
 have hx3:(r==65533)=false:=beq_eq_false_iff_ne.2 hne
 go_enter Tryz.func237,Tryz.ntmps237
 go_wp2_with (go_at_call 271;refine(Tryz.utf8_ValidRune _ _).mono ?_;rintro e w' ⟨rfl,hw⟩;rw[hw,hv])
 go_ret
 exact⟨rfl,Below.refl _ _⟩
theorem IndexRune_rest (r:Int)(w:World)(h0:128≤r)(h1:r≤1114111)(hne:r≠65533)(hv:Lib.validRune r=true):Calls Tryz.prog 237 #[.string sgs,.int .i32 r] w fun e w'=>e=.returned (.int .i64 (-1))∧Below w.heap.size w w':=by
 have hx3:(r==65533)=false:=beq_eq_false_iff_ne.2 hne
 obtain⟨z0,z1,c,hc,c0⟩:=encode_far r h0 h1
 obtain⟨rs,hrs⟩:∃ rs,Utf8.encode r=rs:=⟨_,rfl⟩
 rw[hrs] at z0 z1 hc
 obtain⟨m,hm⟩:∃ m,rs.size=m+1:=⟨rs.size-1,by omega⟩
 have hlt:m<rs.size:=by omega
 have hc2:rs[m]'hlt=c:=by
  rw[show rs.size-1=m by omega,bl_get? rs _ hlt] at hc;injection hc
 have hss:=sgs_size
 have hlt2:m<sgs.size:=by omega
 obtain⟨x,hx⟩:∃ x:UInt8,sgs[m]'hlt2=x:=⟨_,rfl⟩
 have hx128:x.toNat<128:=sgs_low _ x (by rw[←hx];exact bl_get? sgs _ hlt2)
 have hxc:((x.toNat:Int) != (c.toNat:Int))=true:=by simp;omega
 have hm4:(m:Int)<(sgs.size:Int):=by omega
 have hm5:(m:Int)+1≤(sgs.size:Int):=by omega
 have hm6:m+1≤sgs.size:=by omega
 clear hss
 have hI:∀ W:World,Calls Tryz.prog 82 #[.string (sgs.extract (m+1) sgs.size),.int .u8 c.toNat] W fun e w'=>e=.returned (.int .i64 (-1))∧w'=W:=by
  intro W
  refine(IndexByte_any _ c W).mono ?_
  rintro e w' ⟨rfl,rfl⟩
  refine⟨ret_int ?_,rfl⟩
  show Lib.indexByte (bl (sgs.extract (m+1) sgs.size)) c=-1
  have hno:(bl (sgs.extract (m+1) sgs.size)).contains c=false:=by
   rw[bl_drop]
   cases hcc:((bl sgs).drop (m+1)).contains c with
   | false=>rfl
   | true=>
    have hmm:c∈(bl sgs).drop (m+1):=by simpa using hcc
    obtain⟨j,hj⟩:=List.getElem?_of_mem (List.mem_of_mem_drop hmm)
    have:=sgs_low j c hj;omega
  exact ixB_none _ _ hno
 have iw:IntKind.i64.wrap ((m:Int)+1)=(m:Int)+1:=IntWalk.i64_in _ (by omega)
 have hsl:∀ W:World,(Instr.slice 9 (.string sgs) (some (.int .i64 ((m:Int)+1))) none none).run Tryz.prog W=.ok (.string (sgs.extract (m+1) sgs.size)) W:=fun W=>run_slice_string_l W 9 sgs Tryz.underlying9 .i64 ((m:Int)+1) (by omega) hm5
 have hid1:∀ W:World,(Instr.index 9 (.string rs) (.int .i64 (m:Int))).run Tryz.prog W=.ok (.int .u8 c.toNat) W:=fun W=>by
  rw[run_index_string W 9 rs .i64 (m:Int) Tryz.underlying9,dif_pos ⟨by omega,by omega⟩]
  simp[hc2]
 have hid2:∀ W:World,(Instr.index 9 (.string sgs) (.int .i64 (m:Int))).run Tryz.prog W=.ok (.int .u8 x.toNat) W:=fun W=>by
  rw[run_index_string W 9 sgs .i64 (m:Int) Tryz.underlying9,dif_pos ⟨by omega,by omega⟩]
  simp[hx]
 clear hc
 go_enter Tryz.func237,Tryz.ntmps237
 go_wp2_with (go_at_call 271;refine(Tryz.utf8_ValidRune _ _).mono ?_;rintro e w' ⟨rfl,hw⟩;rw[hw,hv])
 go_step3
 go_wp2_with fail
 refine wp_loop_rounds 1 ?_
 rw[rounds_succ]
 go_wp2_with fail
 go_step3
 go_wp2_with fail
 go_quiet (fail)
 go_wp2_with fail
 have HB:=fun n=>below_drewN (Below.refl w.heap.size w) n
 generalize hW:w.drewN _=W2
 have HW:Below w.heap.size w W2:=by rw[←hW];exact HB _
 clear hW HB
 go_quiet ((go_at_call 82;exact Calls.quiet_of_same (hI _)))
 go_wp2_with fail
 rw[Exit.noGoto_ret]
 go_wp2_with fail
 rw[Exit.noGoto_ret]
 go_ret
 exact⟨rfl,below_drewN HW _⟩
theorem IndexRune_far (r:Int)(w:World)(h0:128≤r)(h1:r≤1114111):Calls Tryz.prog 237 #[.string sgs,.int .i32 r] w fun e w'=>e=.returned (.int .i64 (-1))∧Below w.heap.size w w':=by
 by_cases hne:r=65533
 ·subst hne;exact IndexRune_err w
 ·cases hv:Lib.validRune r with
  | false=>exact IndexRune_bad r w h0 h1 hne hv
  | true=>exact IndexRune_rest r w h0 h1 hne hv
theorem IndexAny_short (s:ByteArray)(w:World)(h8:s.size≤8):
  Calls Tryz.prog 187 #[.string s,.string sgs] w fun e w'=>e=.returned (.int .i64 (Lib.indexAny (bl s) (bl sgs)))∧Below w.heap.size w w':=by
 have hemp:sgs.toList.isEmpty=false:=by rw[bl_toList];rfl
 have hemp2:¬ sgs.toList=[]:=by rw[bl_toList];intro h;exact absurd (congrArg List.length h) (by decide)
 have hn1:((sgs.size:Int)==1)=false:=rfl
 have h8z:decide ((8:Int)<(s.size:Int))=false:=decide_eq_false (by omega)
 go_enter Tryz.func187,Tryz.ntmps187
 go_wp2_with (go_at_call 238;refine(Tryz.strings_shouldUseASCIISet _ _).mono ?_;rintro e w' ⟨rfl,hw⟩;rw[hw,h8z])
 go_loopg [9,10] s.size (fun g _ _ wx=>∃ i:Nat,i+g=s.size∧Hid (wx.heap[w.heap.size]?=some (.stringIter s i))∧Hid (Below w.heap.size w wx)∧Hid (Lib.NoAny (bl s) (bl sgs) i))
 case atStart=>exact⟨0,by omega,World.iter_heap w s 0,(Below.refl _ _).alloc lr _,Lib.NoAny.zero _ _⟩
 case round=>
  obtain⟨i,hig,HH,HB,HN⟩:=hrel
  cases gk with
  | zero=>
   obtain rfl:i=s.size:=by omega
   have hnx:=fun ty=>Lib.run_next_end_at (P:=Tryz.prog) wr w.heap.size s s.size ty HH.out (by omega)
   go_wp2_with fail
   go_ret
   exact⟨ret_int (by rw[Lib.indexAny_none (by rw[bl_length];exact HN.out)]),HB.out⟩
  | succ g=>
   have hi:i<s.size:=by omega
   have hxl:=bl_get? s i hi
   by_cases ha:(s[i]'hi).toNat<128
   ·have hnx:=fun ty=>Lib.run_next_ascii_at (P:=Tryz.prog) wr w.heap.size s i ty HH.out hi ha
    obtain⟨x,hx⟩:∃ x:UInt8,s[i]'hi=x:=⟨_,rfl⟩
    rw[hx] at hnx ha hxl
    have HX:=hid hxl
    clear hxl hx
    have hback:((x.toNat:Int)).toNat.toUInt8=x:=by simp
    have HB2:Hid (Below w.heap.size w (wr.iterAt w.heap.size s (i+1))):=Lib.below_iterAt HB.out lr _ _
    have HH2:Hid ((wr.iterAt w.heap.size s (i+1)).heap[w.heap.size]?=some (.stringIter s (i+1))):=Lib.iterAt_heap _ _ _ _ _ HH.out
    cases hin:(bl sgs).contains x with
    | false=>
     have hlt:=ixB_neg sgs x hin
     unfold ixB bl at hlt
     have HI:=hid hin;clear hin
     go_wp2_with (go_at_call 237;refine(Tryz.strings_IndexRune_ascii _ _ _ (by omega) (by omega)).mono ?_;rintro e w' ⟨rfl,hw⟩;rw[hw,hback])
     go_roundg g
     case measure=>omega
     case rel=>exact⟨i+1,by omega,HH2,HB2,HN.out.succ HX.out HI.out⟩
    | true=>
     have hge:=ixB_pos sgs x hin
     unfold ixB bl at hge
     have HI:=hid hin;clear hin
     go_wp2_with (go_at_call 237;refine(Tryz.strings_IndexRune_ascii _ _ _ (by omega) (by omega)).mono ?_;rintro e w' ⟨rfl,hw⟩;rw[hw,hback])
     go_ret
     exact⟨ret_int (Lib.indexAny_hit HN.out HX.out HI.out).symm,HB2.out⟩
   ·obtain⟨⟨d1,d2⟩,⟨d3,d4⟩,d5⟩:=decode_far s i hi ha
    have hnx:=fun ty=>Lib.run_next_any_at (P:=Tryz.prog) wr w.heap.size s i ty HH.out hi
    have HD:=hid d5
    clear d5 hxl
    generalize Utf8.decode s i=D at *
    obtain⟨r,n⟩:=D
    simp only at d1 d2 d3 d4 hnx
    have HB2:Hid (Below w.heap.size w (wr.iterAt w.heap.size s (i+n))):=Lib.below_iterAt HB.out lr _ _
    have HH2:Hid ((wr.iterAt w.heap.size s (i+n)).heap[w.heap.size]?=some (.stringIter s (i+n))):=Lib.iterAt_heap _ _ _ _ _ HH.out
    have HN2:Hid (Lib.NoAny (bl s) (bl sgs) (i+n)):=by
     intro j b hj hb
     by_cases hji:j<i
     ·exact HN.out j b hji hb
     ·have h1:=HD.out j b (by omega) hj hb
      cases hc:(bl sgs).contains b with
      | false=>rfl
      | true=>
       have hm:b∈bl sgs:=by simpa using hc
       obtain⟨k,hk⟩:=List.getElem?_of_mem hm
       have:=sgs_low k b hk
       omega
    clear HD
    go_wp2_with fail
    refine(IndexRune_far (r:Int) _ (by omega) (by omega)).mono ?_;rintro e w' ⟨rfl,hb⟩
    have HS:w.heap.size<(wr.iterAt w.heap.size s (i+n)).heap.size:=(Array.getElem?_eq_some_iff.1 HH2.out).1
    have HB3:Hid (Below w.heap.size w w'):=bthen' HB2.out hb HB2.out.size
    have HH3:Hid (w'.heap[w.heap.size]?=some (.stringIter s (i+n))):=(hb.block _ HS).trans HH2.out
    clear hb
    go_wp2_with fail
    go_roundg (g+1-n)
    case measure=>omega
    case rel=>exact⟨i+n,by omega,HH3,HB3,HN2⟩
theorem IndexAny_rel (s:ByteArray)(w:World)(hs:s.size≤4294967280):
  Calls Tryz.prog 187 #[.string s,.string sgs] w fun e w'=>e=.returned (.int .i64 (Lib.indexAny (bl s) (bl sgs)))∧Below w.heap.size w w':=by
 by_cases h8:s.size≤8
 ·exact IndexAny_short s w h8
 ·refine(Tryz.strings_IndexAny_long (by intro w;kernel_rfl) s sgs w (by decide) (by omega) (by omega) (by decide) (fun j b h=>sgs_low j b h)).mono ?_
  rintro e w' ⟨rfl,rfl⟩
  refine⟨rfl,?_⟩
  have h1:Below w.heap.size w (w.alloc (.cells (Lib.setCells sgs.data.toList) 232)):=(Below.refl _ _).alloc lr _
  exact h1.alloc (by simp) _
end
section
open Go.RowKit
theorem Blk.grown {wr w':World}{b c:Nat}{vs:List Value}(h:Blk wr c vs)(hg:wr.grownBy w' (some b))(hne:c≠b):Blk w' c vs:=by
 have hk:w'.heap[c]?=wr.heap[c]?:=hg.block c h.sz (by intro e;injection e with e;exact hne e)
 refine⟨Nat.lt_of_lt_of_le h.sz hg.size,fun j u hu=>?_,fun j hj=>?_⟩
 ·exact(World.cell?_of_block (a:=⟨c,j,none⟩) hk).trans (h.cell j u hu)
 ·exact(World.frozen?_of_block (a:=⟨c,j,none⟩) hk).trans (h.free j hj)
def fltV (f:ByteArray)(a c:Int):Value:=.agg #[.string f,.int .i64 a,.int .i64 c]
theorem adep_faultOf (x y p:Int)(w:World)(hG:GlE w):
  Calls Tryz.prog 133 #[.iface 222 (.agg #[.int .i64 x,.int .i64 y]),.int .i64 p] w fun e w'=>(∃ a:Int,e=.returned (fltV ⟨#[]⟩ a y))∧Below w.heap.size w w':=by
 have HG:=hid hG;clear hG
 go_enter Tryz.func133,Tryz.ntmps133
 go_wp2_with fail
 let W1:=w.alloc (.cells #[.string ⟨#[]⟩,.int .i64 0,.int .i64 0] 114)
 let W2:=W1.alloc (.cells #[.string ⟨#[]⟩,.int .i64 p,.int .i64 3] 114)
 let W3:=W2.alloc (.cells #[.int .i64 0,.int .i64 0] 222)
 have A3:Blk W3 w.heap.size [.string ⟨#[]⟩,.int .i64 0,.int .i64 0]:=((Blk.new w _ _).alloc _).alloc _
 have F3:Blk W3 (w.heap.size+1) [.string ⟨#[]⟩,.int .i64 p,.int .i64 3]:=by have:=(Blk.new W1 [.string ⟨#[]⟩,.int .i64 p,.int .i64 3] 114).alloc (.cells #[.int .i64 0,.int .i64 0] 222);simpa [W1] using this
 have T3:Blk W3 (w.heap.size+1+1) [.int .i64 0,.int .i64 0]:=by have:=Blk.new W2 [.int .i64 0,.int .i64 0] 222;simpa [W2,W1] using this
 have B3:Below w.heap.size w W3:=(((Below.refl _ _).alloc lr _).alloc (by simp) _).alloc (by simp;omega) _
 refine(as_wrong (w.heap.size+1+1) x y W3 (HG.out.below B3).2 T3).mono ?_;rintro e w1 ⟨rfl,t1,hg1⟩
 have KA:Hid (Blk w1 w.heap.size [.string ⟨#[]⟩,.int .i64 0,.int .i64 0]):=A3.grown hg1 (by omega)
 have KF:Hid (Blk w1 (w.heap.size+1) [.string ⟨#[]⟩,.int .i64 p,.int .i64 3]):=F3.grown hg1 (by omega)
 have KT:Hid (Blk w1 (w.heap.size+1+1) [.int .i64 x,.int .i64 y]):=t1
 have BB:Hid (Below w.heap.size w w1):=B3.grown hg1 B3.size (fun j hj=>by injection hj with hj;omega)
 clear t1 hg1 A3 F3 T3 B3
 clear W3 W2 W1
 have f1:=KF.out.cell 1 _ rfl
 have ff1:=KF.out.free 1 (by simp)
 have t0:=KT.out.cell 0 _ rfl
 go_wp2_with fail
 have hw1:=KA.out.sz
 have hw2:=KT.out.sz
 obtain⟨q,hq⟩:∃ q,wrap64 (p+x)=q:=⟨_,rfl⟩
 let V1:=(w1.setCell ⟨w.heap.size+1,1,none⟩ (.int .i64 (wrap64 (p+x)))).alloc (.cells #[.int .i64 0] 30)
 have A1:Blk V1 w.heap.size [.string ⟨#[]⟩,.int .i64 0,.int .i64 0]:=(KA.out.far (by omega) _).alloc _
 have F1:Blk V1 (w.heap.size+1) [.string ⟨#[]⟩,.int .i64 (wrap64 (p+x)),.int .i64 3]:=(KF.out.set 1 (by simp) _).alloc _
 have T1:Blk V1 w1.heap.size [.int .i64 0]:=by have:=Blk.new (w1.setCell ⟨w.heap.size+1,1,none⟩ (.int .i64 (wrap64 (p+x)))) [.int .i64 0] 30;simpa using this
 have B1:Below w.heap.size w V1:=(below_set BB.out (by omega) _).alloc (by simp;omega) _
 refine(as_errno w1.heap.size x y V1 (HG.out.below B1).2 T1).mono ?_;rintro e w2 ⟨rfl,t2,hg2⟩
 have LA:Hid (Blk w2 w.heap.size [.string ⟨#[]⟩,.int .i64 0,.int .i64 0]):=A1.grown hg2 (by omega)
 have LF:Hid (Blk w2 (w.heap.size+1) [.string ⟨#[]⟩,.int .i64 q,.int .i64 3]):=by rw[←hq];exact F1.grown hg2 (by omega)
 have LT:Hid (Blk w2 w1.heap.size [.int .i64 y]):=t2
 have CB:Hid (Below w.heap.size w w2):=B1.grown hg2 B1.size (fun j hj=>by injection hj with hj;omega)
 clear t2 hg2 A1 F1 T1 B1
 clear V1
 clear f1 ff1 t0
 have f0:=LF.out.cell 0 _ rfl
 have f1:=LF.out.cell 1 _ rfl
 have f2:=LF.out.cell 2 _ rfl
 have ff2:=LF.out.free 2 (by simp)
 have t0:=LT.out.cell 0 _ rfl
 have a0:=LA.out.cell 0 _ rfl
 have a1:=LA.out.cell 1 _ rfl
 have a2:=LA.out.cell 2 _ rfl
 have fa0:=LA.out.free 0 (by simp)
 have fa1:=LA.out.free 1 (by simp)
 have fa2:=LA.out.free 2 (by simp)
 go_wp2_with fail
 refine bodyPost_ret (v:=.agg #[.string ⟨#[]⟩,.int .i64 q,.int .i64 y]) (by simp[results,Tryz.results133,go_sem,a0,a1,a2]) rfl ⟨⟨q,rfl⟩,?_⟩
 exact below_set (below_set (below_set (below_set CB.out (Nat.le_succ _) _) lr _) lr _) lr _
end
section
open Go.RowKit
def FileM.val (f:FileM):Value:=.agg #[.string f.path,.int .i64 f.kind,.int .i64 f.mode,.string f.owner,.string f.group,.string f.link,.string f.sum,.bool f.conf]
def restB (fmt:Int)(f:FileM):Bool:=decide (0≤f.mode∧f.mode≤4095)&&ownB fmt f.owner&&ownB fmt f.group&&(if f.kind=3 then decide (f.mode=511)&&plainB (bl f.link)&&decide (f.link.size≤200) else decide (f.link.size=0))&&(if f.kind=1 then sgB fmt f.sum&&(!f.conf||decide (fmt≠3)) else decide (f.sum.size=0) && !f.conf)
def restE (fmt:Int)(f:FileM):Int:=if restB fmt f then 0 else 1
theorem model_restRight (fmt:Int)(hfmt:fmt=1∨fmt=2∨fmt=3)(f:FileM)(w:World)(ho:f.owner.size≤9223372036854775807)(hg:f.group.size≤9223372036854775807)(hl:f.link.size≤9223372036854775807)(hsm:f.sum.size≤9223372036854775807):
  Calls Tryz.prog 66 #[.int .i64 fmt,f.val] w fun e w'=>e=.returned (.bool (restB fmt f))∧Below w.heap.size w w':=by
 have HW:Hid (Below w.heap.size w (w.alloc (.cells #[.string f.path,.int .i64 f.kind,.int .i64 f.mode,.string f.owner,.string f.group,.string f.link,.string f.sum,.bool f.conf] 46))):=(Below.refl _ _).alloc lr _
 unfold FileM.val
 by_cases hm0:f.mode<0
 ·skip
  have E:Hid (restB fmt f=false):=by show _=_;unfold restB;rw[dF];rfl
  go_enter Tryz.func66,Tryz.ntmps66
  go_wp2_with fail
  go_ret
  exact⟨ret_bool (by rw[E.out]),HW.out⟩
 by_cases hm1:4095<f.mode
 ·skip
  have E:Hid (restB fmt f=false):=by show _=_;unfold restB;rw[dF];rfl
  go_enter Tryz.func66,Tryz.ntmps66
  go_wp2_with fail
  go_ret
  exact⟨ret_bool (by rw[E.out]),HW.out⟩
 have RM:Hid (decide (0≤f.mode∧f.mode≤4095)=true):=decide_eq_true (by omega)
 go_enter Tryz.func66,Tryz.ntmps66
 go_wp2_with fail
 refine(model_ownerRight fmt f.owner _ ho).mono ?_;rintro e w' ⟨rfl,rfl⟩
 cases g1:ownB fmt f.owner
 ·skip
  have E:Hid (restB fmt f=false):=by show _=_;unfold restB;rw[g1];simp
  clear g1
  go_wp2_with fail
  go_ret
  exact⟨ret_bool (by rw[E.out]),HW.out⟩
 have G1:=hid g1;clear g1
 go_wp2_with fail
 refine(model_ownerRight fmt f.group _ hg).mono ?_;rintro e w' ⟨rfl,rfl⟩
 cases g2:ownB fmt f.group
 ·skip
  have E:Hid (restB fmt f=false):=by show _=_;unfold restB;rw[g2];simp
  clear g2
  go_wp2_with fail
  go_ret
  exact⟨ret_bool (by rw[E.out]),HW.out⟩
 have G2:=hid g2;clear g2
 have HWX:=HW.out
 by_cases k3:f.kind=3
 ·have k3':(f.kind==3)=true:=by simpa using k3
  have k1':(f.kind==1)=false:=by simp;omega
  by_cases m5:f.mode=511
  ·have m5':(f.mode != 511)=false:=by simpa [bne] using m5
   have M5:Hid (decide (f.mode=511)=true):=decide_eq_true m5
   have K3:=hid k3;clear k3 m5
   go_wp2_with fail
   refine(model_Plain f.link _ hl).mono ?_;rintro e w' ⟨rfl,rfl⟩
   cases g3:plainB (bl f.link)
   ·skip
    have E:Hid (restB fmt f=false):=by show _=_;unfold restB;rw[if_pos K3.out,g3];simp
    clear g3
    go_wp2_with fail
    go_ret
    exact⟨ret_bool (by rw[E.out]),HWX⟩
   have G3:=hid g3;clear g3
   by_cases l2:200<f.link.size
   ·skip
    have E:Hid (restB fmt f=false):=by show _=_;unfold restB;rw[if_pos K3.out,decide_eq_false (show ¬ f.link.size≤200 by omega)];simp
    go_wp2_with fail
    go_ret
    exact⟨ret_bool (by rw[E.out]),HWX⟩
   have L2:Hid (decide (f.link.size≤200)=true):=decide_eq_true (by omega)
   have RL:Hid ((if f.kind=3 then decide (f.mode=511)&&plainB (bl f.link)&&decide (f.link.size≤200) else decide (f.link.size=0))=true):=by show _=_;rw[if_pos K3.out,M5.out,G3.out,L2.out];rfl
   have KN:HidN (f.kind=1):=⟨by have:=K3.out;omega⟩
   by_cases s0:f.sum.size=0
   ·have se:f.sum.toList=[]:=by rw[bl_toList,bl_nil _ s0]
    have se2:f.sum.toList.isEmpty=true:=by rw[se];rfl
    cases hcf:f.conf
    ·skip
     have E:Hid (restB fmt f=true):=by show _=_;unfold restB;rw[RM.out,G1.out,G2.out,RL.out,if_neg KN.out,decide_eq_true s0,hcf];rfl
     simp only[hcf] at *
     go_wp2_with fail
     go_ret
     exact⟨ret_bool (by rw[E.out]),HWX⟩
    ·skip
     have E:Hid (restB fmt f=false):=by show _=_;unfold restB;rw[if_neg KN.out,hcf];simp
     simp only[hcf] at *
     go_wp2_with fail
     go_ret
     exact⟨ret_bool (by rw[E.out]),HWX⟩
   ·have se2:f.sum.toList.isEmpty=false:=by rw[bl_toList,bl_isEmpty];exact decide_eq_false s0
    have se:¬ f.sum.toList=[]:=by intro h;rw[h] at se2;simp at se2
    have E:Hid (restB fmt f=false):=by show _=_;unfold restB;rw[if_neg KN.out,decide_eq_false s0];simp
    clear s0
    go_wp2_with fail
    go_ret
    exact⟨ret_bool (by rw[E.out]),HWX⟩
  ·have m5':(f.mode != 511)=true:=by simpa [bne] using m5
   have E:Hid (restB fmt f=false):=by show _=_;unfold restB;rw[if_pos k3,decide_eq_false m5];simp
   clear k3 m5
   go_wp2_with fail
   go_ret
   exact⟨ret_bool (by rw[E.out]),HWX⟩
 ·have k3':(f.kind==3)=false:=by simpa using k3
  by_cases l0:f.link.size=0
  ·have le:f.link.toList=[]:=by rw[bl_toList,bl_nil _ l0]
   have le2:f.link.toList.isEmpty=true:=by rw[le];rfl
   have RL:Hid ((if f.kind=3 then decide (f.mode=511)&&plainB (bl f.link)&&decide (f.link.size≤200) else decide (f.link.size=0))=true):=by show _=_;rw[if_neg k3,decide_eq_true l0]
   by_cases k1:f.kind=1
   ·have k1':(f.kind==1)=true:=by simpa using k1
    have K1:=hid k1;clear k1 k3 l0
    go_wp2_with fail
    refine(model_sumRight fmt hfmt f.sum _ hsm).mono ?_;rintro e w3 ⟨rfl,hb3⟩
    have X3:Hid (Bx w w3 f.cells):=(Bx.start w f.cells _).step hb3
    have x7:=X3.out.cell 7 _ rfl
    clear hb3
    have HWZ:=X3.out.bel
    cases g4:sgB fmt f.sum
    ·skip
     have E:Hid (restB fmt f=false):=by show _=_;unfold restB;rw[if_pos K1.out,g4];simp
     clear g4
     go_wp2_with fail
     go_ret
     exact⟨ret_bool (by rw[E.out]),HWZ⟩
    have G4:=hid g4;clear g4
    cases hcf:f.conf
    ·skip
     have E:Hid (restB fmt f=true):=by show _=_;unfold restB;rw[RM.out,G1.out,G2.out,RL.out,if_pos K1.out,G4.out,hcf];rfl
     simp only[hcf] at *
     go_wp2_with fail
     go_ret
     exact⟨ret_bool (by rw[E.out]),HWZ⟩
    by_cases f3:fmt=3
    ·have f3':(fmt==3)=true:=by simpa using f3
     have f3n:(fmt != 3)=false:=by simpa [bne] using f3
     have E:Hid (restB fmt f=false):=by show _=_;unfold restB;rw[if_pos K1.out,hcf,decide_eq_false (show ¬ fmt≠3 from fun h=>h f3)];simp
     clear f3
     simp only[hcf] at *
     go_wp2_with fail
     go_ret
     exact⟨ret_bool (by rw[E.out]),HWZ⟩
    ·have f3':(fmt==3)=false:=by simpa using f3
     have f3n:(fmt != 3)=true:=by simpa [bne] using f3
     have E:Hid (restB fmt f=true):=by show _=_;unfold restB;rw[RM.out,G1.out,G2.out,RL.out,if_pos K1.out,G4.out,hcf,decide_eq_true (show fmt≠3 from f3)];rfl
     clear f3
     simp only[hcf] at *
     go_wp2_with fail
     go_ret
     exact⟨ret_bool (by rw[E.out]),HWZ⟩
   ·have k1':(f.kind==1)=false:=by simpa using k1
    have KN:HidN (f.kind=1):=⟨k1⟩
    clear k1 k3 l0
    by_cases s0:f.sum.size=0
    ·have se:f.sum.toList=[]:=by rw[bl_toList,bl_nil _ s0]
     have se2:f.sum.toList.isEmpty=true:=by rw[se];rfl
     cases hcf:f.conf
     ·skip
      have E:Hid (restB fmt f=true):=by show _=_;unfold restB;rw[RM.out,G1.out,G2.out,RL.out,if_neg KN.out,decide_eq_true s0,hcf];rfl
      simp only[hcf] at *
      go_wp2_with fail
      go_ret
      exact⟨ret_bool (by rw[E.out]),HWX⟩
     ·skip
      have E:Hid (restB fmt f=false):=by show _=_;unfold restB;rw[if_neg KN.out,hcf];simp
      simp only[hcf] at *
      go_wp2_with fail
      go_ret
      exact⟨ret_bool (by rw[E.out]),HWX⟩
    ·have se2:f.sum.toList.isEmpty=false:=by rw[bl_toList,bl_isEmpty];exact decide_eq_false s0
     have se:¬ f.sum.toList=[]:=by intro h;rw[h] at se2;simp at se2
     have E:Hid (restB fmt f=false):=by show _=_;unfold restB;rw[if_neg KN.out,decide_eq_false s0];simp
     clear s0
     go_wp2_with fail
     go_ret
     exact⟨ret_bool (by rw[E.out]),HWX⟩
  ·have le2:f.link.toList.isEmpty=false:=by rw[bl_toList,bl_isEmpty];exact decide_eq_false l0
   have le:¬ f.link.toList=[]:=by intro h;rw[h] at le2;simp at le2
   have E:Hid (restB fmt f=false):=by show _=_;unfold restB;rw[if_neg k3,decide_eq_false l0];simp
   clear k3 l0
   go_wp2_with fail
   go_ret
   exact⟨ret_bool (by rw[E.out]),HWX⟩
end
section
open Go.RowKit
theorem ref_file1 (fmt:Int)(hfmt:fmt=1∨fmt=2∨fmt=3)(f:FileM)(w:World)(hk1:¬ f.kind<1)(hk2:¬ 3<f.kind)(ho:f.owner.size≤9223372036854775807)(hg:f.group.size≤9223372036854775807)(hl:f.link.size≤9223372036854775807)(hsm:f.sum.size≤9223372036854775807):
  Calls Tryz.prog 75 #[.int .i64 fmt,f.val] w fun e w'=>e=.returned (.int .i64 (restE fmt f))∧Below w.heap.size w w':=by
 have HW:Hid (Below w.heap.size w (w.alloc (.cells #[.string f.path,.int .i64 f.kind,.int .i64 f.mode,.string f.owner,.string f.group,.string f.link,.string f.sum,.bool f.conf] 46))):=(Below.refl _ _).alloc lr _
 unfold FileM.val
 by_cases hm0:f.mode<0
 ·skip
  have E:Hid (restE fmt f=1):=by show _=_;unfold restE;rw[show restB fmt f=false by unfold restB;rw[dF];rfl];rfl
  go_enter Tryz.func75,Tryz.ntmps75
  go_wp2_with fail
  go_ret
  exact⟨ret_int (by rw[E.out]),HW.out⟩
 by_cases hm1:4095<f.mode
 ·skip
  have E:Hid (restE fmt f=1):=by show _=_;unfold restE;rw[show restB fmt f=false by unfold restB;rw[dF];rfl];rfl
  go_enter Tryz.func75,Tryz.ntmps75
  go_wp2_with fail
  go_ret
  exact⟨ret_int (by rw[E.out]),HW.out⟩
 have RM:Hid (decide (0≤f.mode∧f.mode≤4095)=true):=decide_eq_true (by omega)
 go_enter Tryz.func75,Tryz.ntmps75
 go_wp2_with fail
 refine(ref_Owner fmt f.owner _ ho).mono ?_;rintro e w1 ⟨rfl,hb1⟩
 have X1:Hid (Bx w w1 f.cells):=(Bx.start w f.cells _).step hb1
 clear hb1
 cases g1:ownB fmt f.owner
 ·skip
  have E:Hid (restE fmt f=1):=by show _=_;unfold restE;rw[show restB fmt f=false by unfold restB;rw[g1];simp];rfl
  have x1c0:=X1.out.cell 0 _ rfl
  have x1c1:=X1.out.cell 1 _ rfl
  have x1c2:=X1.out.cell 2 _ rfl
  have x1c3:=X1.out.cell 3 _ rfl
  have x1c4:=X1.out.cell 4 _ rfl
  have x1c5:=X1.out.cell 5 _ rfl
  have x1c6:=X1.out.cell 6 _ rfl
  have x1c7:=X1.out.cell 7 _ rfl
  clear g1
  go_wp2_with fail
  go_ret
  exact⟨ret_int (by rw[E.out]),X1.out.bel⟩
 have G1:=hid g1;clear g1
 have x1c0:=X1.out.cell 0 _ rfl
 have x1c1:=X1.out.cell 1 _ rfl
 have x1c2:=X1.out.cell 2 _ rfl
 have x1c3:=X1.out.cell 3 _ rfl
 have x1c4:=X1.out.cell 4 _ rfl
 have x1c5:=X1.out.cell 5 _ rfl
 have x1c6:=X1.out.cell 6 _ rfl
 have x1c7:=X1.out.cell 7 _ rfl
 go_wp2_with fail
 refine(ref_Owner fmt f.group _ hg).mono ?_;rintro e w2 ⟨rfl,hb2⟩
 have X2:Hid (Bx w w2 f.cells):=X1.out.step hb2
 clear hb2 x1c0 x1c1 x1c2 x1c3 x1c4 x1c5 x1c6 x1c7
 cases g2:ownB fmt f.group
 ·skip
  have E:Hid (restE fmt f=1):=by show _=_;unfold restE;rw[show restB fmt f=false by unfold restB;rw[g2];simp];rfl
  have x2c0:=X2.out.cell 0 _ rfl
  have x2c1:=X2.out.cell 1 _ rfl
  have x2c2:=X2.out.cell 2 _ rfl
  have x2c3:=X2.out.cell 3 _ rfl
  have x2c4:=X2.out.cell 4 _ rfl
  have x2c5:=X2.out.cell 5 _ rfl
  have x2c6:=X2.out.cell 6 _ rfl
  have x2c7:=X2.out.cell 7 _ rfl
  clear g2
  go_wp2_with fail
  go_ret
  exact⟨ret_int (by rw[E.out]),X2.out.bel⟩
 have G2:=hid g2;clear g2
 have x2c0:=X2.out.cell 0 _ rfl
 have x2c1:=X2.out.cell 1 _ rfl
 have x2c2:=X2.out.cell 2 _ rfl
 have x2c3:=X2.out.cell 3 _ rfl
 have x2c4:=X2.out.cell 4 _ rfl
 have x2c5:=X2.out.cell 5 _ rfl
 have x2c6:=X2.out.cell 6 _ rfl
 have x2c7:=X2.out.cell 7 _ rfl
 have HWX:=X2.out.bel
 by_cases k3:f.kind=3
 ·have k3':(f.kind==3)=true:=by simpa using k3
  have k1':(f.kind==1)=false:=by simp;omega
  by_cases m5:f.mode=511
  ·have m5':(f.mode != 511)=false:=by simpa [bne] using m5
   have M5:Hid (decide (f.mode=511)=true):=decide_eq_true m5
   have K3:=hid k3;clear k3 m5
   go_wp2_with fail
   refine(ref_Plain f.link _ hl).mono ?_;rintro e w' ⟨rfl,rfl⟩
   cases g3:plainB (bl f.link)
   ·skip
    have E:Hid (restE fmt f=1):=by show _=_;unfold restE;rw[show restB fmt f=false by unfold restB;rw[if_pos K3.out,g3];simp];rfl
    clear g3
    go_wp2_with fail
    go_ret
    exact⟨ret_int (by rw[E.out]),HWX⟩
   have G3:=hid g3;clear g3
   by_cases l2:200<f.link.size
   ·skip
    have E:Hid (restE fmt f=1):=by show _=_;unfold restE;rw[show restB fmt f=false by unfold restB;rw[if_pos K3.out,decide_eq_false (show ¬ f.link.size≤200 by omega)];simp];rfl
    go_wp2_with fail
    go_ret
    exact⟨ret_int (by rw[E.out]),HWX⟩
   have L2:Hid (decide (f.link.size≤200)=true):=decide_eq_true (by omega)
   have RL:Hid ((if f.kind=3 then decide (f.mode=511)&&plainB (bl f.link)&&decide (f.link.size≤200) else decide (f.link.size=0))=true):=by show _=_;rw[if_pos K3.out,M5.out,G3.out,L2.out];rfl
   have KN:HidN (f.kind=1):=⟨by have:=K3.out;omega⟩
   by_cases s0:f.sum.size=0
   ·have se:f.sum.toList=[]:=by rw[bl_toList,bl_nil _ s0]
    have se2:f.sum.toList.isEmpty=true:=by rw[se];rfl
    cases hcf:f.conf
    ·skip
     have E:Hid (restE fmt f=0):=by show _=_;unfold restE;rw[show restB fmt f=true by unfold restB;rw[RM.out,G1.out,G2.out,RL.out,if_neg KN.out,decide_eq_true s0,hcf];rfl];rfl
     simp only[hcf] at *
     go_wp2_with fail
     go_ret
     exact⟨ret_int (by rw[E.out]),HWX⟩
    ·skip
     have E:Hid (restE fmt f=1):=by show _=_;unfold restE;rw[show restB fmt f=false by unfold restB;rw[if_neg KN.out,hcf];simp];rfl
     simp only[hcf] at *
     go_wp2_with fail
     go_ret
     exact⟨ret_int (by rw[E.out]),HWX⟩
   ·have se2:f.sum.toList.isEmpty=false:=by rw[bl_toList,bl_isEmpty];exact decide_eq_false s0
    have se:¬ f.sum.toList=[]:=by intro h;rw[h] at se2;simp at se2
    have E:Hid (restE fmt f=1):=by show _=_;unfold restE;rw[show restB fmt f=false by unfold restB;rw[if_neg KN.out,decide_eq_false s0];simp];rfl
    clear s0
    go_wp2_with fail
    go_ret
    exact⟨ret_int (by rw[E.out]),HWX⟩
  ·have m5':(f.mode != 511)=true:=by simpa [bne] using m5
   have E:Hid (restE fmt f=1):=by show _=_;unfold restE;rw[show restB fmt f=false by unfold restB;rw[if_pos k3,decide_eq_false m5];simp];rfl
   clear k3 m5
   go_wp2_with fail
   go_ret
   exact⟨ret_int (by rw[E.out]),HWX⟩
 ·have k3':(f.kind==3)=false:=by simpa using k3
  by_cases l0:f.link.size=0
  ·have le:f.link.toList=[]:=by rw[bl_toList,bl_nil _ l0]
   have le2:f.link.toList.isEmpty=true:=by rw[le];rfl
   have RL:Hid ((if f.kind=3 then decide (f.mode=511)&&plainB (bl f.link)&&decide (f.link.size≤200) else decide (f.link.size=0))=true):=by show _=_;rw[if_neg k3,decide_eq_true l0]
   by_cases k1:f.kind=1
   ·have k1':(f.kind==1)=true:=by simpa using k1
    have K1:=hid k1;clear k1 k3 l0
    go_wp2_with fail
    refine(ref_Sum fmt hfmt f.sum _ hsm).mono ?_;rintro e w3 ⟨rfl,hb3⟩
    have X3:Hid (Bx w w3 f.cells):=X2.out.step hb3
    have x7:=X3.out.cell 7 _ rfl
    clear hb3
    have HWZ:=X3.out.bel
    cases g4:sgB fmt f.sum
    ·skip
     have E:Hid (restE fmt f=1):=by show _=_;unfold restE;rw[show restB fmt f=false by unfold restB;rw[if_pos K1.out,g4];simp];rfl
     clear g4
     go_wp2_with fail
     go_ret
     exact⟨ret_int (by rw[E.out]),HWZ⟩
    have G4:=hid g4;clear g4
    cases hcf:f.conf
    ·skip
     have E:Hid (restE fmt f=0):=by show _=_;unfold restE;rw[show restB fmt f=true by unfold restB;rw[RM.out,G1.out,G2.out,RL.out,if_pos K1.out,G4.out,hcf];rfl];rfl
     simp only[hcf] at *
     go_wp2_with fail
     go_ret
     exact⟨ret_int (by rw[E.out]),HWZ⟩
    by_cases f3:fmt=3
    ·have f3':(fmt==3)=true:=by simpa using f3
     have f3n:(fmt != 3)=false:=by simpa [bne] using f3
     have E:Hid (restE fmt f=1):=by show _=_;unfold restE;rw[show restB fmt f=false by unfold restB;rw[if_pos K1.out,hcf,decide_eq_false (show ¬ fmt≠3 from fun h=>h f3)];simp];rfl
     clear f3
     simp only[hcf] at *
     go_wp2_with fail
     go_ret
     exact⟨ret_int (by rw[E.out]),HWZ⟩
    ·have f3':(fmt==3)=false:=by simpa using f3
     have f3n:(fmt != 3)=true:=by simpa [bne] using f3
     have E:Hid (restE fmt f=0):=by show _=_;unfold restE;rw[show restB fmt f=true by unfold restB;rw[RM.out,G1.out,G2.out,RL.out,if_pos K1.out,G4.out,hcf,decide_eq_true (show fmt≠3 from f3)];rfl];rfl
     clear f3
     simp only[hcf] at *
     go_wp2_with fail
     go_ret
     exact⟨ret_int (by rw[E.out]),HWZ⟩
   ·have k1':(f.kind==1)=false:=by simpa using k1
    have KN:HidN (f.kind=1):=⟨k1⟩
    clear k1 k3 l0
    by_cases s0:f.sum.size=0
    ·have se:f.sum.toList=[]:=by rw[bl_toList,bl_nil _ s0]
     have se2:f.sum.toList.isEmpty=true:=by rw[se];rfl
     cases hcf:f.conf
     ·skip
      have E:Hid (restE fmt f=0):=by show _=_;unfold restE;rw[show restB fmt f=true by unfold restB;rw[RM.out,G1.out,G2.out,RL.out,if_neg KN.out,decide_eq_true s0,hcf];rfl];rfl
      simp only[hcf] at *
      go_wp2_with fail
      go_ret
      exact⟨ret_int (by rw[E.out]),HWX⟩
     ·skip
      have E:Hid (restE fmt f=1):=by show _=_;unfold restE;rw[show restB fmt f=false by unfold restB;rw[if_neg KN.out,hcf];simp];rfl
      simp only[hcf] at *
      go_wp2_with fail
      go_ret
      exact⟨ret_int (by rw[E.out]),HWX⟩
    ·have se2:f.sum.toList.isEmpty=false:=by rw[bl_toList,bl_isEmpty];exact decide_eq_false s0
     have se:¬ f.sum.toList=[]:=by intro h;rw[h] at se2;simp at se2
     have E:Hid (restE fmt f=1):=by show _=_;unfold restE;rw[show restB fmt f=false by unfold restB;rw[if_neg KN.out,decide_eq_false s0];simp];rfl
     clear s0
     go_wp2_with fail
     go_ret
     exact⟨ret_int (by rw[E.out]),HWX⟩
  ·have le2:f.link.toList.isEmpty=false:=by rw[bl_toList,bl_isEmpty];exact decide_eq_false l0
   have le:¬ f.link.toList=[]:=by intro h;rw[h] at le2;simp at le2
   have E:Hid (restE fmt f=1):=by show _=_;unfold restE;rw[show restB fmt f=false by unfold restB;rw[if_neg k3,decide_eq_false l0];simp];rfl
   clear k3 l0
   go_wp2_with fail
   go_ret
   exact⟨ret_int (by rw[E.out]),HWX⟩
end
section
open Go.RowKit Go.Maps
def orderB (prev:Option FileM)(f:FileM):Bool:=match prev with
 | none=>true
 | some g=>decide (bl g.path<bl f.path)
def parBad (pre:List FileM)(f:FileM):Bool:=parB f.path&&pre.any (fun g=>decide (g.path=parS f.path)&&decide (g.kind≠2))
def fErr (fmt:Int)(pre:List FileM)(f:FileM):Int:=
 if (pathB (bl f.path)&&plainB (bl f.path))=false then 10 else if orderB pre.getLast? f=false then 15 else if ¬ (f.kind=1∨f.kind=2∨f.kind=3) then 9
 else if restB fmt f=false then 1 else if parBad pre f=true then 9 else 0
def filesE (fmt:Int):List FileM→List FileM→Option (ByteArray×Int)
 | _,[]=>none
 | pre,f::r=>if fErr fmt pre f=0 then filesE fmt (pre++[f]) r else some (f.path,fErr fmt pre f)
theorem filesE_next {fmt:Int}{fs:List FileM}{k:Nat}{f:FileM}(h:fs[k]?=some f)(h0:filesE fmt [] fs=filesE fmt (fs.take k) (fs.drop k))(he:fErr fmt (fs.take k) f=0):filesE fmt [] fs=filesE fmt (fs.take (k+1)) (fs.drop (k+1)):=by
 obtain⟨hk,hf⟩:=List.getElem?_eq_some_iff.1 h
 rw[h0,List.drop_eq_getElem_cons hk,hf,filesE,if_pos he,List.take_succ_eq_append_getElem hk,hf]
theorem filesE_bad {fmt:Int}{fs:List FileM}{k:Nat}{f:FileM}(h:fs[k]?=some f)(h0:filesE fmt [] fs=filesE fmt (fs.take k) (fs.drop k))(he:fErr fmt (fs.take k) f≠0):filesE fmt [] fs=some (f.path,fErr fmt (fs.take k) f):=by
 obtain⟨hk,hf⟩:=List.getElem?_eq_some_iff.1 h
 rw[h0,List.drop_eq_getElem_cons hk,hf,filesE,if_neg he]
theorem filesE_end {fmt:Int}{fs:List FileM}{k:Nat}(hk:fs.length≤k)(h0:filesE fmt [] fs=filesE fmt (fs.take k) (fs.drop k)):filesE fmt [] fs=none:=by
 rw[h0,List.drop_of_length_le hk];rfl
def filesAns (fmt:Int)(fs:List FileM):ByteArray×Int:=if 512<fs.length then (⟨#[102,105,108,101,115]⟩,4) else (filesE fmt [] fs).getD (⟨#[]⟩,0)
def filesV (fmt:Int)(fs:List FileM):Value:=.tuple #[.string (filesAns fmt fs).1,.int .i64 (filesAns fmt fs).2]
structure KInv (pre:List FileM) (g:ByteArray→Option Value):Prop where
 sorted:(fpaths pre).Pairwise (fun s t=>bl s<bl t)
 kind:∀ x∈pre,g x.path=some (.int .i64 x.kind)
 mem:∀ s,g s≠none→s∈fpaths pre
theorem KInv.nil:KInv [] (fun _=>none):=⟨by simp[fpaths],by simp,by simp⟩
theorem KInv.less {pre:List FileM}{g:ByteArray→Option Value}(h:KInv pre g){f:FileM}(ho:orderB pre.getLast? f=true):∀ x∈pre,bl x.path<bl f.path:=by
 intro x hx
 cases hl:pre.getLast? with
 | none=>rw[List.getLast?_eq_none_iff] at hl;subst hl;simp at hx
 | some y=>
  rw[hl] at ho
  have hyf:bl y.path<bl f.path:=of_decide_eq_true ho
  obtain⟨ys,rfl⟩:=List.getLast?_eq_some_iff.1 hl
  rcases List.mem_append.1 hx with hx | hx
  ·have hs:=h.sorted
   rw[show fpaths (ys++[y])=fpaths ys++[y.path] by simp[fpaths],List.pairwise_append] at hs
   exact lt_tr (hs.2.2 x.path (List.mem_map.2 ⟨x,hx,rfl⟩) y.path (by simp)) hyf
  ·rw[List.mem_singleton.1 hx];exact hyf
theorem KInv.put {pre:List FileM}{g:ByteArray→Option Value}(h:KInv pre g){f:FileM}(ho:orderB pre.getLast? f=true):KInv (pre++[f]) (fun x=>if x=f.path then some (.int .i64 f.kind) else g x):=by
 have hl:=h.less ho
 refine⟨?_,fun x hx=>?_,fun s hs=>?_⟩
 ·rw[show fpaths (pre++[f])=fpaths pre++[f.path] by simp[fpaths],List.pairwise_append]
  refine⟨h.sorted,by simp,fun a ha b hb=>?_⟩
  obtain⟨x,hx,rfl⟩:=List.mem_map.1 ha
  rw[List.mem_singleton.1 hb];exact hl x hx
 ·rcases List.mem_append.1 hx with hx | hx
  ·have hne:x.path≠f.path:=fun e=>by have:=hl x hx;rw[e] at this;exact lt_irr _ this
   simp only[if_neg hne];exact h.kind x hx
  ·rw[List.mem_singleton.1 hx];simp
 ·by_cases e:s=f.path
  ·subst e;simp[fpaths]
  ·simp only[if_neg e] at hs
   have:=h.mem s hs
   simp only[fpaths,List.map_append,List.mem_append] at this ⊢
   exact .inl this
theorem KInv.par {pre:List FileM}{g:ByteArray→Option Value}(h:KInv pre g)(f:FileM)(hp:parB f.path=true):
  (g (parS f.path)=none∧parBad pre f=false)∨∃ k:Int,g (parS f.path)=some (.int .i64 k)∧parBad pre f=decide (k≠2):=by
 unfold parBad
 rw[hp]
 cases hg:g (parS f.path) with
 | none=>
  refine .inl ⟨rfl,?_⟩
  rw[Bool.true_and,List.any_eq_false]
  intro x hx hc
  rw[Bool.and_eq_true] at hc
  have he:=of_decide_eq_true hc.1
  have:=h.kind x hx
  rw[he,hg] at this;cases this
 | some v=>
  obtain⟨x,hx,he⟩:=List.mem_map.1 (h.mem (parS f.path) (by rw[hg];simp))
  have hk:=h.kind x hx
  have he:x.path=parS f.path:=he
  rw[he,hg] at hk
  injection hk with hk
  subst hk
  refine .inr ⟨x.kind,rfl,?_⟩
  rw[Bool.true_and,Bool.eq_iff_iff,List.any_eq_true,decide_eq_true_iff]
  constructor
  ·rintro⟨y,hy,hc⟩
   rw[Bool.and_eq_true] at hc
   have hye:=of_decide_eq_true hc.1
   have hyk:=of_decide_eq_true hc.2
   have h1:=h.kind y hy
   have h2:=h.kind x hx
   rw[hye] at h1
   rw[he,h1] at h2
   injection h2 with h2
   injection h2 with _ h2
   rw[←h2];exact hyk
  ·intro hk
   exact⟨x,hx,by rw[decide_eq_true he,decide_eq_true hk];rfl⟩
theorem parS_le (s:ByteArray):(parS s).size≤s.size:=by
 have h:(bl (parS s)).length≤(bl s).length:=by
  unfold parS;rw[bl_mk]
  unfold parentL
  split
  ·cases lastL 47 (bl s) with
   | none=>simp
   | some i=>simp only[Option.map_some,Option.getD_some];rw[List.length_take];omega
  ·simp
 rw[bl_length,bl_length] at h;exact h
theorem zeroInt (w:World):(zeroValue 3).run Tryz.prog w=.ok (.int .i64 0) w:=by kernel_rfl
theorem model_parentRight (f:FileM)(pre:List FileM)(g:ByteArray→Option Value)(mb B n:Nat)(w:World)(hG:Gl w)(hc:w.cell? ⟨mb,0,none⟩=some (.map (some B)))(hlt:mb<w.heap.size)(hM:MapIs w B n g)(hK:KInv pre g)(hs:f.path.size≤4294967280):
  Calls Tryz.prog 63 #[.string f.path,.pointer (some ⟨mb,0,none⟩)] w fun e w'=>e=.returned (.bool (!parBad pre f))∧Below w.heap.size w w':=by
 have HG:=hid hG;have HM:=hid hM;have HK:=hid hK;have HC:=hid hc
 clear hG hM hK hc
 go_enter Tryz.func63,Tryz.ntmps63
 go_wp2_with fail
 refine(entry_Parent f.path _ HG.out hs).mono ?_;rintro e w1 ⟨rfl,hb⟩
 have HB:=hid hb
 have hc1:w1.cell? ⟨mb,0,none⟩=some (.map (some B)):=(hb.cell (p:=⟨mb,0,none⟩) hlt).trans HC.out
 have hpl:=parS_le f.path
 have hlk:=(HM.out.below hb).look_ok Tryz.underlying88 zeroInt (parS f.path) (by unfold maxLen;omega)
 clear hb
 unfold parV
 cases hp:parB f.path
 ·have E:Hid (parBad pre f=false):=by show _=_;unfold parBad;rw[hp];rfl
  clear hp
  go_wp2_with fail
  go_ret
  exact⟨ret_bool (by rw[E.out];rfl),HB.out⟩
 ·rcases HK.out.par f hp with⟨h1,h2⟩ | ⟨k,h1,h2⟩
  ·rw[h1] at hlk
   simp only[Option.getD_none,Option.isSome_none] at hlk
   have E:=hid h2
   clear h1 h2 hp
   go_wp2_with fail
   go_ret
   exact⟨ret_bool (by rw[E.out];rfl),HB.out⟩
  ·rw[h1] at hlk
   simp only[Option.getD_some,Option.isSome_some] at hlk
   by_cases hk:k=2
   ·have hk1:(k==2)=true:=by simpa using hk
    have E:Hid (parBad pre f=false):=by show _=_;rw[h2];simp[hk]
    clear h1 h2 hp hk
    go_wp2_with fail
    go_ret
    exact⟨ret_bool (by rw[E.out];rfl),HB.out⟩
   ·have hk1:(k==2)=false:=by simpa using hk
    have E:Hid (parBad pre f=true):=by show _=_;rw[h2];simp[hk]
    clear h1 h2 hp hk
    go_wp2_with fail
    go_ret
    exact⟨ret_bool (by rw[E.out];rfl),HB.out⟩
end
section
open Go.RowKit Go.Maps
theorem filesV_bad {fmt:Int}{fs:List FileM}{p:ByteArray}{e:Int}(hl:¬ 512<fs.length)(h:filesE fmt [] fs=some (p,e)):filesV fmt fs=.tuple #[.string p,.int .i64 e]:=by
 unfold filesV filesAns;rw[if_neg hl,h];rfl
theorem filesV_ok {fmt:Int}{fs:List FileM}(hl:¬ 512<fs.length)(h:filesE fmt [] fs=none):filesV fmt fs=.tuple #[.string ⟨#[]⟩,.int .i64 0]:=by
 unfold filesV filesAns;rw[if_neg hl,h];rfl
theorem take_last {fs:List FileM}{k:Nat}{f:FileM}(h:fs[k]?=some f):(fs.take (k+1)).getLast?=some f:=by
 obtain⟨hk,hf⟩:=List.getElem?_eq_some_iff.1 h
 rw[List.take_succ_eq_append_getElem hk,hf];simp
theorem leq_bl (s t:ByteArray):(Op.bytesLess s.toList t.toList||s.toList==t.toList)=!decide (bl t<bl s):=by
 rw[bytesLess_dec,beq_bl,bl_toList,bl_toList]
 by_cases h:bl t<bl s
 ·rw[decide_eq_true h]
  have h1:¬ bl s<bl t:=fun h'=>lt_irr _ (lt_tr h h')
  have h2:s≠t:=fun e=>by rw[e] at h;exact lt_irr _ h
  simp[h1,h2]
 ·rw[decide_eq_false h]
  by_cases e:s=t
  ·simp[e]
  ·have:bl s<bl t:=lt_of_not h (fun h'=>e (bl_inj h').symm)
   simp[this]
structure KSt (w wr:World) (k:Nat) (pre:List FileM) (g:ByteArray→Option Value):Prop where
 map:MapIs wr w.heap.size k g
 inv:KInv pre g
 cell:wr.cell? ⟨w.heap.size+1,0,none⟩=some (.map (some w.heap.size))
 bel:Below w.heap.size w wr
 sz:w.heap.size+2≤wr.heap.size
theorem KSt.below {w wr w':World}{k:Nat}{pre:List FileM}{g:ByteArray→Option Value}(h:KSt w wr k pre g)(hb:Below wr.heap.size wr w'):KSt w w' k pre g:=
 ⟨h.map.below hb,h.inv,(hb.cell (p:=⟨w.heap.size+1,0,none⟩) (by have:=h.sz;show w.heap.size+1<_;omega)).trans h.cell,bthen h.bel hb,Nat.le_trans h.sz hb.size⟩
theorem KSt.start (w:World):KSt w ((w.alloc (.map #[] 0)).alloc (.cells #[.map (some w.heap.size)] 88)) 0 [] (fun _=>none):=
 ⟨(MapIs.made w).alloc _,KInv.nil,by simp,((Below.refl _ _).alloc lr _).alloc (by simp) _,by simp⟩
theorem KSt.put {w wr w':World}{k:Nat}{pre:List FileM}{g:ByteArray→Option Value}{f:FileM}(h:KSt w wr k pre g)(ho:orderB pre.getLast? f=true)(hm:MapIs w' w.heap.size (k+1) (fun x=>if x=f.path then some (.int .i64 f.kind) else g x))(hg:wr.grownBy w' (some w.heap.size)):KSt w w' (k+1) (pre++[f]) (fun x=>if x=f.path then some (.int .i64 f.kind) else g x):=
 ⟨hm,h.inv.put ho,hg.cell h.cell (by simp),h.bel.grown hg h.bel.size (fun j hj=>by injection hj with hj;omega),Nat.le_trans h.sz hg.size⟩
theorem model_checkFiles (fmt:Int)(hfmt:fmt=1∨fmt=2∨fmt=3)(A:Option Addr)(c:Nat)(fs:List FileM)(w:World)(hG:Gl w)(hr:Rd w 8 A fs.length (fs.flatMap FileM.cells))(hn:fs.length≤9223372036854775807)(hf:∀ x∈fs,x.path.size≤4294967280∧x.owner.size≤4294967280∧x.group.size≤4294967280∧x.link.size≤4294967280∧x.sum.size≤4294967280):
  Calls Tryz.prog 37 #[.int .i64 fmt,.slice A fs.length c] w fun e w'=>e=.returned (filesV fmt fs)∧Below w.heap.size w w':=by
 have HG:=hid hG;have HR:=hid hr;have HF:=hid hf
 clear hG hr hf
 by_cases h512:512<fs.length
 ·have E:Hid (filesV fmt fs=.tuple #[.string ⟨#[102,105,108,101,115]⟩,.int .i64 4]):=by show _=_;unfold filesV filesAns;rw[if_pos h512]
  go_enter Tryz.func37,Tryz.ntmps37
  go_wp2_with fail
  go_ret2
  exact⟨by rw[E.out];rfl,Below.refl _ _⟩
 have hmm:=@run_makeMap Tryz.prog
 go_enter Tryz.func37,Tryz.ntmps37
 go_wp2_with fail
 clear hmm
 go_loopw [17] (fun i wr=>∃ (k:Nat) (g:ByteArray→Option Value),k≤fs.length∧i=.int .i64 k∧Hid (filesE fmt [] fs=filesE fmt (fs.take k) (fs.drop k))∧Hid (KSt w wr k (fs.take k) g)) (fun i _=>fs.length-(intOf i).toNat)
 case atStart=>exact⟨0,_,Nat.zero_le _,rfl,rfl,KSt.start w⟩
 case round=>
  obtain⟨k,g,hk,rfl,HE,HS⟩:=hrel
  by_cases hlt:k<fs.length
  ·obtain⟨f,hf⟩:∃ f,fs[k]?=some f:=⟨_,List.getElem?_eq_getElem hlt⟩
   obtain⟨fz1,fz2,fz3,fz4,fz5⟩:=HF.out f (List.mem_of_getElem? hf)
   obtain⟨b,off,hA,he⟩:=(HR.out.below HS.out.bel).elem file_len k f hf
   have e0:=he 0 _ rfl
   have e1:=he 1 _ rfl
   have e2:=he 2 _ rfl
   have e3:=he 3 _ rfl
   have e4:=he 4 _ rfl
   have e5:=he 5 _ rfl
   have e6:=he 6 _ rfl
   have e7:=he 7 _ rfl
   simp only[Nat.add_zero] at e0
   have hix:=fun W=>idx_of (T:=24) (E:=46) (sz:=8) (c:=c) Tryz.underlying24 rfl Tryz.sizeOf46 hA hlt W
   have HX:=hid hf
   clear hf he hA
   have X0:Hid (Bx wr (wr.alloc (.cells #[.string f.path,.int .i64 f.kind,.int .i64 f.mode,.string f.owner,.string f.group,.string f.link,.string f.sum,.bool f.conf] 46)) f.cells):=Bx.start wr f.cells _
   go_wp2_with fail
   clear e0 e1 e2 e3 e4 e5 e6 e7 hix
   refine(entry_Path f.path _ (HG.out.below (bthen HS.out.bel X0.out.bel)) (by omega)).mono ?_;rintro e w1 ⟨rfl,hb1⟩
   have X1:Hid (Bx wr w1 f.cells):=X0.out.step hb1
   clear hb1
   cases g1:pathB (bl f.path)
   ·skip
    have c0:=X1.out.cell 0 _ rfl
    have FE:fErr fmt (fs.take k) f=10:=by unfold fErr;rw[g1];rfl
    have E:=hid (filesV_bad (fmt:=fmt) h512 (filesE_bad HX.out HE.out (by rw[FE];decide)))
    rw[FE] at E
    clear FE g1
    go_wp2_with fail
    go_ret2
    exact⟨by rw[E.out];rfl,bthen HS.out.bel X1.out.bel⟩
   have G1:=hid g1;clear g1
   have c0:=X1.out.cell 0 _ rfl
   go_wp2_with fail
   refine(model_Plain f.path _ (by omega)).mono ?_;rintro e w' ⟨rfl,rfl⟩
   cases g2:plainB (bl f.path)
   ·skip
    have FE:fErr fmt (fs.take k) f=10:=by unfold fErr;rw[G1.out,g2];rfl
    have E:=hid (filesV_bad (fmt:=fmt) h512 (filesE_bad HX.out HE.out (by rw[FE];decide)))
    rw[FE] at E
    clear FE g2
    go_wp2_with fail
    go_ret2
    exact⟨by rw[E.out];rfl,bthen HS.out.bel X1.out.bel⟩
   have G2:Hid ((pathB (bl f.path)&&plainB (bl f.path))=true):=by show _=_;rw[G1.out,g2];rfl
   clear g2
   go_upto_region 10 with(fail)
   go_cut [35] (fun s35 wx=>∃ bb:Bool,s35=.bool bb∧Hid (bb=!orderB (fs.take k).getLast? f)∧Hid (Bx wr wx f.cells))
   case first=>
    by_cases k0:k=0
    ·have k0':decide (0<(k:Int))=false:=decide_eq_false (by omega)
     have k0n:decide (0<k)=false:=decide_eq_false (by omega)
     have OB:Hid (false=!orderB (fs.take k).getLast? f):=by show _=_;rw[k0];rfl
     clear k0
     go_quiet (fail)
     go_wp2_with fail
     go_meet
     exact⟨false,rfl,OB,X1.out.drewN _⟩
    ·have k0':decide (0<(k:Int))=true:=decide_eq_true (by omega)
     have k0n:decide (0<k)=true:=decide_eq_true (by omega)
     have kpos:0<k:=by omega
     obtain⟨y,hy⟩:∃ y,fs[k-1]?=some y:=⟨_,List.getElem?_eq_getElem (by omega)⟩
     have hly:(fs.take k).getLast?=some y:=by have:=take_last hy;rw[show k-1+1=k by omega] at this;exact this
     obtain⟨b2,off2,hA2,he2⟩:=(HR.out.below (bthen HS.out.bel X1.out.bel)).elem file_len (k-1) y hy
     have p0:=he2 0 _ rfl
     simp only[Nat.add_zero] at p0
     have hixp:=fun W=>idx_int (T:=24) (E:=46) (sz:=8) (c:=c) (i:=(k:Int)-1) Tryz.underlying24 rfl Tryz.sizeOf46 (by omega) hA2 (show k-1<fs.length by omega) W
     have OB:Hid ((Op.bytesLess f.path.toList y.path.toList||f.path.toList==y.path.toList)=!orderB (fs.take k).getLast? f):=by
      show _=_;rw[hly];exact leq_bl f.path y.path
     have iw:IntKind.i64.wrap ((k:Int)-1)=(k:Int)-1:=IntWalk.i64_in _ (by omega)
     clear hy hly he2 hA2 k0
     go_quiet (fail)
     go_wp2_with fail
     go_meet
     exact⟨_,rfl,OB,X1.out.drewN _⟩
   case rest=>
   obtain⟨bb,rfl,HOB,X2⟩:=hcut
   clear c0
   have c0:=X2.out.cell 0 _ rfl
   have c1:=X2.out.cell 1 _ rfl
   cases bb
   case true=>
    have HO:Hid (orderB (fs.take k).getLast? f=false):=by have:=HOB.out;show _=_;revert this;cases orderB (fs.take k).getLast? f<;>simp
    have FE:fErr fmt (fs.take k) f=15:=by unfold fErr;rw[G2.out,HO.out];rfl
    have E:=hid (filesV_bad (fmt:=fmt) h512 (filesE_bad HX.out HE.out (by rw[FE];decide)))
    rw[FE] at E
    clear FE
    go_wp2_with fail
    go_ret2
    exact⟨by rw[E.out];rfl,bthen HS.out.bel X2.out.bel⟩
   have HO:Hid (orderB (fs.take k).getLast? f=true):=by have:=HOB.out;show _=_;revert this;cases orderB (fs.take k).getLast? f<;>simp
   by_cases hkd:f.kind=1∨f.kind=2∨f.kind=3
   case neg=>
    have q1:(f.kind != 1)=true:=by simp[bne];omega
    have q2:(f.kind != 2)=true:=by simp[bne];omega
    have q3:(f.kind != 3)=true:=by simp[bne];omega
    have FE:fErr fmt (fs.take k) f=9:=by unfold fErr;rw[G2.out,HO.out,if_neg (by simp),if_neg (by simp),if_pos hkd]
    have E:=hid (filesV_bad (fmt:=fmt) h512 (filesE_bad HX.out HE.out (by rw[FE];decide)))
    rw[FE] at E
    clear FE hkd
    go_wp2_with fail
    go_ret2
    exact⟨by rw[E.out];rfl,bthen HS.out.bel X2.out.bel⟩
   have QQ:Hid (¬ ¬ (f.kind=1∨f.kind=2∨f.kind=3)):=fun h=>h hkd
   have Q:decide (f.kind=1)=true∨(decide (f.kind=1)=false∧decide (f.kind=2)=true)∨(decide (f.kind=1)=false∧decide (f.kind=2)=false∧decide (f.kind=3)=true):=by
    by_cases h1:f.kind=1
    ·exact .inl (decide_eq_true h1)
    by_cases h2:f.kind=2
    ·exact .inr (.inl ⟨decide_eq_false h1,decide_eq_true h2⟩)
    ·exact .inr (.inr ⟨decide_eq_false h1,decide_eq_false h2,dT⟩)
   clear hkd
   go_upto_region 12 with(fail)
   go_cut [51] (fun s51 wx=>s51=.bool false∧wc=wx)
   case first=>
    rcases Q with h | ⟨h,h'⟩ | ⟨h,h',h''⟩
    ·have q1:(f.kind != 1)=false:=by have:=of_decide_eq_true h;simp[bne,this]
     clear h
     go_wp2_with fail
     go_meet
     exact⟨rfl,rfl⟩
    ·have q1:(f.kind != 1)=true:=by have:=of_decide_eq_false h;simp[bne,this]
     have q2:(f.kind != 2)=false:=by have:=of_decide_eq_true h';simp[bne,this]
     clear h h'
     go_wp2_with fail
     go_meet
     exact⟨rfl,rfl⟩
    ·have q1:(f.kind != 1)=true:=by have:=of_decide_eq_false h;simp[bne,this]
     have q2:(f.kind != 2)=true:=by have:=of_decide_eq_false h';simp[bne,this]
     have q3:(f.kind != 3)=false:=by have:=of_decide_eq_true h'';simp[bne,this]
     clear h h' h''
     go_wp2_with fail
     go_meet
     exact⟨rfl,rfl⟩
   case rest=>
   obtain⟨rfl,rfl⟩:=hcut
   have c2:=X2.out.cell 2 _ rfl
   have c3:=X2.out.cell 3 _ rfl
   have c4:=X2.out.cell 4 _ rfl
   have c5:=X2.out.cell 5 _ rfl
   have c6:=X2.out.cell 6 _ rfl
   have c7:=X2.out.cell 7 _ rfl
   go_wp2_with fail
   refine(model_restRight fmt hfmt f _ (by omega) (by omega) (by omega) (by omega)).mono ?_;rintro e w3 ⟨rfl,hb3⟩
   have X3:Hid (Bx wr w3 f.cells):=X2.out.step hb3
   clear hb3 c0 c1 c2 c3 c4 c5 c6 c7
   have c0:=X3.out.cell 0 _ rfl
   cases g3:restB fmt f
   case false=>
    have FE:fErr fmt (fs.take k) f=1:=by unfold fErr;rw[G2.out,HO.out,if_neg (by simp),if_neg (by simp),if_neg QQ.out,g3];rfl
    have E:=hid (filesV_bad (fmt:=fmt) h512 (filesE_bad HX.out HE.out (by rw[FE];decide)))
    rw[FE] at E
    clear FE g3
    go_wp2_with fail
    go_ret2
    exact⟨by rw[E.out];rfl,bthen HS.out.bel X3.out.bel⟩
   have G3:=hid g3;clear g3
   go_wp2_with fail
   have S3:=hid (HS.out.below X3.out.bel)
   refine(model_parentRight f (fs.take k) g (w.heap.size+1) w.heap.size k _ (HG.out.below S3.out.bel) S3.out.cell (by have:=S3.out.sz;omega) S3.out.map S3.out.inv fz1).mono ?_;rintro e w4 ⟨rfl,hb4⟩
   have X4:Hid (Bx wr w4 f.cells):=X3.out.step hb4
   have S4:=hid (S3.out.below hb4)
   clear hb4 c0
   have c0:=X4.out.cell 0 _ rfl
   have c1:=X4.out.cell 1 _ rfl
   cases g4:parBad (fs.take k) f
   case true=>
    have FE:fErr fmt (fs.take k) f=9:=by unfold fErr;rw[G2.out,HO.out,if_neg (by simp),if_neg (by simp),if_neg QQ.out,G3.out,if_neg (by simp),g4];rfl
    have E:=hid (filesV_bad (fmt:=fmt) h512 (filesE_bad HX.out HE.out (by rw[FE];decide)))
    rw[FE] at E
    clear FE g4
    go_wp2_with fail
    go_ret2
    exact⟨by rw[E.out];rfl,bthen HS.out.bel X4.out.bel⟩
   have FE:Hid (fErr fmt (fs.take k) f=0):=by show _=_;unfold fErr;rw[G2.out,HO.out,if_neg (by simp),if_neg (by simp),if_neg QQ.out,G3.out,if_neg (by simp),g4];rfl
   clear g4
   have hmc:=S4.out.cell
   obtain⟨w5,hrun5,hm5,hg5⟩:=S4.out.map.put Tryz.underlying88 (by unfold maxLen;omega) f.path (by unfold maxLen;omega) (.int .i64 f.kind)
   have S5:=hid (S4.out.put HO.out hm5 hg5)
   clear hm5 hg5
   go_wp2_with fail
   clear hrun5 hmc c0 c1
   have TK:Hid (fs.take (k+1)=fs.take k++[f]):=by show _=_;obtain⟨hk',hf'⟩:=List.getElem?_eq_some_iff.1 HX.out;rw[List.take_succ_eq_append_getElem hk',hf']
   go_roundw
   case rel=>exact⟨k+1,_,by omega,by go_num,hid (filesE_next HX.out HE.out FE.out),hid (by rw[TK.out];exact S5.out)⟩
   case measure=>simp[intOf];omega
  ·have E:=hid (filesV_ok (fmt:=fmt) h512 (filesE_end (by omega) HE.out))
   go_wp2_with fail
   go_ret2
   exact⟨by rw[E.out];rfl,HS.out.bel⟩
end
section
open Go.RowKit
def phB (fmt n:Int):Bool:=decide ((1≤n∧n≤4)∨(fmt=1∧n=7)∨(fmt=3∧(n=5∨n=6)))
def scB (fmt:Int)(x:ScriptM):Bool:=phB fmt x.phase&&decide (1≤x.body.size∧x.body.size≤4096) && !(bl x.body).contains 0
def incB:List ScriptM→Bool
 | x::y::r=>decide (x.phase<y.phase)&&incB (y::r)
 | _=>true
def scriptsE (fmt:Int)(l:List ScriptM):Int:=if 7<l.length then 4 else if incB l=false then 15 else if l.all (scB fmt)=true then 0 else 1
theorem incB_true:∀ (l:List ScriptM),(∀ (i:Nat) x y,l[i]?=some x→l[i+1]?=some y→x.phase<y.phase)→incB l=true
 | [],_=>rfl
 | [x],_=>rfl
 | x::y::r,h=>by
  rw[incB,decide_eq_true (h 0 x y rfl rfl),incB_true (y::r) (fun i a b ha hb=>h (i+1) a b (by simpa using ha) (by simpa using hb))];rfl
theorem incB_false:∀ (l:List ScriptM)(i:Nat)(x y:ScriptM),l[i]?=some x→l[i+1]?=some y→¬ x.phase<y.phase→incB l=false
 | [],i,x,y,h,_,_=>by simp at h
 | [z],i,x,y,h,h',_=>by
  have:=(List.getElem?_eq_some_iff.1 h').1
  simp at this
 | a::b::r,0,x,y,h,h',hn=>by
  simp at h h';subst h h'
  rw[incB,decide_eq_false hn];rfl
 | a::b::r,i+1,x,y,h,h',hn=>by
  rw[incB,incB_false (b::r) i x y (by simpa using h) (by simpa using h') hn,Bool.and_false]
theorem model_phaseRight (fmt n:Int)(hfmt:fmt=1∨fmt=2∨fmt=3)(w:World):
  Calls Tryz.prog 67 #[.int .i64 fmt,.int .i64 n] w fun e w'=>e=.returned (.bool (phB fmt n))∧w=w':=by
 by_cases h1:1≤n
 ·by_cases h4:n≤4
  ·have E:Hid (phB fmt n=true):=decide_eq_true (.inl ⟨h1,h4⟩)
   have t4:decide (n≤4)=true:=decide_eq_true h4
   have t6:decide (n≤6)=true:=decide_eq_true (by omega)
   have t1:decide (1≤n)=true:=decide_eq_true h1
   rcases hfmt with rfl | rfl | rfl
   all_goals
    go_enter Tryz.func67,Tryz.ntmps67
    go_wp2_with fail
    go_ret
    exact⟨ret_bool (by rw[E.out]),rfl⟩
  ·have t4:decide (n≤4)=false:=decide_eq_false h4
   have t1:decide (1≤n)=true:=decide_eq_true h1
   rcases hfmt with rfl | rfl | rfl
   ·by_cases h7:n=7
    ·have E:Hid (phB 1 n=true):=decide_eq_true (by omega)
     have t7:(n==7)=true:=by simpa using h7
     clear h7
     go_enter Tryz.func67,Tryz.ntmps67
     go_wp2_with fail
     go_ret
     exact⟨ret_bool (by rw[E.out]),rfl⟩
    ·have E:Hid (phB 1 n=false):=decide_eq_false (by omega)
     have t7:(n==7)=false:=by simpa using h7
     clear h7
     go_enter Tryz.func67,Tryz.ntmps67
     go_wp2_with fail
     go_ret
     exact⟨ret_bool (by rw[E.out]),rfl⟩
   ·have E:Hid (phB 2 n=false):=decide_eq_false (by omega)
    go_enter Tryz.func67,Tryz.ntmps67
    go_wp2_with fail
    go_ret
    exact⟨ret_bool (by rw[E.out]),rfl⟩
   ·by_cases h6:n≤6
    ·have E:Hid (phB 3 n=true):=decide_eq_true (by omega)
     have t6:decide (n≤6)=true:=decide_eq_true h6
     go_enter Tryz.func67,Tryz.ntmps67
     go_wp2_with fail
     go_ret
     exact⟨ret_bool (by rw[E.out]),rfl⟩
    ·have E:Hid (phB 3 n=false):=decide_eq_false (by omega)
     have t6:decide (n≤6)=false:=decide_eq_false h6
     go_enter Tryz.func67,Tryz.ntmps67
     go_wp2_with fail
     go_ret
     exact⟨ret_bool (by rw[E.out]),rfl⟩
 ·have E:Hid (phB fmt n=false):=decide_eq_false (by omega)
  have t1:decide (1≤n)=false:=decide_eq_false h1
  have t7:(n==7)=false:=by simp;omega
  rcases hfmt with rfl | rfl | rfl
  all_goals
   go_enter Tryz.func67,Tryz.ntmps67
   go_wp2_with fail
   go_ret
   exact⟨ret_bool (by rw[E.out]),rfl⟩
def Inc (l:List ScriptM)(k:Nat):Prop:=∀ (i:Nat) x y,i+1<k→l[i]?=some x→l[i+1]?=some y→x.phase<y.phase
theorem Inc.all {l:List ScriptM}{k:Nat}(h:Inc l k)(hk:l.length≤k):incB l=true:=
 incB_true l fun i x y hx hy=>h i x y (Nat.lt_of_lt_of_le (List.getElem?_eq_some_iff.1 hy).1 hk) hx hy
theorem Inc.next {l:List ScriptM}{k:Nat}{x y:ScriptM}(h:Inc l k)(hx:l[k-1]?=some x)(hy:l[k]?=some y)(hlt:x.phase<y.phase):Inc l (k+1):=by
 intro i a b hi ha hb
 by_cases e:i+1=k
 ·subst e
  rw[Nat.add_sub_cancel] at hx
  rw[hx] at ha;rw[hy] at hb
  injection ha with ha;injection hb with hb
  subst ha hb;exact hlt
 ·exact h i a b (by omega) ha hb
theorem Inc.one {l:List ScriptM}:Inc l 1:=fun i x y hi=>by omega
theorem Inc.zero {l:List ScriptM}:Inc l 0:=fun i x y hi=>by omega
theorem scriptsE_order {fmt:Int}{l:List ScriptM}(h7:¬ 7<l.length)(h:incB l=false):scriptsE fmt l=15:=by unfold scriptsE;rw[if_neg h7,if_pos h]
theorem scriptsE_arg {fmt:Int}{l:List ScriptM}(h7:¬ 7<l.length)(h:incB l=true)(ha:l.all (scB fmt)=false):scriptsE fmt l=1:=by unfold scriptsE;rw[if_neg h7,h,ha];rfl
theorem scriptsE_ok {fmt:Int}{l:List ScriptM}(h7:¬ 7<l.length)(h:incB l=true)(ha:l.all (scB fmt)=true):scriptsE fmt l=0:=by unfold scriptsE;rw[if_neg h7,h,ha];rfl
theorem model_checkScripts (fmt:Int)(hfmt:fmt=1∨fmt=2∨fmt=3)(A:Option Addr)(c:Nat)(l:List ScriptM)(w:World)(hr:Rd w 2 A l.length (l.flatMap ScriptM.cells))(hn:l.length≤9223372036854775807)(hf:∀ x∈l,x.body.size≤4294967280):
  Calls Tryz.prog 38 #[.int .i64 fmt,.slice A l.length c] w fun e w'=>e=.returned (.int .i64 (scriptsE fmt l))∧Below w.heap.size w w':=by
 have HR:=hid hr;have HF:=hid hf
 clear hr hf
 by_cases h7:7<l.length
 ·have E:Hid (scriptsE fmt l=4):=by show _=_;unfold scriptsE;rw[if_pos h7]
  go_enter Tryz.func38,Tryz.ntmps38
  go_wp2_with fail
  go_ret
  exact⟨ret_int (by rw[E.out]),Below.refl _ _⟩
 go_enter Tryz.func38,Tryz.ntmps38
 go_wp2_with fail
 go_loopw [14] (fun i wr=>∃ k:Nat,k≤l.length∧i=.int .i64 k∧Hid (Inc l k)∧Hid (Below w.heap.size w wr)) (fun i _=>l.length-(intOf i).toNat)
 case atStart=>exact⟨0,Nat.zero_le _,rfl,Inc.zero,Below.refl _ _⟩
 case round=>
  obtain⟨k,hk,rfl,HI,HB⟩:=hrel
  by_cases hlt:k<l.length
  ·obtain⟨y,hy⟩:∃ y,l[k]?=some y:=⟨_,List.getElem?_eq_getElem hlt⟩
   by_cases k0:k=0
   ·have k0':decide (0<(k:Int))=false:=decide_eq_false (by omega)
    have k0n:decide (0<k)=false:=decide_eq_false (by omega)
    have HI2:Hid (Inc l (k+1)):=by show Inc _ _;rw[k0];exact Inc.one
    clear k0 hy
    go_wp2_with fail
    go_quiet (fail)
    go_wp2_with fail
    go_roundw
    case rel=>exact⟨k+1,by omega,by go_num,HI2,hid (below_drewN HB.out _)⟩
    case measure=>simp[intOf];omega
   ·have k0':decide (0<(k:Int))=true:=decide_eq_true (by omega)
    have k0n:decide (0<k)=true:=decide_eq_true (by omega)
    have kpos:0<k:=by omega
    obtain⟨x,hx⟩:∃ x,l[k-1]?=some x:=⟨_,List.getElem?_eq_getElem (by omega)⟩
    obtain⟨b1,off1,hA1,he1⟩:=(HR.out.below HB.out).elem script_len k y hy
    obtain⟨b2,off2,hA2,he2⟩:=(HR.out.below HB.out).elem script_len (k-1) x hx
    have p1:=he1 0 _ rfl
    have p2:=he2 0 _ rfl
    simp only[Nat.add_zero] at p1 p2
    have hix1:=fun W=>idx_of (T:=25) (E:=50) (sz:=2) (c:=c) Tryz.underlying25 rfl Tryz.sizeOf50 hA1 hlt W
    have hix2:=fun W=>idx_int (T:=25) (E:=50) (sz:=2) (c:=c) (i:=(k:Int)-1) Tryz.underlying25 rfl Tryz.sizeOf50 (by omega) hA2 (show k-1<l.length by omega) W
    have iw:IntKind.i64.wrap ((k:Int)-1)=(k:Int)-1:=IntWalk.i64_in _ (by omega)
    have HX:=hid hx;have HY:=hid hy
    clear hx hy hA1 hA2 he1 he2 k0
    by_cases hp:x.phase<y.phase
    ·have HI2:Hid (Inc l (k+1)):=HI.out.next HX.out HY.out hp
     have hp2:decide (y.phase≤x.phase)=false:=decide_eq_false (by omega)
     go_wp2_with fail
     go_quiet (fail)
     go_wp2_with fail
     clear iw hix1 hix2
     go_roundw
     case rel=>exact⟨k+1,by omega,by go_num,HI2,hid (below_drewN HB.out _)⟩
     case measure=>simp[intOf];omega
    ·have E:=hid (scriptsE_order (fmt:=fmt) h7 (incB_false l (k-1) x y HX.out (by rw[show k-1+1=k by omega];exact HY.out) hp))
     have hp2:decide (y.phase≤x.phase)=true:=decide_eq_true (by omega)
     go_wp2_with fail
     go_quiet (fail)
     go_wp2_with fail
     go_ret
     exact⟨ret_int (by rw[E.out]),below_drewN HB.out _⟩
  ·have HIN:Hid (incB l=true):=HI.out.all (by omega)
   go_wp2_with fail
   go_loopw [36] (fun i wr=>∃ k:Nat,k≤l.length∧i=.int .i64 k∧Hid ((l.take k).all (scB fmt)=true)∧Hid (Below w.heap.size w wr)) (fun i _=>l.length-(intOf i).toNat)
   case atStart=>exact⟨0,Nat.zero_le _,rfl,by simp[Hid],HB⟩
   case round=>
    clear HB
    obtain⟨m,hm,rfl,HA,HB⟩:=hrel
    by_cases hlt2:m<l.length
    ·obtain⟨x,hx⟩:∃ x,l[m]?=some x:=⟨_,List.getElem?_eq_getElem hlt2⟩
     have hbs:=HF.out x (List.mem_of_getElem? hx)
     obtain⟨b1,off1,hA1,he1⟩:=(HR.out.below HB.out).elem script_len m x hx
     have p1:=he1 0 _ rfl
     have p2:=he1 1 _ rfl
     simp only[Nat.add_zero] at p1
     have hix1:=fun W=>idx_of (T:=25) (E:=50) (sz:=2) (c:=c) Tryz.underlying25 rfl Tryz.sizeOf50 hA1 hlt2 W
     have HX:=hid hx
     have HB2:Hid (Below w.heap.size w (wr.alloc (.cells #[.int .i64 x.phase,.string x.body] 50))):=HB.out.alloc HB.out.size _
     clear hx hA1 he1
     go_wp2_with fail
     refine(model_phaseRight fmt x.phase hfmt _).mono ?_;rintro e w' ⟨rfl,rfl⟩
     cases g1:phB fmt x.phase
     ·have E:=hid (scriptsE_arg (fmt:=fmt) h7 HIN.out (all_bad HX.out (by unfold scB;rw[g1];rfl)))
      clear g1
      go_wp2_with fail
      go_ret
      exact⟨ret_int (by rw[E.out]),HB2.out⟩
     by_cases s1:x.body.size<1
     ·have E:=hid (scriptsE_arg (fmt:=fmt) h7 HIN.out (all_bad HX.out (by unfold scB;rw[dF];simp)))
      clear g1
      go_wp2_with fail
      go_ret
      exact⟨ret_int (by rw[E.out]),HB2.out⟩
     by_cases s2:4096<x.body.size
     ·have E:=hid (scriptsE_arg (fmt:=fmt) h7 HIN.out (all_bad HX.out (by unfold scB;rw[dF];simp)))
      clear g1
      go_wp2_with fail
      go_ret
      exact⟨ret_int (by rw[E.out]),HB2.out⟩
     have G1:=hid g1;clear g1
     go_wp2_with fail
     refine(Contains0 x.body _).mono ?_;rintro e w' ⟨rfl,rfl⟩
     cases g2:(bl x.body).contains 0
     ·have HA2:Hid ((l.take (m+1)).all (scB fmt)=true):=all_next HX.out HA.out (by unfold scB;rw[G1.out,g2,dT];rfl)
      clear g2
      go_wp2_with fail
      go_roundw
      case rel=>exact⟨m+1,by omega,by go_num,HA2,HB2⟩
      case measure=>simp[intOf];omega
     ·have E:=hid (scriptsE_arg (fmt:=fmt) h7 HIN.out (all_bad HX.out (by unfold scB;rw[g2];simp)))
      clear g2
      go_wp2_with fail
      go_ret
      exact⟨ret_int (by rw[E.out]),HB2.out⟩
    ·have E:=hid (scriptsE_ok (fmt:=fmt) h7 HIN.out (by have:=HA.out;rw[List.take_of_length_le (by omega)] at this;exact this))
     go_wp2_with fail
     go_ret
     exact⟨ret_int (by rw[E.out]),HB.out⟩
end
section
open Go.RowKit
theorem ref_scripts (fmt:Int)(hfmt:fmt=1∨fmt=2∨fmt=3)(A:Option Addr)(c:Nat)(l:List ScriptM)(w:World)(hr:Rd w 2 A l.length (l.flatMap ScriptM.cells))(hn:l.length≤9223372036854775807)(hf:∀ x∈l,x.body.size≤4294967280):
  Calls Tryz.prog 77 #[.int .i64 fmt,.slice A l.length c] w fun e w'=>e=.returned (.int .i64 (scriptsE fmt l))∧Below w.heap.size w w':=by
 have HR:=hid hr;have HF:=hid hf
 clear hr hf
 by_cases h7:7<l.length
 ·have E:Hid (scriptsE fmt l=4):=by show _=_;unfold scriptsE;rw[if_pos h7]
  go_enter Tryz.func77,Tryz.ntmps77
  go_wp2_with fail
  go_ret
  exact⟨ret_int (by rw[E.out]),Below.refl _ _⟩
 go_enter Tryz.func77,Tryz.ntmps77
 go_wp2_with fail
 go_loopw [5] (fun i wr=>∃ k:Nat,1≤k∧(k≤l.length∨k=1)∧i=.int .i64 k∧Hid (Inc l k)∧Hid (Below w.heap.size w wr)) (fun i _=>l.length-(intOf i).toNat)
 case atStart=>exact⟨1,lr,.inr rfl,rfl,Inc.one,Below.refl _ _⟩
 case round=>
  obtain⟨k,hk1,hk,rfl,HI,HB⟩:=hrel
  by_cases hlt:k<l.length
  ·obtain⟨y,hy⟩:∃ y,l[k]?=some y:=⟨_,List.getElem?_eq_getElem hlt⟩
   obtain⟨x,hx⟩:∃ x,l[k-1]?=some x:=⟨_,List.getElem?_eq_getElem (by omega)⟩
   obtain⟨b1,off1,hA1,he1⟩:=(HR.out.below HB.out).elem script_len k y hy
   obtain⟨b2,off2,hA2,he2⟩:=(HR.out.below HB.out).elem script_len (k-1) x hx
   have p1:=he1 0 _ rfl
   have p2:=he2 0 _ rfl
   simp only[Nat.add_zero] at p1 p2
   have hix1:=fun W=>idx_of (T:=25) (E:=50) (sz:=2) (c:=c) Tryz.underlying25 rfl Tryz.sizeOf50 hA1 hlt W
   have hix2:=fun W=>idx_int (T:=25) (E:=50) (sz:=2) (c:=c) (i:=(k:Int)-1) Tryz.underlying25 rfl Tryz.sizeOf50 (by omega) hA2 (show k-1<l.length by omega) W
   have iw:IntKind.i64.wrap ((k:Int)-1)=(k:Int)-1:=IntWalk.i64_in _ (by omega)
   have HX:=hid hx;have HY:=hid hy
   clear hx hy hA1 hA2 he1 he2
   by_cases hp:x.phase<y.phase
   ·have HI2:Hid (Inc l (k+1)):=HI.out.next HX.out HY.out hp
    have hp2:decide (y.phase≤x.phase)=false:=decide_eq_false (by omega)
    go_wp2_with fail
    go_quiet (fail)
    go_wp2_with fail
    clear iw hix1 hix2
    go_roundw
    case rel=>exact⟨k+1,by omega,.inl (by omega),by go_num,HI2,hid (below_drewN HB.out _)⟩
    case measure=>simp[intOf];omega
   ·have E:=hid (scriptsE_order (fmt:=fmt) h7 (incB_false l (k-1) x y HX.out (by rw[show k-1+1=k by omega];exact HY.out) hp))
    have hp2:decide (y.phase≤x.phase)=true:=decide_eq_true (by omega)
    go_wp2_with fail
    go_quiet (fail)
    go_wp2_with fail
    go_ret
    exact⟨ret_int (by rw[E.out]),below_drewN HB.out _⟩
  ·have HIN:Hid (incB l=true):=HI.out.all (by omega)
   go_wp2_with fail
   go_loopw [6] (fun i wr=>∃ k:Nat,k≤l.length∧i=.int .i64 k∧Hid ((l.take k).all (scB fmt)=true)∧Hid (Below w.heap.size w wr)) (fun i _=>l.length-(intOf i).toNat)
   case atStart=>exact⟨0,Nat.zero_le _,rfl,by simp[Hid],HB⟩
   case round=>
    clear HB
    obtain⟨m,hm,rfl,HA,HB⟩:=hrel
    by_cases hlt2:m<l.length
    ·obtain⟨x,hx⟩:∃ x,l[m]?=some x:=⟨_,List.getElem?_eq_getElem hlt2⟩
     have hbs:=HF.out x (List.mem_of_getElem? hx)
     obtain⟨b1,off1,hA1,he1⟩:=(HR.out.below HB.out).elem script_len m x hx
     have p1:=he1 0 _ rfl
     have p2:=he1 1 _ rfl
     simp only[Nat.add_zero] at p1
     have hix1:=fun W=>idx_of (T:=25) (E:=50) (sz:=2) (c:=c) Tryz.underlying25 rfl Tryz.sizeOf50 hA1 hlt2 W
     have HX:=hid hx
     clear hx hA1 he1
     go_upto_region 12 with(fail)
     go_cut [8] (fun s8 wx=>s8=.bool (phB fmt x.phase)∧wr=wx)
     case first=>
      have q1:decide (1≤x.phase)=true∨decide (1≤x.phase)=false:=by cases decide (1≤x.phase)<;>simp
      by_cases n1:1≤x.phase
      ·by_cases n4:x.phase≤4
       ·have t1:decide (1≤x.phase)=true:=decide_eq_true n1
        have t4:decide (x.phase≤4)=true:=decide_eq_true n4
        have E:Hid (phB fmt x.phase=true):=decide_eq_true (.inl ⟨n1,n4⟩)
        go_wp2_with fail
        go_meet
        exact⟨by rw[E.out],rfl⟩
       ·have t1:decide (1≤x.phase)=true:=decide_eq_true n1
        have t4:decide (x.phase≤4)=false:=decide_eq_false n4
        rcases hfmt with rfl | rfl | rfl
        ·cases t7:(x.phase==7)
         ·have E:Hid (phB 1 x.phase=false):=decide_eq_false (by have:¬ x.phase=7:=by simpa using t7
                                                                omega)
          go_wp2_with fail
          go_meet
          exact⟨by rw[E.out],rfl⟩
         ·have E:Hid (phB 1 x.phase=true):=decide_eq_true (by have:x.phase=7:=by simpa using t7
                                                              omega)
          go_wp2_with fail
          go_meet
          exact⟨by rw[E.out],rfl⟩
        ·have E:Hid (phB 2 x.phase=false):=decide_eq_false (by omega)
         go_wp2_with fail
         go_meet
         exact⟨by rw[E.out],rfl⟩
        ·by_cases n5:x.phase=5
         ·have t5:(x.phase==5)=true:=by simpa using n5
          have E:Hid (phB 3 x.phase=true):=decide_eq_true (by omega)
          clear n5
          go_wp2_with fail
          go_meet
          exact⟨by rw[E.out],rfl⟩
         ·have t5:(x.phase==5)=false:=by simpa using n5
          have E:Hid (phB 3 x.phase=(x.phase==6)):=by show decide _=_;rw[Bool.eq_iff_iff,decide_eq_true_iff];simp;omega
          clear n5
          go_wp2_with fail
          go_meet
          exact⟨by rw[E.out],rfl⟩
      ·have t1:decide (1≤x.phase)=false:=decide_eq_false n1
       have t7:(x.phase==7)=false:=by simp;omega
       have t5:(x.phase==5)=false:=by simp;omega
       have t6:(x.phase==6)=false:=by simp;omega
       have E:Hid (phB fmt x.phase=false):=decide_eq_false (by omega)
       rcases hfmt with rfl | rfl | rfl
       all_goals
        go_wp2_with fail
        go_meet
        exact⟨by rw[E.out],rfl⟩
     case rest=>
     obtain⟨rfl,rfl⟩:=hcut
     cases g1:phB fmt x.phase
     ·have E:=hid (scriptsE_arg (fmt:=fmt) h7 HIN.out (all_bad HX.out (by unfold scB;rw[g1];rfl)))
      clear g1
      go_wp2_with fail
      go_ret
      exact⟨ret_int (by rw[E.out]),HB.out⟩
     by_cases s1:x.body.size=0
     ·have se:x.body.toList=[]:=by rw[bl_toList,bl_nil _ s1]
      have se2:x.body.toList.isEmpty=true:=by rw[se];rfl
      have E:=hid (scriptsE_arg (fmt:=fmt) h7 HIN.out (all_bad HX.out (by unfold scB;rw[dF];simp)))
      clear g1
      go_wp2_with fail
      go_ret
      exact⟨ret_int (by rw[E.out]),HB.out⟩
     have se2:x.body.toList.isEmpty=false:=by rw[bl_toList,bl_isEmpty];exact decide_eq_false s1
     have se:¬ x.body.toList=[]:=by intro h;rw[h] at se2;simp at se2
     by_cases s2:4096<x.body.size
     ·have E:=hid (scriptsE_arg (fmt:=fmt) h7 HIN.out (all_bad HX.out (by unfold scB;rw[dF];simp)))
      clear g1
      go_wp2_with fail
      go_ret
      exact⟨ret_int (by rw[E.out]),HB.out⟩
     have G1:=hid g1;clear g1
     go_wp2_with fail
     refine(ref_Has x.body 0 _ (by omega)).mono ?_;rintro e w' ⟨rfl,rfl⟩
     unfold hasB
     cases g2:(bl x.body).contains 0
     ·have HA2:Hid ((l.take (m+1)).all (scB fmt)=true):=all_next HX.out HA.out (by unfold scB;rw[G1.out,g2,dT];rfl)
      clear g2
      go_wp2_with fail
      go_roundw
      case rel=>exact⟨m+1,by omega,by go_num,HA2,HB⟩
      case measure=>simp[intOf];omega
     ·have E:=hid (scriptsE_arg (fmt:=fmt) h7 HIN.out (all_bad HX.out (by unfold scB;rw[g2];simp)))
      clear g2
      go_wp2_with fail
      go_ret
      exact⟨ret_int (by rw[E.out]),HB.out⟩
    ·have E:=hid (scriptsE_ok (fmt:=fmt) h7 HIN.out (by have:=HA.out;rw[List.take_of_length_le (by omega)] at this;exact this))
     go_wp2_with fail
     go_ret
     exact⟨ret_int (by rw[E.out]),HB.out⟩
theorem ref_summary (s:ByteArray)(w:World)(hs:s.size≤9223372036854775807):
  Calls Tryz.prog 71 #[.string s] w fun e w'=>e=.returned (.bool (sumB (bl s)))∧w=w':=by
 have HB:=hid (bl_length s)
 by_cases h1:s.size<1
 ·have E:Hid (sumB (bl s)=false):=by show _=_;unfold sumB;rw[HB.out,dF];simp
  go_enter Tryz.func71,Tryz.ntmps71
  go_wp2_with fail
  go_ret
  exact⟨ret_bool E.out.symm,rfl⟩
 by_cases h2:100<s.size
 ·have E:Hid (sumB (bl s)=false):=by show _=_;unfold sumB;rw[HB.out,decide_eq_false (show ¬ s.size≤100 by omega)];simp
  go_enter Tryz.func71,Tryz.ntmps71
  go_wp2_with fail
  go_ret
  exact⟨ret_bool E.out.symm,rfl⟩
 have hpos:0<s.size:=by omega
 have hh:=hid (head_bl s hpos)
 have hl:=hid (last_bl s hpos)
 by_cases a1:s[0].toNat=32
 ·have t1:((s[0].toNat:Int)==32)=true:=u8_beq a1
  have E:Hid (sumB (bl s)=false):=by show _=_;unfold sumB;rw[hh.out,←neq32,show((s[0].toNat:Int) != 32)=false from u8_beqN a1];simp
  clear a1
  go_enter Tryz.func71,Tryz.ntmps71
  go_wp2_with fail
  go_ret
  exact⟨ret_bool E.out.symm,rfl⟩
 have t1:((s[0].toNat:Int)==32)=false:=u8_bne a1
 by_cases a2:s[s.size-1].toNat=32
 ·have t2:((s[s.size-1].toNat:Int)==32)=true:=u8_beq a2
  have E:Hid (sumB (bl s)=false):=by show _=_;unfold sumB;rw[hl.out,←neq32,show((s[s.size-1].toNat:Int) != 32)=false from u8_beqN a2];simp
  clear a1 a2
  go_enter Tryz.func71,Tryz.ntmps71
  go_wp2_with fail
  go_ret
  exact⟨ret_bool E.out.symm,rfl⟩
 have t2:((s[s.size-1].toNat:Int)==32)=false:=u8_bne a2
 have E:Hid (sumB (bl s)=wthB 32 (bl s)):=by show _=_;unfold sumB;rw[HB.out,hh.out,hl.out,←neq32,←neq32,show((s[0].toNat:Int) != 32)=true from u8_bneN a1,show((s[s.size-1].toNat:Int) != 32)=true from u8_bneN a2,dT,dT];simp
 clear a1 a2
 go_enter Tryz.func71,Tryz.ntmps71
 go_wp2_with fail
 clear t1 t2
 go_loop [4] (fun i=>∃ k:Nat,k≤s.size∧i=.int .i64 k∧Hid (wthB 32 ((bl s).take k)=true)) (fun i=>s.size-(intOf i).toNat)
 case atStart=>exact⟨0,Nat.zero_le _,rfl,by simp[Hid,wthB]⟩
 case round=>
  obtain⟨k,hk,rfl,HA⟩:=hrel
  by_cases hlt:k<s.size
  ·by_cases d1:s[k].toNat<32
   ·have HE:Hid (wthB 32 (bl s)=false):=wthB_bad 32 s k hlt (.inl d1)
    go_wp2_with fail
    go_ret
    exact⟨ret_bool (by rw[E.out,HE.out]),rfl⟩
   by_cases d2:126<s[k].toNat
   ·have HE:Hid (wthB 32 (bl s)=false):=wthB_bad 32 s k hlt (.inr (by omega))
    go_wp2_with fail
    go_ret
    exact⟨ret_bool (by rw[E.out,HE.out]),rfl⟩
   ·have HN:Hid (wthB 32 ((bl s).take (k+1))=true):=wthB_next 32 s k hlt HA.out (by omega) ⟨by omega,by omega⟩
    go_wp2_with fail
    go_round
    case rel=>exact⟨k+1,by omega,by go_num,HN⟩
    case measure=>simp[intOf];omega
  ·have HE:Hid (wthB 32 (bl s)=true):=by have:=HA.out;rw[bl_take_ge s k (by omega)] at this;exact this
   go_wp2_with fail
   go_ret
   exact⟨ret_bool (by rw[E.out,HE.out]),rfl⟩
end
end Go.Proofs.YtdfdllbebfoggaaGreatDoor
