/- A part of the proof of a law on dependencies in three formats. No condition. -/
import Derived.Test.YtkjdbpjglobbjaaGreatDoorE06
set_option maxRecDepth 100000
set_option maxHeartbeats 20000000
set_option linter.unusedVariables false
set_option linter.unusedSimpArgs false
namespace Go.Proofs.YtkjdbpjglobbjaaGreatDoor
section
open Go.RowKit Go.Deep
theorem Tx {B:Nat}{w w1 w2:World}(h1:Below B w w1)(h2:Below w1.heap.size w1 w2)(h:B≤w1.heap.size:=by exact Nat.le_trans (by assumption) (Below.size (by assumption))):Below B w w2:=h1.trans (h2.mono h)
theorem rC (s:BA)(j:Nat)(b:UInt8)(h:(bl s)[j]?=some b):s.get! j=b:=by
 unfold bl at h
 show s.data[j]! = b
 have h2:s.data[j]?=some b:=by simpa using h
 obtain⟨hlt,he⟩:=Array.getElem?_eq_some_iff.1 h2
 rw[getElem!_pos s.data j hlt,he]
theorem Ik (s:BA)(i:Nat)(h:i<s.size)(ha:¬ (s[i]'h).toNat<128):
  (128≤(Utf8.decode s i).1∧(Utf8.decode s i).1≤1114111)∧(1≤(Utf8.decode s i).2∧i+(Utf8.decode s i).2≤s.size)∧∀ (j:Nat)(b:UInt8),i≤j→j<i+(Utf8.decode s i).2→(bl s)[j]?=some b→128≤b.toNat:=by
 have e0:=rC s i _ (ie s i h)
 rw[Lib.decode_at,e0]
 have l1:=(s.get! (i+1)).toNat_lt
 have l2:=(s.get! (i+2)).toNat_lt
 have l3:=(s.get! (i+3)).toNat_lt
 have l0:=(s[i]'h).toNat_lt
 have g1:∀ b,(bl s)[i+1]?=some b→b.toNat=(s.get! (i+1)).toNat:=fun b hb=>by rw[rC s _ b hb]
 have g2:∀ b,(bl s)[i+2]?=some b→b.toNat=(s.get! (i+2)).toNat:=fun b hb=>by rw[rC s _ b hb]
 have g3:∀ b,(bl s)[i+3]?=some b→b.toNat=(s.get! (i+3)).toNat:=fun b hb=>by rw[rC s _ b hb]
 have g0:∀ b,(bl s)[i]?=some b→b.toNat=(s[i]'h).toNat:=fun b hb=>by rw[ie s i h] at hb;injection hb with hb;rw[hb]
 generalize (s.get! (i+1)).toNat=b1 at *
 generalize (s.get! (i+2)).toNat=b2 at *
 generalize (s.get! (i+3)).toNat=b3 at *
 generalize (s[i]'h).toNat=b0 at *
 unfold Lib.decodeN
 rw[if_neg ha]
 have key:∀ (r w:Nat),1≤w→w≤4→(1<w→128≤b1)→(2<w→128≤b2)→(3<w→128≤b3)→∀ (j:Nat)(b:UInt8),i≤j→j<i+w→(bl s)[j]?=some b→128≤b.toNat:=by
  intro r w h1 h4 k1 k2 k3 j b hj hjw hb
  obtain hj | hj | hj | hj:j=i∨j=i+1∨j=i+2∨j=i+3:=by omega
  ·subst hj;rw[g0 b hb];omega
  ·subst hj;rw[g1 b hb];exact k1 (by omega)
  ·subst hj;rw[g2 b hb];exact k2 (by omega)
  ·subst hj;rw[g3 b hb];exact k3 (by omega)
 repeat' split
 all_goals (refine⟨by simp only;omega,by simp only;omega,key 0 _ ?_ ?_ ?_ ?_ ?_⟩<;>(simp only;omega))
theorem Il (r:Int)(h0:128≤r)(h1:r≤1114111):2≤(Utf8.encode r).size∧(Utf8.encode r).size≤4∧∃ c:UInt8,(bl (Utf8.encode r))[(Utf8.encode r).size-1]?=some c∧128≤c.toNat:=by
 unfold Utf8.encode
 have hc:128≤(if Utf8.valid r then r.toNat else Utf8.runeError):=by
  split
  ·omega
  ·simp[Utf8.runeError]
 generalize (if Utf8.valid r then r.toNat else Utf8.runeError)=c at hc
 simp only
 rw[if_neg (by omega)]
 have k:(UInt8.ofNat (128+c % 64)).toNat=128+c % 64:=by simp[UInt8.toNat_ofNat'];omega
 repeat' split
 all_goals exact⟨by simp[ByteArray.size],by simp[ByteArray.size],_,rfl,by rw[k];omega⟩
def je:BA:=⟨#[60,61,62,126]⟩
theorem wF:je.size=4:=rfl
theorem rD (j:Nat)(b:UInt8)(h:(bl je)[j]?=some b):b.toNat<128:=by
 have hm:=gM h
 simp[je,bl] at hm
 rcases hm with rfl | rfl | rfl | rfl<;>decide
theorem zH (w:World):Calls Tryz.prog 173 #[.string je,.int .i32 65533] w fun e w'=>e=.returned (.int .i64 (-1))∧Below w.heap.size w w':=by
 go_enter Tryz.func173,Tryz.ntmps173
 go_wp2_with fail
 go_loopg [5,6] 4 (fun g _ _ wx=>∃ i:Nat,i+g=4∧wx=w.iter je i)
 case atStart=>exact⟨0,by omega,rfl⟩
 case round=>
  obtain⟨i,hig,rfl⟩:=hrel
  cases gk with
  | zero=>
   obtain rfl:i=4:=by omega
   have hnx:=fun ty=>run_next_end (P:=Tryz.prog) w je 4 ty (by rw[wF];omega)
   go_wp2_with fail
   go_ret
   exact⟨rfl,bR.alloc lr _⟩
  | succ g=>
   have hi:i<je.size:=by rw[wF];omega
   obtain⟨x,hx⟩:∃ x:UInt8,je[i]'hi=x:=⟨_,rfl⟩
   have hx128:x.toNat<128:=rD i x (by rw[←hx];exact ie je i hi)
   have hnx:=fun ty=>run_next_ascii (P:=Tryz.prog) w je i ty hi (by rw[hx];exact hx128)
   rw[hx] at hnx
   clear hx
   have hx3:((x.toNat:Int)==65533)=false:=beq_eq_false_iff_ne.2 (by omega)
   go_wp2_with fail
   go_roundg g
   case measure=>omega
   case rel=>exact⟨i+1,by omega,rfl⟩
theorem zI (r:Int)(w:World)(h0:128≤r)(h1:r≤1114111)(hne:r≠65533)(hv:Lib.validRune r=false):Calls Tryz.prog 173 #[.string je,.int .i32 r] w fun e w'=>e=.returned (.int .i64 (-1))∧Below w.heap.size w w':=by
 have hx3:(r==65533)=false:=beq_eq_false_iff_ne.2 hne
 go_enter Tryz.func173,Tryz.ntmps173
 go_wp2_with (go_at_call 212;refine(Tryz.utf8_ValidRune _ _).mono ?_;rintro e w' ⟨rfl,hw⟩;rw[hw,hv])
 go_ret
 exact⟨rfl,bR⟩
theorem wG (r:Int)(w:World)(h0:128≤r)(h1:r≤1114111)(hne:r≠65533)(hv:Lib.validRune r=true):Calls Tryz.prog 173 #[.string je,.int .i32 r] w fun e w'=>e=.returned (.int .i64 (-1))∧Below w.heap.size w w':=by
 have hx3:(r==65533)=false:=beq_eq_false_iff_ne.2 hne
 obtain⟨z0,z1,c,hc,c0⟩:=Il r h0 h1
 obtain⟨rs,hrs⟩:∃ rs,Utf8.encode r=rs:=⟨_,rfl⟩
 rw[hrs] at z0 z1 hc
 obtain⟨m,hm⟩:∃ m,rs.size=m+1:=⟨rs.size-1,by omega⟩
 have hlt:m<rs.size:=by omega
 have hc2:rs[m]'hlt=c:=by
  rw[show rs.size-1=m by omega,ie rs _ hlt] at hc;injection hc
 have hss:=wF
 have hlt2:m<je.size:=by omega
 obtain⟨x,hx⟩:∃ x:UInt8,je[m]'hlt2=x:=⟨_,rfl⟩
 have hx128:x.toNat<128:=rD _ x (by rw[←hx];exact ie je _ hlt2)
 have hxc:((x.toNat:Int) != (c.toNat:Int))=true:=by simp;omega
 have hm4:(m:Int)<(je.size:Int):=by omega
 have hm5:(m:Int)+1≤(je.size:Int):=by omega
 have hm6:m+1≤je.size:=by omega
 clear hss
 have hI:∀ W:World,Calls Tryz.prog 68 #[.string (je.extract (m+1) je.size),.int .u8 c.toNat] W fun e w'=>e=.returned (.int .i64 (-1))∧w'=W:=by
  intro W
  refine(bt _ c W).mono ?_
  rintro e w' ⟨rfl,rfl⟩
  refine⟨az ?_,rfl⟩
  show Lib.indexByte (bl (je.extract (m+1) je.size)) c=-1
  have hno:(bl (je.extract (m+1) je.size)).contains c=false:=by
   rw[aX]
   cases hcc:((bl je).drop (m+1)).contains c with
   | false=>rfl
   | true=>
    have hmm:c∈(bl je).drop (m+1):=by simpa using hcc
    obtain⟨j,hj⟩:=List.getElem?_of_mem (List.mem_of_mem_drop hmm)
    have:=rD j c hj;omega
  exact ED _ _ hno
 have iw:IntKind.i64.wrap ((m:Int)+1)=(m:Int)+1:=IntWalk.i64_in _ (by omega)
 have hsl:∀ W:World,(Instr.slice 9 (.string je) (some (.int .i64 ((m:Int)+1))) none none).run Tryz.prog W=.ok (.string (je.extract (m+1) je.size)) W:=fun W=>run_slice_string_l W 9 je Tryz.underlying9 .i64 ((m:Int)+1) (by omega) hm5
 have hid1:∀ W:World,(Instr.index 9 (.string rs) (.int .i64 (m:Int))).run Tryz.prog W=.ok (.int .u8 c.toNat) W:=fun W=>by
  rw[run_index_string W 9 rs .i64 (m:Int) Tryz.underlying9,dif_pos ⟨by omega,by omega⟩]
  simp[hc2]
 have hid2:∀ W:World,(Instr.index 9 (.string je) (.int .i64 (m:Int))).run Tryz.prog W=.ok (.int .u8 x.toNat) W:=fun W=>by
  rw[run_index_string W 9 je .i64 (m:Int) Tryz.underlying9,dif_pos ⟨by omega,by omega⟩]
  simp[hx]
 clear hc
 go_enter Tryz.func173,Tryz.ntmps173
 go_wp2_with (go_at_call 212;refine(Tryz.utf8_ValidRune _ _).mono ?_;rintro e w' ⟨rfl,hw⟩;rw[hw,hv])
 go_step3
 go_wp2_with fail
 refine wp_loop_rounds 1 ?_
 rw[rounds_succ]
 go_wp2_with fail
 go_step3
 go_wp2_with fail
 go_quiet (fail)
 go_wp2_with fail
 have HB:=fun n=>bJ (Below.refl w.heap.size w) n
 generalize hW:w.drewN _=W2
 have HW:Below w.heap.size w W2:=by rw[←hW];exact HB _
 clear hW HB
 go_quiet ((go_at_call 68;exact Calls.quiet_of_same (hI _)))
 go_wp2_with fail
 rw[Exit.noGoto_ret]
 go_wp2_with fail
 rw[Exit.noGoto_ret]
 go_ret
 exact⟨rfl,bJ HW _⟩
theorem zJ (r:Int)(w:World)(h0:128≤r)(h1:r≤1114111):Calls Tryz.prog 173 #[.string je,.int .i32 r] w fun e w'=>e=.returned (.int .i64 (-1))∧Below w.heap.size w w':=by
 by_cases hne:r=65533
 ·subst hne;exact zH w
 ·cases hv:Lib.validRune r with
  | false=>exact zI r w h0 h1 hne hv
  | true=>exact wG r w h0 h1 hne hv
theorem wH (s:BA)(w:World)(h8:s.size≤8):
  Calls Tryz.prog 131 #[.string s,.string je] w fun e w'=>e=.returned (.int .i64 (Lib.indexAny (bl s) (bl je)))∧Below w.heap.size w w':=by
 have hemp:je.toList.isEmpty=false:=by rw[ai];rfl
 have hemp2:¬ je.toList=[]:=by rw[ai];intro h;exact absurd (congrArg List.length h) (by decide)
 have hn1:((je.size:Int)==1)=false:=rfl
 have h8z:decide ((8:Int)<(s.size:Int))=false:=dF (by omega)
 go_enter Tryz.func131,Tryz.ntmps131
 go_wp2_with (go_at_call 174;refine(Tryz.strings_shouldUseASCIISet _ _).mono ?_;rintro e w' ⟨rfl,hw⟩;rw[hw,h8z])
 go_loopg [9,10] s.size (fun g _ _ wx=>∃ i:Nat,i+g=s.size∧Hid (wx.heap[w.heap.size]?=some (.stringIter s i))∧Hid (Below w.heap.size w wx)∧Hid (Lib.NoAny (bl s) (bl je) i))
 case atStart=>exact⟨0,by omega,World.iter_heap w s 0,bR.alloc lr _,Lib.NoAny.zero _ _⟩
 case round=>
  obtain⟨i,hig,HH,HB,HN⟩:=hrel
  cases gk with
  | zero=>
   obtain rfl:i=s.size:=by omega
   have hnx:=fun ty=>Lib.run_next_end_at (P:=Tryz.prog) wr w.heap.size s s.size ty HH.out (by omega)
   go_wp2_with fail
   go_ret
   exact⟨az (by rw[Lib.indexAny_none (by rw[af];exact HN.out)]),HB.out⟩
  | succ g=>
   have hi:i<s.size:=by omega
   have hxl:=ie s i hi
   by_cases ha:(s[i]'hi).toNat<128
   ·have hnx:=fun ty=>Lib.run_next_ascii_at (P:=Tryz.prog) wr w.heap.size s i ty HH.out hi ha
    obtain⟨x,hx⟩:∃ x:UInt8,s[i]'hi=x:=⟨_,rfl⟩
    rw[hx] at hnx ha hxl
    have HX:=ae hxl
    clear hxl hx
    have hback:((x.toNat:Int)).toNat.toUInt8=x:=by simp
    have HB2:Hid (Below w.heap.size w (wr.iterAt w.heap.size s (i+1))):=Lib.below_iterAt HB.out lr _ _
    have HH2:Hid ((wr.iterAt w.heap.size s (i+1)).heap[w.heap.size]?=some (.stringIter s (i+1))):=Lib.iterAt_heap _ _ _ _ _ HH.out
    cases hin:(bl je).contains x with
    | false=>
     have hlt:=ju je x hin
     unfold Ep bl at hlt
     have HI:=ae hin;clear hin
     go_wp2_with (go_at_call 173;refine(Tryz.strings_IndexRune_ascii _ _ _ (by omega) (by omega)).mono ?_;rintro e w' ⟨rfl,hw⟩;rw[hw,hback])
     go_roundg g
     case measure=>omega
     case rel=>exact⟨i+1,by omega,HH2,HB2,HN.out.succ HX.out HI.out⟩
    | true=>
     have hge:=jY je x hin
     unfold Ep bl at hge
     have HI:=ae hin;clear hin
     go_wp2_with (go_at_call 173;refine(Tryz.strings_IndexRune_ascii _ _ _ (by omega) (by omega)).mono ?_;rintro e w' ⟨rfl,hw⟩;rw[hw,hback])
     go_ret
     exact⟨az (Lib.indexAny_hit HN.out HX.out HI.out).symm,HB2.out⟩
   ·obtain⟨⟨d1,d2⟩,⟨d3,d4⟩,d5⟩:=Ik s i hi ha
    have hnx:=fun ty=>Lib.run_next_any_at (P:=Tryz.prog) wr w.heap.size s i ty HH.out hi
    have HD:=ae d5
    clear d5 hxl
    generalize Utf8.decode s i=D at *
    obtain⟨r,n⟩:=D
    simp only at d1 d2 d3 d4 hnx
    have HB2:Hid (Below w.heap.size w (wr.iterAt w.heap.size s (i+n))):=Lib.below_iterAt HB.out lr _ _
    have HH2:Hid ((wr.iterAt w.heap.size s (i+n)).heap[w.heap.size]?=some (.stringIter s (i+n))):=Lib.iterAt_heap _ _ _ _ _ HH.out
    have HN2:Hid (Lib.NoAny (bl s) (bl je) (i+n)):=by
     intro j b hj hb
     by_cases hji:j<i
     ·exact HN.out j b hji hb
     ·have h1:=HD.out j b (by omega) hj hb
      cases hc:(bl je).contains b with
      | false=>rfl
      | true=>
       have hm:b∈bl je:=by simpa using hc
       obtain⟨k,hk⟩:=List.getElem?_of_mem hm
       have:=rD k b hk
       omega
    clear HD
    go_wp2_with fail
    refine(zJ (r:Int) _ (by omega) (by omega)).mono ?_;rintro e w' ⟨rfl,hb⟩
    have HS:w.heap.size<(wr.iterAt w.heap.size s (i+n)).heap.size:=(Array.getElem?_eq_some_iff.1 HH2.out).1
    have HB3:Hid (Below w.heap.size w w'):=Tx HB2.out hb HB2.out.size
    have HH3:Hid (w'.heap[w.heap.size]?=some (.stringIter s (i+n))):=(hb.block _ HS).trans HH2.out
    clear hb
    go_wp2_with fail
    go_roundg (g+1-n)
    case measure=>omega
    case rel=>exact⟨i+n,by omega,HH3,HB3,HN2⟩
theorem Da (s:BA)(w:World)(hs:s.size≤4294967280):
  Calls Tryz.prog 131 #[.string s,.string je] w fun e w'=>e=.returned (.int .i64 (Lib.indexAny (bl s) (bl je)))∧Below w.heap.size w w':=by
 by_cases h8:s.size≤8
 ·exact wH s w h8
 ·refine(Tryz.strings_IndexAny_long (by intro w;kernel_rfl) s je w (by decide) (by omega) (by omega) (by decide) (fun j b h=>rD j b h)).mono ?_
  rintro e w' ⟨rfl,rfl⟩
  refine⟨rfl,?_⟩
  have h1:Below w.heap.size w (w.alloc (.cells (Lib.setCells je.data.toList) 234)):=bR.alloc lr _
  exact h1.alloc (by simp) _
end
section
open Go.RowKit
theorem BE (s:BA)(w:World)(hs:s.size≤9223372036854775807):
  Calls Tryz.prog 171 #[.string s] w fun e w'=>e=.returned (.bool (fm (bl s)))∧w=w':=by
 by_cases h0:s.size=0
 ·have he:s.toList=[]:=by rw[ai,bj s h0]
  have he2:s.toList.isEmpty=true:=by rw[he];rfl
  have E:Hid (fm (bl s)=false):=qp s (by omega)
  go_enter Tryz.func171,Tryz.ntmps171
  go_wp2_with fail
  go_ret
  exact⟨am E.out.symm,rfl⟩
 have hp:0<s.size:=by omega
 have he2:s.toList.isEmpty=false:=by rw[ai,aL];exact dF h0
 have he:¬ s.toList=[]:=by intro h;rw[h] at he2;simp at he2
 by_cases h64:64<s.size
 ·have E:Hid (fm (bl s)=false):=qp s (by omega)
  go_enter Tryz.func171,Tryz.ntmps171
  go_wp2_with fail
  go_ret
  exact⟨am E.out.symm,rfl⟩
 have h64':decide (64<(s.size:Int))=false:=dF (by omega)
 obtain⟨c0,hc0⟩:∃ c0:UInt8,s[0]=c0:=⟨_,rfl⟩
 have HH:=ae (LI s hp)
 rw[hc0] at HH
 cases hl:cD c0 with
 | true=>
  have HD:Hid (up (bl s)=true):=by show _=_;rw[HH.out];simp[qn,hl]
  have hL:=fun W=>cj c0 W
  rw[hl] at hL
  clear hl
  go_enter Tryz.func171,Tryz.ntmps171
  go_wp2_with fail
  refine(hL _).mono ?_;rintro e w' ⟨rfl,rfl⟩
  go_wp2_with fail
  clear hL
  go_loop [3,32] (fun o i=>∃ k n:Nat,k≤s.size∧n≤k∧o=.int .i64 n∧i=.int .i64 k∧Hid (((bl s).take k).foldl dm (some 0)=some n)) (fun _ i=>s.size-(intOf i).toNat)
  case atStart=>exact⟨0,0,z0,lr,rfl,rfl,by simp[Hid]⟩
  case round=>
   obtain⟨k,n,hk,hn,rfl,rfl,HA⟩:=hrel
   by_cases hlt:k<s.size
   ·obtain⟨c,hc⟩:∃ c:UInt8,s[k]=c:=⟨_,rfl⟩
    have NX:=ae (fun m=>qo s k n m hlt HA.out)
    have BD:=ae (sU s k n hlt HA.out)
    rw[hc] at NX BD
    have hcc:∀ n:UInt8,c=n↔c.toNat=n.toNat:=fun n=>UInt8.toNat_inj.symm
    by_cases c40:c.toNat=40
    ·have e40:(c==40)=true:=by rw[beq_iff_eq,hcc];exact c40
     have HN:=ae (NX.out (n+1) (by simp[dm,e40]))
     clear e40 hcc
     go_wp2_with fail
     go_round
     case rel=>exact⟨k+1,n+1,by omega,by omega,by go_num,by go_num,HN⟩
     case measure=>simp[intOf];omega
    have e40:(c==40)=false:=by rw[bF,ne_eq,hcc];exact c40
    by_cases c41:c.toNat=41
    ·have e41:(c==41)=true:=by rw[beq_iff_eq,hcc];exact c41
     by_cases n0:n=0
     ·have E:=ae (BD.out (by simp[dm,e40,e41,n0]))
      subst n0
      clear e40 e41 hcc
      go_wp2_with fail
      go_ret
      exact⟨am E.out.symm,rfl⟩
     ·have HN:=ae (NX.out (n-1) (by simp[dm,e40,e41,n0]))
      obtain⟨m,rfl⟩:∃ m,n=m+1:=⟨n-1,by omega⟩
      clear e40 e41 hcc
      go_wp2_with fail
      go_round
      case rel=>exact⟨k+1,m,by omega,by omega,by go_num,by go_num,HN⟩
      case measure=>simp[intOf];omega
    have e41:(c==41)=false:=by rw[bF,ne_eq,hcc];exact c41
    cases hl:cD c with
    | true=>
     have ho:fG c=true:=by simp[fG,hl]
     have HN:=ae (NX.out (n) (by simp[dm,e40,e41,ho]))
     have hL:=fun W=>cj c W
     rw[hl] at hL
     clear hl ho e40 e41 hcc
     go_wp2_with fail
     refine(hL _).mono ?_;rintro e w' ⟨rfl,rfl⟩
     go_wp2_with fail
     go_round
     case rel=>exact⟨k+1,n,by omega,by omega,by go_num,by go_num,HN⟩
     case measure=>simp[intOf];omega
    | false=>
     cases hd:aD c with
     | true=>
      have ho:fG c=true:=by simp[fG,hd]
      have HN:=ae (NX.out (n) (by simp[dm,e40,e41,ho]))
      have hL:=fun W=>cj c W
      rw[hl] at hL
      have hD:=fun W=>dP c W
      rw[hd] at hD
      clear hl hd ho e40 e41 hcc
      go_wp2_with fail
      refine(hL _).mono ?_;rintro e w' ⟨rfl,rfl⟩
      go_wp2_with fail
      refine(hD _).mono ?_;rintro e w' ⟨rfl,rfl⟩
      go_wp2_with fail
      go_round
      case rel=>exact⟨k+1,n,by omega,by omega,by go_num,by go_num,HN⟩
      case measure=>simp[intOf];omega
     | false=>
      have hco:=wB c hl hd
      cases ho:fG c with
      | true=>
       have hx:=jY ⟨#[46,95,43,45,47,58]⟩ c (by rw[hco,ho])
       have HN:=ae (NX.out (n) (by simp[dm,e40,e41,ho]))
       have hL:=fun W=>cj c W
       rw[hl] at hL
       have hD:=fun W=>dP c W
       rw[hd] at hD
       clear hl hd ho hco e40 e41 hcc
       go_wp2_with fail
       refine(hL _).mono ?_;rintro e w' ⟨rfl,rfl⟩
       go_wp2_with fail
       refine(hD _).mono ?_;rintro e w' ⟨rfl,rfl⟩
       go_wp2_with fail
       refine(bt _ c _).mono ?_;rintro e w' ⟨rfl,rfl⟩
       go_wp2_with fail
       go_round
       case rel=>exact⟨k+1,n,by omega,by omega,by go_num,by go_num,HN⟩
       case measure=>simp[intOf];omega
      | false=>
       have hx:=ju ⟨#[46,95,43,45,47,58]⟩ c (by rw[hco,ho])
       have E:=ae (BD.out (by simp[dm,e40,e41,ho]))
       have hL:=fun W=>cj c W
       rw[hl] at hL
       have hD:=fun W=>dP c W
       rw[hd] at hD
       clear hl hd ho hco e40 e41 hcc
       go_wp2_with fail
       refine(hL _).mono ?_;rintro e w' ⟨rfl,rfl⟩
       go_wp2_with fail
       refine(hD _).mono ?_;rintro e w' ⟨rfl,rfl⟩
       go_wp2_with fail
       refine(bt _ c _).mono ?_;rintro e w' ⟨rfl,rfl⟩
       go_wp2_with fail
       go_ret
       exact⟨am E.out.symm,rfl⟩
   ·have E:=ae (sV s k n hlt HA.out (by omega) (by omega) HD.out)
    go_wp2_with fail
    go_ret
    exact⟨am (by rw[E.out,bI];simp),rfl⟩
 | false=>
  cases hd:aD c0 with
  | true=>
   have HD:Hid (up (bl s)=true):=by show _=_;rw[HH.out];simp[qn,hd]
   have hL:=fun W=>cj c0 W
   rw[hl] at hL
   have hD:=fun W=>dP c0 W
   rw[hd] at hD
   clear hl hd
   go_enter Tryz.func171,Tryz.ntmps171
   go_wp2_with fail
   refine(hL _).mono ?_;rintro e w' ⟨rfl,rfl⟩
   go_wp2_with fail
   refine(hD _).mono ?_;rintro e w' ⟨rfl,rfl⟩
   go_wp2_with fail
   clear hL hD
   go_loop [3,32] (fun o i=>∃ k n:Nat,k≤s.size∧n≤k∧o=.int .i64 n∧i=.int .i64 k∧Hid (((bl s).take k).foldl dm (some 0)=some n)) (fun _ i=>s.size-(intOf i).toNat)
   case atStart=>exact⟨0,0,z0,lr,rfl,rfl,by simp[Hid]⟩
   case round=>
    obtain⟨k,n,hk,hn,rfl,rfl,HA⟩:=hrel
    by_cases hlt:k<s.size
    ·obtain⟨c,hc⟩:∃ c:UInt8,s[k]=c:=⟨_,rfl⟩
     have NX:=ae (fun m=>qo s k n m hlt HA.out)
     have BD:=ae (sU s k n hlt HA.out)
     rw[hc] at NX BD
     have hcc:∀ n:UInt8,c=n↔c.toNat=n.toNat:=fun n=>UInt8.toNat_inj.symm
     by_cases c40:c.toNat=40
     ·have e40:(c==40)=true:=by rw[beq_iff_eq,hcc];exact c40
      have HN:=ae (NX.out (n+1) (by simp[dm,e40]))
      clear e40 hcc
      go_wp2_with fail
      go_round
      case rel=>exact⟨k+1,n+1,by omega,by omega,by go_num,by go_num,HN⟩
      case measure=>simp[intOf];omega
     have e40:(c==40)=false:=by rw[bF,ne_eq,hcc];exact c40
     by_cases c41:c.toNat=41
     ·have e41:(c==41)=true:=by rw[beq_iff_eq,hcc];exact c41
      by_cases n0:n=0
      ·have E:=ae (BD.out (by simp[dm,e40,e41,n0]))
       subst n0
       clear e40 e41 hcc
       go_wp2_with fail
       go_ret
       exact⟨am E.out.symm,rfl⟩
      ·have HN:=ae (NX.out (n-1) (by simp[dm,e40,e41,n0]))
       obtain⟨m,rfl⟩:∃ m,n=m+1:=⟨n-1,by omega⟩
       clear e40 e41 hcc
       go_wp2_with fail
       go_round
       case rel=>exact⟨k+1,m,by omega,by omega,by go_num,by go_num,HN⟩
       case measure=>simp[intOf];omega
     have e41:(c==41)=false:=by rw[bF,ne_eq,hcc];exact c41
     cases hl:cD c with
     | true=>
      have ho:fG c=true:=by simp[fG,hl]
      have HN:=ae (NX.out (n) (by simp[dm,e40,e41,ho]))
      have hL:=fun W=>cj c W
      rw[hl] at hL
      clear hl ho e40 e41 hcc
      go_wp2_with fail
      refine(hL _).mono ?_;rintro e w' ⟨rfl,rfl⟩
      go_wp2_with fail
      go_round
      case rel=>exact⟨k+1,n,by omega,by omega,by go_num,by go_num,HN⟩
      case measure=>simp[intOf];omega
     | false=>
      cases hd:aD c with
      | true=>
       have ho:fG c=true:=by simp[fG,hd]
       have HN:=ae (NX.out (n) (by simp[dm,e40,e41,ho]))
       have hL:=fun W=>cj c W
       rw[hl] at hL
       have hD:=fun W=>dP c W
       rw[hd] at hD
       clear hl hd ho e40 e41 hcc
       go_wp2_with fail
       refine(hL _).mono ?_;rintro e w' ⟨rfl,rfl⟩
       go_wp2_with fail
       refine(hD _).mono ?_;rintro e w' ⟨rfl,rfl⟩
       go_wp2_with fail
       go_round
       case rel=>exact⟨k+1,n,by omega,by omega,by go_num,by go_num,HN⟩
       case measure=>simp[intOf];omega
      | false=>
       have hco:=wB c hl hd
       cases ho:fG c with
       | true=>
        have hx:=jY ⟨#[46,95,43,45,47,58]⟩ c (by rw[hco,ho])
        have HN:=ae (NX.out (n) (by simp[dm,e40,e41,ho]))
        have hL:=fun W=>cj c W
        rw[hl] at hL
        have hD:=fun W=>dP c W
        rw[hd] at hD
        clear hl hd ho hco e40 e41 hcc
        go_wp2_with fail
        refine(hL _).mono ?_;rintro e w' ⟨rfl,rfl⟩
        go_wp2_with fail
        refine(hD _).mono ?_;rintro e w' ⟨rfl,rfl⟩
        go_wp2_with fail
        refine(bt _ c _).mono ?_;rintro e w' ⟨rfl,rfl⟩
        go_wp2_with fail
        go_round
        case rel=>exact⟨k+1,n,by omega,by omega,by go_num,by go_num,HN⟩
        case measure=>simp[intOf];omega
       | false=>
        have hx:=ju ⟨#[46,95,43,45,47,58]⟩ c (by rw[hco,ho])
        have E:=ae (BD.out (by simp[dm,e40,e41,ho]))
        have hL:=fun W=>cj c W
        rw[hl] at hL
        have hD:=fun W=>dP c W
        rw[hd] at hD
        clear hl hd ho hco e40 e41 hcc
        go_wp2_with fail
        refine(hL _).mono ?_;rintro e w' ⟨rfl,rfl⟩
        go_wp2_with fail
        refine(hD _).mono ?_;rintro e w' ⟨rfl,rfl⟩
        go_wp2_with fail
        refine(bt _ c _).mono ?_;rintro e w' ⟨rfl,rfl⟩
        go_wp2_with fail
        go_ret
        exact⟨am E.out.symm,rfl⟩
    ·have E:=ae (sV s k n hlt HA.out (by omega) (by omega) HD.out)
     go_wp2_with fail
     go_ret
     exact⟨am (by rw[E.out,bI];simp),rfl⟩
  | false=>
   by_cases h47:c0.toNat=47
   ·have c47:c0=47:=UInt8.toNat_inj.1 h47
    have HD:Hid (up (bl s)=true):=by show _=_;rw[HH.out];simp[qn,c47]
    clear c47
    have hL:=fun W=>cj c0 W
    rw[hl] at hL
    have hD:=fun W=>dP c0 W
    rw[hd] at hD
    have b47:((c0.toNat:Int) != 47)=false:=by simp[h47]
    clear hl hd h47
    go_enter Tryz.func171,Tryz.ntmps171
    go_wp2_with fail
    refine(hL _).mono ?_;rintro e w' ⟨rfl,rfl⟩
    go_wp2_with fail
    refine(hD _).mono ?_;rintro e w' ⟨rfl,rfl⟩
    go_wp2_with fail
    clear hL hD
    go_loop [3,32] (fun o i=>∃ k n:Nat,k≤s.size∧n≤k∧o=.int .i64 n∧i=.int .i64 k∧Hid (((bl s).take k).foldl dm (some 0)=some n)) (fun _ i=>s.size-(intOf i).toNat)
    case atStart=>exact⟨0,0,z0,lr,rfl,rfl,by simp[Hid]⟩
    case round=>
     obtain⟨k,n,hk,hn,rfl,rfl,HA⟩:=hrel
     by_cases hlt:k<s.size
     ·obtain⟨c,hc⟩:∃ c:UInt8,s[k]=c:=⟨_,rfl⟩
      have NX:=ae (fun m=>qo s k n m hlt HA.out)
      have BD:=ae (sU s k n hlt HA.out)
      rw[hc] at NX BD
      have hcc:∀ n:UInt8,c=n↔c.toNat=n.toNat:=fun n=>UInt8.toNat_inj.symm
      by_cases c40:c.toNat=40
      ·have e40:(c==40)=true:=by rw[beq_iff_eq,hcc];exact c40
       have HN:=ae (NX.out (n+1) (by simp[dm,e40]))
       clear e40 hcc
       go_wp2_with fail
       go_round
       case rel=>exact⟨k+1,n+1,by omega,by omega,by go_num,by go_num,HN⟩
       case measure=>simp[intOf];omega
      have e40:(c==40)=false:=by rw[bF,ne_eq,hcc];exact c40
      by_cases c41:c.toNat=41
      ·have e41:(c==41)=true:=by rw[beq_iff_eq,hcc];exact c41
       by_cases n0:n=0
       ·have E:=ae (BD.out (by simp[dm,e40,e41,n0]))
        subst n0
        clear e40 e41 hcc
        go_wp2_with fail
        go_ret
        exact⟨am E.out.symm,rfl⟩
       ·have HN:=ae (NX.out (n-1) (by simp[dm,e40,e41,n0]))
        obtain⟨m,rfl⟩:∃ m,n=m+1:=⟨n-1,by omega⟩
        clear e40 e41 hcc
        go_wp2_with fail
        go_round
        case rel=>exact⟨k+1,m,by omega,by omega,by go_num,by go_num,HN⟩
        case measure=>simp[intOf];omega
      have e41:(c==41)=false:=by rw[bF,ne_eq,hcc];exact c41
      cases hl:cD c with
      | true=>
       have ho:fG c=true:=by simp[fG,hl]
       have HN:=ae (NX.out (n) (by simp[dm,e40,e41,ho]))
       have hL:=fun W=>cj c W
       rw[hl] at hL
       clear hl ho e40 e41 hcc
       go_wp2_with fail
       refine(hL _).mono ?_;rintro e w' ⟨rfl,rfl⟩
       go_wp2_with fail
       go_round
       case rel=>exact⟨k+1,n,by omega,by omega,by go_num,by go_num,HN⟩
       case measure=>simp[intOf];omega
      | false=>
       cases hd:aD c with
       | true=>
        have ho:fG c=true:=by simp[fG,hd]
        have HN:=ae (NX.out (n) (by simp[dm,e40,e41,ho]))
        have hL:=fun W=>cj c W
        rw[hl] at hL
        have hD:=fun W=>dP c W
        rw[hd] at hD
        clear hl hd ho e40 e41 hcc
        go_wp2_with fail
        refine(hL _).mono ?_;rintro e w' ⟨rfl,rfl⟩
        go_wp2_with fail
        refine(hD _).mono ?_;rintro e w' ⟨rfl,rfl⟩
        go_wp2_with fail
        go_round
        case rel=>exact⟨k+1,n,by omega,by omega,by go_num,by go_num,HN⟩
        case measure=>simp[intOf];omega
       | false=>
        have hco:=wB c hl hd
        cases ho:fG c with
        | true=>
         have hx:=jY ⟨#[46,95,43,45,47,58]⟩ c (by rw[hco,ho])
         have HN:=ae (NX.out (n) (by simp[dm,e40,e41,ho]))
         have hL:=fun W=>cj c W
         rw[hl] at hL
         have hD:=fun W=>dP c W
         rw[hd] at hD
         clear hl hd ho hco e40 e41 hcc
         go_wp2_with fail
         refine(hL _).mono ?_;rintro e w' ⟨rfl,rfl⟩
         go_wp2_with fail
         refine(hD _).mono ?_;rintro e w' ⟨rfl,rfl⟩
         go_wp2_with fail
         refine(bt _ c _).mono ?_;rintro e w' ⟨rfl,rfl⟩
         go_wp2_with fail
         go_round
         case rel=>exact⟨k+1,n,by omega,by omega,by go_num,by go_num,HN⟩
         case measure=>simp[intOf];omega
        | false=>
         have hx:=ju ⟨#[46,95,43,45,47,58]⟩ c (by rw[hco,ho])
         have E:=ae (BD.out (by simp[dm,e40,e41,ho]))
         have hL:=fun W=>cj c W
         rw[hl] at hL
         have hD:=fun W=>dP c W
         rw[hd] at hD
         clear hl hd ho hco e40 e41 hcc
         go_wp2_with fail
         refine(hL _).mono ?_;rintro e w' ⟨rfl,rfl⟩
         go_wp2_with fail
         refine(hD _).mono ?_;rintro e w' ⟨rfl,rfl⟩
         go_wp2_with fail
         refine(bt _ c _).mono ?_;rintro e w' ⟨rfl,rfl⟩
         go_wp2_with fail
         go_ret
         exact⟨am E.out.symm,rfl⟩
     ·have E:=ae (sV s k n hlt HA.out (by omega) (by omega) HD.out)
      go_wp2_with fail
      go_ret
      exact⟨am (by rw[E.out,bI];simp),rfl⟩
   ·have E:Hid (fm (bl s)=false):=Ij s (by rw[HH.out];simp only[qn,hl,hd];simp;intro e;exact h47 (by rw[e];rfl))
    have hL:=fun W=>cj c0 W
    rw[hl] at hL
    have hD:=fun W=>dP c0 W
    rw[hd] at hD
    clear hl hd
    have b47:=UQ (b:=47) (by omega:(c0.toNat:Int)≠47)
    go_enter Tryz.func171,Tryz.ntmps171
    go_wp2_with fail
    refine(hL _).mono ?_;rintro e w' ⟨rfl,rfl⟩
    go_wp2_with fail
    refine(hD _).mono ?_;rintro e w' ⟨rfl,rfl⟩
    go_wp2_with fail
    go_ret
    exact⟨am E.out.symm,rfl⟩
end
end Go.Proofs.YtkjdbpjglobbjaaGreatDoor
