/- A part of the proof. -/
import Derived.Test.YtlglfpbhapmhiaaGreatDoorK08
import Derived.Test.YtlglfpbhapmhiaaGreatDoorK12
import Derived.Test.YtlglfpbhapmhiaaGreatDoorK14
set_option maxRecDepth 100000
set_option maxHeartbeats 20000000
set_option linter.unusedVariables false
set_option linter.unusedSimpArgs false
namespace Go.Proofs.YtlglfpbhapmhiaaGreatDoor
section
open Go.RowKit Go.Deep
def Js (s:BA)(w:World)(e:Ending)(w':World):Prop:=∃ A c,e=.returned (.slice A (be s).length c)∧w'.ownsRow w.heap.size 9 1 (.slice A (be s).length c) (be s).length (az (be s))∧Below w.heap.size w w'
theorem mh (s:BA)(w:World)(hs:s.size≤100000):
  Calls Tryz.prog 77 #[.string s] w (Js s w):=by
 obtain⟨i0,hi0,hz0,hz1,hz2⟩:=info_parts kK
 go_enter Tryz.func77,Tryz.ntmps77
 go_wp2_with fail
 go_loopw [3,7] (fun o i wr=>∃ (k:Nat),k≤s.size∧i=.int .i64 k∧Hid (wr.ownsRow w.heap.size 9 1 o (jF s k).length (az (jF s k)))∧Hid (Below w.heap.size w wr)) (fun _ i _=>s.size-(intOf i).toNat)
 case atStart=>exact⟨0,z0,rfl,World.ownsRow_nil _ _ _ _,bR⟩
 case round=>
  obtain⟨k,hk,rfl,HO,HB⟩:=hrel
  obtain⟨Ao,co,rfl⟩:=aL HO.out
  have hol:=qG s k
  by_cases hlt:k<s.size
  ·by_cases hc:s[k]=47
   ·have hc1:((s[k].toNat:Int)==47)=true:=by rw[hc];rfl
    have HC:=ae hc
    clear hc
    go_wp2_with (at_builtin;refine au _ rfl _ _ _ rfl w.heap.size 9 i0 _ 1 16 Tryz.underlying22 hi0 hz0 hz1 hz2 rfl (by omega) (.slice Ao (jF s k).length co) (jF s k).length _ rfl (HO.out.alloc _) (wr.heap.size+1) (some ⟨wr.heap.size,0,none⟩) 1 1 [.string (s.extract 0 k)] rfl (Dj wr _) (by simp[Value.oneCell']) (by simp only[maxLen];omega) (by omega) (by simp;have:=HB.out.size;omega) ?_;intro v1 w1 o1 g1 a1)
    have O1:Hid (w1.ownsRow w.heap.size 9 1 v1 (jF s (k+1)).length (az (jF s (k+1)))):=by show World.ownsRow _ _ _ _ _ _ _;rw[Gd hlt HC.out,List.length_append];simpa [az] using o1
    have B1:Hid (Below w.heap.size w w1):=(HB.out.alloc HB.out.size _).grown g1 (by simp;have:=HB.out.size;omega) (fun j hj=>(HO.out.lt j hj).1)
    clear o1 g1 a1
    go_roundw
    case rel=>exact⟨k+1,by omega,by go_num,O1,B1⟩
    case measure=>simp[intOf];omega
   ·have hc1:((s[k].toNat:Int)==47)=false:=by
     simp only[bF,ne_eq];intro h;apply hc;apply UInt8.toNat_inj.1;show _=47;omega
    have HC:=ae hc
    clear hc
    go_wp2_with fail
    go_roundw
    case rel=>exact⟨k+1,by omega,by go_num,by rw[Da hlt HC.out];exact HO,HB⟩
    case measure=>simp[intOf];omega
  ·obtain rfl:k=s.size:=by omega
   go_wp2_with fail
   go_ret
   exact⟨Ao,co,rfl,HO.out,HB.out⟩
theorem Do:kP ⟨#[0,10,58]⟩:=⟨by decide,by decide,by intro j b h;have:=gM h;simp[bl] at this;rcases this with rfl | rfl | rfl<;>decide⟩
theorem Jt:kP ⟨#[0,10]⟩:=⟨by decide,by decide,by intro j b h;have:=gM h;simp[bl] at this;rcases this with rfl | rfl<;>decide⟩
theorem py (s:BA)(w:World)(hs:s.size≤4294967280):
  Calls Tryz.prog 154 #[.string s] w fun e w'=>e=.returned (.bool (oB s))∧Below w.heap.size w w':=by
 by_cases h1:s.size≤31
 ·have E:Hid (oB s=!Lib.containsAny (bl s) [0,10,58]):=by show _=_;unfold oB;rw[dT h1];rfl
  go_enter Tryz.func154,Tryz.ntmps154
  go_wp2_with fail
  refine(nB _ Do s _ hs).mono ?_;rintro e w' ⟨rfl,hb⟩
  go_wp2_with fail
  go_ret
  exact⟨af (by rw[E.out];rfl),hb⟩
 ·have E:Hid (oB s=false):=by show _=_;unfold oB;rw[dF h1];rfl
  go_enter Tryz.func154,Tryz.ntmps154
  go_wp2_with fail
  go_ret
  exact⟨af E.out.symm,bR⟩
theorem vS (s:BA)(w:World)(hs:s.size≤4294967280):
  Calls Tryz.prog 155 #[.string s] w fun e w'=>e=.returned (.bool (lY s))∧Below w.heap.size w w':=by
 by_cases h0:1≤s.size
 ·by_cases h1:s.size≤200
  ·have E:Hid (lY s=!Lib.containsAny (bl s) [0,10]):=by show _=_;unfold lY;rw[dT h0,dT h1];rfl
   go_enter Tryz.func155,Tryz.ntmps155
   go_wp2_with fail
   refine(nB _ Jt s _ hs).mono ?_;rintro e w' ⟨rfl,hb⟩
   go_wp2_with fail
   go_ret
   exact⟨af (by rw[E.out];rfl),hb⟩
  ·have E:Hid (lY s=false):=by show _=_;unfold lY;rw[dF h1];simp
   go_enter Tryz.func155,Tryz.ntmps155
   go_wp2_with fail
   go_ret
   exact⟨af E.out.symm,bR⟩
 ·have E:Hid (lY s=false):=by show _=_;unfold lY;rw[dF h0];simp
  go_enter Tryz.func155,Tryz.ntmps155
  go_wp2_with fail
  go_ret
  exact⟨af E.out.symm,bR⟩
end
section
open Go.RowKit
theorem xO {s:BA}(h:s.size=0):s.toList=[]:=by rw[ai];exact List.eq_nil_of_length_eq_zero (by rw[ah];exact h)
theorem uB {s:BA}(h:¬ s.size=0):¬ s.toList=[]:=by rw[ai];intro e;have:=congrArg List.length e;rw[ah] at this;exact h this
theorem Gw {x:am}(h1:eh (bl x.path)=true)(h2:¬ (x.kind<1∨4<x.kind))(h3:mC x=true):df x=1:=by
 unfold df;rw[if_neg (by rw[h1];decide),if_neg h2,if_pos h3]
def Cj (x:am):Int:=if x.kind=3∧lY x.link=false then 10 else if x.kind=4∧(eh (bl x.link)=false∨x.link=x.path) then 10
 else if x.kind≠3∧x.kind≠4∧x.link.size≠0 then 1 else if x.kind≠1∧0<x.data.length then 1 else if 1048576<x.data.length then 4 else 0
theorem xP {x:am}(h1:eh (bl x.path)=true)(h2:¬ (x.kind<1∨4<x.kind))(h3:mC x=false)(h4:oB x.owner=false∨oB x.group=false):df x=10:=by
 unfold df;rw[if_neg (by rw[h1];decide),if_neg h2,if_neg (by rw[h3];decide),if_pos h4]
theorem Dp {x:am}(h1:eh (bl x.path)=true)(h2:¬ (x.kind<1∨4<x.kind))(h3:mC x=false)(h4:oB x.owner=true)(h5:oB x.group=true):df x=Cj x:=by
 unfold df Cj;rw[if_neg (by rw[h1];decide),if_neg h2,if_neg (by rw[h3];decide),if_neg (by rw[h4,h5];decide)]
structure EB (w wr:World) (x:am):Prop where
 blk:av wr w.heap.size x.cells
 bel:Below w.heap.size w wr
theorem EB.step {w wr w':World}{x:am}(h:EB w wr x)(hb:Below wr.heap.size wr w'):EB w w' x:=⟨h.blk.below hb,ap h.bel hb⟩
theorem EB.start (w:World)(x:am):EB w (w.alloc (.cells #[.string x.path,.int .i64 x.kind,.int .i64 x.mode,.int .i64 x.uid,.int .i64 x.gid,.string x.owner,.string x.group,.int .i64 x.mtime,.string x.link,.slice x.da x.data.length x.dc] 35)) x:=
 ⟨av.new w x.cells _,bR.alloc lr _⟩
theorem xQ (x:am)(w:World)(hG:Gl w)(hs:x.small):Calls Tryz.prog 114 #[x.val] w fun e w'=>e=.returned (.int .i64 (df x))∧Below w.heap.size w w':=by
 have HG:=ae hG
 have HS:=ae hs
 clear hG hs
 obtain⟨W0,hW0⟩:∃ W0,w.alloc (.cells #[.string x.path,.int .i64 x.kind,.int .i64 x.mode,.int .i64 x.uid,.int .i64 x.gid,.string x.owner,.string x.group,.int .i64 x.mtime,.string x.link,.slice x.da x.data.length x.dc] 35)=W0:=⟨_,rfl⟩
 have B0:Hid (EB w W0 x):=by show EB _ _ _;rw[←hW0];exact EB.start w x
 have c0:=B0.out.blk.cell 0 _ rfl
 unfold am.val
 go_enter Tryz.func114,Tryz.ntmps114
 go_wp2_with fail
 clear hW0 c0
 refine(iH x.path _ (HG.out.below B0.out.bel) (by have:=HS.out.path;omega)).mono ?_;rintro e w1 ⟨rfl,hb1⟩
 have B1:=ae (B0.out.step hb1)
 clear hb1 B0
 cases h1:eh (bl x.path)
 ·have E:Hid (df x=10):=by show _=_;unfold df;rw[if_pos h1]
  clear h1
  go_wp2_with fail
  go_ret
  exact⟨aE E.out.symm,B1.out.bel⟩
 have H1:=ae h1;clear h1
 have c1:=B1.out.blk.cell 1 _ rfl
 by_cases h2:x.kind<1∨4<x.kind
 ·have E:Hid (df x=9):=by show _=_;unfold df;rw[if_neg (by rw[H1.out];decide),if_pos h2]
  by_cases h3:x.kind<1
  ·clear h2
   go_wp2_with fail
   go_ret
   exact⟨aE E.out.symm,B1.out.bel⟩
  ·have h4:4<x.kind:=by omega
   clear h2
   go_wp2_with fail
   go_ret
   exact⟨aE E.out.symm,B1.out.bel⟩
 have H2:=ae h2
 have k1:¬ x.kind<1:=fun h=>h2 (.inl h)
 have k2:¬ 4<x.kind:=fun h=>h2 (.inr h)
 clear h2
 have c2:=B1.out.blk.cell 2 _ rfl
 have c3:=B1.out.blk.cell 3 _ rfl
 have c4:=B1.out.blk.cell 4 _ rfl
 have c5:=B1.out.blk.cell 5 _ rfl
 have c7:=B1.out.blk.cell 7 _ rfl
 cases h3:mC x
 ·have H3:=ae h3
  unfold mC at h3
  simp only[Bool.or_eq_false_iff,decide_eq_false_iff_not] at h3
  obtain⟨⟨⟨⟨⟨⟨⟨n1,n2⟩,n3⟩,n4⟩,n5⟩,n6⟩,n7⟩,n8⟩:=h3
  go_wp2_with fail
  refine(py x.owner _ (by have:=HS.out.owner;omega)).mono ?_;rintro e w2 ⟨rfl,hb2⟩
  have B2:=ae (B1.out.step hb2)
  clear hb2 B1 c1 c2 c3 c4 c5 c7 n1 n2 n3 n4 n5 n6 n7 n8
  cases h4:oB x.owner
  ·have E:Hid (df x=10):=xP H1.out H2.out H3.out (.inl h4)
   clear h4
   go_wp2_with fail
   go_ret
   exact⟨aE E.out.symm,B2.out.bel⟩
  have H4:=ae h4;clear h4
  have c6:=B2.out.blk.cell 6 _ rfl
  go_wp2_with fail
  refine(py x.group _ (by have:=HS.out.group;omega)).mono ?_;rintro e w3 ⟨rfl,hb3⟩
  have B3:=ae (B2.out.step hb3)
  clear hb3 B2 c6
  cases h5:oB x.group
  ·have E:Hid (df x=10):=xP H1.out H2.out H3.out (.inr h5)
   clear h5
   go_wp2_with fail
   go_ret
   exact⟨aE E.out.symm,B3.out.bel⟩
  have HE:Hid (df x=Cj x):=Dp H1.out H2.out H3.out H4.out h5
  clear h5 H1 H2 H3 H4
  have c0:=B3.out.blk.cell 0 _ rfl
  have c1:=B3.out.blk.cell 1 _ rfl
  have c8:=B3.out.blk.cell 8 _ rfl
  have c9:=B3.out.blk.cell 9 _ rfl
  unfold Cj at HE
  have HK:=HS.out.link
  have HD:=HS.out.data
  have hdm:¬ 1048576<x.data.length:=by omega
  have hdm2:¬ (1048576:Int)<(x.data.length:Int):=by omega
  have B4:Hid (Below w.heap.size w w3):=B3.out.bel
  rcases(by omega:x.kind=1∨x.kind=2∨x.kind=3∨x.kind=4) with hk | hk | hk | hk
  all_goals
   rw[hk] at c1 k1 k2
   have K:=ae hk
   clear hk
  ·skip
   by_cases hl:x.link.size=0
   ·have l1:=xO hl
    have HL:=ae hl;clear hl
    have R:Hid (df x=0):=by show _=_;rw[HE.out];simp[K.out,HL.out,hdm]
    clear HE
    go_wp2_with fail
    go_ret
    exact⟨aE (by rw[R.out]),B4.out⟩
   ·have l1:=uB hl
    have l2:x.link.toList.isEmpty=false:=by cases h:x.link.toList with | nil=>exact absurd h l1 | cons a r=>rfl
    have HL:=ae hl;clear hl
    have R:Hid (df x=1):=by show _=_;rw[HE.out];simp[K.out,HL.out]
    clear HE
    go_wp2_with fail
    go_ret
    exact⟨aE (by rw[R.out]),B4.out⟩
  ·skip
   by_cases hl:x.link.size=0
   ·have l1:=xO hl
    have HL:=ae hl;clear hl
    by_cases hd0:0<x.data.length
    ·have d1:(0:Int)<(x.data.length:Int):=by omega
     have R:Hid (df x=1):=by show _=_;rw[HE.out];simp[K.out,HL.out,hd0,hdm]
     clear HE
     go_wp2_with fail
     go_ret
     exact⟨aE (by rw[R.out]),B4.out⟩
    ·have d1:¬ (0:Int)<(x.data.length:Int):=by omega
     have R:Hid (df x=0):=by show _=_;rw[HE.out];simp[K.out,HL.out,hd0,hdm]
     clear HE
     go_wp2_with fail
     go_ret
     exact⟨aE (by rw[R.out]),B4.out⟩
   ·have l1:=uB hl
    have l2:x.link.toList.isEmpty=false:=by cases h:x.link.toList with | nil=>exact absurd h l1 | cons a r=>rfl
    have HL:=ae hl;clear hl
    have R:Hid (df x=1):=by show _=_;rw[HE.out];simp[K.out,HL.out]
    clear HE
    go_wp2_with fail
    go_ret
    exact⟨aE (by rw[R.out]),B4.out⟩
  ·go_wp2_with fail
   refine(vS x.link _ (by omega)).mono ?_;rintro e w4 ⟨rfl,hb4⟩
   have B5:Hid (Below w.heap.size w w4):=ap B4.out hb4
   have c9:w4.cell? ⟨w.heap.size,9,none⟩=some (.slice x.da x.data.length x.dc):=(B3.out.blk.below hb4).cell 9 _ rfl
   have c1:w4.cell? ⟨w.heap.size,1,none⟩=some (.int .i64 3):=by have h:=(B3.out.blk.below hb4).cell 1 _ rfl;rw[K.out] at h;exact h
   clear hb4
   cases ht:lY x.link
   ·skip
    have R:Hid (df x=10):=by show _=_;rw[HE.out];simp[K.out,ht]
    clear HE
    go_wp2_with fail
    go_ret
    exact⟨aE (by rw[R.out]),B5.out⟩
   ·have HT:=ae ht;clear ht
    by_cases hd0:0<x.data.length
    ·have d1:(0:Int)<(x.data.length:Int):=by omega
     have R:Hid (df x=1):=by show _=_;rw[HE.out];simp[K.out,HT.out,hd0,hdm]
     clear HE
     go_wp2_with fail
     go_ret
     exact⟨aE (by rw[R.out]),B5.out⟩
    ·have d1:¬ (0:Int)<(x.data.length:Int):=by omega
     have R:Hid (df x=0):=by show _=_;rw[HE.out];simp[K.out,HT.out,hd0,hdm]
     clear HE
     go_wp2_with fail
     go_ret
     exact⟨aE (by rw[R.out]),B5.out⟩
  ·go_wp2_with fail
   refine(iH x.link _ (HG.out.below B4.out) (by omega)).mono ?_;rintro e w4 ⟨rfl,hb4⟩
   have B5:Hid (Below w.heap.size w w4):=ap B4.out hb4
   have c0:w4.cell? ⟨w.heap.size,0,none⟩=some (.string x.path):=(B3.out.blk.below hb4).cell 0 _ rfl
   have c8:w4.cell? ⟨w.heap.size,8,none⟩=some (.string x.link):=(B3.out.blk.below hb4).cell 8 _ rfl
   have c9:w4.cell? ⟨w.heap.size,9,none⟩=some (.slice x.da x.data.length x.dc):=(B3.out.blk.below hb4).cell 9 _ rfl
   have c1:w4.cell? ⟨w.heap.size,1,none⟩=some (.int .i64 4):=by have h:=(B3.out.blk.below hb4).cell 1 _ rfl;rw[K.out] at h;exact h
   clear hb4
   cases ht:eh (bl x.link)
   ·skip
    have R:Hid (df x=10):=by show _=_;rw[HE.out];simp[K.out,ht]
    clear HE
    go_wp2_with fail
    go_ret
    exact⟨aE (by rw[R.out]),B5.out⟩
   ·have HT:=ae ht;clear ht
    by_cases hlp:x.link=x.path
    ·have e1:(x.link.toList==x.path.toList)=true:=by rw[hlp];simp
     have HLP:=ae hlp;clear hlp
     have R:Hid (df x=10):=by show _=_;rw[HE.out];simp[K.out,HT.out,HLP.out]
     clear HE
     go_wp2_with fail
     go_ret
     exact⟨aE (by rw[R.out]),B5.out⟩
    ·have e1:(x.link.toList==x.path.toList)=false:=by rw[fi];exact dF hlp
     have HLP:=ae hlp;clear hlp
     by_cases hd0:0<x.data.length
     ·have d1:(0:Int)<(x.data.length:Int):=by omega
      have R:Hid (df x=1):=by show _=_;rw[HE.out];simp[K.out,HT.out,HLP.out,hd0,hdm]
      clear HE
      go_wp2_with fail
      go_ret
      exact⟨aE (by rw[R.out]),B5.out⟩
     ·have d1:¬ (0:Int)<(x.data.length:Int):=by omega
      have R:Hid (df x=0):=by show _=_;rw[HE.out];simp[K.out,HT.out,HLP.out,hd0,hdm]
      clear HE
      go_wp2_with fail
      go_ret
      exact⟨aE (by rw[R.out]),B5.out⟩
 ·have E:Hid (df x=1):=Gw H1.out H2.out h3
  unfold mC at h3
  simp only[Bool.or_eq_true,decide_eq_true_iff] at h3
  have N:=ae h3
  clear h3
  go_wp2_with fail
  all_goals first | (go_ret;exact⟨aE E.out.symm,B1.out.bel⟩) | (exfalso;have:=N.out;omega)
theorem rP {p q:bN}(h:p.gives.length≠q.gives.length∨p.files.length≠q.files.length∨p.scripts.length≠q.scripts.length):gy p q=false:=by
 unfold gy
 rcases h with h | h | h
 ·rw[iT ig _ _ h];simp
 ·rw[iT ii _ _ h];simp
 ·rw[iT dP _ _ h];simp
theorem JF (p q:bN)(w:World)(hp:p.ok w)(hq:q.ok w)(fp:p.fits)(fq:q.fits):
  Calls Tryz.prog 14 #[p.val,q.val] w fun e w'=>e=.returned (.bool (gy p q))∧Below w.heap.size w w':=by
 have HW:Hid (Below w.heap.size w ((w.alloc (.cells #[.string p.nm,.string p.ver,.string p.ar,.string p.sm,.slice p.na p.needs.length p.nc,.slice p.ba p.bars.length p.bc,.slice p.ga p.gives.length p.gc,.slice p.fa p.files.length p.fc,.slice p.sa p.scripts.length p.sc] 27)).alloc (.cells #[.string q.nm,.string q.ver,.string q.ar,.string q.sm,.slice q.na q.needs.length q.nc,.slice q.ba q.bars.length q.bc,.slice q.ga q.gives.length q.gc,.slice q.fa q.files.length q.fc,.slice q.sa q.scripts.length q.sc] 27))):=(bR.alloc lr _).alloc (by simp) _
 have HP:=ae (hp.below HW.out)
 have HQ:=ae (hq.below HW.out)
 have FP:=ae fp;have FQ:=ae fq
 clear hp hq fp fq
 unfold bN.val
 cases h0:(p.nm.toList==q.nm.toList)
 ·have E:Hid (gy p q=false):=by show _=_;simp[gy,iU,h0]
  go_enter Tryz.func14,Tryz.ntmps14
  go_wp2_with fail
  go_ret
  exact⟨af E.out.symm,HW.out⟩
 cases h1:(p.ver.toList==q.ver.toList)
 ·have E:Hid (gy p q=false):=by show _=_;simp[gy,iU,h1]
  go_enter Tryz.func14,Tryz.ntmps14
  go_wp2_with fail
  go_ret
  exact⟨af E.out.symm,HW.out⟩
 cases h2:(p.ar.toList==q.ar.toList)
 ·have E:Hid (gy p q=false):=by show _=_;simp[gy,iU,h2]
  go_enter Tryz.func14,Tryz.ntmps14
  go_wp2_with fail
  go_ret
  exact⟨af E.out.symm,HW.out⟩
 cases h3:(p.sm.toList==q.sm.toList)
 ·have E:Hid (gy p q=false):=by show _=_;simp[gy,iU,h3]
  go_enter Tryz.func14,Tryz.ntmps14
  go_wp2_with fail
  go_ret
  exact⟨af E.out.symm,HW.out⟩
 cases h4:nW iU p.needs q.needs
 ·have E:Hid (gy p q=false):=by show _=_;simp[gy,h4]
  go_enter Tryz.func14,Tryz.ntmps14
  go_wp2_with fail
  refine(bK _ _ _ _ p.needs q.needs _ (by exact HP.out.needs) (by exact HQ.out.needs) FP.out.needs FQ.out.needs).mono ?_;rintro e w1 ⟨rfl,hb1⟩
  have HB1:=ae hb1
  obtain⟨hc1,hf1⟩:=iI HB1.out
  clear hb1
  go_wp2_with fail
  go_ret
  exact⟨af E.out.symm,HW.out.trans (HB1.out.mono (by simp;omega))⟩
 cases h5:nW iU p.bars q.bars
 ·have E:Hid (gy p q=false):=by show _=_;simp[gy,h5]
  go_enter Tryz.func14,Tryz.ntmps14
  go_wp2_with fail
  refine(bK _ _ _ _ p.needs q.needs _ (by exact HP.out.needs) (by exact HQ.out.needs) FP.out.needs FQ.out.needs).mono ?_;rintro e w1 ⟨rfl,hb1⟩
  have HB1:=ae hb1
  obtain⟨hc1,hf1⟩:=iI HB1.out
  clear hb1
  go_wp2_with fail
  refine(bK _ _ _ _ p.bars q.bars _ (by exact(HP.out.bars.below HB1.out)) (by exact(HQ.out.bars.below HB1.out)) FP.out.bars FQ.out.bars).mono ?_;rintro e w2 ⟨rfl,hb2⟩
  have HB2:=ae (ap HB1.out hb2)
  clear hc1 hf1
  obtain⟨hc2,hf2⟩:=iI HB2.out
  clear hb2
  go_wp2_with fail
  go_ret
  exact⟨af E.out.symm,HW.out.trans (HB2.out.mono (by simp;omega))⟩
 by_cases g6:p.gives.length=q.gives.length
 rotate_left
 ·have E:Hid (gy p q=false):=rP (.inl g6)
  have gb6:((p.gives.length:Int) != (q.gives.length:Int))=true:=by simp;omega
  clear g6
  go_enter Tryz.func14,Tryz.ntmps14
  go_wp2_with fail
  refine(bK _ _ _ _ p.needs q.needs _ (by exact HP.out.needs) (by exact HQ.out.needs) FP.out.needs FQ.out.needs).mono ?_;rintro e w1 ⟨rfl,hb1⟩
  have HB1:=ae hb1
  obtain⟨hc1,hf1⟩:=iI HB1.out
  clear hb1
  go_wp2_with fail
  refine(bK _ _ _ _ p.bars q.bars _ (by exact(HP.out.bars.below HB1.out)) (by exact(HQ.out.bars.below HB1.out)) FP.out.bars FQ.out.bars).mono ?_;rintro e w2 ⟨rfl,hb2⟩
  have HB2:=ae (ap HB1.out hb2)
  clear hc1 hf1
  obtain⟨hc2,hf2⟩:=iI HB2.out
  clear hb2
  go_wp2_with fail
  go_ret
  exact⟨af E.out.symm,HW.out.trans (HB2.out.mono (by simp;omega))⟩
 have gb6:((p.gives.length:Int) != (q.gives.length:Int))=false:=by simp[g6]
 have hle6:p.gives.length≤q.gives.length:=by omega
 have hlm6:=FP.out.gives
 have G6:=ae g6;clear g6
 by_cases g7:p.files.length=q.files.length
 rotate_left
 ·have E:Hid (gy p q=false):=rP (.inr (.inl g7))
  have gb7:((p.files.length:Int) != (q.files.length:Int))=true:=by simp;omega
  clear g7
  go_enter Tryz.func14,Tryz.ntmps14
  go_wp2_with fail
  refine(bK _ _ _ _ p.needs q.needs _ (by exact HP.out.needs) (by exact HQ.out.needs) FP.out.needs FQ.out.needs).mono ?_;rintro e w1 ⟨rfl,hb1⟩
  have HB1:=ae hb1
  obtain⟨hc1,hf1⟩:=iI HB1.out
  clear hb1
  go_wp2_with fail
  refine(bK _ _ _ _ p.bars q.bars _ (by exact(HP.out.bars.below HB1.out)) (by exact(HQ.out.bars.below HB1.out)) FP.out.bars FQ.out.bars).mono ?_;rintro e w2 ⟨rfl,hb2⟩
  have HB2:=ae (ap HB1.out hb2)
  clear hc1 hf1
  obtain⟨hc2,hf2⟩:=iI HB2.out
  clear hb2
  go_wp2_with fail
  go_ret
  exact⟨af E.out.symm,HW.out.trans (HB2.out.mono (by simp;omega))⟩
 have gb7:((p.files.length:Int) != (q.files.length:Int))=false:=by simp[g7]
 have hle7:p.files.length≤q.files.length:=by omega
 have hlm7:=FP.out.files
 have G7:=ae g7;clear g7
 by_cases g8:p.scripts.length=q.scripts.length
 rotate_left
 ·have E:Hid (gy p q=false):=rP (.inr (.inr g8))
  have gb8:((p.scripts.length:Int) != (q.scripts.length:Int))=true:=by simp;omega
  clear g8
  go_enter Tryz.func14,Tryz.ntmps14
  go_wp2_with fail
  refine(bK _ _ _ _ p.needs q.needs _ (by exact HP.out.needs) (by exact HQ.out.needs) FP.out.needs FQ.out.needs).mono ?_;rintro e w1 ⟨rfl,hb1⟩
  have HB1:=ae hb1
  obtain⟨hc1,hf1⟩:=iI HB1.out
  clear hb1
  go_wp2_with fail
  refine(bK _ _ _ _ p.bars q.bars _ (by exact(HP.out.bars.below HB1.out)) (by exact(HQ.out.bars.below HB1.out)) FP.out.bars FQ.out.bars).mono ?_;rintro e w2 ⟨rfl,hb2⟩
  have HB2:=ae (ap HB1.out hb2)
  clear hc1 hf1
  obtain⟨hc2,hf2⟩:=iI HB2.out
  clear hb2
  go_wp2_with fail
  go_ret
  exact⟨af E.out.symm,HW.out.trans (HB2.out.mono (by simp;omega))⟩
 have gb8:((p.scripts.length:Int) != (q.scripts.length:Int))=false:=by simp[g8]
 have hle8:p.scripts.length≤q.scripts.length:=by omega
 have hlm8:=FP.out.scripts
 have G8:=ae g8;clear g8
 have HS:Hid (iU p.nm q.nm=true∧iU p.ver q.ver=true∧iU p.ar q.ar=true∧iU p.sm q.sm=true∧nW iU p.needs q.needs=true∧nW iU p.bars q.bars=true):=⟨h0,h1,h2,h3,h4,h5⟩
 go_enter Tryz.func14,Tryz.ntmps14
 go_wp2_with fail
 refine(bK _ _ _ _ p.needs q.needs _ (by exact HP.out.needs) (by exact HQ.out.needs) FP.out.needs FQ.out.needs).mono ?_;rintro e w1 ⟨rfl,hb1⟩
 have HB1:=ae hb1
 obtain⟨hc1,hf1⟩:=iI HB1.out
 clear hb1
 go_wp2_with fail
 refine(bK _ _ _ _ p.bars q.bars _ (by exact(HP.out.bars.below HB1.out)) (by exact(HQ.out.bars.below HB1.out)) FP.out.bars FQ.out.bars).mono ?_;rintro e w2 ⟨rfl,hb2⟩
 have HB2:=ae (ap HB1.out hb2)
 clear hc1 hf1
 obtain⟨hc2,hf2⟩:=iI HB2.out
 clear hb2
 go_wp2_with fail
 go_loopw [5] (fun i wr=>∃ (k z:Nat),k≤p.gives.length∧i=.int .i64 k∧wr=w2.drewN z∧Hid (∀ (i:Nat)(x y:cM),i<k→p.gives[i]?=some x→q.gives[i]?=some y→ig x y=true)) (fun i _=>p.gives.length-(intOf i).toNat)
 case atStart=>exact⟨0,0,z0,rfl,rfl,fun i x y h=>absurd h (Nat.not_lt_zero _)⟩
 case round=>
  obtain⟨k,z,hk,rfl,rfl,HK6⟩:=hrel
  by_cases hlt:k<p.gives.length
  ·obtain⟨x,hx⟩:∃ x,p.gives[k]?=some x:=⟨_,gG hlt⟩
   have hlt2:k<q.gives.length:=by omega
   obtain⟨y,hy⟩:∃ y,q.gives[k]?=some y:=⟨_,gG hlt2⟩
   obtain⟨b,off,hA,he⟩:=(HP.out.gives.below HB2.out).elem ng k x hx
   obtain⟨b',off',hA',he'⟩:=(HQ.out.gives.below HB2.out).elem ng k y hy
   have e0:=he 0 _ rfl;have f0:=he' 0 _ rfl
   have e1:=he 1 _ rfl;have f1:=he' 1 _ rfl
   have e2:=he 2 _ rfl;have f2:=he' 2 _ rfl
   simp only[Nat.add_zero] at e0 f0
   clear he he'
   have hix:=fun W=>aH (T:=23) (E:=81) (sz:=3) (c:=p.gc) Tryz.underlying23 rfl Tryz.sizeOf81 hA hlt W
   have hix':=fun W=>aH (T:=23) (E:=81) (sz:=3) (c:=q.gc) Tryz.underlying23 rfl Tryz.sizeOf81 hA' hlt2 W
   have bx:=hc2 w.heap.size 6 (by simp;omega)
   have by_:=hc2 (w.heap.size+1) 6 (by simp)
   clear hc2 hf2
   have HX:=ae hx;have HY:=ae hy
   clear hx hy hA hA'
   have hne:=G9 x y
   cases hxy:ig x y
   ·have E:Hid (gy p q=false):=by show _=_;unfold gy;rw[nX ig p.gives q.gives k x y HX.out HY.out hxy];simp
    go_wp2_with fail
    go_quiet (fail)
    go_wp2_with fail
    go_ret
    exact⟨af E.out.symm,aq (aq (HW.out.trans (HB2.out.mono (by simp;omega))) _) _⟩
   ·go_wp2_with fail
    go_quiet (fail)
    go_wp2_with fail
    have FK:Hid (∀ (i:Nat)(x y:cM),i<k+1→p.gives[i]?=some x→q.gives[i]?=some y→ig x y=true):=by
     intro i x' y' hi hx' hy'
     rcases Nat.lt_succ_iff_lt_or_eq.1 hi with h | h
     ·exact HK6.out i x' y' h hx' hy'
     ·subst h;rw[HX.out] at hx';rw[HY.out] at hy';injection hx' with hx';injection hy' with hy';subst hx' hy';exact hxy
    go_roundw
    case rel=>exact⟨k+1,_,by omega,by go_num,rfl,FK⟩
    case measure=>simp[intOf];omega
  ·have Q6:Hid (nW ig p.gives q.gives=true):=kZ ig p.gives q.gives G6.out (fun i x y hx hy=>HK6.out i x y (by have:=(gS hx).1;omega) hx hy)
   go_wp2_with fail
   go_loopw [6] (fun i wr=>∃ (k z:Nat),k≤p.files.length∧i=.int .i64 k∧wr=w2.drewN z∧Hid (∀ (i:Nat)(x y:ax),i<k→p.files[i]?=some x→q.files[i]?=some y→ii x y=true)) (fun i _=>p.files.length-(intOf i).toNat)
   case atStart=>exact⟨0,_,z0,rfl,rfl,fun i x y h=>absurd h (Nat.not_lt_zero _)⟩
   case round=>
    obtain⟨k,z,hk,rfl,rfl,HK7⟩:=hrel
    by_cases hlt:k<p.files.length
    ·obtain⟨x,hx⟩:∃ x,p.files[k]?=some x:=⟨_,gG hlt⟩
     have hlt2:k<q.files.length:=by omega
     obtain⟨y,hy⟩:∃ y,q.files[k]?=some y:=⟨_,gG hlt2⟩
     obtain⟨b,off,hA,he⟩:=(HP.out.files.below HB2.out).elem gL k x hx
     obtain⟨b',off',hA',he'⟩:=(HQ.out.files.below HB2.out).elem gL k y hy
     have e0:=he 0 _ rfl;have f0:=he' 0 _ rfl
     have e1:=he 1 _ rfl;have f1:=he' 1 _ rfl
     have e2:=he 2 _ rfl;have f2:=he' 2 _ rfl
     have e3:=he 3 _ rfl;have f3:=he' 3 _ rfl
     have e4:=he 4 _ rfl;have f4:=he' 4 _ rfl
     have e5:=he 5 _ rfl;have f5:=he' 5 _ rfl
     have e6:=he 6 _ rfl;have f6:=he' 6 _ rfl
     have e7:=he 7 _ rfl;have f7:=he' 7 _ rfl
     simp only[Nat.add_zero] at e0 f0
     clear he he'
     have hix:=fun W=>aH (T:=24) (E:=56) (sz:=8) (c:=p.fc) Tryz.underlying24 rfl Tryz.sizeOf56 hA hlt W
     have hix':=fun W=>aH (T:=24) (E:=56) (sz:=8) (c:=q.fc) Tryz.underlying24 rfl Tryz.sizeOf56 hA' hlt2 W
     have bx:=hc2 w.heap.size 7 (by simp;omega)
     have by_:=hc2 (w.heap.size+1) 7 (by simp)
     clear hc2 hf2
     have HX:=ae hx;have HY:=ae hy
     clear hx hy hA hA'
     have hne:=Ha x y
     cases hxy:ii x y
     ·have E:Hid (gy p q=false):=by show _=_;unfold gy;rw[nX ii p.files q.files k x y HX.out HY.out hxy];simp
      go_wp2_with fail
      go_quiet (fail)
      go_wp2_with fail
      go_ret
      exact⟨af E.out.symm,aq (aq (HW.out.trans (HB2.out.mono (by simp;omega))) _) _⟩
     ·go_wp2_with fail
      go_quiet (fail)
      go_wp2_with fail
      have FK:Hid (∀ (i:Nat)(x y:ax),i<k+1→p.files[i]?=some x→q.files[i]?=some y→ii x y=true):=by
       intro i x' y' hi hx' hy'
       rcases Nat.lt_succ_iff_lt_or_eq.1 hi with h | h
       ·exact HK7.out i x' y' h hx' hy'
       ·subst h;rw[HX.out] at hx';rw[HY.out] at hy';injection hx' with hx';injection hy' with hy';subst hx' hy';exact hxy
      go_roundw
      case rel=>exact⟨k+1,_,by omega,by go_num,rfl,FK⟩
      case measure=>simp[intOf];omega
    ·have Q7:Hid (nW ii p.files q.files=true):=kZ ii p.files q.files G7.out (fun i x y hx hy=>HK7.out i x y (by have:=(gS hx).1;omega) hx hy)
     go_wp2_with fail
     go_loopw [7] (fun i wr=>∃ (k z:Nat),k≤p.scripts.length∧i=.int .i64 k∧wr=w2.drewN z∧Hid (∀ (i:Nat)(x y:aT),i<k→p.scripts[i]?=some x→q.scripts[i]?=some y→dP x y=true)) (fun i _=>p.scripts.length-(intOf i).toNat)
     case atStart=>exact⟨0,_,z0,rfl,rfl,fun i x y h=>absurd h (Nat.not_lt_zero _)⟩
     case round=>
      obtain⟨k,z,hk,rfl,rfl,HK8⟩:=hrel
      by_cases hlt:k<p.scripts.length
      ·obtain⟨x,hx⟩:∃ x,p.scripts[k]?=some x:=⟨_,gG hlt⟩
       have hlt2:k<q.scripts.length:=by omega
       obtain⟨y,hy⟩:∃ y,q.scripts[k]?=some y:=⟨_,gG hlt2⟩
       obtain⟨b,off,hA,he⟩:=(HP.out.scripts.below HB2.out).elem gp k x hx
       obtain⟨b',off',hA',he'⟩:=(HQ.out.scripts.below HB2.out).elem gp k y hy
       have e0:=he 0 _ rfl;have f0:=he' 0 _ rfl
       have e1:=he 1 _ rfl;have f1:=he' 1 _ rfl
       simp only[Nat.add_zero] at e0 f0
       clear he he'
       have hix:=fun W=>aH (T:=25) (E:=44) (sz:=2) (c:=p.sc) Tryz.underlying25 rfl Tryz.sizeOf44 hA hlt W
       have hix':=fun W=>aH (T:=25) (E:=44) (sz:=2) (c:=q.sc) Tryz.underlying25 rfl Tryz.sizeOf44 hA' hlt2 W
       have bx:=hc2 w.heap.size 8 (by simp;omega)
       have by_:=hc2 (w.heap.size+1) 8 (by simp)
       clear hc2 hf2
       have HX:=ae hx;have HY:=ae hy
       clear hx hy hA hA'
       have hne:=AG x y
       cases hxy:dP x y
       ·have E:Hid (gy p q=false):=by show _=_;unfold gy;rw[nX dP p.scripts q.scripts k x y HX.out HY.out hxy];simp
        go_wp2_with fail
        go_quiet (fail)
        go_wp2_with fail
        go_ret
        exact⟨af E.out.symm,aq (aq (HW.out.trans (HB2.out.mono (by simp;omega))) _) _⟩
       ·go_wp2_with fail
        go_quiet (fail)
        go_wp2_with fail
        have FK:Hid (∀ (i:Nat)(x y:aT),i<k+1→p.scripts[i]?=some x→q.scripts[i]?=some y→dP x y=true):=by
         intro i x' y' hi hx' hy'
         rcases Nat.lt_succ_iff_lt_or_eq.1 hi with h | h
         ·exact HK8.out i x' y' h hx' hy'
         ·subst h;rw[HX.out] at hx';rw[HY.out] at hy';injection hx' with hx';injection hy' with hy';subst hx' hy';exact hxy
        go_roundw
        case rel=>exact⟨k+1,_,by omega,by go_num,rfl,FK⟩
        case measure=>simp[intOf];omega
      ·have Q8:Hid (nW dP p.scripts q.scripts=true):=kZ dP p.scripts q.scripts G8.out (fun i x y hx hy=>HK8.out i x y (by have:=(gS hx).1;omega) hx hy)
       go_wp2_with fail
       go_ret
       obtain⟨s0,s1,s2,s3,s4,s5⟩:=HS.out
       exact⟨af (uV s0 s1 s2 s3 s4 s5 Q6.out Q7.out Q8.out).symm,aq (HW.out.trans (HB2.out.mono (by simp;omega))) _⟩
def sH (fmt:Int)(l:LU):Bool:=if fmt=1 then dX l else if fmt=2 then di l else cR l
theorem qe (fmt:Int)(s:BA)(w:World)(hs:s.size≤9223372036854775807):
  Calls Tryz.prog 85 #[.int .i64 fmt,.string s] w fun e w'=>e=.returned (.bool (sH fmt (bl s)))∧w=w':=by
 by_cases h1:fmt=1
 ·subst h1
  have E:Hid (sH 1 (bl s)=dX (bl s)):=rfl
  go_enter Tryz.func85,Tryz.ntmps85
  go_wp2_with fail
  refine(lD s _ hs).mono ?_;rintro e w' ⟨rfl,rfl⟩
  go_wp2_with fail
  go_ret
  exact⟨af E.out.symm,rfl⟩
 have g1:(fmt==1)=false:=by simpa using h1
 by_cases h2:fmt=2
 ·subst h2
  have E:Hid (sH 2 (bl s)=di (bl s)):=rfl
  clear h1 g1
  go_enter Tryz.func85,Tryz.ntmps85
  go_wp2_with fail
  refine(lK s _ hs).mono ?_;rintro e w' ⟨rfl,rfl⟩
  go_wp2_with fail
  go_ret
  exact⟨af E.out.symm,rfl⟩
 have g2:(fmt==2)=false:=by simpa using h2
 have E:Hid (sH fmt (bl s)=cR (bl s)):=by show _=_;unfold sH;rw[if_neg h1,if_neg h2]
 clear h1 h2
 go_enter Tryz.func85,Tryz.ntmps85
 go_wp2_with fail
 refine(oF s _ hs).mono ?_;rintro e w' ⟨rfl,rfl⟩
 go_wp2_with fail
 go_ret
 exact⟨af E.out.symm,rfl⟩
def lk (fmt:Int)(x:cM):Bool:=sH fmt (bl x.nm)&&(if x.op=0 then decide (x.ver.size=0) else decide (x.op=3)&&decide (cJ fmt x.ver=0))
def kw (fmt:Int)(l:List cM):Bool:=decide (l.length≤32)&&l.all (lk fmt)
theorem yW {fmt:Int}{l:List cM}(h:32<l.length):kw fmt l=false:=by
 unfold kw;rw[dF];rfl
theorem EK {fmt:Int}{l:List cM}{x:cM}(h:x∈l)(hx:lk fmt x=false):kw fmt l=false:=by
 unfold kw
 have:l.all (lk fmt)=false:=by rw[List.all_eq_false];exact⟨x,h,by rw[hx];simp⟩
 rw[this];simp
theorem Bi {fmt:Int}{l:List cM}(h:¬ 32<l.length)(hx:∀ (j:Nat) x,l[j]?=some x→lk fmt x=true):kw fmt l=true:=by
 unfold kw
 have:l.all (lk fmt)=true:=by rw[List.all_eq_true];intro x hm;obtain⟨j,hj⟩:=List.getElem?_of_mem hm;exact hx j x hj
 rw[this,dT];rfl
theorem oY (fmt:Int)(A:OA)(c:Nat)(l:List cM)(w:World)(hG:Gl w)(hr:Rd w 3 A l.length (l.flatMap cM.cells))(hn:l.length≤9223372036854775807)(hf:∀ x∈l,x.nm.size≤4294967280∧x.ver.size≤4294967280):
  Calls Tryz.prog 48 #[.int .i64 fmt,.slice A l.length c] w fun e w'=>e=.returned (.bool (kw fmt l))∧Below w.heap.size w w':=by
 have HG:=ae hG;have HR:=ae hr;have HF:=ae hf
 clear hG hr hf
 by_cases h32:32<l.length
 ·have E:=ae (yW (fmt:=fmt) h32)
  go_enter Tryz.func48,Tryz.ntmps48
  go_wp2_with fail
  go_ret
  exact⟨af E.out.symm,bR⟩
 go_enter Tryz.func48,Tryz.ntmps48
 go_wp2_with fail
 go_loopw [12] (fun i wr=>∃ k:Nat,k≤l.length∧i=.int .i64 k∧Hid (Below w.heap.size w wr)∧Hid (∀ (j:Nat) x,j<k→l[j]?=some x→lk fmt x=true)) (fun i _=>l.length-(intOf i).toNat)
 case atStart=>exact⟨0,z0,rfl,bR,fun j x h=>absurd h (Nat.not_lt_zero _)⟩
 case round=>
  obtain⟨k,hk,rfl,HB,HA⟩:=hrel
  by_cases hlt:k<l.length
  ·obtain⟨x,hx⟩:∃ x,l[k]?=some x:=⟨_,gG hlt⟩
   obtain⟨b,off,hA,he⟩:=(HR.out.below HB.out).elem ng k x hx
   have e0:=he 0 _ rfl
   have e1:=he 1 _ rfl
   have e2:=he 2 _ rfl
   simp only[Nat.add_zero] at e0
   have hix:=fun W=>aH (T:=23) (E:=81) (sz:=3) (c:=c) Tryz.underlying23 rfl Tryz.sizeOf81 hA hlt W
   obtain⟨z1,z2⟩:=HF.out x (gM hx)
   have BAD:=ae (fun h=>EK (fmt:=fmt) (gM hx) h)
   have GOOD:Hid (lk fmt x=true→∀ (j:Nat) y,j<k+1→l[j]?=some y→lk fmt y=true):=by
    intro h j y hj hy
    by_cases e:j=k
    ·subst e;rw[hx] at hy;injection hy with hy;rw[←hy];exact h
    ·exact HA.out j y (by omega) hy
   clear hx he hA
   have hN:=fun W=>qe fmt x.nm W (by omega)
   have B1:Hid (Below w.heap.size w (wr.alloc (.cells #[.string x.nm,.int .i64 x.op,.string x.ver] 81))):=HB.out.alloc HB.out.size _
   cases hnm:sH fmt (bl x.nm) with
   | false=>
    have E:=ae (BAD.out (by unfold lk;rw[hnm];rfl))
    rw[hnm] at hN
    clear hnm
    go_wp2_with fail
    refine(hN _).mono ?_;rintro e w' ⟨rfl,rfl⟩
    go_wp2_with fail
    go_ret
    exact⟨af E.out.symm,B1.out⟩
   | true=>
    rw[hnm] at hN
    have GB:Hid (lk fmt x=if x.op=0 then decide (x.ver.size=0) else decide (x.op=3)&&decide (cJ fmt x.ver=0)):=by show _=_;unfold lk;rw[hnm];rfl
    clear hnm
    by_cases o0:x.op=0
    ·have q0:(x.op==0)=true:=by simpa using o0
     by_cases hv:x.ver.size=0
     ·have hv1:x.ver.toList=[]:=by rw[ai,bL _ hv]
      have hv2:x.ver.toList.isEmpty=true:=by rw[hv1];rfl
      have G:=ae (GOOD.out (by rw[GB.out,if_pos o0,dT hv]))
      clear o0 hv
      go_wp2_with fail
      refine(hN _).mono ?_;rintro e w' ⟨rfl,rfl⟩
      go_wp2_with fail
      go_roundw
      case rel=>exact⟨k+1,by omega,by go_num,B1,G⟩
      case measure=>simp[intOf];omega
     ·have hv2:x.ver.toList.isEmpty=false:=by rw[ai,aY];exact dF hv
      have hv1:¬ x.ver.toList=[]:=by intro h;rw[h] at hv2;simp at hv2
      have E:=ae (BAD.out (by rw[GB.out,if_pos o0,dF hv]))
      clear o0 hv
      go_wp2_with fail
      refine(hN _).mono ?_;rintro e w' ⟨rfl,rfl⟩
      go_wp2_with fail
      go_ret
      exact⟨af E.out.symm,B1.out⟩
    have q0:(x.op==0)=false:=by simpa using o0
    by_cases o3:x.op=3
    ·have q3:(x.op==3)=true:=by simpa using o3
     by_cases hv:cJ fmt x.ver=0
     ·have hv2:(cJ fmt x.ver != 0)=false:=by simp[hv]
      have G:=ae (GOOD.out (by rw[GB.out,if_neg o0,dT o3,dT hv];rfl))
      clear o0 o3 hv
      go_wp2_with fail
      refine(hN _).mono ?_;rintro e w' ⟨rfl,rfl⟩
      go_wp2_with fail
      refine(aU fmt x.ver _ (HG.out.below B1.out) (by omega)).mono ?_;rintro e w1 ⟨rfl,hb1⟩
      have B2:Hid (Below w.heap.size w w1):=ap B1.out hb1
      clear hb1
      go_wp2_with fail
      go_roundw
      case rel=>exact⟨k+1,by omega,by go_num,B2,G⟩
      case measure=>simp[intOf];omega
     ·have hv2:(cJ fmt x.ver != 0)=true:=by simp[hv]
      have E:=ae (BAD.out (by rw[GB.out,if_neg o0,dT o3,dF hv];rfl))
      clear o0 o3 hv
      go_wp2_with fail
      refine(hN _).mono ?_;rintro e w' ⟨rfl,rfl⟩
      go_wp2_with fail
      refine(aU fmt x.ver _ (HG.out.below B1.out) (by omega)).mono ?_;rintro e w1 ⟨rfl,hb1⟩
      have B2:Hid (Below w.heap.size w w1):=ap B1.out hb1
      clear hb1
      go_wp2_with fail
      go_ret
      exact⟨af E.out.symm,B2.out⟩
    ·have q3:(x.op==3)=false:=by simpa using o3
     have E:=ae (BAD.out (by rw[GB.out,if_neg o0,dF o3];rfl))
     clear o0 o3
     go_wp2_with fail
     refine(hN _).mono ?_;rintro e w' ⟨rfl,rfl⟩
     go_wp2_with fail
     go_ret
     exact⟨af E.out.symm,B1.out⟩
  ·have E:=ae (Bi (fmt:=fmt) h32 (fun j x hj=>HA.out j x (by have:=(gS hj).1;omega) hj))
   go_wp2_with fail
   go_ret
   exact⟨af E.out.symm,HB.out⟩
end
section
open Go.RowKit Go.Maps
def LR (x:am):Value:=.agg #[.int .i64 x.mode,.int .i64 x.uid,.int .i64 x.gid,.string x.owner,.string x.group,.int .i64 x.mtime]
theorem sV (x:am)(w:World):Calls Tryz.prog 74 #[x.val] w fun e w'=>e=.returned (LR x)∧Below w.heap.size w w':=by
 unfold am.val
 go_enter Tryz.func74,Tryz.ntmps74
 go_wp2_with fail
 refine bodyPost_ret (v:=LR x) (by simp[results,Tryz.results74,go_sem,LR]) rfl ⟨rfl,?_⟩
 exact(bR.alloc lr _).alloc (by simp) _
theorem BG (x y:am)(w:World):(binOp .neq 115 (.agg #[.int .i64 x.mode,.int .i64 x.uid,.int .i64 x.gid,.string x.owner,.string x.group,.int .i64 x.mtime]) (.agg #[.int .i64 y.mode,.int .i64 y.uid,.int .i64 y.gid,.string y.owner,.string y.group,.int .i64 y.mtime])).run Tryz.prog w=.ok (.bool (!Ge x y)) w:=by
 go_simp
 unfold Ge
 (repeat' split)<;>simp_all
theorem JY {pre:List am}{x:am}(h:df x≠0):kI pre x=df x:=by unfold kI;rw[if_pos h]
theorem Fo {pre:List am}{x y:am}(h:df x=0)(h2:dm pre x.path=some y):kI pre x=8:=by unfold kI;rw[if_neg (by simp[h]),if_pos (by rw[h2];rfl)]
theorem sW {pre:List am}{x:am}(h:df x=0)(h2:dm pre x.path=none)(h3:x.kind=4)(h4:fv pre x≠0):kI pre x=fv pre x:=by
 unfold kI;rw[if_neg (by simp[h]),if_neg (by rw[h2];simp),if_pos ⟨h3,h4⟩]
theorem LS {pre:List am}{x y:am}{s:BA}(h:df x=0)(h2:dm pre x.path=none)(h3:x.kind=4→fv pre x=0)(hs:s∈be x.path)(hy:dm pre s=some y)(hk:y.kind≠2):kI pre x=9:=by
 unfold kI;rw[if_neg (by simp[h]),if_neg (by rw[h2];simp),if_neg (fun e=>e.2 (h3 e.1)),if_pos (List.any_eq_true.2 ⟨s,hs,by rw[hy];simpa using hk⟩)]
theorem Fp {pre:List am}{x:am}(h:df x=0)(h2:dm pre x.path=none)(h3:x.kind=4→fv pre x=0)(hk:x.kind≠2)(ha:kQ pre x.path=true):kI pre x=9:=by
 unfold kI;rw[if_neg (by simp[h]),if_neg (by rw[h2];simp),if_neg (fun e=>e.2 (h3 e.1))]
 split
 ·rfl
 ·rw[if_pos ⟨hk,ha⟩]
theorem zp {pre:List am}{x:am}(h:df x=0)(h2:dm pre x.path=none)(h3:x.kind=4→fv pre x=0)(h4:∀ s∈be x.path,∀ y,dm pre s=some y→y.kind=2)(h5:x.kind=2∨kQ pre x.path=false):kI pre x=0:=by
 refine LQ h h2 h3 h4 fun hk y hy hm=>?_
 rcases h5 with h5 | h5
 ·exact hk h5
 ·unfold kQ at h5
  rw[List.any_eq_false] at h5
  exact h5 y hy (qI.2 hm)
theorem pf {x:am}(h:df x=0):x.path.size≤200:=by
 unfold df at h
 split at h
 ·simp at h
 ·rename_i hp
  have:eh (bl x.path)=true:=by simpa using hp
  unfold eh at this
  rw[Bool.and_eq_true,Bool.and_eq_true,Bool.and_eq_true] at this
  have:=dO this.1.1.2
  rw[ah] at this;exact this
theorem jf {α:Type}{l:List α}{k:Nat}{x:α}(h:l[k]?=some x):l.take (k+1)=l.take k++[x]:=by
 obtain⟨hk,hx⟩:=gS h
 rw[tS hk,hx]
theorem iL.look0 {w:World}{c m1 m2 n2:Nat}{v:Value}{l:List am}{ps:List BA}(h:iL w c m1 m2 n2 v l ps)(s:BA)(hs:s.size≤maxLen):
  (Instr.lookup 104 (.map (some m1)) (.string s) true).run Tryz.prog w=.ok (.tuple #[.int .i64 ((cL l s).getD 0:Nat),.bool (cL l s).isSome]) w:=h.look1 s hs 0
theorem CI (x:am)(w:World):Calls Tryz.prog 74 #[.agg #[.string x.path,.int .i64 x.kind,.int .i64 x.mode,.int .i64 x.uid,.int .i64 x.gid,.string x.owner,.string x.group,.int .i64 x.mtime,.string x.link,.slice x.da x.data.length x.dc]] w fun e w'=>e=.returned (.agg #[.int .i64 x.mode,.int .i64 x.uid,.int .i64 x.gid,.string x.owner,.string x.group,.int .i64 x.mtime])∧Below w.heap.size w w':=sV x w
theorem zq (A:OA)(cap:Nat)(l pre:List am)(c m1 m2 n2:Nat)(x:am)(w:World)(hG:Gl w)(hE:fL w A l)(hC:iL w c m1 m2 n2 (.slice A l.length cap) pre [])
  (hp:∀ (i:Nat)(y:am),pre[i]?=some y→l[i]?=some y)(hs:x.small)(hl:l.length≤100000):
  Calls Tryz.prog 76 #[.pointer (some ⟨c,0,none⟩),x.val] w fun e w'=>e=.returned (.int .i64 (kI pre x))∧Below w.heap.size w w':=by
 have HG:=ae hG
 have HE:=ae hE
 have HC:=ae hC
 have HP:=ae hp
 have HS:=ae hs
 clear hG hE hC hp hs
 obtain⟨W0,hW0⟩:∃ W0,w.alloc (.cells #[.string x.path,.int .i64 x.kind,.int .i64 x.mode,.int .i64 x.uid,.int .i64 x.gid,.string x.owner,.string x.group,.int .i64 x.mtime,.string x.link,.slice x.da x.data.length x.dc] 35)=W0:=⟨_,rfl⟩
 have B0:Hid (EB w W0 x):=by show EB _ _ _;rw[←hW0];exact EB.start w x
 have C0:Hid (iL W0 c m1 m2 n2 (.slice A l.length cap) pre []):=HC.out.below (by have:=B0.out.bel;exact this)
 have c0:=B0.out.blk.cell 0 _ rfl
 have c1:=B0.out.blk.cell 1 _ rfl
 have c2:=B0.out.blk.cell 2 _ rfl
 have c3:=B0.out.blk.cell 3 _ rfl
 have c4:=B0.out.blk.cell 4 _ rfl
 have c5:=B0.out.blk.cell 5 _ rfl
 have c6:=B0.out.blk.cell 6 _ rfl
 have c7:=B0.out.blk.cell 7 _ rfl
 have c8:=B0.out.blk.cell 8 _ rfl
 have c9:=B0.out.blk.cell 9 _ rfl
 unfold am.val
 go_enter Tryz.func76,Tryz.ntmps76
 go_wp2_with fail
 clear hW0 c0 c1 c2 c3 c4 c5 c6 c7 c8 c9
 have CK:=xQ x W0 (HG.out.below B0.out.bel) HS.out
 unfold am.val at CK
 refine CK.mono ?_;rintro e w1 ⟨rfl,hb1⟩
 have B1:=ae (B0.out.step hb1)
 have C1:=ae (C0.out.below hb1)
 clear hb1 CK B0 C0
 by_cases he:df x=0
 case neg=>
  have q:(df x != 0)=true:=by simpa using he
  have R:Hid (kI pre x=df x):=JY he
  clear he
  go_wp2_with fail
  go_ret
  exact⟨aE R.out.symm,B1.out.bel⟩
 rw[he]
 have Z:=ae he;clear he
 have hps:x.path.size≤maxLen:=by have:=HS.out.path;unfold maxLen;omega
 have hls:x.link.size≤maxLen:=by have:=HS.out.link;unfold maxLen;omega
 have c0:=B1.out.blk.cell 0 _ rfl
 have k1:=C1.out.blk.cell 1 _ rfl
 have q1:=C1.out.look1 x.path hps
 rcases iK pre x.path with⟨p1,p2⟩ | ⟨i,y,p1,p2,p3,p4⟩
 case inr=>
  rw[p1] at q1
  simp only[Option.getD_some,Option.isSome_some] at q1
  have R:Hid (kI pre x=8):=Fo Z.out p3
  clear p1 p2 p3 p4
  go_wp2_with fail
  go_quiet (fail)
  go_wp2_with fail
  go_ret
  exact⟨aE R.out.symm,aq B1.out.bel _⟩
 rw[p1] at q1
 simp only[Option.getD_none,Option.isSome_none] at q1
 have P:=ae p2;clear p1 p2
 go_wp2_with fail
 go_quiet (fail)
 have c1:=B1.out.blk.cell 1 _ rfl
 go_upto_if 34 with(fail)
 clear c0 c1 k1 q1
 have HB:=fun n=>(show Below w1.heap.size w1 (w1.drewN n) from⟨rfl,rfl,rfl,lr,fun _ _=>rfl⟩)
 generalize hW:w1.drewN _=w2
 have B2:Hid (EB w w2 x):=by show EB _ _ _;rw[←hW];exact B1.out.step (HB _)
 have C2:Hid (iL w2 c m1 m2 n2 (.slice A l.length cap) pre []):=by show iL _ _ _ _ _ _ _ _;rw[←hW];exact C1.out.below (HB _)
 clear hW HB B1 C1
 go_cut [] (fun wx=>Hid (EB w wx x)∧Hid (iL wx c m1 m2 n2 (.slice A l.length cap) pre [])∧Hid (x.kind=4→fv pre x=0))
 case first=>
  have c1:=B2.out.blk.cell 1 _ rfl
  by_cases hk:x.kind=4
  case neg=>
   have q:(x.kind==4)=false:=by simpa using hk
   have K:=ae hk;clear hk
   go_wp2_with fail
   go_meet
   exact⟨B2,C2,fun h=>absurd h K.out⟩
  have q:(x.kind==4)=true:=by simpa using hk
  have K:=ae hk;clear hk
  have c8:=B2.out.blk.cell 8 _ rfl
  have k0:=C2.out.blk.cell 0 _ rfl
  have k1:=C2.out.blk.cell 1 _ rfl
  have q1:=C2.out.look1 x.link hls
  rcases iK pre x.link with⟨p1,p2⟩ | ⟨i,y,p1,p2,p3,p4⟩
  case inl=>
   rw[p1] at q1
   simp only[Option.getD_none,Option.isSome_none] at q1
   have H:fv pre x=15:=by unfold fv;rw[p2]
   have R:Hid (kI pre x=15):=by show _=_;rw[sW Z.out P.out K.out (by rw[H];decide),H]
   clear p1 p2 H
   go_wp2_with fail
   go_quiet (fail)
   go_wp2_with fail
   go_ret
   exact⟨aE R.out.symm,aq B2.out.bel _⟩
  rw[p1] at q1
  simp only[Option.getD_some,Option.isSome_some] at q1
  obtain⟨b,off,hA,hel⟩:=((HE.out.below B2.out.bel).row).elem bP i y (HP.out i y p2)
  have hi:i<l.length:=(gS (HP.out i y p2)).1
  have hix:=fun W=>aH (T:=28) (E:=35) (sz:=10) (c:=cap) Tryz.underlying28 rfl Tryz.sizeOf35 hA hi W
  have e0:=hel 0 _ rfl
  have e1:=hel 1 _ rfl
  have e2:=hel 2 _ rfl
  have e3:=hel 3 _ rfl
  have e4:=hel 4 _ rfl
  have e5:=hel 5 _ rfl
  have e6:=hel 6 _ rfl
  have e7:=hel 7 _ rfl
  have e8:=hel 8 _ rfl
  have e9:=hel 9 _ rfl
  simp only[Nat.add_zero] at e0
  have F:=ae p3
  clear p1 p2 p3 p4 hA hel
  by_cases hy:y.kind=1
  case neg=>
   have q2:(y.kind != 1)=true:=by simpa using hy
   have H:fv pre x=15:=by unfold fv;rw[F.out];simp[hy]
   have R:Hid (kI pre x=15):=by show _=_;rw[sW Z.out P.out K.out (by rw[H];decide),H]
   clear H hy
   go_wp2_with fail
   go_quiet (fail)
   go_wp2_with fail
   go_ret
   exact⟨aE R.out.symm,aq B2.out.bel _⟩
  have q2:(y.kind != 1)=false:=by simp[hy]
  have Y:=ae hy;clear hy
  go_wp2_with fail
  go_quiet (fail)
  go_wp2_with fail
  have HB:=fun n=>(show Below w2.heap.size w2 (w2.drewN n) from⟨rfl,rfl,rfl,lr,fun _ _=>rfl⟩)
  generalize hW:w2.drewN _=w3
  have B3:Hid (EB w w3 x):=by show EB _ _ _;rw[←hW];exact B2.out.step (HB _)
  have C3:Hid (iL w3 c m1 m2 n2 (.slice A l.length cap) pre []):=by show iL _ _ _ _ _ _ _ _;rw[←hW];exact C2.out.below (HB _)
  have f0:w3.cell? ⟨b,off+i*10,none⟩=some (.string y.path):=by rw[←hW];exact e0
  have f1:w3.cell? ⟨b,off+i*10+1,none⟩=some (.int .i64 y.kind):=by rw[←hW];exact e1
  have f2:w3.cell? ⟨b,off+i*10+2,none⟩=some (.int .i64 y.mode):=by rw[←hW];exact e2
  have f3:w3.cell? ⟨b,off+i*10+3,none⟩=some (.int .i64 y.uid):=by rw[←hW];exact e3
  have f4:w3.cell? ⟨b,off+i*10+4,none⟩=some (.int .i64 y.gid):=by rw[←hW];exact e4
  have f5:w3.cell? ⟨b,off+i*10+5,none⟩=some (.string y.owner):=by rw[←hW];exact e5
  have f6:w3.cell? ⟨b,off+i*10+6,none⟩=some (.string y.group):=by rw[←hW];exact e6
  have f7:w3.cell? ⟨b,off+i*10+7,none⟩=some (.int .i64 y.mtime):=by rw[←hW];exact e7
  have f8:w3.cell? ⟨b,off+i*10+8,none⟩=some (.string y.link):=by rw[←hW];exact e8
  have f9:w3.cell? ⟨b,off+i*10+9,none⟩=some (.slice y.da y.data.length y.dc):=by rw[←hW];exact e9
  clear hW HB B2 C2 c1 c8 k0 k1 q1 e0 e1 e2 e3 e4 e5 e6 e7 e8 e9
  have c0:=B3.out.blk.cell 0 _ rfl
  have c1:=B3.out.blk.cell 1 _ rfl
  have c2:=B3.out.blk.cell 2 _ rfl
  have c3:=B3.out.blk.cell 3 _ rfl
  have c4:=B3.out.blk.cell 4 _ rfl
  have c5:=B3.out.blk.cell 5 _ rfl
  have c6:=B3.out.blk.cell 6 _ rfl
  have c7:=B3.out.blk.cell 7 _ rfl
  have c8:=B3.out.blk.cell 8 _ rfl
  have c9:=B3.out.blk.cell 9 _ rfl
  have k0:=C3.out.blk.cell 0 _ rfl
  have hq:=fun W=>BG x y W
  obtain⟨cb,hcb⟩:∃ cb,Ge x y=cb:=⟨_,rfl⟩
  rw[hcb] at hq
  have CB:=ae hcb;clear hcb
  have lb:=World.block_lt_of_cell? _ _ f0
  have lw:=B3.out.blk.sz
  have lc:=C3.out.blk.sz
  go_region_held3 (fun w'=>w'.cell? ⟨w.heap.size,0,none⟩=some (.string x.path)∧w'.cell? ⟨w.heap.size,1,none⟩=some (.int .i64 x.kind)∧w'.cell? ⟨w.heap.size,2,none⟩=some (.int .i64 x.mode)∧w'.cell? ⟨w.heap.size,3,none⟩=some (.int .i64 x.uid)∧w'.cell? ⟨w.heap.size,4,none⟩=some (.int .i64 x.gid)∧w'.cell? ⟨w.heap.size,5,none⟩=some (.string x.owner)∧w'.cell? ⟨w.heap.size,6,none⟩=some (.string x.group)∧w'.cell? ⟨w.heap.size,7,none⟩=some (.int .i64 x.mtime)∧w'.cell? ⟨w.heap.size,8,none⟩=some (.string x.link)∧w'.cell? ⟨w.heap.size,9,none⟩=some (.slice x.da x.data.length x.dc)∧w'.cell? ⟨c,0,none⟩=some (.slice A l.length cap)∧w'.cell? ⟨b,off+i*10,none⟩=some (.string y.path)∧w'.cell? ⟨b,off+i*10+1,none⟩=some (.int .i64 y.kind)∧w'.cell? ⟨b,off+i*10+2,none⟩=some (.int .i64 y.mode)∧w'.cell? ⟨b,off+i*10+3,none⟩=some (.int .i64 y.uid)∧w'.cell? ⟨b,off+i*10+4,none⟩=some (.int .i64 y.gid)∧w'.cell? ⟨b,off+i*10+5,none⟩=some (.string y.owner)∧w'.cell? ⟨b,off+i*10+6,none⟩=some (.string y.group)∧w'.cell? ⟨b,off+i*10+7,none⟩=some (.int .i64 y.mtime)∧w'.cell? ⟨b,off+i*10+8,none⟩=some (.string y.link)∧w'.cell? ⟨b,off+i*10+9,none⟩=some (.slice y.da y.data.length y.dc))
   (first
     | exact⟨c0,c1,c2,c3,c4,c5,c6,c7,c8,c9,k0,f0,f1,f2,f3,f4,f5,f6,f7,f8,f9⟩
     | exact⟨(hb5.cell (p:=⟨w.heap.size,0,none⟩) lw).trans c0,(hb5.cell (p:=⟨w.heap.size,1,none⟩) lw).trans c1,(hb5.cell (p:=⟨w.heap.size,2,none⟩) lw).trans c2,(hb5.cell (p:=⟨w.heap.size,3,none⟩) lw).trans c3,(hb5.cell (p:=⟨w.heap.size,4,none⟩) lw).trans c4,(hb5.cell (p:=⟨w.heap.size,5,none⟩) lw).trans c5,(hb5.cell (p:=⟨w.heap.size,6,none⟩) lw).trans c6,(hb5.cell (p:=⟨w.heap.size,7,none⟩) lw).trans c7,(hb5.cell (p:=⟨w.heap.size,8,none⟩) lw).trans c8,(hb5.cell (p:=⟨w.heap.size,9,none⟩) lw).trans c9,(hb5.cell (p:=⟨c,0,none⟩) lc).trans k0,(hb5.cell (p:=⟨b,off+i*10,none⟩) lb).trans f0,(hb5.cell (p:=⟨b,off+i*10+1,none⟩) lb).trans f1,(hb5.cell (p:=⟨b,off+i*10+2,none⟩) lb).trans f2,(hb5.cell (p:=⟨b,off+i*10+3,none⟩) lb).trans f3,(hb5.cell (p:=⟨b,off+i*10+4,none⟩) lb).trans f4,(hb5.cell (p:=⟨b,off+i*10+5,none⟩) lb).trans f5,(hb5.cell (p:=⟨b,off+i*10+6,none⟩) lb).trans f6,(hb5.cell (p:=⟨b,off+i*10+7,none⟩) lb).trans f7,(hb5.cell (p:=⟨b,off+i*10+8,none⟩) lb).trans f8,(hb5.cell (p:=⟨b,off+i*10+9,none⟩) lb).trans f9⟩
     | exact⟨(hb6.cell (p:=⟨w.heap.size,0,none⟩) lw).trans c0,(hb6.cell (p:=⟨w.heap.size,1,none⟩) lw).trans c1,(hb6.cell (p:=⟨w.heap.size,2,none⟩) lw).trans c2,(hb6.cell (p:=⟨w.heap.size,3,none⟩) lw).trans c3,(hb6.cell (p:=⟨w.heap.size,4,none⟩) lw).trans c4,(hb6.cell (p:=⟨w.heap.size,5,none⟩) lw).trans c5,(hb6.cell (p:=⟨w.heap.size,6,none⟩) lw).trans c6,(hb6.cell (p:=⟨w.heap.size,7,none⟩) lw).trans c7,(hb6.cell (p:=⟨w.heap.size,8,none⟩) lw).trans c8,(hb6.cell (p:=⟨w.heap.size,9,none⟩) lw).trans c9,(hb6.cell (p:=⟨c,0,none⟩) lc).trans k0,(hb6.cell (p:=⟨b,off+i*10,none⟩) lb).trans f0,(hb6.cell (p:=⟨b,off+i*10+1,none⟩) lb).trans f1,(hb6.cell (p:=⟨b,off+i*10+2,none⟩) lb).trans f2,(hb6.cell (p:=⟨b,off+i*10+3,none⟩) lb).trans f3,(hb6.cell (p:=⟨b,off+i*10+4,none⟩) lb).trans f4,(hb6.cell (p:=⟨b,off+i*10+5,none⟩) lb).trans f5,(hb6.cell (p:=⟨b,off+i*10+6,none⟩) lb).trans f6,(hb6.cell (p:=⟨b,off+i*10+7,none⟩) lb).trans f7,(hb6.cell (p:=⟨b,off+i*10+8,none⟩) lb).trans f8,(hb6.cell (p:=⟨b,off+i*10+9,none⟩) lb).trans f9⟩
     | exact⟨(hb6.cell (p:=⟨w.heap.size,0,none⟩) (Nat.lt_of_lt_of_le lw hb5.size)).trans ((hb5.cell (p:=⟨w.heap.size,0,none⟩) lw).trans c0),(hb6.cell (p:=⟨w.heap.size,1,none⟩) (Nat.lt_of_lt_of_le lw hb5.size)).trans ((hb5.cell (p:=⟨w.heap.size,1,none⟩) lw).trans c1),(hb6.cell (p:=⟨w.heap.size,2,none⟩) (Nat.lt_of_lt_of_le lw hb5.size)).trans ((hb5.cell (p:=⟨w.heap.size,2,none⟩) lw).trans c2),(hb6.cell (p:=⟨w.heap.size,3,none⟩) (Nat.lt_of_lt_of_le lw hb5.size)).trans ((hb5.cell (p:=⟨w.heap.size,3,none⟩) lw).trans c3),(hb6.cell (p:=⟨w.heap.size,4,none⟩) (Nat.lt_of_lt_of_le lw hb5.size)).trans ((hb5.cell (p:=⟨w.heap.size,4,none⟩) lw).trans c4),(hb6.cell (p:=⟨w.heap.size,5,none⟩) (Nat.lt_of_lt_of_le lw hb5.size)).trans ((hb5.cell (p:=⟨w.heap.size,5,none⟩) lw).trans c5),(hb6.cell (p:=⟨w.heap.size,6,none⟩) (Nat.lt_of_lt_of_le lw hb5.size)).trans ((hb5.cell (p:=⟨w.heap.size,6,none⟩) lw).trans c6),(hb6.cell (p:=⟨w.heap.size,7,none⟩) (Nat.lt_of_lt_of_le lw hb5.size)).trans ((hb5.cell (p:=⟨w.heap.size,7,none⟩) lw).trans c7),(hb6.cell (p:=⟨w.heap.size,8,none⟩) (Nat.lt_of_lt_of_le lw hb5.size)).trans ((hb5.cell (p:=⟨w.heap.size,8,none⟩) lw).trans c8),(hb6.cell (p:=⟨w.heap.size,9,none⟩) (Nat.lt_of_lt_of_le lw hb5.size)).trans ((hb5.cell (p:=⟨w.heap.size,9,none⟩) lw).trans c9),(hb6.cell (p:=⟨c,0,none⟩) (Nat.lt_of_lt_of_le lc hb5.size)).trans ((hb5.cell (p:=⟨c,0,none⟩) lc).trans k0),(hb6.cell (p:=⟨b,off+i*10,none⟩) (Nat.lt_of_lt_of_le lb hb5.size)).trans ((hb5.cell (p:=⟨b,off+i*10,none⟩) lb).trans f0),(hb6.cell (p:=⟨b,off+i*10+1,none⟩) (Nat.lt_of_lt_of_le lb hb5.size)).trans ((hb5.cell (p:=⟨b,off+i*10+1,none⟩) lb).trans f1),(hb6.cell (p:=⟨b,off+i*10+2,none⟩) (Nat.lt_of_lt_of_le lb hb5.size)).trans ((hb5.cell (p:=⟨b,off+i*10+2,none⟩) lb).trans f2),(hb6.cell (p:=⟨b,off+i*10+3,none⟩) (Nat.lt_of_lt_of_le lb hb5.size)).trans ((hb5.cell (p:=⟨b,off+i*10+3,none⟩) lb).trans f3),(hb6.cell (p:=⟨b,off+i*10+4,none⟩) (Nat.lt_of_lt_of_le lb hb5.size)).trans ((hb5.cell (p:=⟨b,off+i*10+4,none⟩) lb).trans f4),(hb6.cell (p:=⟨b,off+i*10+5,none⟩) (Nat.lt_of_lt_of_le lb hb5.size)).trans ((hb5.cell (p:=⟨b,off+i*10+5,none⟩) lb).trans f5),(hb6.cell (p:=⟨b,off+i*10+6,none⟩) (Nat.lt_of_lt_of_le lb hb5.size)).trans ((hb5.cell (p:=⟨b,off+i*10+6,none⟩) lb).trans f6),(hb6.cell (p:=⟨b,off+i*10+7,none⟩) (Nat.lt_of_lt_of_le lb hb5.size)).trans ((hb5.cell (p:=⟨b,off+i*10+7,none⟩) lb).trans f7),(hb6.cell (p:=⟨b,off+i*10+8,none⟩) (Nat.lt_of_lt_of_le lb hb5.size)).trans ((hb5.cell (p:=⟨b,off+i*10+8,none⟩) lb).trans f8),(hb6.cell (p:=⟨b,off+i*10+9,none⟩) (Nat.lt_of_lt_of_le lb hb5.size)).trans ((hb5.cell (p:=⟨b,off+i*10+9,none⟩) lb).trans f9)⟩
     | exact⟨(hb5.cell (p:=⟨w.heap.size,0,none⟩) (Nat.lt_of_lt_of_le lw hb6.size)).trans ((hb6.cell (p:=⟨w.heap.size,0,none⟩) lw).trans c0),(hb5.cell (p:=⟨w.heap.size,1,none⟩) (Nat.lt_of_lt_of_le lw hb6.size)).trans ((hb6.cell (p:=⟨w.heap.size,1,none⟩) lw).trans c1),(hb5.cell (p:=⟨w.heap.size,2,none⟩) (Nat.lt_of_lt_of_le lw hb6.size)).trans ((hb6.cell (p:=⟨w.heap.size,2,none⟩) lw).trans c2),(hb5.cell (p:=⟨w.heap.size,3,none⟩) (Nat.lt_of_lt_of_le lw hb6.size)).trans ((hb6.cell (p:=⟨w.heap.size,3,none⟩) lw).trans c3),(hb5.cell (p:=⟨w.heap.size,4,none⟩) (Nat.lt_of_lt_of_le lw hb6.size)).trans ((hb6.cell (p:=⟨w.heap.size,4,none⟩) lw).trans c4),(hb5.cell (p:=⟨w.heap.size,5,none⟩) (Nat.lt_of_lt_of_le lw hb6.size)).trans ((hb6.cell (p:=⟨w.heap.size,5,none⟩) lw).trans c5),(hb5.cell (p:=⟨w.heap.size,6,none⟩) (Nat.lt_of_lt_of_le lw hb6.size)).trans ((hb6.cell (p:=⟨w.heap.size,6,none⟩) lw).trans c6),(hb5.cell (p:=⟨w.heap.size,7,none⟩) (Nat.lt_of_lt_of_le lw hb6.size)).trans ((hb6.cell (p:=⟨w.heap.size,7,none⟩) lw).trans c7),(hb5.cell (p:=⟨w.heap.size,8,none⟩) (Nat.lt_of_lt_of_le lw hb6.size)).trans ((hb6.cell (p:=⟨w.heap.size,8,none⟩) lw).trans c8),(hb5.cell (p:=⟨w.heap.size,9,none⟩) (Nat.lt_of_lt_of_le lw hb6.size)).trans ((hb6.cell (p:=⟨w.heap.size,9,none⟩) lw).trans c9),(hb5.cell (p:=⟨c,0,none⟩) (Nat.lt_of_lt_of_le lc hb6.size)).trans ((hb6.cell (p:=⟨c,0,none⟩) lc).trans k0),(hb5.cell (p:=⟨b,off+i*10,none⟩) (Nat.lt_of_lt_of_le lb hb6.size)).trans ((hb6.cell (p:=⟨b,off+i*10,none⟩) lb).trans f0),(hb5.cell (p:=⟨b,off+i*10+1,none⟩) (Nat.lt_of_lt_of_le lb hb6.size)).trans ((hb6.cell (p:=⟨b,off+i*10+1,none⟩) lb).trans f1),(hb5.cell (p:=⟨b,off+i*10+2,none⟩) (Nat.lt_of_lt_of_le lb hb6.size)).trans ((hb6.cell (p:=⟨b,off+i*10+2,none⟩) lb).trans f2),(hb5.cell (p:=⟨b,off+i*10+3,none⟩) (Nat.lt_of_lt_of_le lb hb6.size)).trans ((hb6.cell (p:=⟨b,off+i*10+3,none⟩) lb).trans f3),(hb5.cell (p:=⟨b,off+i*10+4,none⟩) (Nat.lt_of_lt_of_le lb hb6.size)).trans ((hb6.cell (p:=⟨b,off+i*10+4,none⟩) lb).trans f4),(hb5.cell (p:=⟨b,off+i*10+5,none⟩) (Nat.lt_of_lt_of_le lb hb6.size)).trans ((hb6.cell (p:=⟨b,off+i*10+5,none⟩) lb).trans f5),(hb5.cell (p:=⟨b,off+i*10+6,none⟩) (Nat.lt_of_lt_of_le lb hb6.size)).trans ((hb6.cell (p:=⟨b,off+i*10+6,none⟩) lb).trans f6),(hb5.cell (p:=⟨b,off+i*10+7,none⟩) (Nat.lt_of_lt_of_le lb hb6.size)).trans ((hb6.cell (p:=⟨b,off+i*10+7,none⟩) lb).trans f7),(hb5.cell (p:=⟨b,off+i*10+8,none⟩) (Nat.lt_of_lt_of_le lb hb6.size)).trans ((hb6.cell (p:=⟨b,off+i*10+8,none⟩) lb).trans f8),(hb5.cell (p:=⟨b,off+i*10+9,none⟩) (Nat.lt_of_lt_of_le lb hb6.size)).trans ((hb6.cell (p:=⟨b,off+i*10+9,none⟩) lb).trans f9)⟩)
   (first
     | (go_at_call 74;(with_reducible refine(CI x _).mono ?_);rintro e w5 ⟨rfl,hb5⟩)
     | (go_at_call 74;(with_reducible refine(CI y _).mono ?_);rintro e w6 ⟨rfl,hb6⟩))
  all_goals
   first
   | (have B5:Hid (EB w w6 x):=(B3.out.step (show Below w3.heap.size w3 w5 from⟨hb5.os,hb5.tape,hb5.output,hb5.size,hb5.block⟩)).step hb6
      have C5:Hid (iL w6 c m1 m2 n2 (.slice A l.length cap) pre []):=(C3.out.below (show Below w3.heap.size w3 w5 from⟨hb5.os,hb5.tape,hb5.output,hb5.size,hb5.block⟩)).below hb6
      generalize w6=wz at *)
   | (have B5:Hid (EB w w5 x):=(B3.out.step (show Below w3.heap.size w3 w6 from⟨hb6.os,hb6.tape,hb6.output,hb6.size,hb6.block⟩)).step hb5
      have C5:Hid (iL w5 c m1 m2 n2 (.slice A l.length cap) pre []):=(C3.out.below (show Below w3.heap.size w3 w6 from⟨hb6.os,hb6.tape,hb6.output,hb6.size,hb6.block⟩)).below hb5
      generalize w5=wz at *)
   clear hq hb5 hb6 lb lw lc k0 c0 f0 c1 f1 c2 f2 c3 f3 c4 f4 c5 f5 c6 f6 c7 f7 c8 f8 c9 f9
   cases cb
   ·have H:fv pre x=1:=by unfold fv;rw[F.out];simp[Y.out,CB.out]
    have R:Hid (kI pre x=1):=by show _=_;rw[sW Z.out P.out K.out (by rw[H];decide),H]
    clear H
    go_wp2_with fail
    go_ret
    exact⟨aE R.out.symm,B5.out.bel⟩
   ·have H:Hid (fv pre x=0):=Iu F.out Y.out CB.out
    go_wp2_with fail
    go_meet
    exact⟨B5,C5,fun _=>H.out⟩
 case rest=>
  obtain⟨B3,C3,H4⟩:=hcut
  clear B2 C2
  have c0:=B3.out.blk.cell 0 _ rfl
  go_wp2_with fail
  refine(mh x.path _ (by have:=(pf Z.out);omega)).mono ?_;rintro e w4 ⟨Ap,cp,rfl,hr,hb4⟩
  have B4:=ae (B3.out.step hb4)
  have C4:=ae (C3.out.below hb4)
  have R4:=ae (cP hr)
  clear hr hb4 B3 C3 c0
  have hpl:(be x.path).length≤200:=by have:=qH x.path;have:=pf Z.out;omega
  go_wp2_with fail
  go_loopw [73] (fun i wr=>∃ (k:Nat),k≤(be x.path).length∧i=.int .i64 k∧Hid (EB w wr x)∧Hid (iL wr c m1 m2 n2 (.slice A l.length cap) pre [])∧Hid (Rd wr 1 Ap (be x.path).length (az (be x.path)))∧Hid (∀ s∈(be x.path).take k,∀ y,dm pre s=some y→y.kind=2)) (fun i _=>(be x.path).length-(intOf i).toNat)
  case atStart=>exact⟨0,z0,rfl,B4,C4,R4,by intro s hs;simp at hs⟩
  case round=>
   obtain⟨k,hk,rfl,B5,C5,R5,U5⟩:=hrel
   clear B4 C4 R4
   by_cases hlt:k<(be x.path).length
   case pos=>
    obtain⟨s,hs⟩:∃ s,(be x.path)[k]?=some s:=⟨_,gG hlt⟩
    obtain⟨bp,op,hAp,hep⟩:=R5.out.str k s hs
    have hixp:=fun W=>aH (T:=22) (E:=9) (sz:=1) (c:=cp) Tryz.underlying22 rfl Tryz.sizeOf9 hAp hlt W
    simp only[Nat.mul_one] at hixp
    have hsm:=pp (gM hs)
    have SX:=ae hs
    have k0:=C5.out.blk.cell 0 _ rfl
    have k1:=C5.out.blk.cell 1 _ rfl
    have q1:=C5.out.look0 s (by have:=HS.out.path;unfold maxLen;omega)
    have TK:=ae (jf hs)
    clear hs hAp hsm
    rcases iK pre s with⟨p1,p2⟩ | ⟨i,y,p1,p2,p3,p4⟩
    case inl=>
     rw[p1] at q1
     simp only[Option.getD_none,Option.isSome_none] at q1
     have U6:Hid (∀ s∈(be x.path).take (k+1),∀ y,dm pre s=some y→y.kind=2):=by
      intro t ht y hy
      rw[TK.out] at ht
      rcases List.mem_append.1 ht with ht | ht
      ·exact U5.out t ht y hy
      ·rw[List.mem_singleton.1 ht,p2] at hy;cases hy
     clear p1 p2
     go_wp2_with fail
     go_roundw
     case rel=>exact⟨k+1,by omega,by go_num,B5,C5,R5,U6⟩
     case measure=>simp[intOf];omega
    rw[p1] at q1
    simp only[Option.getD_some,Option.isSome_some] at q1
    obtain⟨b,off,hA,hel⟩:=((HE.out.below B5.out.bel).row).elem bP i y (HP.out i y p2)
    have hi:i<l.length:=(gS (HP.out i y p2)).1
    have hix:=fun W=>aH (T:=28) (E:=35) (sz:=10) (c:=cap) Tryz.underlying28 rfl Tryz.sizeOf35 hA hi W
    have e1:=hel 1 _ rfl
    have F:=ae p3
    clear p1 p2 p3 p4 hA hel
    by_cases hy:y.kind=2
    case neg=>
     have q2:(y.kind != 2)=true:=by simpa using hy
     have R:Hid (kI pre x=9):=LS Z.out P.out H4.out (gM SX.out) F.out hy
     clear hy
     go_wp2_with fail
     go_ret
     exact⟨aE R.out.symm,B5.out.bel⟩
    have q2:(y.kind != 2)=false:=by simp[hy]
    have U6:Hid (∀ s∈(be x.path).take (k+1),∀ y,dm pre s=some y→y.kind=2):=by
     intro t ht z hz
     rw[TK.out] at ht
     rcases List.mem_append.1 ht with ht | ht
     ·exact U5.out t ht z hz
     ·rw[List.mem_singleton.1 ht,F.out] at hz;injection hz with hz;rw[←hz];exact hy
    clear hy
    go_wp2_with fail
    go_roundw
    case rel=>exact⟨k+1,by omega,by go_num,B5,C5,R5,U6⟩
    case measure=>simp[intOf];omega
   obtain rfl:k=(be x.path).length:=by omega
   have U:Hid (∀ s∈be x.path,∀ y,dm pre s=some y→y.kind=2):=by have:=U5.out;rw[List.take_length] at this;exact this
   have c0:=B5.out.blk.cell 0 _ rfl
   have c1:=B5.out.blk.cell 1 _ rfl
   have k2:=C5.out.blk.cell 2 _ rfl
   obtain⟨z,q1⟩:=C5.out.look2 x.path hps
   obtain⟨ab,hab⟩:∃ ab,kQ pre x.path=ab:=⟨_,rfl⟩
   rw[hab] at q1
   have AB:=ae hab;clear hab hlt U5
   cases ab
   ·have R:Hid (kI pre x=0):=zp Z.out P.out H4.out U.out (.inr AB.out)
    go_wp2_with fail
    go_quiet (fail)
    go_wp2_with fail
    go_ret
    exact⟨aE R.out.symm,aq B5.out.bel _⟩
   ·by_cases hk2:x.kind=2
    ·have q2:(x.kind != 2)=false:=by simp[hk2]
     have R:Hid (kI pre x=0):=zp Z.out P.out H4.out U.out (.inl hk2)
     clear hk2
     go_wp2_with fail
     go_quiet (fail)
     go_wp2_with fail
     go_ret
     exact⟨aE R.out.symm,aq B5.out.bel _⟩
    ·have q2:(x.kind != 2)=true:=by simpa using hk2
     have R:Hid (kI pre x=9):=Fp Z.out P.out H4.out hk2 AB.out
     clear hk2
     go_wp2_with fail
     go_quiet (fail)
     go_wp2_with fail
     go_ret
     exact⟨aE R.out.symm,aq B5.out.bel _⟩
structure ul (w wr:World) (V:Value) (p1 p2:List am) (ps:List BA) (n2:Nat):Prop where
 blk:av wr (w.heap.size+1+1) [V,.map (some w.heap.size),.map (some (w.heap.size+1))]
 one:aZ wr w.heap.size p1.length (Lh p1)
 two:ti wr (w.heap.size+1) n2 p2 ps
 bel:Below w.heap.size w wr
theorem ul.below {w wr w':World}{V:Value}{p1 p2:List am}{ps:List BA}{n2:Nat}(h:ul w wr V p1 p2 ps n2)(hb:Below wr.heap.size wr w'):ul w w' V p1 p2 ps n2:=
 ⟨h.blk.below hb,h.one.below hb,h.two.below hb,ap h.bel hb⟩
theorem ul.ck {w wr:World}{V:Value}{p:List am}{n2:Nat}(h:ul w wr V p p [] n2):iL wr (w.heap.size+1+1) w.heap.size (w.heap.size+1) n2 V p []:=⟨h.blk,h.one,h.two⟩
theorem um {l:List am}{s:BA}(h:dm l s=none):cL l s=none:=by
 rcases iK l s with⟨h1,_⟩ | ⟨i,y,_,_,h3,_⟩
 ·exact h1
 ·rw[h] at h3;cases h3
theorem ul.put1 {w wr w':World}{V:Value}{p:List am}{n2:Nat}{x:am}(h:ul w wr V p p [] n2)(hf:dm p x.path=none)(hm:aZ w' w.heap.size (p.length+1) (fun s=>if s=x.path then some (.int .i64 p.length) else Lh p s))(hg:wr.grownBy w' (some w.heap.size)):
  ul w w' V (p++[x]) p [] n2:=by
 refine⟨h.blk.grownC hg (by omega),?_,h.two.kept hg (by intro e;injection e with e;omega),h.bel.grown hg h.bel.size (fun j hj=>by injection hj with hj;omega)⟩
 rw[Gx (um hf),List.length_append];exact hm
theorem ul.put2 {w wr w':World}{V:Value}{p1 p2:List am}{ps:List BA}{n2:Nat}{s:BA}(h:ul w wr V p1 p2 ps n2)(hm:ti w' (w.heap.size+1) (n2+1) p2 (ps++[s]))(hg:wr.grownBy w' (some (w.heap.size+1))):
  ul w w' V p1 p2 (ps++[s]) (n2+1):=
 ⟨h.blk.grownC hg (by omega),h.one.kept hg (by intro e;injection e with e;omega),hm,h.bel.grown hg h.bel.size (fun j hj=>by injection hj with hj;omega)⟩
theorem ul.next {w wr:World}{V:Value}{p:List am}{n2:Nat}{x:am}(h:ul w wr V (p++[x]) p (be x.path) n2):ul w wr V (p++[x]) (p++[x]) [] n2:=⟨h.blk,h.one,h.two.next,h.bel⟩
theorem J0 {l:List am}{k:Nat}{x:am}(hn:¬ 4096<l.length)(h:l[k]?=some x)(h0:it [] l=it (l.take k) (l.drop k))(he:kI (l.take k) x≠0):pt l=(k,kI (l.take k) x):=by
 unfold pt;rw[if_neg hn];exact Gf h h0 he
theorem Ka {l:List am}{k:Nat}(hn:¬ 4096<l.length)(hk:l.length≤k)(h0:it [] l=it (l.take k) (l.drop k)):pt l=(0,0):=by
 unfold pt;rw[if_neg hn];exact Gg hk h0
def Kb (l:List am):Value:=.tuple #[.int .i64 ((pt l).1:Nat),.int .i64 (pt l).2]
theorem lu (A:OA)(cap:Nat)(l:List am)(w:World)(hG:Gl w)(hE:fL w A l)(hl:l.length≤100000)(hs:∀ x∈l,x.small):
  Calls Tryz.prog 33 #[.slice A l.length cap] w fun e w'=>e=.returned (Kb l)∧Below w.heap.size w w':=by
 have HG:=ae hG
 have HE:=ae hE
 have HS:=ae hs
 clear hG hE hs
 by_cases hn:4096<l.length
 ·have R:Hid (Kb l=.tuple #[.int .i64 4096,.int .i64 4]):=by show _=_;unfold Kb pt;rw[if_pos hn];rfl
  have hn1:(4096:Int)<(l.length:Int):=by omega
  go_enter Tryz.func33,Tryz.ntmps33
  go_wp2_with fail
  go_ret2
  exact⟨by rw[R.out];rfl,bR⟩
 have hn1:¬ (4096:Int)<(l.length:Int):=by omega
 obtain⟨W1,hW1⟩:∃ W1,((w.alloc (.map #[] 0)).alloc (.map #[] 0)).alloc (.cells #[.slice A l.length cap,.map (some w.heap.size),.map (some (w.heap.size+1))] 120)=W1:=⟨_,rfl⟩
 have I1:Hid (ul w W1 (.slice A l.length cap) [] [] [] 0):=by
  show ul _ _ _ _ _ _ _
  rw[←hW1]
  have m1:=aZ.made w
  have m2:=ti.made (w.alloc (.map #[] 0))
  have b:=av.new ((w.alloc (.map #[] 0)).alloc (.map #[] 0)) [.slice A l.length cap,.map (some w.heap.size),.map (some (w.heap.size+1))] 120
  simp only[World.size_alloc] at m2 b
  exact⟨b,(m1.below (bR.alloc lr _)).below (bR.alloc lr _),m2.below (bR.alloc lr _),((bR.alloc lr _).alloc (by simp) _).alloc (by simp;omega) _⟩
 have hmm:=@run_makeMap Tryz.prog
 go_enter Tryz.func33,Tryz.ntmps33
 go_wp2_with fail
 clear hmm hW1
 go_loopw [20] (fun i wr=>∃ (k n2:Nat),k≤l.length∧n2≤200*k∧i=.int .i64 k∧Hid (it [] l=it (l.take k) (l.drop k))∧Hid (ul w wr (.slice A l.length cap) (l.take k) (l.take k) [] n2)) (fun i _=>l.length-(intOf i).toNat)
 case atStart=>exact⟨0,0,z0,z0,rfl,rfl,I1⟩
 case round=>
  obtain⟨k,n2,hk,hn2,rfl,HA,HI⟩:=hrel
  clear I1
  by_cases hlt:k<l.length
  case neg=>
   have R:Hid (Kb l=.tuple #[.int .i64 0,.int .i64 0]):=by show _=_;unfold Kb;rw[Ka hn (by omega) HA.out];rfl
   go_wp2_with fail
   go_ret2
   exact⟨by rw[R.out];rfl,HI.out.bel⟩
  obtain⟨x,hx⟩:∃ x,l[k]?=some x:=⟨_,gG hlt⟩
  obtain⟨b,off,hA,hel⟩:=((HE.out.below HI.out.bel).row).elem bP k x hx
  have hix:=fun W=>aH (T:=28) (E:=35) (sz:=10) (c:=cap) Tryz.underlying28 rfl Tryz.sizeOf35 hA hlt W
  have e0:=hel 0 _ rfl
  have e1:=hel 1 _ rfl
  have e2:=hel 2 _ rfl
  have e3:=hel 3 _ rfl
  have e4:=hel 4 _ rfl
  have e5:=hel 5 _ rfl
  have e6:=hel 6 _ rfl
  have e7:=hel 7 _ rfl
  have e8:=hel 8 _ rfl
  have e9:=hel 9 _ rfl
  simp only[Nat.add_zero] at e0
  have HX:=ae hx
  have SX:=ae (HS.out x (gM hx))
  clear hx hA hel
  obtain⟨wo,rfl⟩:∃ wo:World,wo=wr:=⟨_,rfl⟩
  have hz0:w.heap.size+1<wo.heap.size:=HI.out.two.lt
  obtain⟨W2,hW2⟩:∃ W2,wo.alloc (.cells #[.string x.path,.int .i64 x.kind,.int .i64 x.mode,.int .i64 x.uid,.int .i64 x.gid,.string x.owner,.string x.group,.int .i64 x.mtime,.string x.link,.slice x.da x.data.length x.dc] 35)=W2:=⟨_,rfl⟩
  have B2:Hid (EB wo W2 x):=by show EB _ _ _;rw[←hW2];exact EB.start wo x
  have I2:=ae (HI.out.below B2.out.bel)
  have HW2:=ae hW2
  clear hW2
  go_wp2_with fail
  rw[HW2.out]
  clear HW2 hix e0 e1 e2 e3 e4 e5 e6 e7 e8 e9
  have CK:=zq A cap l (l.take k) _ _ _ _ x W2 (HG.out.below I2.out.bel) (HE.out.below I2.out.bel) I2.out.ck (fun i y hy=>by rw[List.getElem?_take] at hy;split at hy;exact hy;cases hy) SX.out hl
  unfold am.val at CK
  refine CK.mono ?_;rintro e w3 ⟨rfl,hb3⟩
  have B3:=ae (B2.out.step hb3)
  have I3:=ae (I2.out.below hb3)
  clear hb3 CK B2 I2 HI
  by_cases he:kI (l.take k) x=0
  case neg=>
   have q:(kI (l.take k) x != 0)=true:=by simpa using he
   have R:Hid (Kb l=.tuple #[.int .i64 k,.int .i64 (kI (l.take k) x)]):=by show _=_;unfold Kb;rw[J0 hn HX.out HA.out he]
   clear he
   go_wp2_with fail
   go_ret2
   exact⟨by rw[R.out];rfl,I3.out.bel⟩
  rw[he]
  have HA2:=ae (Db HX.out HA.out he)
  obtain⟨g1,g2,_⟩:=Fm he
  have G1:=ae g1
  have G2:=ae g2
  have hp2:=pf g1
  clear he g1 g2 HA
  have b0:=B3.out.blk.cell 0 _ rfl
  have k1:=I3.out.blk.cell 1 _ rfl
  have hlen:(l.take k).length=k:=by rw[List.length_take];omega
  obtain⟨w4,hrun,hm,hg⟩:=(I3.out.one.below (show Below w3.heap.size w3 w3.drew from⟨rfl,rfl,rfl,lr,fun _ _=>rfl⟩)).put Tryz.underlying104 (by rw[hlen];unfold maxLen;omega) x.path (by unfold maxLen;omega) (.int .i64 k)
  have HM:=ae hm
  have HGR:=ae hg
  have B4:Hid (av w4 wo.heap.size x.cells):=B3.out.blk.drew.grownC HGR.out (by omega)
  have I4:Hid (ul w w4 (.slice A l.length cap) (l.take k++[x]) (l.take k) [] n2):=by
   refine(I3.out.below (show Below w3.heap.size w3 w3.drew from⟨rfl,rfl,rfl,lr,fun _ _=>rfl⟩)).put1 G2.out ?_ HGR.out
   have:=HM.out
   rw[hlen] at this ⊢;exact this
  have hz4:w.heap.size+1<w4.heap.size:=I4.out.two.lt
  clear hm hg
  have d0:=B4.out.cell 0 _ rfl
  have hdrop:=ae (jf HX.out)
  have HLEN:=ae hlen
  clear hlen
  go_wp2_with fail
  go_region
  go_wp2_with fail
  refine(mh x.path _ (by omega)).mono ?_;rintro e w5 ⟨Ap,cp,rfl,hr,hb5⟩
  have I5:=ae (I4.out.below hb5)
  have R5:=ae hr
  clear hr hb5 d0 b0 k1 hrun B3 I3 B4 I4 HM HGR
  have hpl:(be x.path).length≤200:=by have:=qH x.path;omega
  go_wp2_with fail
  go_loopw [43] (fun j wr=>∃ (m:Nat),m≤(be x.path).length∧j=.int .i64 m∧Hid (ul w wr (.slice A l.length cap) (l.take k++[x]) (l.take k) ((be x.path).take m) (n2+m))∧Hid (wr.ownsRow w4.heap.size 9 1 (.slice Ap (be x.path).length cp) (be x.path).length (az (be x.path)))) (fun j _=>(be x.path).length-(intOf j).toNat)
  case atStart=>exact⟨0,z0,rfl,I5,R5⟩
  case round=>
   obtain⟨m,hm,rfl,I6,R6⟩:=hrel
   clear I5 R5
   by_cases hlt2:m<(be x.path).length
   case neg=>
    have I7:Hid (ul w wr (.slice A l.length cap) (l.take (k+1)) (l.take (k+1)) [] (n2+m)):=by
     have:=I6.out
     have hm2:(be x.path).take m=be x.path:=tL (by omega)
     rw[hm2] at this
     rw[hdrop.out];exact this.next
    go_wp2_with fail
    go_roundw
    case rel=>exact⟨k+1,n2+m,by omega,by omega,by go_num,HA2,I7⟩
    case measure=>simp[intOf];omega
   obtain⟨s,hs⟩:∃ s,(be x.path)[m]?=some s:=⟨_,gG hlt2⟩
   obtain⟨bp,op,hAp,hep⟩:=(cP R6.out).str m s hs
   have hixp:=fun W=>aH (T:=22) (E:=9) (sz:=1) (c:=cp) Tryz.underlying22 rfl Tryz.sizeOf9 hAp hlt2 W
   simp only[Nat.mul_one] at hixp
   have hsm:=pp (gM hs)
   have TK:=ae (jf hs)
   clear hs hAp
   have k2:=I6.out.blk.cell 2 _ rfl
   obtain⟨w7,hrun,hm7,hg7⟩:=I6.out.two.put Tryz.underlying104 (by unfold maxLen;omega) s (by unfold maxLen;omega) (.int .i64 k)
   have I7:Hid (ul w w7 (.slice A l.length cap) (l.take k++[x]) (l.take k) ((be x.path).take (m+1)) (n2+(m+1))):=by
    have:=I6.out.put2 hm7 hg7
    rw[TK.out];exact this
   have R7:Hid (w7.ownsRow w4.heap.size 9 1 (.slice Ap (be x.path).length cp) (be x.path).length (az (be x.path))):=aJ R6.out hz4 hg7
   clear hm7 hg7
   go_wp2_with fail
   go_roundw
   case rel=>exact⟨m+1,by omega,by go_num,I7,R7⟩
   case measure=>simp[intOf];omega
end
end Go.Proofs.YtlglfpbhapmhiaaGreatDoor
