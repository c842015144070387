/- A part of the proof that ModelChecks holds. No condition. -/
import Derived.Test.YtdfdllbebfoggaaGreatDoorD24
import Derived.Test.YtdfdllbebfoggaaGreatDoorD25
set_option maxRecDepth 100000
set_option maxHeartbeats 20000000
set_option linter.unusedVariables false
set_option linter.unusedSimpArgs false
namespace Go.Proofs.YtdfdllbebfoggaaGreatDoor
section
open Go.RowKit Go.Deep
theorem ddep_note (x e:Int)(a:Nat)(s:BA)(p n:Nat)(c:Int)(w:World)(h:DR w a s p n c):
  Calls Tryz.prog 264 #[.pointer (some ⟨a,0,none⟩),.int .i64 x,.int .i64 e] w fun en w'=>en=.returned (.tuple #[])∧DR w' a s p n (noteC c e)∧w.grownBy w' (some a):=by
 obtain⟨f,y,k⟩:=h.cells
 have HD:=hid h;clear h
 obtain⟨c0,c1,c2,c3,c4,c5,f0,f1,f2,f3,f4,f5⟩:=k
 clear c0 c1 c2 f0 f1 f2
 by_cases hc:c=0
 ·subst hc
  by_cases he:e=0
  ·subst he
   go_enter Tryz.func264,Tryz.ntmps264
   go_wp2_with fail
   go_end0
   exact⟨rfl,HD.out,World.grownBy.refl _ _⟩
  ·have he1:(e != 0)=true:=by simp[he]
   have HN:Hid (noteC 0 e=e):=by simp[Hid,noteC]
   clear he
   go_enter Tryz.func264,Tryz.ntmps264
   go_wp2_with fail
   go_end0
   exact⟨rfl,by rw[HN.out];exact HD.out.noted _ _ _,grown_thru (grown_thru (kept_set _) (kept_set _)) (kept_set _)⟩
 ·have hc1:(c==0)=false:=by simp[hc]
  have HN:Hid (noteC c e=c):=by simp[Hid,noteC,hc]
  clear hc
  go_enter Tryz.func264,Tryz.ntmps264
  go_wp2_with fail
  go_end0
  exact⟨rfl,by rw[HN.out];exact HD.out,World.grownBy.refl _ _⟩
theorem ddep_sign_yes (ch:UInt8)(a:Nat)(s:BA)(p n:Nat)(c:Int)(w:World)(hs:s.size≤4294967280)(h:DR w a s p n c)(hh:Hid (head0 ch ((bl s).drop p)=true)):
  Calls Tryz.prog 175 #[.pointer (some ⟨a,0,none⟩),.int .u8 ch.toNat] w fun e w'=>e=.returned (.bool true)∧DR w' a s (p+1) n c∧w.grownBy w' (some a):=by
 have hlt:p<s.size:=by
  rcases Nat.lt_or_ge p s.size with h1 | h1
  ·exact h1
  ·have:=hh.out;rw[head_end s p ch (by omega)] at this;cases this
 have e1:s[p]=ch:=by have:=hh.out;rw[head_at s p ch hlt] at this;simpa using this
 obtain⟨f,y,k⟩:=h.cells
 have HM:=hid (h.move (q:=p+1) (by omega) (by omega));clear h hh
 obtain⟨c0,c1,c2,c3,c4,c5,f0,f1,f2,f3,f4,f5⟩:=k
 clear c2 c3 c4 c5 f0 f2 f3 f4 f5
 go_enter Tryz.func175,Tryz.ntmps175
 go_wp2_with fail
 go_quiet (fail)
 go_wp2_with fail
 go_ret
 exact⟨rfl,HM.out.drewN _,only_drewN (kept_set _) _⟩
theorem ddep_sign_no (ch:UInt8)(a:Nat)(s:BA)(p n:Nat)(c:Int)(w:World)(hs:s.size≤4294967280)(h:DR w a s p n c)(hh:Hid (head0 ch ((bl s).drop p)=false)):
  Calls Tryz.prog 175 #[.pointer (some ⟨a,0,none⟩),.int .u8 ch.toNat] w fun e w'=>e=.returned (.bool false)∧DR w' a s p n c∧w.grownBy w' (some a):=by
 obtain⟨f,y,k⟩:=h.cells
 have HD:=hid h;clear h
 obtain⟨c0,c1,c2,c3,c4,c5,f0,f1,f2,f3,f4,f5⟩:=k
 clear c2 c3 c4 c5 f0 f2 f3 f4 f5
 by_cases hlt:p<s.size
 ·obtain⟨d,hd⟩:∃ d:UInt8,s[p]=d:=⟨_,rfl⟩
  have e1:((d.toNat:Int)==(ch.toNat:Int))=false:=by have:=hh.out;rw[head_at s p ch hlt,hd] at this;rw[toNat_beq];exact this
  clear hh
  go_enter Tryz.func175,Tryz.ntmps175
  go_wp2_with fail
  go_quiet (fail)
  go_wp2_with fail
  go_ret
  exact⟨rfl,HD.out.drewN _,only_drewN (World.grownBy.refl _ _) _⟩
 ·have hlt2:decide (p<s.size)=false:=dF hlt
  clear hh
  go_enter Tryz.func175,Tryz.ntmps175
  go_wp2_with fail
  go_quiet (fail)
  go_wp2_with fail
  go_ret
  exact⟨rfl,HD.out.drewN _,only_drewN (World.grownBy.refl _ _) _⟩
theorem ddep_blanks (a:Nat)(s:BA)(p n:Nat)(c:Int)(w:World)(hs:s.size≤4294967280)(h:DR w a s p n c):
  Calls Tryz.prog 173 #[.pointer (some ⟨a,0,none⟩)] w fun e w'=>e=.returned (.bool (head0 32 ((bl s).drop p)))∧DR w' a s (p+runN blankB ((bl s).drop p)) n c∧w.grownBy w' (some a):=by
 obtain⟨f,y,k⟩:=h.cells
 have c1:=k.c1
 have hp:=h.le
 have HD:=hid h;clear h k
 go_enter Tryz.func173,Tryz.ntmps173
 go_wp2_with fail
 go_loopw [] (fun wr=>∃ k:Nat,p≤k∧k≤s.size∧Hid (DR wr a s k n c)∧Hid (w.grownBy wr (some a))∧Hid (p+runN blankB ((bl s).drop p)=k+runN blankB ((bl s).drop k))) (fun wr=>s.size-atOf a wr)
 case atStart=>exact⟨p,lr,hp,HD,World.grownBy.refl _ _,rfl⟩
 case round=>
  clear c1
  obtain⟨k,hk1,hk2,HR,HG,HN⟩:=hrel
  obtain⟨f',y',K⟩:=HR.out.cells
  obtain⟨c0,c1,c2,c3,c4,c5,f0,f1,f2,f3,f4,f5⟩:=K
  clear c2 c3 c4 c5 f0 f2 f3 f4 f5
  have MA:=hid HR.out.at_
  by_cases hlt:k<s.size
  ·obtain⟨d,hd⟩:∃ d:UInt8,s[k]=d:=⟨_,rfl⟩
   by_cases h32:d.toNat=32
   ·have HN2:Hid (p+runN blankB ((bl s).drop p)=(k+1)+runN blankB ((bl s).drop (k+1))):=by
     have:=HN.out;rw[runN_step s k hlt (by rw[hd];simp[blankB];exact UInt8.toNat_inj.1 h32)] at this;show _=_;omega
    have HM:=hid (HR.out.move (q:=k+1) (by omega) (by omega))
    go_wp2_with fail
    go_quiet (fail)
    go_wp2_with fail
    go_roundw
    case rel=>exact⟨k+1,by omega,by omega,HM.out.drewN _,only_drewN (grown_thru HG.out (kept_set _)) _,HN2⟩
    case measure=>exact DR.dec (HM.out.drewN _) HR.out (Nat.lt_succ_self _)
   ·have h32':((d.toNat:Int)==32)=false:=by simp;omega
    have HE:Hid (p+runN blankB ((bl s).drop p)=k):=by
     have:=HN.out;rw[runN_halt s k hlt (by rw[hd];simp[blankB];intro e;exact h32 (by rw[e];rfl))] at this;exact this
    have HB:Hid (head0 32 ((bl s).drop p)=decide (p<k)):=by
     have:=HE.out;show _=_;rw[←blank_head];congr 1;simp;omega
    clear h32
    go_wp2_with fail
    go_quiet (fail)
    go_wp2_with fail
    go_ret
    exact⟨ret_bool (by rw[HB.out]),by rw[HE.out];exact HR.out.drewN _,only_drewN HG.out _⟩
  ·have hlt2:decide (k<s.size)=false:=dF hlt
   have HE:Hid (p+runN blankB ((bl s).drop p)=k):=by
    have:=HN.out;rw[runN_end _ s k hlt] at this;exact this
   have HB:Hid (head0 32 ((bl s).drop p)=decide (p<k)):=by
    have:=HE.out;show _=_;rw[←blank_head];congr 1;simp;omega
   go_wp2_with fail
   go_quiet (fail)
   go_wp2_with fail
   go_ret
   exact⟨ret_bool (by rw[HB.out]),by rw[HE.out];exact HR.out.drewN _,only_drewN HG.out _⟩
def UntilPost (q:UInt8→Bool)(a:Nat)(s:BA)(p n:Nat)(c:Int)(w:World)(e:Ending)(w':World):Prop:=
 e=.returned (.tuple #[.string (mkB (((bl s).drop p).take (runN q ((bl s).drop p)))),.bool (decide (0<runN q ((bl s).drop p)))])∧DR w' a s (p+runN q ((bl s).drop p)) n c∧w.grownBy w' (some a)
theorem ext_run (q:UInt8→Bool)(s:BA)(p k:Nat)(h:p+runN q ((bl s).drop p)=k):s.extract p k=mkB (((bl s).drop p).take (runN q ((bl s).drop p))):=by
 apply eq_mk;rw[bl_extract];congr 1;omega
theorem ddep_until (E:BA)(q:UInt8→Bool)(hE:∀ d,(bl E).contains d=!q d)(a:Nat)(s:BA)(p n:Nat)(c:Int)(w:World)(hs:s.size≤4294967280)(h:DR w a s p n c):
  Calls Tryz.prog 263 #[.pointer (some ⟨a,0,none⟩),.string E] w (UntilPost q a s p n c w):=by
 have HE:=hid hE;clear hE
 obtain⟨f,y,k⟩:=h.cells
 have c1:=k.c1
 have hp:=h.le
 have HD:=hid h;clear h k
 go_enter Tryz.func263,Tryz.ntmps263
 go_wp2_with fail
 go_loopw [] (fun wr=>∃ k:Nat,p≤k∧k≤s.size∧Hid (DR wr a s k n c)∧Hid (w.grownBy wr (some a))∧Hid (p+runN q ((bl s).drop p)=k+runN q ((bl s).drop k))) (fun wr=>s.size-atOf a wr)
 case atStart=>exact⟨p,lr,hp,HD,World.grownBy.refl _ _,rfl⟩
 case round=>
  clear c1
  obtain⟨k,hk1,hk2,HR,HG,HN⟩:=hrel
  obtain⟨f',y',K⟩:=HR.out.cells
  obtain⟨c0,c1,c2,c3,c4,c5,f0,f1,f2,f3,f4,f5⟩:=K
  clear c2 c3 c4 c5 f0 f2 f3 f4 f5
  have MA:=hid HR.out.at_
  have hpk:(p:Int)≤(k:Int):=by omega
  have hks:(k:Int)≤(s.size:Int):=by omega
  by_cases hlt:k<s.size
  ·obtain⟨d,hd⟩:∃ d:UInt8,s[k]=d:=⟨_,rfl⟩
   have hI:=fun W=>(IndexByte_any E d W).mono (fun (_:Ending) (_:World) ⟨he,hw⟩=>(⟨he,hw.symm⟩:_∧_))
   cases hq:q d with
   | true=>
    have hn:ixB E d<0:=ixB_neg E d (by rw[HE.out,hq];rfl)
    have hn2:decide (ixB E d<0)=true:=dT hn
    have HN2:Hid (p+runN q ((bl s).drop p)=(k+1)+runN q ((bl s).drop (k+1))):=by
     have:=HN.out;rw[runN_step s k hlt (by rw[hd];exact hq)] at this;show _=_;omega
    have HM:=hid (HR.out.move (q:=k+1) (by omega) (by omega))
    clear hq
    generalize ixB E d=i at hI hn hn2
    go_wp2_with fail
    go_quiet ((go_at_call 82;exact Calls.quiet_of_same (hI _)))
    go_wp2_with fail
    go_roundw
    case rel=>exact⟨k+1,by omega,by omega,HM.out.drewN _,only_drewN (grown_thru HG.out (kept_set _)) _,HN2⟩
    case measure=>exact DR.dec (HM.out.drewN _) HR.out (Nat.lt_succ_self _)
   | false=>
    have hn:0≤ixB E d:=ixB_pos E d (by rw[HE.out,hq];rfl)
    have hn2:decide (ixB E d<0)=false:=dF (by omega)
    have HX:Hid (p+runN q ((bl s).drop p)=k):=by
     have:=HN.out;rw[runN_halt s k hlt (by rw[hd];exact hq)] at this;exact this
    clear hq
    generalize ixB E d=i at hI hn hn2
    go_wp2_with fail
    go_quiet ((go_at_call 82;exact Calls.quiet_of_same (hI _)))
    go_wp2_with fail
    go_quiet (fail)
    go_wp2_with fail
    go_ret2
    refine⟨?_,by rw[HX.out];exact(HR.out.drewN _).drewN _,only_drewN (only_drewN HG.out _) _⟩
    have:=HX.out
    rw[←ext_run q s p k this];congr 5;simp;omega
  ·have hlt2:decide (k<s.size)=false:=dF hlt
   have HX:Hid (p+runN q ((bl s).drop p)=k):=by
    have:=HN.out;rw[runN_end _ s k hlt] at this;exact this
   go_wp2_with fail
   go_quiet (fail)
   go_wp2_with fail
   go_quiet (fail)
   go_wp2_with fail
   go_ret2
   refine⟨?_,by rw[HX.out];exact(HR.out.drewN _).drewN _,only_drewN (only_drewN HG.out _) _⟩
   have:=HX.out
   rw[←ext_run q s p k this];congr 5;simp;omega
end
section
open Go.RowKit
structure Trm.good (t:Trm):Prop where
 right:t.right=true
 op:t.op≤5
 ver:t.op=0→t.ver=[]
 few:t.archs.length≤1000000
structure Trm.shape (t:Trm) (n:Nat):Prop where
 op:t.op≤5
 ver:t.op=0→t.ver=[]
 few:t.archs.length≤n
theorem dOp_le (l:LU):(dOp l).1≤5:=by
 unfold dOp;repeat' split
 all_goals simp
theorem dRelV_op {n op:Nat}{l v r:LU}(h:dRelV n l=some (op,v,r)):op=n∧n≠0∧r.length≤l.length:=by
 unfold dRelV at h
 split at h
 ·cases h
 ·rename_i h0
  split at h
  ·cases h
  ·rename_i a b ht
   unfold dRelE at h
   split at h
   ·injection h with h;injection h with h1 h;injection h with h2 h3
    refine⟨h1.symm,h0,?_⟩
    rw[←h3]
    have a1:=tok_lt ht
    have a2:=skipL_le l
    have a3:=skipL_le b
    have a4:=skipL_le ((skipL b).drop 1)
    rw[List.length_drop] at a4
    omega
   ·cases h
theorem dOp_len (l:LU):(dOp l).2.length≤l.length:=by
 unfold dOp;repeat' split
 all_goals simp
 all_goals omega
theorem dRelO_shape {op:Nat}{l v r:LU}(h:dRelO l=some (op,v,r)):op≤5∧(op=0→v=[])∧r.length≤l.length:=by
 unfold dRelO at h
 split at h
 ·unfold dRel at h
  obtain⟨h1,h2,h3⟩:=dRelV_op h
  refine⟨by rw[h1];exact dOp_le _,fun h0=>absurd (h1.symm.trans h0) h2,?_⟩
  have a1:=dOp_len (skipL (l.drop 1))
  have a2:=skipL_le (l.drop 1)
  rw[List.length_drop] at a2
  omega
 ·injection h with h;injection h with h1 h;injection h with h2 h3
  exact⟨by omega,fun _=>h2.symm,by rw[h3];exact Nat.le_refl _⟩
theorem aBare_len (l:LU):(aBare l).length≤l.length:=by unfold aBare;split<;>simp
theorem dArchs_len:∀ (f:Nat)(l r:LU)(L:List (LU)),dArchs f l=some (L,r)→L.length≤l.length∧r.length≤l.length
 | 0,l,r,L,h=>by simp[dArchs] at h
 | f+1,l,r,L,h=>by
  unfold dArchs at h
  split at h
  ·cases h
  ·rename_i a b ha
   obtain⟨x,h1,_,_⟩:=dArch1_some ha
   have a1:=tok_lt h1
   have a2:=aBare_len l
   have a3:=skipL_le b
   split at h
   ·injection h with h;injection h with h2 h3
    have a4:=skipL_le ((skipL b).drop 1)
    rw[List.length_drop] at a4
    subst h2;subst h3
    constructor
    ·simp;omega
    ·omega
   ·split at h
    ·obtain⟨⟨M,q⟩,h4,h5⟩:=Option.map_eq_some_iff.1 h
     injection h5 with h5 h6
     obtain⟨b1,b2⟩:=dArchs_len f (skipL b) q M h4
     subst h5;subst h6
     constructor
     ·simp;omega
     ·show q.length≤_;omega
    ·cases h
theorem dTerm_shape {t:Trm}{l r:LU}(h:dTerm l=some (t,r)):t.shape l.length∧r.length<l.length:=by
 unfold dTerm at h
 split at h
 ·cases h
 ·rename_i nm r0 h0
  have a0:=tok_lt h0
  split at h
  ·cases h
  ·rename_i q r1 h1
   have a1:r1.length≤r0.length:=by
    unfold dQual at h1
    split at h1
    ·have:=tok_lt h1;rw[List.length_drop] at this;omega
    ·injection h1 with h1;injection h1 with _ h1;rw[h1];exact Nat.le_refl _
   have a2:=skipL_le r1
   split at h
   ·cases h
   ·rename_i op v r2 h2
    obtain⟨b1,b2,b3⟩:=dRelO_shape h2
    split at h
    ·cases h
    ·rename_i ar r3 h3
     have a4:ar.length≤r2.length∧r3.length≤r2.length:=by
      unfold dArchO at h3
      split at h3
      ·obtain⟨c1,c2⟩:=dArchs_len _ _ _ _ h3
       have:=skipL_le (r2.drop 1);rw[List.length_drop] at this;constructor<;>omega
      ·injection h3 with h3;injection h3 with h3 h4;subst h3;subst h4;simp
     injection h with h;injection h with h5 h6
     subst h5;subst h6
     exact⟨⟨b1,b2,by show ar.length≤_;omega⟩,by omega⟩
theorem shape_mono {t:Trm}{n m:Nat}(h:t.shape n)(hn:n≤m):t.shape m:=⟨h.op,h.ver,Nat.le_trans h.few hn⟩
theorem dGroup_shape:∀ (f:Nat)(l r:LU)(g:List Trm),dGroup f l=some (g,r)→g≠[]∧(∀ t∈g,t.shape l.length)∧r.length≤l.length
 | 0,l,r,g,h=>by simp[dGroup] at h
 | f+1,l,r,g,h=>by
  unfold dGroup at h
  split at h
  ·cases h
  ·rename_i t r0 h0
   obtain⟨a1,a2⟩:=dTerm_shape h0
   split at h
   ·obtain⟨⟨M,q⟩,h4,h5⟩:=Option.map_eq_some_iff.1 h
    injection h5 with h5 h6
    obtain⟨b1,b2,b3⟩:=dGroup_shape f _ q M h4
    have a3:=skipL_le (r0.drop 1)
    rw[List.length_drop] at a3
    subst h5;subst h6
    refine⟨by simp,fun x hx=>?_,by show q.length≤_;omega⟩
    rcases List.mem_cons.1 hx with rfl | hx
    ·exact a1
    ·exact shape_mono (b2 x hx) (by omega)
   ·injection h with h;injection h with h5 h6
    subst h5;subst h6
    refine⟨by simp,fun x hx=>?_,by omega⟩
    obtain rfl:=List.mem_singleton.1 hx
    exact a1
theorem dGroups_shape:∀ (f:Nat)(l:LU)(L:List (List Trm)),dGroups f l=some L→∀ g∈L,g≠[]∧∀ t∈g,t.shape l.length
 | 0,l,L,h=>by simp[dGroups] at h
 | f+1,l,L,h=>by
  unfold dGroups at h
  split at h
  ·cases h
  ·rename_i g0 r0 h0
   obtain⟨a1,a2,a3⟩:=dGroup_shape _ _ _ _ h0
   split at h
   ·injection h with h;subst h
    intro g hg;obtain rfl:=List.mem_singleton.1 hg;exact⟨a1,a2⟩
   ·split at h
    ·obtain⟨M,h4,rfl⟩:=Option.map_eq_some_iff.1 h
     have a4:=skipL_le (r0.drop 1)
     rw[List.length_drop] at a4
     intro g hg
     rcases List.mem_cons.1 hg with rfl | hg
     ·exact⟨a1,a2⟩
     ·obtain⟨b1,b2⟩:=dGroups_shape f _ M h4 g hg
      exact⟨b1,fun t ht=>shape_mono (b2 t ht) (by omega)⟩
    ·cases h
theorem dForm_shape {l:LU}{L:List (List Trm)}(h:dForm l=some L):∀ g∈L,g≠[]∧∀ t∈g,t.shape l.length:=by
 unfold dForm at h
 split at h
 ·injection h with h;subst h;simp
 ·intro g hg
  obtain⟨b1,b2⟩:=dGroups_shape _ _ _ h g hg
  exact⟨b1,fun t ht=>shape_mono (b2 t ht) (skipL_le _)⟩
structure FldGood (L:List (List Trm)):Prop where
 ne:∀ g∈L,g≠[]
 good:∀ g∈L,∀ t∈g,t.good
 sum:(L.map List.length).sum≤64
theorem dParse_fld {l:LU}{L:List (List Trm)}(h:dParse l=some L)(hl:l.length≤1000000):FldGood L:=by
 unfold dParse at h
 split at h
 ·cases h
 ·rename_i M hM
  split at h
  ·rename_i ha
   injection h with h;subst h
   have hs:=dForm_shape hM
   unfold dAll at ha
   simp only[Bool.and_eq_true,List.all_eq_true,decide_eq_true_eq] at ha
   refine⟨fun g hg=>(hs g hg).1,fun g hg t ht=>?_,ha.2⟩
   have h1:=(hs g hg).2 t ht
   exact⟨ha.1 g hg t ht,h1.op,h1.ver,Nat.le_trans h1.few hl⟩
  ·cases h
theorem FldGood.nil:FldGood []:=⟨by simp,by simp,by simp⟩
theorem sum_ge {L:List (List Trm)}{g:List Trm}(h:g∈L):g.length≤(L.map List.length).sum:=by
 induction L with
 | nil=>simp at h
 | cons a r ih=>
  rcases List.mem_cons.1 h with rfl | h
  ·simp
  ·have:=ih h;simp;omega
theorem FldGood.few {L:List (List Trm)}(h:FldGood L):L.length≤64:=by
 have h1:=h.sum
 have:∀ (M:List (List Trm)),(∀ g∈M,g≠[])→M.length≤(M.map List.length).sum:=by
  intro M
  induction M with
  | nil=>simp
  | cons a r ih=>
   intro hM
   have h2:=ih (fun g hg=>hM g (List.mem_cons_of_mem _ hg))
   have h3:0<a.length:=List.length_pos_iff.2 (hM a (by simp))
   simp;omega
 have:=this L h.ne
 omega
theorem dname_len {l:LU}(h:dnameB l=true):l.length≤64:=by unfold dnameB at h;simp at h;omega
theorem dword_len {l:LU}(h:dwordB l=true):l.length≤32:=by unfold dwordB at h;simp at h;omega
theorem bare_plus (l:LU):l.length≤(aBare l).length+1:=by unfold aBare;split<;>simp;omega
structure Trm.sizes (t:Trm):Prop where
 nm:t.name.length≤64
 qual:t.qual.length≤32
 ver:t.ver.length≤64
 archs:∀ x∈t.archs,x.length≤33
structure Trm.parts (t:Trm):Prop where
 nm:dnameB t.name=true
 qual:t.qual=[]∨dwordB t.qual=true
 archs:∀ x∈t.archs,dwordB (aBare x)=true
 ver:0<t.op→verE 1 (mkB t.ver)=0
theorem Trm.good.parts {t:Trm}(h:t.good):t.parts:=by
 have h1:=h.right
 unfold Trm.right at h1
 simp only[Bool.and_eq_true,Bool.or_eq_true,List.all_eq_true,decide_eq_true_eq,List.isEmpty_iff] at h1
 obtain⟨⟨⟨a1,a2⟩,a3⟩,a4⟩:=h1
 exact⟨a1,a2,a3,fun h0=>by rcases a4 with a4 | a4;· omega
                           ·exact a4⟩
theorem Trm.good.sizes {t:Trm}(h:t.good):t.sizes:=by
 have p:=h.parts
 refine⟨dname_len p.nm,?_,?_,fun x hx=>?_⟩
 ·rcases p.qual with h0 | h0
  ·rw[h0];simp
  ·exact dword_len h0
 ·by_cases h0:t.op=0
  ·rw[h.ver h0];simp
  ·have:=verE_size (p.ver (by omega));rw[mk_size] at this;exact this
 ·have:=dword_len (p.archs x hx);have:=bare_plus x;omega
end
end Go.Proofs.YtdfdllbebfoggaaGreatDoor
