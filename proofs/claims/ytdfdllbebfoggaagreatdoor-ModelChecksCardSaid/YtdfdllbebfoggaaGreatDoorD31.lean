/- A part of the proof that ModelChecks holds. No condition. -/
import Derived.Test.YtdfdllbebfoggaaGreatDoorD27
import Derived.Test.YtdfdllbebfoggaaGreatDoorD30
set_option maxRecDepth 100000
set_option maxHeartbeats 20000000
set_option linter.unusedVariables false
set_option linter.unusedSimpArgs false
namespace Go.Proofs.YtdfdllbebfoggaaGreatDoor
section
open Go.RowKit Go.Deep
theorem grown_new {w wr w1:World}{a:Nat}{row:Option Nat}(h:w.grownBy wr (some a))(k:wr.grownBy w1 row)(hr:∀ j,row=some j→w.heap.size≤j):w.grownBy w1 (some a):=
 ⟨k.os.trans h.os,k.tape.trans h.tape,k.output.trans h.output,Nat.le_trans h.size k.size,fun j hj hne=>(k.block j (Nat.lt_of_lt_of_le hj h.size) (fun e=>by have:=hr j e.symm;omega)).trans (h.block j hj hne)⟩
structure ASt (w wr:World) (a:Nat) (s:BA) (k n:Nat) (c:Int) (xs:List BA) (A:Option Addr) (m cc:Nat):Prop where
 len:xs.length=m
 row:wr.ownsRow w.heap.size 9 1 (.slice A m cc) m (strCells xs)
 dr:DR wr a s k n c
 gr:w.grownBy wr (some a)
 lt:a<w.heap.size
theorem ASt.step {w wr w':World}{a:Nat}{s:BA}{k k' n:Nat}{c c':Int}{xs:List BA}{A:Option Addr}{m cc:Nat}(h:ASt w wr a s k n c xs A m cc)(hg:wr.grownBy w' (some a))(hd:DR w' a s k' n c'):ASt w w' a s k' n c' xs A m cc:=
 ⟨h.len,owns_kept h.row h.lt hg,hd,grown_thru h.gr hg,h.lt⟩
theorem ASt.alloc {w wr:World}{a:Nat}{s:BA}{k n:Nat}{c:Int}{xs:List BA}{A:Option Addr}{m cc:Nat}(h:ASt w wr a s k n c xs A m cc)(o:Obj):ASt w (wr.alloc o) a s k n c xs A m cc:=
 ⟨h.len,h.row.alloc o,h.dr.alloc o,only_alloc h.gr o,h.lt⟩
theorem ASt.grow {w wr w2:World}{a:Nat}{s:BA}{k n:Nat}{c:Int}{xs:List BA}{A A1:Option Addr}{m cc c1:Nat}{o:Obj}{x:BA}(h:ASt w wr a s k n c xs A m cc)
  (hr:w2.ownsRow w.heap.size 9 1 (.slice A1 (m+1) c1) (m+1) (strCells xs++[.string x]))
  (hg:(wr.alloc o).grownBy w2 (Value.slice A m cc).ownBlock):ASt w w2 a s k n c (xs++[x]) A1 (m+1) c1:=by
 have ho:=h.alloc o
 refine⟨by simp[h.len],by rw[show strCells (xs++[x])=strCells xs++[.string x] by simp[strCells]];exact hr,ho.dr.kept hg ?_,grown_new ho.gr hg (fun j hj=>(h.row.lt j hj).1),h.lt⟩
 intro e;have:=(h.row.lt a e.symm).1;have:=h.lt;omega
def ArchPost (r:Option (List (LU)×LU))(a:Nat)(s:BA)(p n:Nat)(c:Int)(w:World)(e:Ending)(w':World):Prop:=
 match r with
  | none=>w.grownBy w' (some a)∧e=.returned (.tuple #[.slice none 0 0,.bool false])∧∃ p' c',DR w' a s p' n c'
  | some (L,r)=>∃ (A:Option Addr) (m cc:Nat) (xs:List BA) (p':Nat) (c':Int),e=.returned (.tuple #[.slice A m cc,.bool true])∧ASt w w' a s p' n c' xs A m cc∧xs.map bl=L∧p≤p'∧(bl s).drop p'=r∧(c'=0↔c=0∧L.all (fun x=>dwordB (aBare x))=true)
theorem ArchPost.no {r:Option (List (LU)×LU)}{a:Nat}{s:BA}{p n p':Nat}{c c':Int}{w w':World}(hr:r=none)(hg:w.grownBy w' (some a))(h:DR w' a s p' n c'):ArchPost r a s p n c w (.returned (.tuple #[.slice none 0 0,.bool false])) w':=by
 subst hr;exact⟨hg,rfl,_,_,h⟩
theorem ArchPost.yes {r:Option (List (LU)×LU)}{a:Nat}{s:BA}{p n p':Nat}{c c':Int}{w w':World}{A:Option Addr}{m cc:Nat}{xs:List BA}(hr:r=some (xs.map bl,(bl s).drop p'))(h:ASt w w' a s p' n c' xs A m cc)(hp:p≤p')(hc:c'=0↔c=0∧(xs.map bl).all (fun x=>dwordB (aBare x))=true):ArchPost r a s p n c w (.returned (.tuple #[.slice A m cc,.bool true])) w':=by
 subst hr;exact⟨A,m,cc,xs,p',c',rfl,h,rfl,hp,rfl,hc⟩
theorem arch_none {s:BA}{k m:Nat}{b:Bool}(hm:head0 33 ((bl s).drop k)=b)(hk:m=if b then k+1 else k)(ht:tok nendW ((bl s).drop m)=none):dArch1 ((bl s).drop k)=none:=by
 unfold dArch1 aBare;rw[hm];cases b<;>simp at hk<;>subst hk<;>simp[List.drop_drop,ht]
theorem arch_some {s:BA}{k m:Nat}{b:Bool}{x r:LU}(hm:head0 33 ((bl s).drop k)=b)(hk:m=if b then k+1 else k)(ht:tok nendW ((bl s).drop m)=some (x,r)):dArch1 ((bl s).drop k)=some ((if b then [33] else [])++x,r):=by
 unfold dArch1 aBare markL;rw[hm];cases b<;>simp at hk<;>subst hk<;>simp[List.drop_drop,ht]
theorem arch_bare {l x r:LU}(h:dArch1 l=some (x,r)){b:Bool}{y:LU}(hx:x=(if b then [33] else [])++y)(hm:head0 33 l=b):aBare x=y:=by
 obtain⟨z,h1,h2,h3⟩:=dArch1_some h
 rw[h3];unfold markL at h2;rw[hm] at h2;rw[hx] at h2;cases b<;>simpa using h2.symm
theorem ddep_archs (F:Nat)(a:Nat)(s:BA)(p n:Nat)(c:Int)(w:World)(hs:s.size≤4294967280)(hF:s.size-p<F)(h:DR w a s p n c):
  Calls Tryz.prog 267 #[.pointer (some ⟨a,0,none⟩)] w (ArchPost (dArchs F (skipL ((bl s).drop p))) a s p n c w):=by
 obtain⟨i0,hi0,hz0,hz1,hz2⟩:=info_parts info_str
 obtain⟨q,hq⟩:∃ q,p+runN blankB ((bl s).drop p)=q:=⟨_,rfl⟩
 have hB:=ddep_blanks a s p n c w hs h
 rw[hq] at hB
 have hlt:=h.sz
 have HQ:Hid (p≤q):=by show _≤_;omega
 obtain⟨f0,hf0⟩:∃ f0,F=f0+1:=⟨F-1,by omega⟩
 have E0:Hid (dArchs F (skipL ((bl s).drop p))=dArchsT (f0+1) [] ((bl s).drop q)):=by show _=_;rw[skip_at,hq,dArchsT_start,hf0]
 have HF0:Hid (s.size-q≤f0):=by have:=HQ.out;show _≤_;omega
 generalize dArchs F (skipL ((bl s).drop p))=RR at E0
 clear hq h hf0 hF
 go_enter Tryz.func267,Tryz.ntmps267
 go_wp2_with fail
 refine hB.mono ?_;rintro e w1 ⟨rfl,hd,hg⟩
 have S1:Hid (ASt w w1 a s q n c [] none 0 0):=⟨rfl,World.ownsRow_nil _ _ _ _,hd,hg,hlt⟩
 have hqs:=hd.le
 clear hd hg hB
 go_wp2_with fail
 go_loopw [2,3,4] (fun s2 s3 l wr=>∃ (k m cc f:Nat) (c':Int) (xs:List BA) (A:Option Addr),s2=.slice none 0 0∧s3=.bool false∧l=.slice A m cc∧k≤s.size∧m≤k∧Hid (ASt w wr a s k n c' xs A m cc)∧Hid (p≤k)∧Hid (RR=dArchsT (f+1) (xs.map bl) ((bl s).drop k))∧Hid (s.size-k≤f)∧Hid (c'=0↔c=0∧(xs.map bl).all (fun x=>dwordB (aBare x))=true)) (fun _ _ _ wr=>s.size-atOf a wr)
 case atStart=>exact⟨q,0,0,f0,c,[],none,rfl,rfl,rfl,hqs,z0,S1,HQ,E0,HF0,by simp[Hid]⟩
 case round=>
  clear S1 hqs HQ E0 HF0
  obtain⟨k,m,cc,f,c',xs,A,rfl,rfl,rfl,hk,hmk,HS,HP,HE,HF,HC⟩:=hrel
  have MA:=hid HS.out.dr.at_
  cases hm:head0 33 ((bl s).drop k) with
  | true=>
   have HM:=hid hm
   clear hm
   go_wp2_with fail
   refine(ddep_sign_yes 33 a s k n c' wr hs HS.out.dr HM).mono ?_;rintro e w2 ⟨rfl,hd,hg⟩
   have S2:=hid (HS.out.step hg hd);clear hd hg
   have hk1:=S2.out.dr.le
   cases ht:tok nendW ((bl s).drop (k+1)) with
   | none=>
    have HT:=hid ht
    have EN:Hid (RR=none):=by show _=_;rw[HE.out];exact dArchsT_none (arch_none HM.out rfl ht)
    clear ht
    go_wp2_with fail
    refine(ddep_rword_none a s (k+1) n c' w2 hs S2.out.dr HT).mono ?_;rintro e w3 ⟨rfl,hd,hg⟩
    have S3:=hid (S2.out.step hg hd);clear hd hg
    go_wp2_with fail
    go_ret2
    exact ArchPost.no EN.out S3.out.gr S3.out.dr
   | some xr=>
    obtain⟨x,r⟩:=xr
    have HT:=hid ht
    obtain⟨t1,t2,t3,t4⟩:=tok_place S2.out.dr.le ht
    have A1:=hid (arch_some HM.out rfl ht)
    have AB:=hid (arch_bare A1.out rfl HM.out)
    obtain⟨k2,hk2⟩:∃ k2,(k+1)+x.length+runN blankB ((bl s).drop ((k+1)+x.length))=k2:=⟨_,rfl⟩
    have SK:Hid (skipL r=(bl s).drop k2):=by show _=_;rw[←t2,skip_at,hk2]
    have HH32:Hid (head0 32 ((bl s).drop ((k+1)+x.length))=head0 32 r):=by show _=_;rw[t2]
    have HK2:Hid (k<k2):=by show _<_;omega
    have hxz:(mkB x).size≤4294967280:=by rw[mk_size];omega
    have hmm:m≤4294967280:=by omega
    have HB2:=hid (fun (d:Int) (W:World) (hD:DR W a s ((k+1)+x.length) n d)=>ddep_blanks a s ((k+1)+x.length) n d W hs hD)
    rw[hk2,HH32.out] at HB2
    obtain⟨Y,hY⟩:∃ Y,(⟨#[33]⟩++mkB x)=Y:=⟨_,rfl⟩
    have HY:Hid (bl Y=(if true then [33] else [])++x):=by show _=_;rw[←hY];simp[bl_append,bl_of];rfl
    clear ht t1 t2 t3 t4 hk2 HH32
    go_wp2_with fail
    refine(ddep_rword_some x r a s (k+1) n c' w2 hs S2.out.dr HT).mono ?_;rintro e w3 ⟨rfl,⟨c2,hd,hcc⟩,hg⟩
    have S3:=hid (S2.out.step hg hd);clear hd hg
    have HC2:Hid (c2=0↔c=0∧((xs++[Y]).map bl).all (fun x=>dwordB (aBare x))=true):=by
     have h1:=HC.out;have h2:=HY.out;have h3:=AB.out
     show _↔_
     rw[hcc,h1,List.map_append,List.all_append]
     simp only[List.map_cons,List.map_nil,List.all_cons,List.all_nil,Bool.and_true,Bool.and_eq_true]
     rw[h2,h3];exact and_assoc
    clear hcc
    go_wp2_with (at_builtin;refine wpList_append_any _ rfl _ _ _ rfl w.heap.size 9 i0 _ 1 16 Tryz.underlying22 hi0 hz0 hz1 hz2 rfl (by omega) (.slice A m cc) m _ rfl (S3.out.row.alloc _) (w3.heap.size+1) (some ⟨w3.heap.size,0,none⟩) 1 1 [.string Y] rfl (reads_str w3 _ _) (by simp[Value.oneCell']) (by simp only[maxLen];omega) (by omega) (by simp;have:=S3.out.gr.size;omega) ?_;intro v1 w4 o1 g1 a1)
    obtain⟨A4,c4,rfl⟩:=owns_form o1
    have S4:=hid (S3.out.grow (x:=Y) o1 g1)
    clear o1 g1 a1
    go_wp2_with fail
    refine(HB2.out c2 w4 S4.out.dr).mono ?_;rintro e w5 ⟨rfl,hd,hg⟩
    have S5:=hid (S4.out.step hg hd);clear hd hg
    have hk2s:=S5.out.dr.le
    cases h93:head0 93 ((bl s).drop k2) with
    | true=>
     have H93:=hid h93
     obtain⟨k3,hk3⟩:∃ k3,k2+1+runN blankB ((bl s).drop (k2+1))=k3:=⟨_,rfl⟩
     have EN:Hid (RR=some ((xs++[Y]).map bl,(bl s).drop k3)):=by
      show _=_
      rw[HE.out,dArchsT_end A1.out (by rw[SK.out];exact h93),SK.out,List.drop_drop,skip_at,hk3,List.map_append,List.map_cons,List.map_nil,HY.out]
     have HB3:=hid (fun (W:World) (hD:DR W a s (k2+1) n c2)=>ddep_blanks a s (k2+1) n c2 W hs hD)
     rw[hk3] at HB3
     have HP3:Hid (p≤k3):=by have:=HP.out;have:=HK2.out;show _≤_;omega
     clear h93 hk3
     go_wp2_with fail
     refine(ddep_sign_yes 93 a s k2 n c2 w5 hs S5.out.dr H93).mono ?_;rintro e w6 ⟨rfl,hd,hg⟩
     have S6:=hid (S5.out.step hg hd);clear hd hg
     go_wp2_with fail
     refine(HB3.out w6 S6.out.dr).mono ?_;rintro e w7 ⟨rfl,hd,hg⟩
     have S7:=hid (S6.out.step hg hd);clear hd hg
     go_wp2_with fail
     go_ret2
     exact ArchPost.yes EN.out S7.out HP3.out HC2.out
    | false=>
     have H93:=hid h93
     cases h32:head0 32 r with
     | true=>
      have EN:Hid (RR=dArchsT (f-1+1) ((xs++[Y]).map bl) ((bl s).drop k2)):=by
       have hf:=HF.out;have hk':=HK2.out
       show _=_
       rw[HE.out,dArchsT_more A1.out (by rw[SK.out];exact h93) h32,SK.out,List.map_append,List.map_cons,List.map_nil,HY.out,show f-1+1=f by omega]
      have HF2:Hid (s.size-k2≤f-1):=by have:=HF.out;have:=HK2.out;show _≤_;omega
      have HP2:Hid (p≤k2):=by have:=HP.out;have:=HK2.out;show _≤_;omega
      have hmk2:m+1≤k2:=by have:=HK2.out;omega
      clear h93 h32
      go_wp2_with fail
      refine(ddep_sign_no 93 a s k2 n c2 w5 hs S5.out.dr H93).mono ?_;rintro e w6 ⟨rfl,hd,hg⟩
      have S6:=hid (S5.out.step hg hd);clear hd hg
      go_wp2_with fail
      go_roundw
      case rel=>exact⟨k2,m+1,c4,f-1,c2,xs++[Y],A4,rfl,rfl,rfl,hk2s,hmk2,S6,HP2,EN,HF2,HC2⟩
      case measure=>rw[S6.out.dr.at_,MA.out];have:=HK2.out;omega
     | false=>
      have EN:Hid (RR=none):=by show _=_;rw[HE.out];exact dArchsT_bad A1.out (by rw[SK.out];exact h93) h32
      clear h93 h32
      go_wp2_with fail
      refine(ddep_sign_no 93 a s k2 n c2 w5 hs S5.out.dr H93).mono ?_;rintro e w6 ⟨rfl,hd,hg⟩
      have S6:=hid (S5.out.step hg hd);clear hd hg
      go_wp2_with fail
      go_ret2
      exact ArchPost.no EN.out S6.out.gr S6.out.dr
  | false=>
   have HM:=hid hm
   clear hm
   go_wp2_with fail
   refine(ddep_sign_no 33 a s k n c' wr hs HS.out.dr HM).mono ?_;rintro e w2 ⟨rfl,hd,hg⟩
   have S2:=hid (HS.out.step hg hd);clear hd hg
   have hk1:=S2.out.dr.le
   cases ht:tok nendW ((bl s).drop k) with
   | none=>
    have HT:=hid ht
    have EN:Hid (RR=none):=by show _=_;rw[HE.out];exact dArchsT_none (arch_none HM.out rfl ht)
    clear ht
    go_wp2_with fail
    refine(ddep_rword_none a s k n c' w2 hs S2.out.dr HT).mono ?_;rintro e w3 ⟨rfl,hd,hg⟩
    have S3:=hid (S2.out.step hg hd);clear hd hg
    go_wp2_with fail
    go_ret2
    exact ArchPost.no EN.out S3.out.gr S3.out.dr
   | some xr=>
    obtain⟨x,r⟩:=xr
    have HT:=hid ht
    obtain⟨t1,t2,t3,t4⟩:=tok_place S2.out.dr.le ht
    have A1:=hid (arch_some HM.out rfl ht)
    have AB:=hid (arch_bare A1.out rfl HM.out)
    obtain⟨k2,hk2⟩:∃ k2,k+x.length+runN blankB ((bl s).drop (k+x.length))=k2:=⟨_,rfl⟩
    have SK:Hid (skipL r=(bl s).drop k2):=by show _=_;rw[←t2,skip_at,hk2]
    have HH32:Hid (head0 32 ((bl s).drop (k+x.length))=head0 32 r):=by show _=_;rw[t2]
    have HK2:Hid (k<k2):=by show _<_;omega
    have hxz:(mkB x).size≤4294967280:=by rw[mk_size];omega
    have hmm:m≤4294967280:=by omega
    have HB2:=hid (fun (d:Int) (W:World) (hD:DR W a s (k+x.length) n d)=>ddep_blanks a s (k+x.length) n d W hs hD)
    rw[hk2,HH32.out] at HB2
    obtain⟨Y,hY⟩:∃ Y,(mkB x)=Y:=⟨_,rfl⟩
    have HY:Hid (bl Y=(if false then [33] else [])++x):=by show _=_;rw[←hY];simp[bl_append,bl_of]
    have hYz:Y.size≤4294967280:=by rw[←hY];exact hxz
    clear ht t1 t2 t3 t4 hk2 HH32
    go_wp2_with fail
    refine(ddep_rword_some x r a s k n c' w2 hs S2.out.dr HT).mono ?_;rintro e w3 ⟨rfl,⟨c2,hd,hcc⟩,hg⟩
    have S3:=hid (S2.out.step hg hd);clear hd hg
    have HC2:Hid (c2=0↔c=0∧((xs++[Y]).map bl).all (fun x=>dwordB (aBare x))=true):=by
     have h1:=HC.out;have h2:=HY.out;have h3:=AB.out
     show _↔_
     rw[hcc,h1,List.map_append,List.all_append]
     simp only[List.map_cons,List.map_nil,List.all_cons,List.all_nil,Bool.and_true,Bool.and_eq_true]
     rw[h2,h3];exact and_assoc
    clear hcc
    go_wp2_with (at_builtin;refine wpList_append_any _ rfl _ _ _ rfl w.heap.size 9 i0 _ 1 16 Tryz.underlying22 hi0 hz0 hz1 hz2 rfl (by omega) (.slice A m cc) m _ rfl (S3.out.row.alloc _) (w3.heap.size+1) (some ⟨w3.heap.size,0,none⟩) 1 1 [.string Y] rfl (reads_str w3 _ _) (by simp[Value.oneCell']) (by simp only[maxLen];omega) (by omega) (by simp;have:=S3.out.gr.size;omega) ?_;intro v1 w4 o1 g1 a1)
    obtain⟨A4,c4,rfl⟩:=owns_form o1
    have S4:=hid (S3.out.grow (x:=Y) o1 g1)
    clear o1 g1 a1
    go_wp2_with fail
    refine(HB2.out c2 w4 S4.out.dr).mono ?_;rintro e w5 ⟨rfl,hd,hg⟩
    have S5:=hid (S4.out.step hg hd);clear hd hg
    have hk2s:=S5.out.dr.le
    cases h93:head0 93 ((bl s).drop k2) with
    | true=>
     have H93:=hid h93
     obtain⟨k3,hk3⟩:∃ k3,k2+1+runN blankB ((bl s).drop (k2+1))=k3:=⟨_,rfl⟩
     have EN:Hid (RR=some ((xs++[Y]).map bl,(bl s).drop k3)):=by
      show _=_
      rw[HE.out,dArchsT_end A1.out (by rw[SK.out];exact h93),SK.out,List.drop_drop,skip_at,hk3,List.map_append,List.map_cons,List.map_nil,HY.out]
     have HB3:=hid (fun (W:World) (hD:DR W a s (k2+1) n c2)=>ddep_blanks a s (k2+1) n c2 W hs hD)
     rw[hk3] at HB3
     have HP3:Hid (p≤k3):=by have:=HP.out;have:=HK2.out;show _≤_;omega
     clear h93 hk3
     go_wp2_with fail
     refine(ddep_sign_yes 93 a s k2 n c2 w5 hs S5.out.dr H93).mono ?_;rintro e w6 ⟨rfl,hd,hg⟩
     have S6:=hid (S5.out.step hg hd);clear hd hg
     go_wp2_with fail
     refine(HB3.out w6 S6.out.dr).mono ?_;rintro e w7 ⟨rfl,hd,hg⟩
     have S7:=hid (S6.out.step hg hd);clear hd hg
     go_wp2_with fail
     go_ret2
     exact ArchPost.yes EN.out S7.out HP3.out HC2.out
    | false=>
     have H93:=hid h93
     cases h32:head0 32 r with
     | true=>
      have EN:Hid (RR=dArchsT (f-1+1) ((xs++[Y]).map bl) ((bl s).drop k2)):=by
       have hf:=HF.out;have hk':=HK2.out
       show _=_
       rw[HE.out,dArchsT_more A1.out (by rw[SK.out];exact h93) h32,SK.out,List.map_append,List.map_cons,List.map_nil,HY.out,show f-1+1=f by omega]
      have HF2:Hid (s.size-k2≤f-1):=by have:=HF.out;have:=HK2.out;show _≤_;omega
      have HP2:Hid (p≤k2):=by have:=HP.out;have:=HK2.out;show _≤_;omega
      have hmk2:m+1≤k2:=by have:=HK2.out;omega
      clear h93 h32
      go_wp2_with fail
      refine(ddep_sign_no 93 a s k2 n c2 w5 hs S5.out.dr H93).mono ?_;rintro e w6 ⟨rfl,hd,hg⟩
      have S6:=hid (S5.out.step hg hd);clear hd hg
      go_wp2_with fail
      go_roundw
      case rel=>exact⟨k2,m+1,c4,f-1,c2,xs++[Y],A4,rfl,rfl,rfl,hk2s,hmk2,S6,HP2,EN,HF2,HC2⟩
      case measure=>rw[S6.out.dr.at_,MA.out];have:=HK2.out;omega
     | false=>
      have EN:Hid (RR=none):=by show _=_;rw[HE.out];exact dArchsT_bad A1.out (by rw[SK.out];exact h93) h32
      clear h93 h32
      go_wp2_with fail
      refine(ddep_sign_no 93 a s k2 n c2 w5 hs S5.out.dr H93).mono ?_;rintro e w6 ⟨rfl,hd,hg⟩
      have S6:=hid (S5.out.step hg hd);clear hd hg
      go_wp2_with fail
      go_ret2
      exact ArchPost.no EN.out S6.out.gr S6.out.dr
end
end Go.Proofs.YtdfdllbebfoggaaGreatDoor
