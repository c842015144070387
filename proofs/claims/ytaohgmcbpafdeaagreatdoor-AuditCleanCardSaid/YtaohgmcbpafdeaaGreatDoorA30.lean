/- A part of the proof. -/
import Derived.Test.YtaohgmcbpafdeaaGreatDoorA26
import Derived.Test.YtaohgmcbpafdeaaGreatDoorA28
import Derived.Test.YtaohgmcbpafdeaaGreatDoorA29
set_option maxRecDepth 100000
set_option maxHeartbeats 20000000
set_option linter.unusedVariables false
set_option linter.unusedSimpArgs false
namespace Go.Proofs.YtaohgmcbpafdeaaGreatDoor
section
open Go.RowKit Go.Deep
theorem gu {w wr w1:World}{a:Nat}{row:Option Nat}(h:w.grownBy wr (some a))(k:wr.grownBy w1 row)(hr:∀ j,row=some j→w.heap.size≤j):w.grownBy w1 (some a):=
 ⟨k.os.trans h.os,k.tape.trans h.tape,k.output.trans h.output,Nat.le_trans h.size k.size,fun j hj hne=>(k.block j (Nat.lt_of_lt_of_le hj h.size) (fun e=>by have:=hr j e.symm;omega)).trans (h.block j hj hne)⟩
structure FV (w wr:World) (a:Nat) (s:BA) (k n:Nat) (c:Int) (xs:List BA) (A:OA) (m cc:Nat):Prop where
 len:xs.length=m
 row:wr.ownsRow w.heap.size 9 1 (.slice A m cc) m (az xs)
 dr:DR wr a s k n c
 gr:w.grownBy wr (some a)
 lt:a<w.heap.size
theorem FV.step {w wr w':World}{a:Nat}{s:BA}{k k' n:Nat}{c c':Int}{xs:List BA}{A:OA}{m cc:Nat}(h:FV w wr a s k n c xs A m cc)(hg:wr.grownBy w' (some a))(hd:DR w' a s k' n c'):FV w w' a s k' n c' xs A m cc:=
 ⟨h.len,bN h.row h.lt hg,hd,ai h.gr hg,h.lt⟩
theorem FV.alloc {w wr:World}{a:Nat}{s:BA}{k n:Nat}{c:Int}{xs:List BA}{A:OA}{m cc:Nat}(h:FV w wr a s k n c xs A m cc)(o:Obj):FV w (wr.alloc o) a s k n c xs A m cc:=
 ⟨h.len,h.row.alloc o,h.dr.alloc o,kb h.gr o,h.lt⟩
theorem FV.grow {w wr w2:World}{a:Nat}{s:BA}{k n:Nat}{c:Int}{xs:List BA}{A A1:OA}{m cc c1:Nat}{o:Obj}{x:BA}(h:FV w wr a s k n c xs A m cc)
  (hr:w2.ownsRow w.heap.size 9 1 (.slice A1 (m+1) c1) (m+1) (az xs++[.string x]))
  (hg:(wr.alloc o).grownBy w2 (Value.slice A m cc).ownBlock):FV w w2 a s k n c (xs++[x]) A1 (m+1) c1:=by
 have ho:=h.alloc o
 refine⟨by simp[h.len],by rw[show az (xs++[x])=az xs++[.string x] by simp[az]];exact hr,ho.dr.kept hg ?_,gu ho.gr hg (fun j hj=>(h.row.lt j hj).1),h.lt⟩
 intro e;have:=(h.row.lt a e.symm).1;have:=h.lt;omega
def eG (r:Option (List (LU)×LU))(a:Nat)(s:BA)(p n:Nat)(c:Int)(w:World)(e:Ending)(w':World):Prop:=
 match r with
  | none=>w.grownBy w' (some a)∧e=.returned (.tuple #[.slice none 0 0,.bool false])∧∃ p' c',DR w' a s p' n c'
  | some (L,r)=>∃ (A:OA) (m cc:Nat) (xs:List BA) (p':Nat) (c':Int),e=.returned (.tuple #[.slice A m cc,.bool true])∧FV w w' a s p' n c' xs A m cc∧xs.map bl=L∧p≤p'∧(bl s).drop p'=r∧(c'=0↔c=0∧L.all (fun x=>cU (bU x))=true)
theorem eG.no {r:Option (List (LU)×LU)}{a:Nat}{s:BA}{p n p':Nat}{c c':Int}{w w':World}(hr:r=none)(hg:w.grownBy w' (some a))(h:DR w' a s p' n c'):eG r a s p n c w (.returned (.tuple #[.slice none 0 0,.bool false])) w':=by
 subst hr;exact⟨hg,rfl,_,_,h⟩
theorem eG.yes {r:Option (List (LU)×LU)}{a:Nat}{s:BA}{p n p':Nat}{c c':Int}{w w':World}{A:OA}{m cc:Nat}{xs:List BA}(hr:r=some (xs.map bl,(bl s).drop p'))(h:FV w w' a s p' n c' xs A m cc)(hp:p≤p')(hc:c'=0↔c=0∧(xs.map bl).all (fun x=>cU (bU x))=true):eG r a s p n c w (.returned (.tuple #[.slice A m cc,.bool true])) w':=by
 subst hr;exact⟨A,m,cc,xs,p',c',rfl,h,rfl,hp,rfl,hc⟩
theorem vP {s:BA}{k m:Nat}{b:Bool}(hm:ay 33 ((bl s).drop k)=b)(hk:m=if b then k+1 else k)(ht:lf ik ((bl s).drop m)=none):gY ((bl s).drop k)=none:=by
 unfold gY bU;rw[hm];cases b<;>simp at hk<;>subst hk<;>simp[List.drop_drop,ht]
theorem vQ {s:BA}{k m:Nat}{b:Bool}{x r:LU}(hm:ay 33 ((bl s).drop k)=b)(hk:m=if b then k+1 else k)(ht:lf ik ((bl s).drop m)=some (x,r)):gY ((bl s).drop k)=some ((if b then [33] else [])++x,r):=by
 unfold gY bU vH;rw[hm];cases b<;>simp at hk<;>subst hk<;>simp[List.drop_drop,ht]
theorem vR {l x r:LU}(h:gY l=some (x,r)){b:Bool}{y:LU}(hx:x=(if b then [33] else [])++y)(hm:ay 33 l=b):bU x=y:=by
 obtain⟨z,h1,h2,h3⟩:=qc h
 rw[h3];unfold vH at h2;rw[hm] at h2;rw[hx] at h2;cases b<;>simpa using h2.symm
theorem Ci (F:Nat)(a:Nat)(s:BA)(p n:Nat)(c:Int)(w:World)(hs:s.size≤4294967280)(hF:s.size-p<F)(h:DR w a s p n c):
  Calls Tryz.prog 245 #[.pointer (some ⟨a,0,none⟩)] w (eG (eE F (aH ((bl s).drop p))) a s p n c w):=by
 obtain⟨i0,hi0,hz0,hz1,hz2⟩:=info_parts jD
 obtain⟨q,hq⟩:∃ q,p+aA aO ((bl s).drop p)=q:=⟨_,rfl⟩
 have hB:=aF a s p n c w hs h
 rw[hq] at hB
 have hlt:=h.sz
 have HQ:Hid (p≤q):=by show _≤_;omega
 obtain⟨f0,hf0⟩:∃ f0,F=f0+1:=⟨F-1,by omega⟩
 have E0:Hid (eE F (aH ((bl s).drop p))=dK (f0+1) [] ((bl s).drop q)):=by show _=_;rw[bK,hq,uM,hf0]
 have HF0:Hid (s.size-q≤f0):=by have:=HQ.out;show _≤_;omega
 generalize eE F (aH ((bl s).drop p))=RR at E0
 clear hq h hf0 hF
 go_enter Tryz.func245,Tryz.ntmps245
 go_wp2_with fail
 refine hB.mono ?_;rintro e w1 ⟨rfl,hd,hg⟩
 have S1:Hid (FV w w1 a s q n c [] none 0 0):=⟨rfl,World.ownsRow_nil _ _ _ _,hd,hg,hlt⟩
 have hqs:=hd.le
 clear hd hg hB
 go_wp2_with fail
 go_loopw [2,3,4] (fun s2 s3 l wr=>∃ (k m cc f:Nat) (c':Int) (xs:List BA) (A:OA),s2=.slice none 0 0∧s3=.bool false∧l=.slice A m cc∧k≤s.size∧m≤k∧Hid (FV w wr a s k n c' xs A m cc)∧Hid (p≤k)∧Hid (RR=dK (f+1) (xs.map bl) ((bl s).drop k))∧Hid (s.size-k≤f)∧Hid (c'=0↔c=0∧(xs.map bl).all (fun x=>cU (bU x))=true)) (fun _ _ _ wr=>s.size-xt a wr)
 case atStart=>exact⟨q,0,0,f0,c,[],none,rfl,rfl,rfl,hqs,z0,S1,HQ,E0,HF0,by simp[Hid]⟩
 case round=>
  clear S1 hqs HQ E0 HF0
  obtain⟨k,m,cc,f,c',xs,A,rfl,rfl,rfl,hk,hmk,HS,HP,HE,HF,HC⟩:=hrel
  have MA:=ae HS.out.dr.at_
  cases hm:ay 33 ((bl s).drop k) with
  | true=>
   have HM:=ae hm
   clear hm
   go_wp2_with fail
   refine(aJ 33 a s k n c' wr hs HS.out.dr HM).mono ?_;rintro e w2 ⟨rfl,hd,hg⟩
   have S2:=ae (HS.out.step hg hd);clear hd hg
   have hk1:=S2.out.dr.le
   cases ht:lf ik ((bl s).drop (k+1)) with
   | none=>
    have HT:=ae ht
    have EN:Hid (RR=none):=by show _=_;rw[HE.out];exact ot (vP HM.out rfl ht)
    clear ht
    go_wp2_with fail
    refine(hQ a s (k+1) n c' w2 hs S2.out.dr HT).mono ?_;rintro e w3 ⟨rfl,hd,hg⟩
    have S3:=ae (S2.out.step hg hd);clear hd hg
    go_wp2_with fail
    go_ret2
    exact eG.no EN.out S3.out.gr S3.out.dr
   | some xr=>
    obtain⟨x,r⟩:=xr
    have HT:=ae ht
    obtain⟨t1,t2,t3,t4⟩:=dD S2.out.dr.le ht
    have A1:=ae (vQ HM.out rfl ht)
    have AB:=ae (vR A1.out rfl HM.out)
    obtain⟨k2,hk2⟩:∃ k2,(k+1)+x.length+aA aO ((bl s).drop ((k+1)+x.length))=k2:=⟨_,rfl⟩
    have SK:Hid (aH r=(bl s).drop k2):=by show _=_;rw[←t2,bK,hk2]
    have HH32:Hid (ay 32 ((bl s).drop ((k+1)+x.length))=ay 32 r):=by show _=_;rw[t2]
    have HK2:Hid (k<k2):=by show _<_;omega
    have hxz:(bC x).size≤4294967280:=by rw[bS];omega
    have hmm:m≤4294967280:=by omega
    have HB2:=ae (fun (d:Int) (W:World) (hD:DR W a s ((k+1)+x.length) n d)=>aF a s ((k+1)+x.length) n d W hs hD)
    rw[hk2,HH32.out] at HB2
    obtain⟨Y,hY⟩:∃ Y,(⟨#[33]⟩++bC x)=Y:=⟨_,rfl⟩
    have HY:Hid (bl Y=(if true then [33] else [])++x):=by show _=_;rw[←hY];simp[cj,eh];rfl
    clear ht t1 t2 t3 t4 hk2 HH32
    go_wp2_with fail
    refine(ib x r a s (k+1) n c' w2 hs S2.out.dr HT).mono ?_;rintro e w3 ⟨rfl,⟨c2,hd,hcc⟩,hg⟩
    have S3:=ae (S2.out.step hg hd);clear hd hg
    have HC2:Hid (c2=0↔c=0∧((xs++[Y]).map bl).all (fun x=>cU (bU x))=true):=by
     have h1:=HC.out;have h2:=HY.out;have h3:=AB.out
     show _↔_
     rw[hcc,h1,List.map_append,List.all_append]
     simp only[List.map_cons,List.map_nil,List.all_cons,List.all_nil,Bool.and_true,Bool.and_eq_true]
     rw[h2,h3];exact and_assoc
    clear hcc
    go_wp2_with (at_builtin;refine aD _ rfl _ _ _ rfl w.heap.size 9 i0 _ 1 16 Tryz.underlying26 hi0 hz0 hz1 hz2 rfl (by omega) (.slice A m cc) m _ rfl (S3.out.row.alloc _) (w3.heap.size+1) (some ⟨w3.heap.size,0,none⟩) 1 1 [.string Y] rfl (fv w3 _ _) (by simp[Value.oneCell']) (by simp only[maxLen];omega) (by omega) (by simp;have:=S3.out.gr.size;omega) ?_;intro v1 w4 o1 g1 a1)
    obtain⟨A4,c4,rfl⟩:=aP o1
    have S4:=ae (S3.out.grow (x:=Y) o1 g1)
    clear o1 g1 a1
    go_wp2_with fail
    refine(HB2.out c2 w4 S4.out.dr).mono ?_;rintro e w5 ⟨rfl,hd,hg⟩
    have S5:=ae (S4.out.step hg hd);clear hd hg
    have hk2s:=S5.out.dr.le
    cases h93:ay 93 ((bl s).drop k2) with
    | true=>
     have H93:=ae h93
     obtain⟨k3,hk3⟩:∃ k3,k2+1+aA aO ((bl s).drop (k2+1))=k3:=⟨_,rfl⟩
     have EN:Hid (RR=some ((xs++[Y]).map bl,(bl s).drop k3)):=by
      show _=_
      rw[HE.out,qa A1.out (by rw[SK.out];exact h93),SK.out,List.drop_drop,bK,hk3,List.map_append,List.map_cons,List.map_nil,HY.out]
     have HB3:=ae (fun (W:World) (hD:DR W a s (k2+1) n c2)=>aF a s (k2+1) n c2 W hs hD)
     rw[hk3] at HB3
     have HP3:Hid (p≤k3):=by have:=HP.out;have:=HK2.out;show _≤_;omega
     clear h93 hk3
     go_wp2_with fail
     refine(aJ 93 a s k2 n c2 w5 hs S5.out.dr H93).mono ?_;rintro e w6 ⟨rfl,hd,hg⟩
     have S6:=ae (S5.out.step hg hd);clear hd hg
     go_wp2_with fail
     refine(HB3.out w6 S6.out.dr).mono ?_;rintro e w7 ⟨rfl,hd,hg⟩
     have S7:=ae (S6.out.step hg hd);clear hd hg
     go_wp2_with fail
     go_ret2
     exact eG.yes EN.out S7.out HP3.out HC2.out
    | false=>
     have H93:=ae h93
     cases h32:ay 32 r with
     | true=>
      have EN:Hid (RR=dK (f-1+1) ((xs++[Y]).map bl) ((bl s).drop k2)):=by
       have hf:=HF.out;have hk':=HK2.out
       show _=_
       rw[HE.out,ou A1.out (by rw[SK.out];exact h93) h32,SK.out,List.map_append,List.map_cons,List.map_nil,HY.out,show f-1+1=f by omega]
      have HF2:Hid (s.size-k2≤f-1):=by have:=HF.out;have:=HK2.out;show _≤_;omega
      have HP2:Hid (p≤k2):=by have:=HP.out;have:=HK2.out;show _≤_;omega
      have hmk2:m+1≤k2:=by have:=HK2.out;omega
      clear h93 h32
      go_wp2_with fail
      refine(aC 93 a s k2 n c2 w5 hs S5.out.dr H93).mono ?_;rintro e w6 ⟨rfl,hd,hg⟩
      have S6:=ae (S5.out.step hg hd);clear hd hg
      go_wp2_with fail
      go_roundw
      case rel=>exact⟨k2,m+1,c4,f-1,c2,xs++[Y],A4,rfl,rfl,rfl,hk2s,hmk2,S6,HP2,EN,HF2,HC2⟩
      case measure=>rw[S6.out.dr.at_,MA.out];have:=HK2.out;omega
     | false=>
      have EN:Hid (RR=none):=by show _=_;rw[HE.out];exact qb A1.out (by rw[SK.out];exact h93) h32
      clear h93 h32
      go_wp2_with fail
      refine(aC 93 a s k2 n c2 w5 hs S5.out.dr H93).mono ?_;rintro e w6 ⟨rfl,hd,hg⟩
      have S6:=ae (S5.out.step hg hd);clear hd hg
      go_wp2_with fail
      go_ret2
      exact eG.no EN.out S6.out.gr S6.out.dr
  | false=>
   have HM:=ae hm
   clear hm
   go_wp2_with fail
   refine(aC 33 a s k n c' wr hs HS.out.dr HM).mono ?_;rintro e w2 ⟨rfl,hd,hg⟩
   have S2:=ae (HS.out.step hg hd);clear hd hg
   have hk1:=S2.out.dr.le
   cases ht:lf ik ((bl s).drop k) with
   | none=>
    have HT:=ae ht
    have EN:Hid (RR=none):=by show _=_;rw[HE.out];exact ot (vP HM.out rfl ht)
    clear ht
    go_wp2_with fail
    refine(hQ a s k n c' w2 hs S2.out.dr HT).mono ?_;rintro e w3 ⟨rfl,hd,hg⟩
    have S3:=ae (S2.out.step hg hd);clear hd hg
    go_wp2_with fail
    go_ret2
    exact eG.no EN.out S3.out.gr S3.out.dr
   | some xr=>
    obtain⟨x,r⟩:=xr
    have HT:=ae ht
    obtain⟨t1,t2,t3,t4⟩:=dD S2.out.dr.le ht
    have A1:=ae (vQ HM.out rfl ht)
    have AB:=ae (vR A1.out rfl HM.out)
    obtain⟨k2,hk2⟩:∃ k2,k+x.length+aA aO ((bl s).drop (k+x.length))=k2:=⟨_,rfl⟩
    have SK:Hid (aH r=(bl s).drop k2):=by show _=_;rw[←t2,bK,hk2]
    have HH32:Hid (ay 32 ((bl s).drop (k+x.length))=ay 32 r):=by show _=_;rw[t2]
    have HK2:Hid (k<k2):=by show _<_;omega
    have hxz:(bC x).size≤4294967280:=by rw[bS];omega
    have hmm:m≤4294967280:=by omega
    have HB2:=ae (fun (d:Int) (W:World) (hD:DR W a s (k+x.length) n d)=>aF a s (k+x.length) n d W hs hD)
    rw[hk2,HH32.out] at HB2
    obtain⟨Y,hY⟩:∃ Y,(bC x)=Y:=⟨_,rfl⟩
    have HY:Hid (bl Y=(if false then [33] else [])++x):=by show _=_;rw[←hY];simp[cj,eh]
    have hYz:Y.size≤4294967280:=by rw[←hY];exact hxz
    clear ht t1 t2 t3 t4 hk2 HH32
    go_wp2_with fail
    refine(ib x r a s k n c' w2 hs S2.out.dr HT).mono ?_;rintro e w3 ⟨rfl,⟨c2,hd,hcc⟩,hg⟩
    have S3:=ae (S2.out.step hg hd);clear hd hg
    have HC2:Hid (c2=0↔c=0∧((xs++[Y]).map bl).all (fun x=>cU (bU x))=true):=by
     have h1:=HC.out;have h2:=HY.out;have h3:=AB.out
     show _↔_
     rw[hcc,h1,List.map_append,List.all_append]
     simp only[List.map_cons,List.map_nil,List.all_cons,List.all_nil,Bool.and_true,Bool.and_eq_true]
     rw[h2,h3];exact and_assoc
    clear hcc
    go_wp2_with (at_builtin;refine aD _ rfl _ _ _ rfl w.heap.size 9 i0 _ 1 16 Tryz.underlying26 hi0 hz0 hz1 hz2 rfl (by omega) (.slice A m cc) m _ rfl (S3.out.row.alloc _) (w3.heap.size+1) (some ⟨w3.heap.size,0,none⟩) 1 1 [.string Y] rfl (fv w3 _ _) (by simp[Value.oneCell']) (by simp only[maxLen];omega) (by omega) (by simp;have:=S3.out.gr.size;omega) ?_;intro v1 w4 o1 g1 a1)
    obtain⟨A4,c4,rfl⟩:=aP o1
    have S4:=ae (S3.out.grow (x:=Y) o1 g1)
    clear o1 g1 a1
    go_wp2_with fail
    refine(HB2.out c2 w4 S4.out.dr).mono ?_;rintro e w5 ⟨rfl,hd,hg⟩
    have S5:=ae (S4.out.step hg hd);clear hd hg
    have hk2s:=S5.out.dr.le
    cases h93:ay 93 ((bl s).drop k2) with
    | true=>
     have H93:=ae h93
     obtain⟨k3,hk3⟩:∃ k3,k2+1+aA aO ((bl s).drop (k2+1))=k3:=⟨_,rfl⟩
     have EN:Hid (RR=some ((xs++[Y]).map bl,(bl s).drop k3)):=by
      show _=_
      rw[HE.out,qa A1.out (by rw[SK.out];exact h93),SK.out,List.drop_drop,bK,hk3,List.map_append,List.map_cons,List.map_nil,HY.out]
     have HB3:=ae (fun (W:World) (hD:DR W a s (k2+1) n c2)=>aF a s (k2+1) n c2 W hs hD)
     rw[hk3] at HB3
     have HP3:Hid (p≤k3):=by have:=HP.out;have:=HK2.out;show _≤_;omega
     clear h93 hk3
     go_wp2_with fail
     refine(aJ 93 a s k2 n c2 w5 hs S5.out.dr H93).mono ?_;rintro e w6 ⟨rfl,hd,hg⟩
     have S6:=ae (S5.out.step hg hd);clear hd hg
     go_wp2_with fail
     refine(HB3.out w6 S6.out.dr).mono ?_;rintro e w7 ⟨rfl,hd,hg⟩
     have S7:=ae (S6.out.step hg hd);clear hd hg
     go_wp2_with fail
     go_ret2
     exact eG.yes EN.out S7.out HP3.out HC2.out
    | false=>
     have H93:=ae h93
     cases h32:ay 32 r with
     | true=>
      have EN:Hid (RR=dK (f-1+1) ((xs++[Y]).map bl) ((bl s).drop k2)):=by
       have hf:=HF.out;have hk':=HK2.out
       show _=_
       rw[HE.out,ou A1.out (by rw[SK.out];exact h93) h32,SK.out,List.map_append,List.map_cons,List.map_nil,HY.out,show f-1+1=f by omega]
      have HF2:Hid (s.size-k2≤f-1):=by have:=HF.out;have:=HK2.out;show _≤_;omega
      have HP2:Hid (p≤k2):=by have:=HP.out;have:=HK2.out;show _≤_;omega
      have hmk2:m+1≤k2:=by have:=HK2.out;omega
      clear h93 h32
      go_wp2_with fail
      refine(aC 93 a s k2 n c2 w5 hs S5.out.dr H93).mono ?_;rintro e w6 ⟨rfl,hd,hg⟩
      have S6:=ae (S5.out.step hg hd);clear hd hg
      go_wp2_with fail
      go_roundw
      case rel=>exact⟨k2,m+1,c4,f-1,c2,xs++[Y],A4,rfl,rfl,rfl,hk2s,hmk2,S6,HP2,EN,HF2,HC2⟩
      case measure=>rw[S6.out.dr.at_,MA.out];have:=HK2.out;omega
     | false=>
      have EN:Hid (RR=none):=by show _=_;rw[HE.out];exact qb A1.out (by rw[SK.out];exact h93) h32
      clear h93 h32
      go_wp2_with fail
      refine(aC 93 a s k2 n c2 w5 hs S5.out.dr H93).mono ?_;rintro e w6 ⟨rfl,hd,hg⟩
      have S6:=ae (S5.out.step hg hd);clear hd hg
      go_wp2_with fail
      go_ret2
      exact eG.no EN.out S6.out.gr S6.out.dr
end
section
open Go.RowKit
structure du.good (t:du):Prop where
 right:t.right=true
 op:t.op≤5
 ver:t.op=0→t.ver=[]
 few:t.archs.length≤1000000
structure du.shape (t:du) (n:Nat):Prop where
 op:t.op≤5
 ver:t.op=0→t.ver=[]
 few:t.archs.length≤n
theorem Nl (l:LU):(re l).1≤5:=by
 unfold re;repeat' split
 all_goals simp
theorem Jj {n op:Nat}{l v r:LU}(h:bV n l=some (op,v,r)):op=n∧n≠0∧r.length≤l.length:=by
 unfold bV at h
 split at h
 ·cases h
 ·rename_i h0
  split at h
  ·cases h
  ·rename_i a b ht
   unfold jM at h
   split at h
   ·injection h with h;injection h with h1 h;injection h with h2 h3
    refine⟨h1.symm,h0,?_⟩
    rw[←h3]
    have a1:=xl ht
    have a2:=dC l
    have a3:=dC b
    have a4:=dC ((aH b).drop 1)
    rw[List.length_drop] at a4
    omega
   ·cases h
theorem LG (l:LU):(re l).2.length≤l.length:=by
 unfold re;repeat' split
 all_goals simp
 all_goals omega
theorem zy {op:Nat}{l v r:LU}(h:jn l=some (op,v,r)):op≤5∧(op=0→v=[])∧r.length≤l.length:=by
 unfold jn at h
 split at h
 ·unfold uK at h
  obtain⟨h1,h2,h3⟩:=Jj h
  refine⟨by rw[h1];exact Nl _,fun h0=>absurd (h1.symm.trans h0) h2,?_⟩
  have a1:=LG (aH (l.drop 1))
  have a2:=dC (l.drop 1)
  rw[List.length_drop] at a2
  omega
 ·injection h with h;injection h with h1 h;injection h with h2 h3
  exact⟨by omega,fun _=>h2.symm,by rw[h3];exact Nat.le_refl _⟩
theorem vT (l:LU):(bU l).length≤l.length:=by unfold bU;split<;>simp
theorem sU:∀ (f:Nat)(l r:LU)(L:List (LU)),eE f l=some (L,r)→L.length≤l.length∧r.length≤l.length
 | 0,l,r,L,h=>by simp[eE] at h
 | f+1,l,r,L,h=>by
  unfold eE at h
  split at h
  ·cases h
  ·rename_i a b ha
   obtain⟨x,h1,_,_⟩:=qc ha
   have a1:=xl h1
   have a2:=vT l
   have a3:=dC b
   split at h
   ·injection h with h;injection h with h2 h3
    have a4:=dC ((aH b).drop 1)
    rw[List.length_drop] at a4
    subst h2;subst h3
    constructor
    ·simp;omega
    ·omega
   ·split at h
    ·obtain⟨⟨M,q⟩,h4,h5⟩:=Option.map_eq_some_iff.1 h
     injection h5 with h5 h6
     obtain⟨b1,b2⟩:=sU f (aH b) q M h4
     subst h5;subst h6
     constructor
     ·simp;omega
     ·show q.length≤_;omega
    ·cases h
theorem zz {t:du}{l r:LU}(h:fN l=some (t,r)):t.shape l.length∧r.length<l.length:=by
 unfold fN at h
 split at h
 ·cases h
 ·rename_i nm r0 h0
  have a0:=xl h0
  split at h
  ·cases h
  ·rename_i q r1 h1
   have a1:r1.length≤r0.length:=by
    unfold jN at h1
    split at h1
    ·have:=xl h1;rw[List.length_drop] at this;omega
    ·injection h1 with h1;injection h1 with _ h1;rw[h1];exact Nat.le_refl _
   have a2:=dC r1
   split at h
   ·cases h
   ·rename_i op v r2 h2
    obtain⟨b1,b2,b3⟩:=zy h2
    split at h
    ·cases h
    ·rename_i ar r3 h3
     have a4:ar.length≤r2.length∧r3.length≤r2.length:=by
      unfold gZ at h3
      split at h3
      ·obtain⟨c1,c2⟩:=sU _ _ _ _ h3
       have:=dC (r2.drop 1);rw[List.length_drop] at this;constructor<;>omega
      ·injection h3 with h3;injection h3 with h3 h4;subst h3;subst h4;simp
     injection h with h;injection h with h5 h6
     subst h5;subst h6
     exact⟨⟨b1,b2,by show ar.length≤_;omega⟩,by omega⟩
theorem mZ {t:du}{n m:Nat}(h:t.shape n)(hn:n≤m):t.shape m:=⟨h.op,h.ver,Nat.le_trans h.few hn⟩
theorem oy:∀ (f:Nat)(l r:LU)(g:List du),dZ f l=some (g,r)→g≠[]∧(∀ t∈g,t.shape l.length)∧r.length≤l.length
 | 0,l,r,g,h=>by simp[dZ] at h
 | f+1,l,r,g,h=>by
  unfold dZ at h
  split at h
  ·cases h
  ·rename_i t r0 h0
   obtain⟨a1,a2⟩:=zz h0
   split at h
   ·obtain⟨⟨M,q⟩,h4,h5⟩:=Option.map_eq_some_iff.1 h
    injection h5 with h5 h6
    obtain⟨b1,b2,b3⟩:=oy f _ q M h4
    have a3:=dC (r0.drop 1)
    rw[List.length_drop] at a3
    subst h5;subst h6
    refine⟨by simp,fun x hx=>?_,by show q.length≤_;omega⟩
    rcases List.mem_cons.1 hx with rfl | hx
    ·exact a1
    ·exact mZ (b2 x hx) (by omega)
   ·injection h with h;injection h with h5 h6
    subst h5;subst h6
    refine⟨by simp,fun x hx=>?_,by omega⟩
    obtain rfl:=List.mem_singleton.1 hx
    exact a1
theorem mE:∀ (f:Nat)(l:LU)(L:List (List du)),fO f l=some L→∀ g∈L,g≠[]∧∀ t∈g,t.shape l.length
 | 0,l,L,h=>by simp[fO] at h
 | f+1,l,L,h=>by
  unfold fO at h
  split at h
  ·cases h
  ·rename_i g0 r0 h0
   obtain⟨a1,a2,a3⟩:=oy _ _ _ _ h0
   split at h
   ·injection h with h;subst h
    intro g hg;obtain rfl:=List.mem_singleton.1 hg;exact⟨a1,a2⟩
   ·split at h
    ·obtain⟨M,h4,rfl⟩:=Option.map_eq_some_iff.1 h
     have a4:=dC (r0.drop 1)
     rw[List.length_drop] at a4
     intro g hg
     rcases List.mem_cons.1 hg with rfl | hg
     ·exact⟨a1,a2⟩
     ·obtain⟨b1,b2⟩:=mE f _ M h4 g hg
      exact⟨b1,fun t ht=>mZ (b2 t ht) (by omega)⟩
    ·cases h
theorem zA {l:LU}{L:List (List du)}(h:lh l=some L):∀ g∈L,g≠[]∧∀ t∈g,t.shape l.length:=by
 unfold lh at h
 split at h
 ·injection h with h;subst h;simp
 ·intro g hg
  obtain⟨b1,b2⟩:=mE _ _ _ h g hg
  exact⟨b1,fun t ht=>mZ (b2 t ht) (dC _)⟩
structure ko (L:List (List du)):Prop where
 ne:∀ g∈L,g≠[]
 good:∀ g∈L,∀ t∈g,t.good
 sum:(L.map List.length).sum≤64
theorem Cr {l:LU}{L:List (List du)}(h:gt l=some L)(hl:l.length≤1000000):ko L:=by
 unfold gt at h
 split at h
 ·cases h
 ·rename_i M hM
  split at h
  ·rename_i ha
   injection h with h;subst h
   have hs:=zA hM
   unfold uL at ha
   simp only[Bool.and_eq_true,List.all_eq_true,decide_eq_true_eq] at ha
   refine⟨fun g hg=>(hs g hg).1,fun g hg t ht=>?_,ha.2⟩
   have h1:=(hs g hg).2 t ht
   exact⟨ha.1 g hg t ht,h1.op,h1.ver,Nat.le_trans h1.few hl⟩
  ·cases h
theorem ko.nil:ko []:=⟨by simp,by simp,by simp⟩
theorem Nm {L:List (List du)}{g:List du}(h:g∈L):g.length≤(L.map List.length).sum:=by
 induction L with
 | nil=>simp at h
 | cons a r ih=>
  rcases List.mem_cons.1 h with rfl | h
  ·simp
  ·have:=ih h;simp;omega
theorem ko.few {L:List (List du)}(h:ko L):L.length≤64:=by
 have h1:=h.sum
 have:∀ (M:List (List du)),(∀ g∈M,g≠[])→M.length≤(M.map List.length).sum:=by
  intro M
  induction M with
  | nil=>simp
  | cons a r ih=>
   intro hM
   have h2:=ih (fun g hg=>hM g (List.mem_cons_of_mem _ hg))
   have h3:0<a.length:=List.length_pos_iff.2 (hM a (by simp))
   simp;omega
 have:=this L h.ne
 omega
theorem Gb {l:LU}(h:dy l=true):l.length≤64:=by unfold dy at h;simp at h;omega
theorem vU {l:LU}(h:cU l=true):l.length≤32:=by unfold cU at h;simp at h;omega
theorem Gc (l:LU):l.length≤(bU l).length+1:=by unfold bU;split<;>simp;omega
structure du.sizes (t:du):Prop where
 nm:t.name.length≤64
 qual:t.qual.length≤32
 ver:t.ver.length≤64
 archs:∀ x∈t.archs,x.length≤33
structure du.parts (t:du):Prop where
 nm:dy t.name=true
 qual:t.qual=[]∨cU t.qual=true
 archs:∀ x∈t.archs,cU (bU x)=true
 ver:0<t.op→cG 1 (bC t.ver)=0
theorem du.good.parts {t:du}(h:t.good):t.parts:=by
 have h1:=h.right
 unfold du.right at h1
 simp only[Bool.and_eq_true,Bool.or_eq_true,List.all_eq_true,decide_eq_true_eq,List.isEmpty_iff] at h1
 obtain⟨⟨⟨a1,a2⟩,a3⟩,a4⟩:=h1
 exact⟨a1,a2,a3,fun h0=>by rcases a4 with a4 | a4;· omega
                           ·exact a4⟩
theorem du.good.sizes {t:du}(h:t.good):t.sizes:=by
 have p:=h.parts
 refine⟨Gb p.nm,?_,?_,fun x hx=>?_⟩
 ·rcases p.qual with h0 | h0
  ·rw[h0];simp
  ·exact vU h0
 ·by_cases h0:t.op=0
  ·rw[h.ver h0];simp
  ·have:=vO (p.ver (by omega));rw[bS] at this;exact this
 ·have:=vU (p.archs x hx);have:=Gc x;omega
end
section
open Go.RowKit
inductive aj where
 | mk (op nm:BA) (aop:Nat) (ver:BA) (ka:OA) (kc:Nat) (kids:List aj)
def aj.op:aj→BA | .mk op _ _ _ _ _ _=>op
def aj.nm:aj→BA | .mk _ nm _ _ _ _ _=>nm
def aj.aop:aj→Nat | .mk _ _ a _ _ _ _=>a
def aj.ver:aj→BA | .mk _ _ _ v _ _ _=>v
def aj.ka:aj→OA | .mk _ _ _ _ a _ _=>a
def aj.kc:aj→Nat | .mk _ _ _ _ _ c _=>c
def aj.kids:aj→List aj | .mk _ _ _ _ _ _ k=>k
def aj.cells (t:aj):LV:=[.string t.op,.string t.nm,.int .i64 t.aop,.string t.ver,.slice t.ka t.kids.length t.kc]
def aj.val (t:aj):Value:=.agg #[.string t.op,.string t.nm,.int .i64 t.aop,.string t.ver,.slice t.ka t.kids.length t.kc]
theorem xC (t:aj):t.cells.length=5:=rfl
theorem aj.eta (t:aj):t=.mk t.op t.nm t.aop t.ver t.ka t.kc t.kids:=by cases t;rfl
mutual
def aj.pl:aj→oN
 | .mk op nm aop ver _ _ kids=>if bl op=[] then .atom (bl nm) aop (bl ver) else .node (bl op) (kE kids)
def kE:List aj→List oN
 | []=>[]
 | t::r=>t.pl::kE r
end
theorem it (l:List aj):kE l=l.map aj.pl:=by
 induction l with
 | nil=>simp[kE]
 | cons a r ih=>simp[kE,ih]
mutual
def aj.ht:aj→Nat
 | .mk _ _ _ _ _ _ kids=>zC kids
def zC:List aj→Nat
 | []=>0
 | t::r=>max (t.ht+1) (zC r)
end
mutual
def aj.cnt:aj→Nat
 | .mk _ _ _ _ _ _ []=>1
 | .mk _ _ _ _ _ _ (t::r)=>t.cnt+cE r
def cE:List aj→Nat
 | []=>0
 | t::r=>t.cnt+cE r
end
theorem vX (t:aj):t.ht=zC t.kids:=by cases t;simp[aj.ht,aj.kids]
theorem Jq {t:aj}(h:t.kids=[]):t.cnt=1:=by cases t;simp only[aj.kids] at h;subst h;simp[aj.cnt]
theorem eZ {t:aj}(h:t.kids≠[]):t.cnt=cE t.kids:=by
 obtain⟨_,_,_,_,_,_,ks⟩:=t
 cases ks with
 | nil=>exact absurd rfl h
 | cons a r=>simp[aj.cnt,aj.kids,cE]
theorem LM {l:List aj}{t:aj}(h:t∈l):t.ht+1≤zC l:=by
 induction l with
 | nil=>simp at h
 | cons a r ih=>
  simp only[zC]
  rcases List.mem_cons.1 h with rfl | h
  ·omega
  ·have:=ih h;omega
theorem xD {l:List aj}(h:l≠[]):∃ t∈l,t.ht+1=zC l:=by
 induction l with
 | nil=>exact absurd rfl h
 | cons a r ih=>
  simp only[zC]
  by_cases hr:r=[]
  ·subst hr;exact⟨a,by simp,by simp[zC]⟩
  ·obtain⟨t,ht,he⟩:=ih hr
   by_cases hm:zC r≤a.ht+1
   ·exact⟨a,by simp,by omega⟩
   ·exact⟨t,by simp[ht],by omega⟩
theorem Jr {t k:aj}(h:k∈t.kids):k.ht+1≤t.ht:=by rw[vX t];exact LM h
theorem Ea {t:aj}:t.ht=0↔t.kids=[]:=by
 rw[vX]
 constructor
 ·intro h
  by_cases hk:t.kids=[]
  ·exact hk
  ·obtain⟨k,_,he⟩:=xD hk;omega
 ·intro h;rw[h];rfl
theorem dm (a b:List aj):cE (a++b)=cE a+cE b:=by
 induction a with
 | nil=>simp[cE]
 | cons x r ih=>simp[cE,ih];omega
theorem Eb (t:aj):0<t.cnt:=by
 match t with
 | .mk _ _ _ _ _ _ []=>simp[aj.cnt]
 | .mk _ _ _ _ _ _ (a::r)=>have:=Eb a;simp[aj.cnt];omega
theorem fR (l:List aj):l.length≤cE l:=by
 induction l with
 | nil=>simp
 | cons a r ih=>have:=Eb a;simp[cE];omega
theorem iX {l:List aj}{t:aj}(h:t∈l):t.cnt≤cE l:=by
 induction l with
 | nil=>simp at h
 | cons a r ih=>
  simp only[cE]
  rcases List.mem_cons.1 h with rfl | h
  ·omega
  ·have:=ih h;omega
theorem vY {l:List aj}{k:Nat}{t:aj}(h:l[k]?=some t):cE (l.take (k+1))=cE (l.take k)+t.cnt:=by
 obtain⟨hk,hg⟩:=gS h
 rw[tS hk,hg,dm];simp[cE]
theorem iu (l:List aj)(k:Nat):cE (l.take k)≤cE l:=by
 conv=>rhs;rw[←List.take_append_drop k l,dm]
 omega
inductive bB (w:World) (lo:Nat) (bad:Option Nat):aj→Prop
 | mk (t:aj) (row:w.ownsRow lo 179 5 (.slice t.ka t.kids.length t.kc) t.kids.length (t.kids.flatMap aj.cells)) (ne:∀ g,(Value.slice t.ka t.kids.length t.kc).ownBlock=some g→some g≠bad) (kids:∀ k∈t.kids,bB w lo bad k):bB w lo bad t
theorem bB.row {w:World}{lo:Nat}{bad:Option Nat}{t:aj}(h:bB w lo bad t):w.ownsRow lo 179 5 (.slice t.ka t.kids.length t.kc) t.kids.length (t.kids.flatMap aj.cells):=by cases h;assumption
theorem bB.kids {w:World}{lo:Nat}{bad:Option Nat}{t:aj}(h:bB w lo bad t):∀ k∈t.kids,bB w lo bad k:=by cases h;assumption
theorem bB.low {w w':World}{lo:Nat}{bad:Option Nat}{t:aj}(h:bB w lo bad t)(hb:Below w.heap.size w w'):bB w' lo bad t:=by
 induction h with
 | mk t row ne _ ih=>exact .mk t (cR row hb) ne ih
theorem bB.kept {w w':World}{lo g:Nat}{bad:Option Nat}{t:aj}(h:bB w lo bad t)(hlo:g<lo)(hg:w.grownBy w' (some g)):bB w' lo bad t:=by
 induction h with
 | mk t row ne _ ih=>exact .mk t (bN row hlo hg) ne ih
theorem bB.grown {w w':World}{lo:Nat}{bad:Option Nat}{t:aj}(h:bB w lo bad t)(hg:w.grownBy w' bad):bB w' lo bad t:=by
 induction h with
 | mk t row ne _ ih=>
  refine .mk t (row.kept hg ?_) ne ih
  cases hb:(Value.slice t.ka t.kids.length t.kc).ownBlock with
  | none=>exact .inl rfl
  | some g=>exact .inr (ne g hb)
theorem bB.base {w:World}{lo lo':Nat}{bad:Option Nat}{t:aj}(h:bB w lo bad t)(hl:lo'≤lo):bB w lo' bad t:=by
 induction h with
 | mk t row ne _ ih=>exact .mk t (dV row hl) ne ih
theorem bB.any {w:World}{lo:Nat}{bad:Option Nat}{t:aj}(h:bB w lo bad t):bB w lo none t:=by
 induction h with
 | mk t row _ _ ih=>exact .mk t row (fun g _=>by simp) ih
theorem bB.old {w:World}{lo:Nat}{bad bad':Option Nat}{t:aj}(h:bB w lo bad t)(hb:∀ g,bad'=some g→g<lo∨w.heap.size≤g):bB w lo bad' t:=by
 induction h with
 | mk t row ne _ ih=>
  refine .mk t row (fun g hg e=>?_) ih
  have h1:=row.lt g hg
  rcases hb g e.symm with h2 | h2<;>omega
inductive Ib (w:World):aj→Prop
 | mk (t:aj) (row:Rd w 5 t.ka t.kids.length (t.kids.flatMap aj.cells)) (kids:∀ k∈t.kids,Ib w k):Ib w t
theorem Ib.row {w:World}{t:aj}(h:Ib w t):Rd w 5 t.ka t.kids.length (t.kids.flatMap aj.cells):=by cases h;assumption
theorem Ib.kids {w:World}{t:aj}(h:Ib w t):∀ k∈t.kids,Ib w k:=by cases h;assumption
theorem bB.rd {w:World}{lo:Nat}{bad:Option Nat}{t:aj}(h:bB w lo bad t):Ib w t:=by
 induction h with
 | mk t row _ _ ih=>exact .mk t (cH row) ih
theorem Ib.cell {w:World}{t:aj}(h:Ib w t)(i:Nat)(k:aj)(hi:t.kids[i]?=some k):∃ b off,t.ka=some ⟨b,off,none⟩∧∀ (j:Nat)(u:Value),k.cells[j]?=some u→w.cell? ⟨b,off+i*5+j,none⟩=some u:=h.row.elem xC i k hi
theorem Gg {w:World}{t:aj}(h:Ib w t):∀ u:aj,Ib w u→t.ka=u.ka→t.kids.length=u.kids.length→t.kids=u.kids:=by
 induction h with
 | mk t row kids ih=>
  intro u hu ha hl
  apply List.ext_getElem hl
  intro i h1 h2
  obtain⟨x,hx⟩:∃ x,t.kids[i]?=some x:=⟨_,gG h1⟩
  obtain⟨y,hy⟩:∃ y,u.kids[i]?=some y:=⟨_,gG h2⟩
  obtain⟨b,off,e1,c1⟩:=row.elem xC i x hx
  obtain⟨b',off',e2,c2⟩:=hu.row.elem xC i y hy
  rw[ha,e2] at e1
  injection e1 with e1;injection e1 with eb eo _
  subst eb eo
  have f0:=(c1 0 _ rfl).symm.trans (c2 0 _ rfl)
  have f1:=(c1 1 _ rfl).symm.trans (c2 1 _ rfl)
  have f2:=(c1 2 _ rfl).symm.trans (c2 2 _ rfl)
  have f3:=(c1 3 _ rfl).symm.trans (c2 3 _ rfl)
  have f4:=(c1 4 _ rfl).symm.trans (c2 4 _ rfl)
  simp only[Option.some.injEq,Value.string.injEq,Value.int.injEq,Value.slice.injEq,true_and] at f0 f1 f2 f3 f4
  have hk:=ih x (gM hx) y (hu.kids y (gM hy)) f4.1 f4.2.1
  have:x=y:=by rw[aj.eta x,aj.eta y,f0,f1,f3,f4.1,f4.2.2,hk,show x.aop=y.aop by omega]
  rw[gG h1] at hx
  rw[gG h2] at hy
  injection hx with hx;injection hy with hy
  rw[hx,hy,this]
end
section
open Go.RowKit Go.MapKept
def aj.key (t:aj):Value:=.agg #[.pointer t.ka,.int .i64 t.kids.length]
theorem pu:(Tryz.prog.info? 179).map (fun i=>(i.zero,i.size,i.bytes))=some (some (.agg #[.string ⟨#[]⟩,.string ⟨#[]⟩,.int .i64 0,.string ⟨#[]⟩,.slice none 0 0]),5,80):=by kernel_rfl
theorem lq {w:World}{lo:Nat}{bad:Option Nat}{t:aj}(h:bB w lo bad t)(hk:t.kids≠[]):∃ g cur,t.ka=some ⟨g,0,none⟩∧w.heap[g]?=some (.cells cur 179 (0,0))∧lo≤g:=by
 rcases h.row.2 with⟨_,h0⟩ | ⟨g,cap,cur,hv,h1,h2,_⟩
 ·exact absurd (List.length_eq_zero_iff.1 h0) hk
 ·injection hv with hv
  exact⟨g,cur,hv,h2,h1⟩
theorem Jt (w:World)(d:Nat)(a:Addr):(Op.equalIn (d+1) 297 (.pointer (some a)) (.pointer (some a))).run Tryz.prog w=.ok true w:=by
 obtain⟨i0,hi0,_,hz,_⟩:=info_parts pu
 simp[Op.equalIn,run_underlying Tryz.underlying297,sizeOf,typeInfo,hi0,run_sameAddr_same]
theorem Gm (w:World)(d:Nat){a b:Addr}{ca cb:Array Value}{ta tb:TypeId}(hne:a≠b)(ha:w.heap[a.block]?=some (.cells ca ta (0,0)))(hb:w.heap[b.block]?=some (.cells cb tb (0,0))):(Op.equalIn (d+1) 297 (.pointer (some a)) (.pointer (some b))).run Tryz.prog w=.ok false w:=by
 obtain⟨i0,hi0,_,hz,_⟩:=info_parts pu
 simp[Op.equalIn,run_underlying Tryz.underlying297,sizeOf,typeInfo,hi0,hz,run_sameAddr_other w hne ha hb]
theorem Gn {w:World}{t u:aj}(ht:bB w 0 none t)(hu:bB w 0 none u)(kt:t.kids≠[])(ku:u.kids≠[]):
  (Op.equal 299 t.key u.key).run Tryz.prog w=.ok (decide (t.ka=u.ka∧t.kids.length=u.kids.length)) w:=by
 obtain⟨g1,c1,e1,h1,_⟩:=lq ht kt
 obtain⟨g2,c2,e2,h2,_⟩:=lq hu ku
 unfold aj.key Op.equal Op.maxDepth
 rw[e1,e2]
 by_cases hg:g1=g2
 ·subst hg
  have hp:=fun d=>Jt w d ⟨g1,0,none⟩
  simp[go_sem,hp]
  by_cases hl:t.kids.length=u.kids.length
  ·simp[hl]
  ·simp[hl];omega
 ·have hp:=fun d=>Gm w d (a:=⟨g1,0,none⟩) (b:=⟨g2,0,none⟩) (fun e=>hg (by injection e)) h1 h2
  simp[go_sem,hp,hg]
theorem lU (w:World)(em:Bool)(t:aj):(Instr.checkKey em 10000 299 t.key).run Tryz.prog w=.ok () w:=by
 have h:∀ d:Nat,(Instr.checkKey em (d+1+1) 299 t.key).run Tryz.prog w=.ok () w:=by
  intro d
  unfold aj.key
  simp[Instr.checkKey,run_underlying Tryz.underlying299,go_sem]
 exact h 9998
theorem Gp (w:World){t u:aj}(h1:t.ka=u.ka)(h2:t.kids.length=u.kids.length):(Instr.keyThatStays t.key u.key).run Tryz.prog w=.ok u.key w:=by
 have:t.key=u.key:=by unfold aj.key;rw[h1,h2]
 rw[this]
 unfold aj.key
 simp[Instr.keyThatStays,Instr.sameBits]
theorem lV (w:World)(k:Value)(es:List MapEntry):(Instr.findKey 299 k es).run Tryz.prog w=(Instr.findAsking 299 k es 0).run Tryz.prog w:=by
 cases es with
 | nil=>simp[Instr.findKey,Instr.findAsking,Instr.findNow,run_underlying Tryz.underlying299]
 | cons e r=>simp[Instr.findKey,Instr.findNow,Instr.sameNow,run_underlying Tryz.underlying299]
structure er (w:World) (b:Nat) (ms:List (aj×Nat)):Prop where
 ex:∃ es clock,w.heap[b]?=some (.map es clock)∧es.toList.map (fun e=>(e.key,e.val))=ms.map (fun p=>(p.1.key,Value.int .i64 p.2))
 own:∀ p∈ms,bB w 0 none p.1∧p.1.kids≠[]
theorem tn {w:World}{t:aj}(ht:bB w 0 none t)(hk:t.kids≠[]):∀ (es:List MapEntry)(ms:List (aj×Nat))(i:Nat),es.map (fun e=>(e.key,e.val))=ms.map (fun p=>(p.1.key,Value.int .i64 p.2))→(∀ p∈ms,bB w 0 none p.1∧p.1.kids≠[]) →
  ((Instr.findAsking 299 t.key es i).run Tryz.prog w=.ok none w) ∨
  ∃ j p,(Instr.findAsking 299 t.key es i).run Tryz.prog w=.ok (some (i+j,Value.int .i64 p.2)) w∧ms[j]?=some p∧p.1.ka=t.ka∧p.1.kids=t.kids
 | [],ms,i,_,_=>.inl (by simp[Instr.findAsking])
 | e::es,[],i,h,_=>by simp at h
 | e::es,p::ms,i,h,ho=>by
  simp only[List.map_cons,List.cons.injEq,Prod.mk.injEq] at h
  obtain⟨⟨h1,h2⟩,h3⟩:=h
  obtain⟨o1,o2⟩:=ho p (by simp)
  have hq:=Gn ht o1 hk o2
  by_cases he:t.ka=p.1.ka∧t.kids.length=p.1.kids.length
  ·right
   refine⟨0,p,?_,rfl,he.1.symm,(Gg ht.rd p.1 o1.rd he.1 he.2).symm⟩
   rw[dT he] at hq
   simp[Instr.findAsking,h1,h2,hq]
  ·rw[dF he] at hq
   rcases tn ht hk es ms (i+1) h3 (fun q hq=>ho q (by simp[hq])) with h4 | ⟨j,q,h4,h5,h6⟩
   ·left;simp[Instr.findAsking,h1,hq,h4]
   ·right;exact⟨j+1,q,by simp[Instr.findAsking,h1,hq,h4,Nat.add_assoc,Nat.add_comm 1 j],by simpa using h5,h6⟩
theorem er.look {w:World}{b:Nat}{ms:List (aj×Nat)}(h:er w b ms){t:aj}(ht:bB w 0 none t)(hk:t.kids≠[]):
  ((Instr.lookup 272 (.map (some b)) t.key true).run Tryz.prog w=.ok (.tuple #[.int .i64 0,.bool false]) w) ∨
  ∃ p∈ms,p.1.kids=t.kids∧(Instr.lookup 272 (.map (some b)) t.key true).run Tryz.prog w=.ok (.tuple #[.int .i64 p.2,.bool true]) w:=by
 obtain⟨es,clock,hb,hm⟩:=h.ex
 rcases tn ht hk es.toList ms 0 hm h.own with h1 | ⟨j,p,h1,h2,h3,h4⟩
 ·left;simp[Instr.lookup,run_underlying Tryz.underlying272,MapKept.run_getObj_map hb,lU,lV,h1,go_sem]
 ·right;exact⟨p,gM h2,h4,by simp[Instr.lookup,run_underlying Tryz.underlying272,MapKept.run_getObj_map hb,lU,lV,h1]⟩
theorem bB.off {w:World}{lo b:Nat}{bad:Option Nat}{t:aj}{es:Array MapEntry}{c:Nat}(h:bB w lo bad t)(hb:w.heap[b]?=some (.map es c)):bB w lo (some b) t:=by
 induction h with
 | mk t row ne _ ih=>
  refine .mk t row (fun g hg e=>?_) ih
  injection e with e;subst e
  rcases row.2 with⟨hv,_⟩ | ⟨g',cap,cur,hv,_,h2,_⟩
  ·rw[hv] at hg;simp[Value.ownBlock] at hg
  ·rw[hv] at hg;simp[Value.ownBlock] at hg;subst hg;rw[hb] at h2;simp at h2
theorem er.tree {w w':World}{lo b:Nat}{ms:List (aj×Nat)}{t:aj}(h:er w b ms)(ht:bB w lo none t)(hg:w.grownBy w' (some b)):bB w' lo none t:=by
 obtain⟨es,clock,hb,_⟩:=h.ex
 exact((ht.off hb).grown hg).any
theorem er.below {w w':World}{b:Nat}{ms:List (aj×Nat)}(h:er w b ms)(hb:Below w.heap.size w w'):er w' b ms:=by
 obtain⟨es,clock,h1,h2⟩:=h.ex
 exact⟨⟨es,clock,(hb.block b (Array.getElem?_eq_some_iff.1 h1).1).trans h1,h2⟩,fun p hp=>⟨(h.own p hp).1.low hb,(h.own p hp).2⟩⟩
theorem er.lt {w:World}{b:Nat}{ms:List (aj×Nat)}(h:er w b ms):b<w.heap.size:=by
 obtain⟨es,clock,h1,h2⟩:=h.ex;exact(Array.getElem?_eq_some_iff.1 h1).1
theorem er.made (w:World):er (w.alloc (.map #[] 0)) w.heap.size []:=⟨⟨#[],0,heap_alloc_new w _,by simp⟩,by simp⟩
theorem er.put {w:World}{b:Nat}{ms:List (aj×Nat)}(h:er w b ms){t:aj}(ht:bB w 0 none t)(hk:t.kids≠[])(v:Nat):
  ∃ w' ms',(Instr.mapUpdate 272 (.map (some b)) t.key (.int .i64 v)).run Tryz.prog w=.ok () w'∧er w' b ms'∧w.grownBy w' (some b)∧w'.heap.size=w.heap.size ∧
   (∀ p∈ms',(∃ q∈ms,q=p)∨p.1.kids=t.kids∧p.2=v)∧(∀ p∈ms,∃ q∈ms',q.1=p.1)∧∃ q∈ms',q.1.kids=t.kids:=by
 obtain⟨es,clock,hb,hm⟩:=h.ex
 have hlt:=h.lt
 have grow:∀ o,w.grownBy { w with heap:=w.heap.setIfInBounds b o } (some b):=fun o=>⟨rfl,rfl,rfl,by simp,fun k hk hne=>(heap_set hb).2 k (fun e=>hne (by rw[e]))⟩
 rcases tn ht hk es.toList ms 0 hm h.own with h1 | ⟨j,p,h1,h2,h3,h4⟩
 ·refine⟨{ w with heap:=w.heap.setIfInBounds b (.map (es.push { key:=t.key,val:=.int .i64 v,born:=clock }) (clock+1)) },ms++[(t,v)],?_,⟨⟨_,_,(heap_set hb).1,by simp[hm]⟩,fun p hp=>?_⟩,grow _,by simp,fun p hp=>?_,fun p hp=>⟨p,by simp[hp],rfl⟩,⟨(t,v),by simp,rfl⟩⟩
  ·simp[Instr.mapUpdate,run_underlying Tryz.underlying272,MapKept.run_getObj_map hb,lU,lV,h1,MapKept.run_setObj_map _ hb]
  ·rcases List.mem_append.1 hp with hp | hp
   ·exact⟨h.tree (h.own p hp).1 (grow _),(h.own p hp).2⟩
   ·obtain rfl:=List.mem_singleton.1 hp
    exact⟨h.tree ht (grow _),hk⟩
  ·rcases List.mem_append.1 hp with hp | hp
   ·exact .inl ⟨p,hp,rfl⟩
   ·obtain rfl:=List.mem_singleton.1 hp
    exact .inr ⟨rfl,rfl⟩
 ·simp only[Nat.zero_add] at h1
  obtain⟨hj,hpj⟩:=gS h2
  have hlen:es.size=ms.length:=by have:=congrArg List.length hm;simpa using this
  have hek:es[j]?.map (fun e=>e.key)=some p.1.key:=by
   have:=congrArg (fun l=>l[j]?) hm
   simp[h2] at this
   obtain⟨e,he,h5,h6⟩:=this
   rw[he];simp[h5]
  have hst:=Gp w (t:=p.1) (u:=t) h3 (by rw[h4])
  have hkey:p.1.key=t.key:=by unfold aj.key;rw[h3,h4]
  refine⟨{ w with heap:=w.heap.setIfInBounds b (.map (es.modify j fun e=>{ e with key:=t.key,val:=.int .i64 v }) clock) },ms.set j (p.1,v),?_,⟨⟨_,_,(heap_set hb).1,?_⟩,fun q hq=>?_⟩,grow _,by simp,fun q hq=>?_,fun q hq=>?_,⟨(p.1,v),List.mem_set hj _,h4⟩⟩
  ·simp[Instr.mapUpdate,run_underlying Tryz.underlying272,MapKept.run_getObj_map hb,lU,lV,h1,MapKept.run_setObj_map _ hb,hek,hst]
  ·apply List.ext_getElem?
   intro i
   have hi:=congrArg (fun l=>l[i]?) hm
   simp only[List.getElem?_map,Array.getElem?_toList] at hi
   simp only[List.getElem?_map,Array.getElem?_toList,Array.getElem?_modify,List.getElem?_set]
   by_cases hij:j=i
   ·subst hij
    obtain⟨e,he⟩:∃ e,es[j]?=some e:=⟨_,Array.getElem?_eq_getElem (by rw[hlen];exact hj)⟩
    simp[hj,he,hkey]
   ·simp[hij,hi]
  ·rcases List.mem_or_eq_of_mem_set hq with hq | rfl
   ·exact⟨h.tree (h.own q hq).1 (grow _),(h.own q hq).2⟩
   ·exact⟨h.tree (h.own p (gM h2)).1 (grow _),(h.own p (gM h2)).2⟩
  ·rcases List.mem_or_eq_of_mem_set hq with hq | rfl
   ·exact .inl ⟨q,hq,rfl⟩
   ·exact .inr ⟨h4,rfl⟩
  ·obtain⟨i,hi⟩:=List.getElem?_of_mem hq
   by_cases hij:j=i
   ·subst hij;rw[h2] at hi;injection hi with hi;subst hi
    exact⟨(p.1,v),List.mem_set hj _,rfl⟩
   ·exact⟨q,gM (i:=i) (by rw[List.getElem?_set_ne hij];exact hi),rfl⟩
theorem qe (f:aj→Nat):∀ (m:Nat)(l:List (aj×Nat)),(∀ i,i<m→∃ p∈l,f p.1=i)→m≤l.length
 | 0,_,_=>z0
 | m+1,l,h=>by
  obtain⟨p,hp,hf⟩:=h m (by omega)
  have h1:=qe f m (l.filter fun q=>decide (f q.1≠m)) (fun i hi=>by
   obtain⟨q,hq,hfq⟩:=h i (by omega)
   exact⟨q,List.mem_filter.2 ⟨hq,by simp;omega⟩,hfq⟩)
  have h2:(l.filter fun q=>decide (f q.1≠m)).length<l.length:=List.length_filter_lt_length_iff_exists.2 ⟨p,hp,by simp[hf]⟩
  omega
end
end Go.Proofs.YtaohgmcbpafdeaaGreatDoor
