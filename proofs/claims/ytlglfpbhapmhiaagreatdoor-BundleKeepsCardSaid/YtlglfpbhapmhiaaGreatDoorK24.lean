/- A part of the proof. -/
import Derived.Test.YtlglfpbhapmhiaaGreatDoorK19
import Derived.Test.YtlglfpbhapmhiaaGreatDoorK22
set_option maxRecDepth 100000
set_option maxHeartbeats 20000000
set_option linter.unusedVariables false
set_option linter.unusedSimpArgs false
namespace Go.Proofs.YtlglfpbhapmhiaaGreatDoor
section
open Go.RowKit Go.Deep
theorem gx {w wr w1:World}{a:Nat}{row:Option Nat}(h:w.grownBy wr (some a))(k:wr.grownBy w1 row)(hr:∀ j,row=some j→w.heap.size≤j):w.grownBy w1 (some a):=
 ⟨k.os.trans h.os,k.tape.trans h.tape,k.output.trans h.output,Nat.le_trans h.size k.size,fun j hj hne=>(k.block j (Nat.lt_of_lt_of_le hj h.size) (fun e=>by have:=hr j e.symm;omega)).trans (h.block j hj hne)⟩
structure DU (w wr:World) (a:Nat) (s:BA) (k n:Nat) (c:Int) (xs:List BA) (A:OA) (m cc:Nat):Prop where
 len:xs.length=m
 row:wr.ownsRow w.heap.size 9 1 (.slice A m cc) m (az xs)
 dr:DR wr a s k n c
 gr:w.grownBy wr (some a)
 lt:a<w.heap.size
theorem DU.step {w wr w':World}{a:Nat}{s:BA}{k k' n:Nat}{c c':Int}{xs:List BA}{A:OA}{m cc:Nat}(h:DU w wr a s k n c xs A m cc)(hg:wr.grownBy w' (some a))(hd:DR w' a s k' n c'):DU w w' a s k' n c' xs A m cc:=
 ⟨h.len,aJ h.row h.lt hg,hd,aj h.gr hg,h.lt⟩
theorem DU.alloc {w wr:World}{a:Nat}{s:BA}{k n:Nat}{c:Int}{xs:List BA}{A:OA}{m cc:Nat}(h:DU w wr a s k n c xs A m cc)(o:Obj):DU w (wr.alloc o) a s k n c xs A m cc:=
 ⟨h.len,h.row.alloc o,h.dr.alloc o,dG h.gr o,h.lt⟩
theorem DU.grow {w wr w2:World}{a:Nat}{s:BA}{k n:Nat}{c:Int}{xs:List BA}{A A1:OA}{m cc c1:Nat}{o:Obj}{x:BA}(h:DU w wr a s k n c xs A m cc)
  (hr:w2.ownsRow w.heap.size 9 1 (.slice A1 (m+1) c1) (m+1) (az xs++[.string x]))
  (hg:(wr.alloc o).grownBy w2 (Value.slice A m cc).ownBlock):DU w w2 a s k n c (xs++[x]) A1 (m+1) c1:=by
 have ho:=h.alloc o
 refine⟨by simp[h.len],by rw[show az (xs++[x])=az xs++[.string x] by simp[az]];exact hr,ho.dr.kept hg ?_,gx ho.gr hg (fun j hj=>(h.row.lt j hj).1),h.lt⟩
 intro e;have:=(h.row.lt a e.symm).1;have:=h.lt;omega
def eC (r:Option (List (LU)×LU))(a:Nat)(s:BA)(p n:Nat)(c:Int)(w:World)(e:Ending)(w':World):Prop:=
 match r with
  | none=>w.grownBy w' (some a)∧e=.returned (.tuple #[.slice none 0 0,.bool false])∧∃ p' c',DR w' a s p' n c'
  | some (L,r)=>∃ (A:OA) (m cc:Nat) (xs:List BA) (p':Nat) (c':Int),e=.returned (.tuple #[.slice A m cc,.bool true])∧DU w w' a s p' n c' xs A m cc∧xs.map bl=L∧p≤p'∧(bl s).drop p'=r∧(c'=0↔c=0∧L.all (fun x=>cQ (bW x))=true)
theorem eC.no {r:Option (List (LU)×LU)}{a:Nat}{s:BA}{p n p':Nat}{c c':Int}{w w':World}(hr:r=none)(hg:w.grownBy w' (some a))(h:DR w' a s p' n c'):eC r a s p n c w (.returned (.tuple #[.slice none 0 0,.bool false])) w':=by
 subst hr;exact⟨hg,rfl,_,_,h⟩
theorem eC.yes {r:Option (List (LU)×LU)}{a:Nat}{s:BA}{p n p':Nat}{c c':Int}{w w':World}{A:OA}{m cc:Nat}{xs:List BA}(hr:r=some (xs.map bl,(bl s).drop p'))(h:DU w w' a s p' n c' xs A m cc)(hp:p≤p')(hc:c'=0↔c=0∧(xs.map bl).all (fun x=>cQ (bW x))=true):eC r a s p n c w (.returned (.tuple #[.slice A m cc,.bool true])) w':=by
 subst hr;exact⟨A,m,cc,xs,p',c',rfl,h,rfl,hp,rfl,hc⟩
theorem uR {s:BA}{k m:Nat}{b:Bool}(hm:ay 33 ((bl s).drop k)=b)(hk:m=if b then k+1 else k)(ht:kU ip ((bl s).drop m)=none):hQ ((bl s).drop k)=none:=by
 unfold hQ bW;rw[hm];cases b<;>simp at hk<;>subst hk<;>simp[List.drop_drop,ht]
theorem uS {s:BA}{k m:Nat}{b:Bool}{x r:LU}(hm:ay 33 ((bl s).drop k)=b)(hk:m=if b then k+1 else k)(ht:kU ip ((bl s).drop m)=some (x,r)):hQ ((bl s).drop k)=some ((if b then [33] else [])++x,r):=by
 unfold hQ bW uJ;rw[hm];cases b<;>simp at hk<;>subst hk<;>simp[List.drop_drop,ht]
theorem uT {l x r:LU}(h:hQ l=some (x,r)){b:Bool}{y:LU}(hx:x=(if b then [33] else [])++y)(hm:ay 33 l=b):bW x=y:=by
 obtain⟨z,h1,h2,h3⟩:=pC h
 rw[h3];unfold uJ at h2;rw[hm] at h2;rw[hx] at h2;cases b<;>simpa using h2.symm
theorem AD (F:Nat)(a:Nat)(s:BA)(p n:Nat)(c:Int)(w:World)(hs:s.size≤4294967280)(hF:s.size-p<F)(h:DR w a s p n c):
  Calls Tryz.prog 261 #[.pointer (some ⟨a,0,none⟩)] w (eC (eA F (aK ((bl s).drop p))) a s p n c w):=by
 obtain⟨i0,hi0,hz0,hz1,hz2⟩:=info_parts kK
 obtain⟨q,hq⟩:∃ q,p+aA aS ((bl s).drop p)=q:=⟨_,rfl⟩
 have hB:=aG a s p n c w hs h
 rw[hq] at hB
 have hlt:=h.sz
 have HQ:Hid (p≤q):=by show _≤_;omega
 obtain⟨f0,hf0⟩:∃ f0,F=f0+1:=⟨F-1,by omega⟩
 have E0:Hid (eA F (aK ((bl s).drop p))=dH (f0+1) [] ((bl s).drop q)):=by show _=_;rw[bQ,hq,tQ,hf0]
 have HF0:Hid (s.size-q≤f0):=by have:=HQ.out;show _≤_;omega
 generalize eA F (aK ((bl s).drop p))=RR at E0
 clear hq h hf0 hF
 go_enter Tryz.func261,Tryz.ntmps261
 go_wp2_with fail
 refine hB.mono ?_;rintro e w1 ⟨rfl,hd,hg⟩
 have S1:Hid (DU w w1 a s q n c [] none 0 0):=⟨rfl,World.ownsRow_nil _ _ _ _,hd,hg,hlt⟩
 have hqs:=hd.le
 clear hd hg hB
 go_wp2_with fail
 go_loopw [2,3,4] (fun s2 s3 l wr=>∃ (k m cc f:Nat) (c':Int) (xs:List BA) (A:OA),s2=.slice none 0 0∧s3=.bool false∧l=.slice A m cc∧k≤s.size∧m≤k∧Hid (DU w wr a s k n c' xs A m cc)∧Hid (p≤k)∧Hid (RR=dH (f+1) (xs.map bl) ((bl s).drop k))∧Hid (s.size-k≤f)∧Hid (c'=0↔c=0∧(xs.map bl).all (fun x=>cQ (bW x))=true)) (fun _ _ _ wr=>s.size-wl a wr)
 case atStart=>exact⟨q,0,0,f0,c,[],none,rfl,rfl,rfl,hqs,z0,S1,HQ,E0,HF0,by simp[Hid]⟩
 case round=>
  clear S1 hqs HQ E0 HF0
  obtain⟨k,m,cc,f,c',xs,A,rfl,rfl,rfl,hk,hmk,HS,HP,HE,HF,HC⟩:=hrel
  have MA:=ae HS.out.dr.at_
  cases hm:ay 33 ((bl s).drop k) with
  | true=>
   have HM:=ae hm
   clear hm
   go_wp2_with fail
   refine(aM 33 a s k n c' wr hs HS.out.dr HM).mono ?_;rintro e w2 ⟨rfl,hd,hg⟩
   have S2:=ae (HS.out.step hg hd);clear hd hg
   have hk1:=S2.out.dr.le
   cases ht:kU ip ((bl s).drop (k+1)) with
   | none=>
    have HT:=ae ht
    have EN:Hid (RR=none):=by show _=_;rw[HE.out];exact nR (uR HM.out rfl ht)
    clear ht
    go_wp2_with fail
    refine(ic a s (k+1) n c' w2 hs S2.out.dr HT).mono ?_;rintro e w3 ⟨rfl,hd,hg⟩
    have S3:=ae (S2.out.step hg hd);clear hd hg
    go_wp2_with fail
    go_ret2
    exact eC.no EN.out S3.out.gr S3.out.dr
   | some xr=>
    obtain⟨x,r⟩:=xr
    have HT:=ae ht
    obtain⟨t1,t2,t3,t4⟩:=dz S2.out.dr.le ht
    have A1:=ae (uS HM.out rfl ht)
    have AB:=ae (uT A1.out rfl HM.out)
    obtain⟨k2,hk2⟩:∃ k2,(k+1)+x.length+aA aS ((bl s).drop ((k+1)+x.length))=k2:=⟨_,rfl⟩
    have SK:Hid (aK r=(bl s).drop k2):=by show _=_;rw[←t2,bQ,hk2]
    have HH32:Hid (ay 32 ((bl s).drop ((k+1)+x.length))=ay 32 r):=by show _=_;rw[t2]
    have HK2:Hid (k<k2):=by show _<_;omega
    have hxz:(bG x).size≤4294967280:=by rw[bV];omega
    have hmm:m≤4294967280:=by omega
    have HB2:=ae (fun (d:Int) (W:World) (hD:DR W a s ((k+1)+x.length) n d)=>aG a s ((k+1)+x.length) n d W hs hD)
    rw[hk2,HH32.out] at HB2
    obtain⟨Y,hY⟩:∃ Y,(⟨#[33]⟩++bG x)=Y:=⟨_,rfl⟩
    have HY:Hid (bl Y=(if true then [33] else [])++x):=by show _=_;rw[←hY];simp[cq,et];rfl
    clear ht t1 t2 t3 t4 hk2 HH32
    go_wp2_with fail
    refine(ie x r a s (k+1) n c' w2 hs S2.out.dr HT).mono ?_;rintro e w3 ⟨rfl,⟨c2,hd,hcc⟩,hg⟩
    have S3:=ae (S2.out.step hg hd);clear hd hg
    have HC2:Hid (c2=0↔c=0∧((xs++[Y]).map bl).all (fun x=>cQ (bW x))=true):=by
     have h1:=HC.out;have h2:=HY.out;have h3:=AB.out
     show _↔_
     rw[hcc,h1,List.map_append,List.all_append]
     simp only[List.map_cons,List.map_nil,List.all_cons,List.all_nil,Bool.and_true,Bool.and_eq_true]
     rw[h2,h3];exact and_assoc
    clear hcc
    go_wp2_with (at_builtin;refine au _ rfl _ _ _ rfl w.heap.size 9 i0 _ 1 16 Tryz.underlying22 hi0 hz0 hz1 hz2 rfl (by omega) (.slice A m cc) m _ rfl (S3.out.row.alloc _) (w3.heap.size+1) (some ⟨w3.heap.size,0,none⟩) 1 1 [.string Y] rfl (fB w3 _ _) (by simp[Value.oneCell']) (by simp only[maxLen];omega) (by omega) (by simp;have:=S3.out.gr.size;omega) ?_;intro v1 w4 o1 g1 a1)
    obtain⟨A4,c4,rfl⟩:=aL o1
    have S4:=ae (S3.out.grow (x:=Y) o1 g1)
    clear o1 g1 a1
    go_wp2_with fail
    refine(HB2.out c2 w4 S4.out.dr).mono ?_;rintro e w5 ⟨rfl,hd,hg⟩
    have S5:=ae (S4.out.step hg hd);clear hd hg
    have hk2s:=S5.out.dr.le
    cases h93:ay 93 ((bl s).drop k2) with
    | true=>
     have H93:=ae h93
     obtain⟨k3,hk3⟩:∃ k3,k2+1+aA aS ((bl s).drop (k2+1))=k3:=⟨_,rfl⟩
     have EN:Hid (RR=some ((xs++[Y]).map bl,(bl s).drop k3)):=by
      show _=_
      rw[HE.out,pA A1.out (by rw[SK.out];exact h93),SK.out,List.drop_drop,bQ,hk3,List.map_append,List.map_cons,List.map_nil,HY.out]
     have HB3:=ae (fun (W:World) (hD:DR W a s (k2+1) n c2)=>aG a s (k2+1) n c2 W hs hD)
     rw[hk3] at HB3
     have HP3:Hid (p≤k3):=by have:=HP.out;have:=HK2.out;show _≤_;omega
     clear h93 hk3
     go_wp2_with fail
     refine(aM 93 a s k2 n c2 w5 hs S5.out.dr H93).mono ?_;rintro e w6 ⟨rfl,hd,hg⟩
     have S6:=ae (S5.out.step hg hd);clear hd hg
     go_wp2_with fail
     refine(HB3.out w6 S6.out.dr).mono ?_;rintro e w7 ⟨rfl,hd,hg⟩
     have S7:=ae (S6.out.step hg hd);clear hd hg
     go_wp2_with fail
     go_ret2
     exact eC.yes EN.out S7.out HP3.out HC2.out
    | false=>
     have H93:=ae h93
     cases h32:ay 32 r with
     | true=>
      have EN:Hid (RR=dH (f-1+1) ((xs++[Y]).map bl) ((bl s).drop k2)):=by
       have hf:=HF.out;have hk':=HK2.out
       show _=_
       rw[HE.out,nS A1.out (by rw[SK.out];exact h93) h32,SK.out,List.map_append,List.map_cons,List.map_nil,HY.out,show f-1+1=f by omega]
      have HF2:Hid (s.size-k2≤f-1):=by have:=HF.out;have:=HK2.out;show _≤_;omega
      have HP2:Hid (p≤k2):=by have:=HP.out;have:=HK2.out;show _≤_;omega
      have hmk2:m+1≤k2:=by have:=HK2.out;omega
      clear h93 h32
      go_wp2_with fail
      refine(aC 93 a s k2 n c2 w5 hs S5.out.dr H93).mono ?_;rintro e w6 ⟨rfl,hd,hg⟩
      have S6:=ae (S5.out.step hg hd);clear hd hg
      go_wp2_with fail
      go_roundw
      case rel=>exact⟨k2,m+1,c4,f-1,c2,xs++[Y],A4,rfl,rfl,rfl,hk2s,hmk2,S6,HP2,EN,HF2,HC2⟩
      case measure=>rw[S6.out.dr.at_,MA.out];have:=HK2.out;omega
     | false=>
      have EN:Hid (RR=none):=by show _=_;rw[HE.out];exact pB A1.out (by rw[SK.out];exact h93) h32
      clear h93 h32
      go_wp2_with fail
      refine(aC 93 a s k2 n c2 w5 hs S5.out.dr H93).mono ?_;rintro e w6 ⟨rfl,hd,hg⟩
      have S6:=ae (S5.out.step hg hd);clear hd hg
      go_wp2_with fail
      go_ret2
      exact eC.no EN.out S6.out.gr S6.out.dr
  | false=>
   have HM:=ae hm
   clear hm
   go_wp2_with fail
   refine(aC 33 a s k n c' wr hs HS.out.dr HM).mono ?_;rintro e w2 ⟨rfl,hd,hg⟩
   have S2:=ae (HS.out.step hg hd);clear hd hg
   have hk1:=S2.out.dr.le
   cases ht:kU ip ((bl s).drop k) with
   | none=>
    have HT:=ae ht
    have EN:Hid (RR=none):=by show _=_;rw[HE.out];exact nR (uR HM.out rfl ht)
    clear ht
    go_wp2_with fail
    refine(ic a s k n c' w2 hs S2.out.dr HT).mono ?_;rintro e w3 ⟨rfl,hd,hg⟩
    have S3:=ae (S2.out.step hg hd);clear hd hg
    go_wp2_with fail
    go_ret2
    exact eC.no EN.out S3.out.gr S3.out.dr
   | some xr=>
    obtain⟨x,r⟩:=xr
    have HT:=ae ht
    obtain⟨t1,t2,t3,t4⟩:=dz S2.out.dr.le ht
    have A1:=ae (uS HM.out rfl ht)
    have AB:=ae (uT A1.out rfl HM.out)
    obtain⟨k2,hk2⟩:∃ k2,k+x.length+aA aS ((bl s).drop (k+x.length))=k2:=⟨_,rfl⟩
    have SK:Hid (aK r=(bl s).drop k2):=by show _=_;rw[←t2,bQ,hk2]
    have HH32:Hid (ay 32 ((bl s).drop (k+x.length))=ay 32 r):=by show _=_;rw[t2]
    have HK2:Hid (k<k2):=by show _<_;omega
    have hxz:(bG x).size≤4294967280:=by rw[bV];omega
    have hmm:m≤4294967280:=by omega
    have HB2:=ae (fun (d:Int) (W:World) (hD:DR W a s (k+x.length) n d)=>aG a s (k+x.length) n d W hs hD)
    rw[hk2,HH32.out] at HB2
    obtain⟨Y,hY⟩:∃ Y,(bG x)=Y:=⟨_,rfl⟩
    have HY:Hid (bl Y=(if false then [33] else [])++x):=by show _=_;rw[←hY];simp[cq,et]
    have hYz:Y.size≤4294967280:=by rw[←hY];exact hxz
    clear ht t1 t2 t3 t4 hk2 HH32
    go_wp2_with fail
    refine(ie x r a s k n c' w2 hs S2.out.dr HT).mono ?_;rintro e w3 ⟨rfl,⟨c2,hd,hcc⟩,hg⟩
    have S3:=ae (S2.out.step hg hd);clear hd hg
    have HC2:Hid (c2=0↔c=0∧((xs++[Y]).map bl).all (fun x=>cQ (bW x))=true):=by
     have h1:=HC.out;have h2:=HY.out;have h3:=AB.out
     show _↔_
     rw[hcc,h1,List.map_append,List.all_append]
     simp only[List.map_cons,List.map_nil,List.all_cons,List.all_nil,Bool.and_true,Bool.and_eq_true]
     rw[h2,h3];exact and_assoc
    clear hcc
    go_wp2_with (at_builtin;refine au _ rfl _ _ _ rfl w.heap.size 9 i0 _ 1 16 Tryz.underlying22 hi0 hz0 hz1 hz2 rfl (by omega) (.slice A m cc) m _ rfl (S3.out.row.alloc _) (w3.heap.size+1) (some ⟨w3.heap.size,0,none⟩) 1 1 [.string Y] rfl (fB w3 _ _) (by simp[Value.oneCell']) (by simp only[maxLen];omega) (by omega) (by simp;have:=S3.out.gr.size;omega) ?_;intro v1 w4 o1 g1 a1)
    obtain⟨A4,c4,rfl⟩:=aL o1
    have S4:=ae (S3.out.grow (x:=Y) o1 g1)
    clear o1 g1 a1
    go_wp2_with fail
    refine(HB2.out c2 w4 S4.out.dr).mono ?_;rintro e w5 ⟨rfl,hd,hg⟩
    have S5:=ae (S4.out.step hg hd);clear hd hg
    have hk2s:=S5.out.dr.le
    cases h93:ay 93 ((bl s).drop k2) with
    | true=>
     have H93:=ae h93
     obtain⟨k3,hk3⟩:∃ k3,k2+1+aA aS ((bl s).drop (k2+1))=k3:=⟨_,rfl⟩
     have EN:Hid (RR=some ((xs++[Y]).map bl,(bl s).drop k3)):=by
      show _=_
      rw[HE.out,pA A1.out (by rw[SK.out];exact h93),SK.out,List.drop_drop,bQ,hk3,List.map_append,List.map_cons,List.map_nil,HY.out]
     have HB3:=ae (fun (W:World) (hD:DR W a s (k2+1) n c2)=>aG a s (k2+1) n c2 W hs hD)
     rw[hk3] at HB3
     have HP3:Hid (p≤k3):=by have:=HP.out;have:=HK2.out;show _≤_;omega
     clear h93 hk3
     go_wp2_with fail
     refine(aM 93 a s k2 n c2 w5 hs S5.out.dr H93).mono ?_;rintro e w6 ⟨rfl,hd,hg⟩
     have S6:=ae (S5.out.step hg hd);clear hd hg
     go_wp2_with fail
     refine(HB3.out w6 S6.out.dr).mono ?_;rintro e w7 ⟨rfl,hd,hg⟩
     have S7:=ae (S6.out.step hg hd);clear hd hg
     go_wp2_with fail
     go_ret2
     exact eC.yes EN.out S7.out HP3.out HC2.out
    | false=>
     have H93:=ae h93
     cases h32:ay 32 r with
     | true=>
      have EN:Hid (RR=dH (f-1+1) ((xs++[Y]).map bl) ((bl s).drop k2)):=by
       have hf:=HF.out;have hk':=HK2.out
       show _=_
       rw[HE.out,nS A1.out (by rw[SK.out];exact h93) h32,SK.out,List.map_append,List.map_cons,List.map_nil,HY.out,show f-1+1=f by omega]
      have HF2:Hid (s.size-k2≤f-1):=by have:=HF.out;have:=HK2.out;show _≤_;omega
      have HP2:Hid (p≤k2):=by have:=HP.out;have:=HK2.out;show _≤_;omega
      have hmk2:m+1≤k2:=by have:=HK2.out;omega
      clear h93 h32
      go_wp2_with fail
      refine(aC 93 a s k2 n c2 w5 hs S5.out.dr H93).mono ?_;rintro e w6 ⟨rfl,hd,hg⟩
      have S6:=ae (S5.out.step hg hd);clear hd hg
      go_wp2_with fail
      go_roundw
      case rel=>exact⟨k2,m+1,c4,f-1,c2,xs++[Y],A4,rfl,rfl,rfl,hk2s,hmk2,S6,HP2,EN,HF2,HC2⟩
      case measure=>rw[S6.out.dr.at_,MA.out];have:=HK2.out;omega
     | false=>
      have EN:Hid (RR=none):=by show _=_;rw[HE.out];exact pB A1.out (by rw[SK.out];exact h93) h32
      clear h93 h32
      go_wp2_with fail
      refine(aC 93 a s k2 n c2 w5 hs S5.out.dr H93).mono ?_;rintro e w6 ⟨rfl,hd,hg⟩
      have S6:=ae (S5.out.step hg hd);clear hd hg
      go_wp2_with fail
      go_ret2
      exact eC.no EN.out S6.out.gr S6.out.dr
theorem Lp {l:LU}(h:kU nP l=none):fT l=none:=by unfold fT;rw[h]
theorem Lq {l nm r:LU}(h:kU nP l=some (nm,r))(h1:jM r=none):fT l=none:=by unfold fT;rw[h];simp only[h1]
theorem Lr {l nm r q r1:LU}(h:kU nP l=some (nm,r))(h1:jM r=some (q,r1))(h2:jn (aK r1)=none):fT l=none:=by unfold fT;rw[h];simp only[h1,h2]
theorem Ls {l nm r q r1 v r2:LU}{op:Nat}(h:kU nP l=some (nm,r))(h1:jM r=some (q,r1))(h2:jn (aK r1)=some (op,v,r2))(h3:ib r2=none):fT l=none:=by unfold fT;rw[h];simp only[h1,h2,h3]
theorem Lt {l nm r q r1 v r2 r3:LU}{op:Nat}{ar:List (LU)}(h:kU nP l=some (nm,r))(h1:jM r=some (q,r1))(h2:jn (aK r1)=some (op,v,r2))(h3:ib r2=some (ar,r3)):fT l=some (⟨nm,q,op,v,ar⟩,r3):=by unfold fT;rw[h];simp only[h1,h2,h3]
theorem GX {r:LU}(h:ay 58 r=false):jM r=some ([],r):=by unfold jM;rw[h];rfl
theorem uU {r:LU}(h:ay 58 r=true):jM r=kU ip (r.drop 1):=by unfold jM;rw[h];rfl
theorem GY {r:LU}(h:ay 40 r=false):jn r=some (0,[],r):=by unfold jn;rw[h];rfl
theorem DV {r:LU}(h:ay 40 r=true):jn r=tO (r.drop 1):=by unfold jn;rw[h];rfl
theorem DW {r:LU}(h:ay 91 r=false):ib r=some ([],r):=by unfold ib;rw[h];rfl
theorem AE {r:LU}(h:ay 91 r=true):ib r=eA (r.length+1) (aK (r.drop 1)):=by unfold ib;rw[h];rfl
structure pY (w wr:World) (a:Nat) (s:BA) (k n:Nat) (c:Int) (vs:LV):Prop where
 tb:av wr w.heap.size vs
 dr:DR wr a s k n c
 gr:w.grownBy wr (some a)
 lt:a<w.heap.size
theorem pY.step {w wr w':World}{a:Nat}{s:BA}{k k' n n':Nat}{c c':Int}{vs:LV}(h:pY w wr a s k n c vs)(hg:wr.grownBy w' (some a))(hd:DR w' a s k' n' c'):pY w w' a s k' n' c' vs:=
 ⟨h.tb.grownBy hg (by intro e;injection e with e;have:=h.lt;omega),hd,aj h.gr hg,h.lt⟩
theorem pY.set {w wr:World}{a:Nat}{s:BA}{k n:Nat}{c:Int}{vs:LV}(h:pY w wr a s k n c vs)(j:Nat)(hj:j<vs.length)(v:Value):pY w (wr.setCell ⟨w.heap.size,j,none⟩ v) a s k n c (vs.set j v):=
 ⟨h.tb.set j hj v,h.dr.far (by have:=h.lt;omega) v,an h.gr (.inr lr) v,h.lt⟩
theorem pY.start {w:World}{a:Nat}{s:BA}{k n:Nat}{c:Int}(h:DR w a s k n c)(vs:LV)(t:TypeId):pY w (w.alloc (.cells vs.toArray t)) a s k n c vs:=
 ⟨av.new w vs t,h.alloc _,World.grownBy_alloc w _ _,h.sz⟩
def iR (r:Option (dn×LU))(a:Nat)(s:BA)(p n:Nat)(c:Int)(w:World)(e:Ending)(w':World):Prop:=
 w.grownBy w' (some a)∧match r with
  | none=>∃ (T:cy) (p' n':Nat) (c':Int),e=.returned (.tuple #[T.val,.bool false])∧DR w' a s p' n' c'
  | some (t,r)=>∃ (T:cy) (p':Nat) (c':Int),e=.returned (.tuple #[T.val,.bool true])∧T.pl=t∧T.own w' w.heap.size∧DR w' a s p' (n+1) c'∧p<p'∧(bl s).drop p'=r∧(c'=0↔c=0∧t.right=true∧n+1≤64)
theorem pY.same {w wr:World}{a:Nat}{s:BA}{k n:Nat}{c:Int}{v0 v1 v2 v3 v4:Value}(h:pY w wr a s k n c [v0,v1,v2,v3,v4]):pY w (((((wr.setCell ⟨w.heap.size,0,none⟩ v0).setCell ⟨w.heap.size,1,none⟩ v1).setCell ⟨w.heap.size,2,none⟩ v2).setCell ⟨w.heap.size,3,none⟩ v3).setCell ⟨w.heap.size,4,none⟩ v4) a s k n c [v0,v1,v2,v3,v4]:=
 ((((h.set 0 (by simp) v0).set 1 (by simp) v1).set 2 (by simp) v2).set 3 (by simp) v3).set 4 (by simp) v4
theorem oP (ch:UInt8)(a:Nat)(s:BA)(p n:Nat)(c:Int)(w:World)(hs:s.size≤4294967280)(h:DR w a s p n c)(b:Bool)(hb:Hid (ay ch ((bl s).drop p)=b)):
  Calls Tryz.prog 205 #[.pointer (some ⟨a,0,none⟩),.int .u8 ch.toNat] w fun e w'=>e=.returned (.bool b)∧DR w' a s (if b then p+1 else p) n c∧w.grownBy w' (some a):=by
 cases b with
 | true=>exact aM ch a s p n c w hs h hb
 | false=>exact aC ch a s p n c w hs h hb
theorem GZ (t:dn):t.right=true↔dX t.name=true∧(t.qual=[]∨cQ t.qual=true)∧(t.archs.all fun a=>cQ (bW a))=true∧(t.op=0∨cJ 1 (bG t.ver)=0):=by
 unfold dn.right;simp[and_assoc]
end
end Go.Proofs.YtlglfpbhapmhiaaGreatDoor
